import Derived.Test.YtcoipojikmgdmaaDoorP0
import Derived.Test.YtcoipojikmgdmaaDoorP18
import Derived.Test.YtcoipojikmgdmaaDoorQN
namespace Go.Proofs.YtcoipojikmgdmaaDoor.P
open Go.RowKit Go.Proofs.YtcoipojikmgdmaaDoorW.PrintWords Go.Proofs.YtcoipojikmgdmaaDoorW.PrintLast Go.Proofs.YtcoipojikmgdmaaDoorW.PrintMore
attribute [local go_sem] max2_int min2_int max_two min_two max_three min_three max_four min_four
set_option linter.unusedVariables false
set_option linter.unusedSimpArgs false
theorem lsame_l0 (l : List Int) (hl : l.length < 1000000000) : ∀ (m i : Nat), i + m = l.length → Ev (fun k => roundellaw02_same.l0 k l l (l.length : Int) (i : Int)) true := by
  intro m
  induction m with
  | zero =>
    intro i hi
    refine Ev.step (G := fun _ => some true) (fun k => ?_) (Ev.const _)
    rw [roundellaw02_same.l0, if_neg (by omega)]
  | succ m ih =>
    intro i hi
    have EI := Lib.hid (wadd1 i (by omega))
    refine Ev.step (fun k => ?_) (ih (i + 1) (by omega))
    rw [roundellaw02_same.l0, if_pos (by omega), if_pos (by omega), if_pos (by omega), if_pos (by omega), if_pos rfl, EI.out]
theorem lsame (l : List Int) (hl : l.length < 1000000000) : Ev (fun k => roundellaw02_same.f k l l) true := by
  refine Ev.congr (fun k => ?_) (lsame_l0 l hl l.length 0 (by omega))
  rw [roundellaw02_same.f, if_pos rfl]
  rfl

end Go.Proofs.YtcoipojikmgdmaaDoor.P
