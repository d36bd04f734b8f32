import Derived.Test.YtcoipojikmgdmaaDoorP0
import Derived.Test.YtcoipojikmgdmaaDoorP6
import Derived.Test.YtcoipojikmgdmaaDoorQB
namespace Go.Proofs.YtcoipojikmgdmaaDoor.P
open Go.RowKit Go.Proofs.YtcoipojikmgdmaaDoorW.PrintWords Go.Proofs.YtcoipojikmgdmaaDoorW.PrintLast Go.Proofs.YtcoipojikmgdmaaDoorW.PrintMore
attribute [local go_sem] max2_int min2_int max_two min_two max_three min_three max_four min_four
set_option linter.unusedVariables false
set_option linter.unusedSimpArgs false
theorem lNatGoods : roundellaw02_NatGoods.Pure := by
  intro l a hl1 hl2 hd ha
  refine Ev.get ?_
  refine Ev.bind (F := fun k => roundellaw02_awake.f k) nawake ?_
  show Ev (fun k => roundellaw02_NatGoods.j0 k l a (decide ((l.length : Int) > 20))) true
  by_cases h : (l.length : Int) > 20
  · rw [decide_eq_true h]
    refine Ev.step (G := fun k => (roundellaw02_awake.f k).bind fun t231 => some t231) (fun k => ?_) (Ev.bind nawake (Ev.const _))
    rw [roundellaw02_NatGoods.j0, if_pos rfl]
  · rw [decide_eq_false h]
    obtain ⟨a0, a1⟩ := lit_u64 ha
    obtain ⟨n, rfl⟩ := Int.eq_ofNat_of_zero_le a0
    have hL := rLimbs [(n : Int)] (Dig.mk (by omega) (by omega) (Dig.nil _)) (by simp)
    rw [show val 18446744073709551616 [(n : Int)] = n by simp [val]] at hL
    refine Ev.step (G := fun k => (nat_Of.f k (n : Int)).bind fun t237 => (roundelref02_Limbs.f k ([(n : Int)] : List Int)).bind fun t243 => (roundellaw02_Is.f k t237 t243).bind fun t246 => some t246) (fun k => ?_) ?_
    · rw [roundellaw02_NatGoods.j0, if_neg (by simp), copied_eq l (by omega), Option.bind_some, nGood l (by omega), Option.bind_some, rGood l (by omega), Option.bind_some, if_pos (by simp)]
    · refine Ev.bind (nOf n (by omega)) (Ev.bind hL (Ev.bind (nIs n ?_) (Ev.const _)))
      have := dig_length (B := 18446744073709551616) (by decide) 1 n (by omega)
      omega

end Go.Proofs.YtcoipojikmgdmaaDoor.P
