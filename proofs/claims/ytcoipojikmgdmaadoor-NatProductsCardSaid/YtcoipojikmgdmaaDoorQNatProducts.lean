import Derived.Test.YtcoipojikmgdmaaDoorP0
import Derived.Test.YtcoipojikmgdmaaDoorP7
import Derived.Test.YtcoipojikmgdmaaDoorQC
namespace Go.Proofs.YtcoipojikmgdmaaDoor.P
open Go.RowKit Go.Proofs.YtcoipojikmgdmaaDoorW.PrintWords Go.Proofs.YtcoipojikmgdmaaDoorW.PrintLast Go.Proofs.YtcoipojikmgdmaaDoorW.PrintMore
attribute [local go_sem] max2_int min2_int max_two min_two max_three min_three max_four min_four
set_option linter.unusedVariables false
set_option linter.unusedSimpArgs false
theorem lNatProducts : roundellaw02_NatProducts.Pure := by
  intro a b ha1 ha2 da hb1 hb2 db
  refine Ev.get ?_
  refine Ev.bind (F := fun k => roundellaw02_awake.f k) nawake ?_
  rcases few_cases a b (dig_lit da) (dig_lit db) with h | ⟨h, x, y, hx, hy, rfl, rfl, hl, hl2⟩
  · refine Ev.pos rfl (Ev.plain h ?_)
    refine Ev.step (fun _ => roundellaw02_NatProducts.j0.eq_2 ..) (Ev.pos rfl (Ev.bind nawake (Ev.const _)))
  · refine Ev.pos rfl (Ev.plain h ?_)
    have hm := W_mul hx hy
    have hm2 := W_mul hy hx
    have m1 := rMul x y (Lo_lt hx (by omega)) (Lo_lt hy (by omega))
    have n1 := nMul x y (Le_lt hx (by omega)) (Le_lt hy (by omega))
    have n2 := nMul y x (Le_lt hy (by omega)) (Le_lt hx (by omega))
    have i1 := Is_lt hm (by omega)
    have i2 := Is_lt hm2 (by omega)
    rw [Nat.mul_comm y x] at i2 n2
    refine Ev.step (fun _ => roundellaw02_NatProducts.j0.eq_2 ..) (Ev.neg (by simp) ?_)
    refine Ev.bind (limbs_dig hx (by omega)) (Ev.bind (limbs_dig hy (by omega)) (Ev.bind m1 (Ev.plain (copied_eq _ (by omega)) (Ev.plain (copied_eq _ (by omega)) (Ev.bind n1 (Ev.bind i1 (Ev.pos rfl ?_)))))))
    exact Ev.plain (copied_eq _ (by omega)) (Ev.plain (copied_eq _ (by omega)) (Ev.bind n2 (Ev.bind i2 (Ev.const _))))

end Go.Proofs.YtcoipojikmgdmaaDoor.P
