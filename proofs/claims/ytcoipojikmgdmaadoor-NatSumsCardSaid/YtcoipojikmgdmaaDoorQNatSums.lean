import Derived.Test.YtcoipojikmgdmaaDoorP0
import Derived.Test.YtcoipojikmgdmaaDoorP19
import Derived.Test.YtcoipojikmgdmaaDoorQR
import Derived.Test.YtcoipojikmgdmaaDoorQS
namespace Go.Proofs.YtcoipojikmgdmaaDoor.P
open Go.RowKit Go.Proofs.YtcoipojikmgdmaaDoorW.PrintWords Go.Proofs.YtcoipojikmgdmaaDoorW.PrintLast Go.Proofs.YtcoipojikmgdmaaDoorW.PrintMore
attribute [local go_sem] max2_int min2_int max_two min_two max_three min_three max_four min_four
set_option linter.unusedVariables false
set_option linter.unusedSimpArgs false
theorem lNatSums : roundellaw02_NatSums.Pure := by
  intro a b ha1 ha2 da hb1 hb2 db
  refine Ev.get ?_
  refine Ev.bind (F := fun k => roundellaw02_awake.f k) nawake ?_
  rcases few_cases a b (dig_lit da) (dig_lit db) with h | ⟨h, x, y, hx, hy, rfl, rfl, hl, hl2⟩
  · refine Ev.pos rfl (Ev.plain h ?_)
    refine Ev.step (fun _ => roundellaw02_NatSums.j0.eq_2 ..) (Ev.pos rfl (Ev.bind nawake (Ev.const _)))
  · refine Ev.pos rfl (Ev.plain h ?_)
    have hs := W_add hx hy
    have c1 := rCmp x y (Lo_lt hx (by omega)) (Lo_lt hy (by omega))
    have n1 := nAdd x y (Le_lt hx (by omega)) (Le_lt hy (by omega))
    have r1 := rAdd x y (Lo_lt hx (by omega)) (Lo_lt hy (by omega))
    have i1 := Is_lt hs (by omega)
    refine Ev.step (fun _ => roundellaw02_NatSums.j0.eq_2 ..) (Ev.neg (by simp) ?_)
    by_cases hlt : x < y
    · have s1 := nSubLow x y hlt
      have hc := sgn_lt hlt
      rw [hc] at c1
      have nc := nCmp x y
      rw [hc] at nc
      refine Ev.plain (copied_eq _ (by omega)) (Ev.plain (copied_eq _ (by omega)) (Ev.bind (limbs_dig hx (by omega)) (Ev.bind (limbs_dig hy (by omega)) (Ev.bind c1 (Ev.bind s1 (Ev.plain nc (Ev.pos rfl (Ev.bind n1 (Ev.bind r1 (Ev.bind i1 ?_))))))))))
      refine Ev.step (fun _ => roundellaw02_NatSums.j1.eq_2 ..) (Ev.neg (by simp) (Ev.pos (by decide) (Ev.pos rfl (Ev.const _))))
    · have s1 := nSub x y (Le_lt hx (by omega)) (by omega)
      have s2 := rSub x y (Lo_lt hx (by omega)) (by omega)
      have nc := nCmp x y
      have hc : ¬ sgn x y < 0 := by
        unfold sgn
        split
        · omega
        · omega
      have i2 := Is_lt (x := x - y) (Nat.lt_of_le_of_lt (Nat.sub_le _ _) hx) (by omega)
      refine Ev.plain (copied_eq _ (by omega)) (Ev.plain (copied_eq _ (by omega)) (Ev.bind (limbs_dig hx (by omega)) (Ev.bind (limbs_dig hy (by omega)) (Ev.bind c1 (Ev.bind s1 (Ev.plain nc (Ev.pos rfl (Ev.bind n1 (Ev.bind r1 (Ev.bind i1 ?_))))))))))
      refine Ev.step (fun _ => roundellaw02_NatSums.j1.eq_2 ..) (Ev.neg (by simp) (Ev.neg hc (Ev.pos rfl ?_)))
      exact Ev.bind s2 (Ev.bind i2 (Ev.pos rfl (Ev.bind (lsame _ (by omega)) (Ev.pos rfl (Ev.bind (lsame _ (by omega)) (Ev.const _))))))

end Go.Proofs.YtcoipojikmgdmaaDoor.P
