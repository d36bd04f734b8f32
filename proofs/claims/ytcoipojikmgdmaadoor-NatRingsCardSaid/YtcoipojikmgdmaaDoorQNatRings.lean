import Derived.Test.YtcoipojikmgdmaaDoorP0
import Derived.Test.YtcoipojikmgdmaaDoorP25
import Derived.Test.YtcoipojikmgdmaaDoorQN
namespace Go.Proofs.YtcoipojikmgdmaaDoor.P
open Go.RowKit Go.Proofs.YtcoipojikmgdmaaDoorW.PrintWords Go.Proofs.YtcoipojikmgdmaaDoorW.PrintLast Go.Proofs.YtcoipojikmgdmaaDoorW.PrintMore
attribute [local go_sem] max2_int min2_int max_two min_two max_three min_three max_four min_four
set_option linter.unusedVariables false
set_option linter.unusedSimpArgs false
theorem lNatRings : roundellaw02_NatRings.Pure := by
  intro a b c ha1 ha2 da hb1 hb2 db hc1 hc2 dc
  refine Ev.get ?_
  refine Ev.bind (F := fun k => roundellaw02_awake.f k) nawake ?_
  refine Ev.pos rfl ?_
  rcases few_cases a b (dig_lit da) (dig_lit db) with h | ⟨h, x, y, hx, hy, rfl, rfl, hl, hl2⟩
  · refine Ev.plain h (Ev.neg (by simp) ?_)
    refine Ev.step (fun _ => roundellaw02_NatRings.j0.eq_2 ..) (Ev.pos rfl (Ev.bind nawake (Ev.const _)))
  · refine Ev.plain h (Ev.pos rfl ?_)
    rcases few_cases c [] (dig_lit dc) (Dig.nil _) with h2 | ⟨h2, z, _, hz, _, rfl, _, hl3, _⟩
    · refine Ev.plain h2 ?_
      refine Ev.step (fun _ => roundellaw02_NatRings.j0.eq_2 ..) (Ev.pos rfl (Ev.bind nawake (Ev.const _)))
    · refine Ev.plain h2 ?_
      have hxy := W_add hx hy
      have hyz := W_add hy hz
      have mxy := W_mul hx hy
      have myz := W_mul hy hz
      have mxz := W_mul hx hz
      refine Ev.step (fun _ => roundellaw02_NatRings.j0.eq_2 ..) (Ev.neg (by simp) ?_)
      refine Ev.plain (copied_eq _ (by omega)) (Ev.plain (copied_eq _ (by omega)) (Ev.plain (copied_eq _ (by omega)) ?_))
      refine Ev.bind (nAdd x y (Le_lt hx (by omega)) (Le_lt hy (by omega))) (Ev.bind (nAdd (x + y) z (Le_lt hxy (by omega)) (Le_lt hz (by omega))) ?_)
      refine Ev.bind (nAdd y z (Le_lt hy (by omega)) (Le_lt hz (by omega))) (Ev.bind (nAdd x (y + z) (Le_lt hx (by omega)) (Le_lt hyz (by omega))) ?_)
      refine Ev.plain (nCmp0 (Nat.add_assoc x y z)) (Ev.pos rfl ?_)
      refine Ev.bind (nMul x y (Le_lt hx (by omega)) (Le_lt hy (by omega))) (Ev.bind (nMul (x * y) z (Le_lt mxy (by omega)) (Le_lt hz (by omega))) ?_)
      refine Ev.bind (nMul y z (Le_lt hy (by omega)) (Le_lt hz (by omega))) (Ev.bind (nMul x (y * z) (Le_lt hx (by omega)) (Le_lt myz (by omega))) ?_)
      refine Ev.plain (nCmp0 (Nat.mul_assoc x y z)) ?_
      refine Ev.step (fun _ => roundellaw02_NatRings.j1.eq_2 ..) (Ev.neg (by simp) ?_)
      refine Ev.bind (nAdd y z (Le_lt hy (by omega)) (Le_lt hz (by omega))) (Ev.bind (nMul x (y + z) (Le_lt hx (by omega)) (Le_lt hyz (by omega))) ?_)
      refine Ev.bind (nMul x y (Le_lt hx (by omega)) (Le_lt hy (by omega))) (Ev.bind (nMul x z (Le_lt hx (by omega)) (Le_lt hz (by omega))) ?_)
      refine Ev.bind (nAdd (x * y) (x * z) (Le_lt mxy (by omega)) (Le_lt mxz (by omega))) (Ev.plain (nCmp0 (Nat.mul_add x y z)) (Ev.pos rfl ?_))
      refine Ev.bind (nAdd x y (Le_lt hx (by omega)) (Le_lt hy (by omega))) (Ev.bind (nSub (x + y) y (Le_lt hxy (by omega)) (by omega)) (Ev.pos rfl ?_))
      refine Ev.plain (nCmp0 (by omega)) (Ev.pos rfl ?_)
      exact Ev.bind (nAdd x y (Le_lt hx (by omega)) (Le_lt hy (by omega))) (Ev.bind (nAdd y x (Le_lt hy (by omega)) (Le_lt hx (by omega))) (Ev.plain (nCmp0 (Nat.add_comm x y)) (Ev.const _)))

end Go.Proofs.YtcoipojikmgdmaaDoor.P
