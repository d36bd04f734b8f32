-- Written by a program of this session (wip/tools/shake.py) out of its own texts and of the kit's printed ones; not trusted: Lean checks it.
import Derived.Test.YtfjkamhcabckeaaDoorZSliceNear5
set_option maxHeartbeats 8000000
set_option maxRecDepth 100000
set_option linter.unusedVariables false
set_option linter.unusedSimpArgs false
section
namespace Go.Proofs.YtfjkamhcabckeaaDoor.P
open Go.RowKit Go.Proofs.YtfjkamhcabckeaaDoorW.PrintWords Go.Proofs.YtfjkamhcabckeaaDoorW.PrintLast Go.Proofs.YtfjkamhcabckeaaDoorW.PrintMore
attribute [local go_sem] zc8 zc9 max_two min_two zcv zcx zdc zdb
theorem low_rat {x y : Nat} (hy : 0 < y) : x / Nat.gcd x y = (mkRat (x : Int) y).num.toNat ∧ y / Nat.gcd x y = (mkRat (x : Int) y).den := by
 rw [Rat.num_mkRat, Rat.den_mkRat, if_neg (by omega), if_neg (by omega), Int.natAbs_natCast, Nat.gcd_comm y x]
 refine ⟨?_, rfl⟩
 rw [← Int.natCast_ediv, Int.toNat_natCast]
def Bd (r : Rat) (m : Nat) : Prop := 0 ≤ r ∧ r.num.toNat < 18446744073709551616 ^ m ∧ r.den < 18446744073709551616 ^ m
theorem mkRat_nonneg (x y : Nat) : 0 ≤ mkRat (x : Int) y := by
 rw [← Rat.num_nonneg, Rat.num_mkRat]
 split
 ·
  exact Int.le_refl _
 ·
  exact Int.ediv_nonneg (Int.natCast_nonneg _) (Int.natCast_nonneg _)
theorem Bd.mk {x y m : Nat} (hy : 0 < y) (hx : x < 18446744073709551616 ^ m) (hyl : y < 18446744073709551616 ^ m) : Bd (mkRat (x : Int) y) m := by
 obtain ⟨h1, h2⟩ := low_rat (x := x) hy
 refine ⟨mkRat_nonneg x y, ?_, ?_⟩
 ·
  rw [← h1]
  exact divLt hx
 ·
  rw [← h2]
  exact divLt hyl
theorem nnum {r : Rat} (h : 0 ≤ r) : ((r.num.toNat : Nat) : Int) = r.num := Int.toNat_of_nonneg (Rat.num_nonneg.2 h)
theorem mul_rat {r s : Rat} (hr : 0 ≤ r) (hs : 0 ≤ s) : mkRat ((r.num.toNat * s.num.toNat : Nat) : Int) (r.den * s.den) = r * s := by
 rw [Rat.mul_def', Int.natCast_mul, nnum hr, nnum hs]
theorem add_rat {r s : Rat} (hr : 0 ≤ r) (hs : 0 ≤ s) : mkRat ((r.num.toNat * s.den + s.num.toNat * r.den : Nat) : Int) (r.den * s.den) = r + s := by
 rw [Rat.add_def', Int.natCast_add, Int.natCast_mul, Int.natCast_mul, nnum hr, nnum hs]
theorem le_rat {r s : Rat} (hr : 0 ≤ r) (hs : 0 ≤ s) : s.num.toNat * r.den ≤ r.num.toNat * s.den ↔ s ≤ r := by
 rw [Rat.le_iff, ← nnum hr, ← nnum hs, ← Int.natCast_mul, ← Int.natCast_mul, Int.ofNat_le, Int.toNat_natCast, Int.toNat_natCast]
theorem lt_rat {r s : Rat} (hr : 0 ≤ r) (hs : 0 ≤ s) : r.num.toNat * s.den < s.num.toNat * r.den ↔ r < s := by
 rw [Rat.lt_iff, ← nnum hr, ← nnum hs, ← Int.natCast_mul, ← Int.natCast_mul, Int.ofNat_lt, Int.toNat_natCast, Int.toNat_natCast]
theorem eq_rat {r s : Rat} (hr : 0 ≤ r) (hs : 0 ≤ s) : r.num.toNat * s.den = s.num.toNat * r.den ↔ r = s := by
 rw [Rat.eq_iff_mul_eq_mul, ← nnum hr, ← nnum hs, ← Int.natCast_mul, ← Int.natCast_mul, Int.ofNat_inj, Int.toNat_natCast, Int.toNat_natCast]
theorem rat_frac (r : Rat) : r * (r.den : Rat) = (r.num : Rat) := by
 have h : (r.den : Rat) ≠ 0 := by
  intro h
  have := congrArg Rat.num h
  simp at this
  exact r.den_nz this
 have e := Rat.mkRat_self r
 rw [Rat.mkRat_eq_div] at e
 have e2 : r * (r.den : Rat) = ((r.num : Rat) / (r.den : Rat)) * (r.den : Rat) := by rw [e]
 rw [e2, Rat.div_mul_cancel h]
def cmpR (r s : Rat) : Int := if r = s then 0 else if r < s then -1 else 1
theorem sgn_rat {r s : Rat} (hr : 0 ≤ r) (hs : 0 ≤ s) : sgn (r.num.toNat * s.den) (s.num.toNat * r.den) = cmpR r s := by
 unfold sgn cmpR
 by_cases h1 : r = s
 ·
  rw [if_pos ((eq_rat hr hs).2 h1), if_pos h1]
 ·
  rw [if_neg (fun h => h1 ((eq_rat hr hs).1 h)), if_neg h1]
  by_cases h2 : r < s
  ·
   rw [if_pos ((lt_rat hr hs).2 h2), if_pos h2]
  ·
   rw [if_neg (fun h => h2 ((lt_rat hr hs).1 h)), if_neg h2]
theorem Bd.mul {r s : Rat} {m n : Nat} (hr : Bd r m) (hs : Bd s n) : Bd (r * s) (m + n) := by
 have := Bd.mk (x := r.num.toNat * s.num.toNat) (y := r.den * s.den) (m := m + n) (Nat.mul_pos r.den_pos s.den_pos) (W_mul hr.2.1 hs.2.1) (W_mul hr.2.2 hs.2.2)
 rw [mul_rat hr.1 hs.1] at this
 exact this
theorem Bd.add {r s : Rat} {m n : Nat} (hr : Bd r m) (hs : Bd s n) : Bd (r + s) (m + n + 1) := by
 have h1 := W_mul hr.2.1 hs.2.2
 have h2 := W_mul hs.2.1 hr.2.2
 rw [Nat.add_comm n m] at h2
 have := Bd.mk (x := r.num.toNat * s.den + s.num.toNat * r.den) (y := r.den * s.den) (m := m + n + 1) (Nat.mul_pos r.den_pos s.den_pos) (W_add h1 h2) (W_le (W_mul hr.2.2 hs.2.2) (by omega))
 rw [add_rat hr.1 hs.1] at this
 exact this
theorem rat_gcd (r : Rat) (h : 0 ≤ r) : Nat.gcd r.num.toNat r.den = 1 := by
 have := r.reduced
 have e : r.num.natAbs = r.num.toNat := by
  have := Rat.num_nonneg.2 h
  omega
 rw [e] at this
 exact this
theorem qOf {x y m : Nat} (hy : 0 < y) (hx : x < 18446744073709551616 ^ m) (hyl : y < 18446744073709551616 ^ m) (hm : m ≤ 100000) : Ev (fun k => ratio_Of.f k (dig 18446744073709551616 x) (dig 18446744073709551616 y)) (dig 18446744073709551616 (mkRat (x : Int) y).num.toNat, dig 18446744073709551616 (mkRat (x : Int) y).den, 0) := by
 obtain ⟨h1, h2⟩ := low_rat (x := x) hy
 have := nRof hy hx hyl hm
 rw [h1, h2] at this
 exact this
theorem qLow {x y m : Nat} (hy : 0 < y) (hx : x < 18446744073709551616 ^ m) (hyl : y < 18446744073709551616 ^ m) (hm : m ≤ 100000) : Ev (fun k => zba.f k (dig 18446744073709551616 x) (dig 18446744073709551616 y)) (dig 18446744073709551616 (mkRat (x : Int) y).num.toNat, dig 18446744073709551616 (mkRat (x : Int) y).den) := by
 obtain ⟨h1, h2⟩ := low_rat (x := x) hy
 have := nLowest hy hx hyl hm
 rw [h1, h2] at this
 exact this
theorem qMul {r s : Rat} {m n : Nat} (hr : Bd r m) (hs : Bd s n) (h : m + n ≤ 100000) : Ev (fun k => zb2.f k (dig 18446744073709551616 r.num.toNat) (dig 18446744073709551616 r.den) (dig 18446744073709551616 s.num.toNat) (dig 18446744073709551616 s.den)) (dig 18446744073709551616 (r * s).num.toNat, dig 18446744073709551616 (r * s).den) := by
 have := qLow (x := r.num.toNat * s.num.toNat) (y := r.den * s.den) (Nat.mul_pos r.den_pos s.den_pos) (W_mul hr.2.1 hs.2.1) (W_mul hr.2.2 hs.2.2) h
 rw [mul_rat hr.1 hs.1] at this
 exact Ev.bind (nMul _ _ (Le_lt hr.2.1 (by omega)) (Le_lt hs.2.1 (by omega))) (Ev.bind (nMul _ _ (Le_lt hr.2.2 (by omega)) (Le_lt hs.2.2 (by omega))) (Ev.bind this (Ev.const _)))
theorem qCross {r s : Rat} {m n : Nat} (hr : Bd r m) (hs : Bd s n) (h : m + n ≤ 90000) : Ev (fun k => zbd.f k (dig 18446744073709551616 r.num.toNat) (dig 18446744073709551616 r.den) (dig 18446744073709551616 s.num.toNat) (dig 18446744073709551616 s.den)) (dig 18446744073709551616 (r.num.toNat * s.den), dig 18446744073709551616 (s.num.toNat * r.den), dig 18446744073709551616 (r.den * s.den)) :=
 Ev.bind (nMul _ _ (Le_lt hr.2.1 (by omega)) (Le_lt hs.2.2 (by omega))) (Ev.bind (nMul _ _ (Le_lt hs.2.1 (by omega)) (Le_lt hr.2.2 (by omega))) (Ev.bind (nMul _ _ (Le_lt hr.2.2 (by omega)) (Le_lt hs.2.2 (by omega))) (Ev.const _)))
theorem qCmp {r s : Rat} {m n : Nat} (hr : Bd r m) (hs : Bd s n) (h : m + n ≤ 90000) : Ev (fun k => zcp.f k (dig 18446744073709551616 r.num.toNat) (dig 18446744073709551616 r.den) (dig 18446744073709551616 s.num.toNat) (dig 18446744073709551616 s.den)) (cmpR r s) := by
 have := nCmp (r.num.toNat * s.den) (s.num.toNat * r.den)
 rw [sgn_rat hr.1 hs.1] at this
 exact Ev.bind (qCross hr hs h) (Ev.plain this (Ev.const _))
theorem qGood {r : Rat} {m : Nat} (hr : Bd r m) (h : m ≤ 90000) : Ev (fun k => zbg.f k (dig 18446744073709551616 r.num.toNat) (dig 18446744073709551616 r.den)) true := by
 have := nRGood hr.2.1 hr.2.2 (by omega) r.den_pos
 rw [decide_eq_true (rat_gcd r hr.1)] at this
 exact this
theorem Bd.nat {n m : Nat} (h : n < 18446744073709551616 ^ m) (hm : 1 ≤ m) : Bd (n : Rat) m := ⟨by
  have := mkRat_nonneg n 1
  rw [Rat.mkRat_eq_div] at this
  rw [← Rat.num_nonneg]
  simp, by simpa using h, by
  rw [Rat.den_natCast]
  exact Nat.lt_of_lt_of_le (by decide : 1 < 18446744073709551616) (by
   have := Nat.pow_le_pow_right (n := 18446744073709551616) (by decide) hm
   rw [Nat.pow_one] at this
   exact this)⟩
theorem qInt (n : Int) (h : n < 9223372036854775808) : Ev (fun k => zb6.f k n) (dig 18446744073709551616 ((n.toNat : Nat) : Rat).num.toNat, dig 18446744073709551616 ((n.toNat : Nat) : Rat).den) := by
 have := nRint n h
 rw [Rat.num_natCast, Rat.den_natCast, Int.toNat_natCast]
 exact this
theorem dOf {x y m : Nat} (hy : 0 < y) (hx : x < 18446744073709551616 ^ m) (hyl : y < 18446744073709551616 ^ m) (hm : m ≤ 5000) : Ev (fun k => zcr.f k (dig 10000 x) (dig 10000 y)) (dig 10000 (mkRat (x : Int) y).num.toNat, dig 10000 (mkRat (x : Int) y).den) := by
 obtain ⟨h1, h2⟩ := low_rat (x := x) hy
 have := rRof hy hx hyl hm
 rw [h1, h2] at this
 exact this
end Go.Proofs.YtfjkamhcabckeaaDoor.P
end
section
namespace Go.Proofs.YtfjkamhcabckeaaDoor.P
open Go.RowKit Go.Proofs.YtfjkamhcabckeaaDoorW.PrintWords Go.Proofs.YtfjkamhcabckeaaDoorW.PrintLast Go.Proofs.YtfjkamhcabckeaaDoorW.PrintMore
attribute [local go_sem] zc8 zc9 max_two min_two zcv zcx zdc zdb
def rN (r : Rat) : List Int := dig 18446744073709551616 r.num.toNat
def rD (r : Rat) : List Int := dig 18446744073709551616 r.den
def Rt (w : World) (A : Option Addr) (c : Nat) (a : List Int) (A' : Option Addr) (c' : Nat) (b : List Int) : Prop := a.length ≤ c ∧ Kd.C (Kd.int .u64) w A a.length a ∧ b.length ≤ c' ∧ Kd.C (Kd.int .u64) w A' b.length b
theorem Rt.below {w w' : World} {A A' : Option Addr} {c c' : Nat} {a b : List Int} (h : Rt w A c a A' c' b) (hb : Below w.heap.size w w') : Rt w' A c a A' c' b := ⟨h.1, Kd.za1 h.2.1 hb, h.2.2.1, Kd.za1 h.2.2.2 hb⟩
def RV (w : World) (P : Nat → Prop) (A : Option Addr) (c : Nat) (a : List Int) (A' : Option Addr) (c' : Nat) (b : List Int) : Prop := Kd.V (Kd.int .u64) 57 w 0 P (.slice A a.length c) a ∧ Kd.V (Kd.int .u64) 57 w 0 P (.slice A' b.length c') b
theorem RV.rt {w : World} {P : Nat → Prop} {A A' : Option Addr} {c c' : Nat} {a b : List Int} (h : RV w P A c a A' c' b) : Rt w A c a A' c' b := by
 obtain ⟨_, l1, C1⟩ := Kd.zam h.1
 obtain ⟨_, l2, C2⟩ := Kd.zam h.2
 exact ⟨l1, C1, l2, C2⟩
theorem RV.mono {w : World} {P Q : Nat → Prop} {A A' : Option Addr} {c c' : Nat} {a b : List Int} (h : RV w P A c a A' c' b) (hq : ∀ k, P k → Q k) : RV w Q A c a A' c' b := ⟨Kd.zas h.1 hq, Kd.zas h.2 hq⟩
theorem RV.old {w w' : World} {P : Nat → Prop} {A A' : Option Addr} {c c' : Nat} {a b : List Int} (h : RV w P A c a A' c' b) (hb : Below w.heap.size w w') : RV w' (fun k => P k ∧ k < w.heap.size) A c a A' c' b := ⟨Kd.V_old h.1 hb, Kd.V_old h.2 hb⟩
theorem RV.far {w : World} {P : Nat → Prop} {A A' : Option Addr} {c c' : Nat} {a b : List Int} {p : Addr} (h : RV w P A c a A' c' b) (hp : ∀ k, P k → k ≠ p.block) (u : Value) : RV (w.setCell p u) P A c a A' c' b := ⟨Kd.V_far h.1 hp u, Kd.V_far h.2 hp u⟩
theorem RV.of {w : World} {ba bb : Nat} {P : Nat → Prop} {v u : Value} {a b : List Int} (h1 : Kd.V (Kd.int .u64) 57 w ba P v a) (h2 : Kd.V (Kd.int .u64) 57 w bb P u b) : ∃ A c A' c', v = .slice A a.length c ∧ u = .slice A' b.length c' ∧ RV w P A c a A' c' b := by
 obtain ⟨A, c, rfl⟩ := Kd.za6 h1
 obtain ⟨A', c', rfl⟩ := Kd.za6 h2
 exact ⟨A, c, A', c', rfl, rfl, h1, h2⟩
theorem Rt.of {w : World} {ba bb : Nat} {P Q : Nat → Prop} {v u : Value} {a b : List Int} (h1 : Kd.V (Kd.int .u64) 57 w ba P v a) (h2 : Kd.V (Kd.int .u64) 57 w bb Q u b) : ∃ A c A' c', v = .slice A a.length c ∧ u = .slice A' b.length c' ∧ Rt w A c a A' c' b := by
 obtain ⟨A, c, rfl⟩ := Kd.za6 h1
 obtain ⟨A', c', rfl⟩ := Kd.za6 h2
 obtain ⟨_, l1, C1⟩ := Kd.zam h1
 obtain ⟨_, l2, C2⟩ := Kd.zam h2
 exact ⟨A, c, A', c', rfl, rfl, l1, C1, l2, C2⟩
section
variable {w : World} {A0 A1 A2 A3 : Option Addr} {c0 c1 c2 c3 : Nat} {r s : Rat} {m n : Nat}
theorem t_Mul (h1 : Rt w A0 c0 (rN r) A1 c1 (rD r)) (h2 : Rt w A2 c2 (rN s) A3 c3 (rD s)) (hr : Bd r m) (hs : Bd s n) (h : m + n ≤ 100000) :
  Calls Tryd.prog 29 #[.agg #[.slice A0 (rN r).length c0, .slice A1 (rD r).length c1], .agg #[.slice A2 (rN s).length c2, .slice A3 (rD s).length c3]] w fun e w' => ∃ A c A' c', e = .returned (.agg #[.slice A (rN (r * s)).length c, .slice A' (rD (r * s)).length c']) ∧ RV w' (fun k => w.heap.size ≤ k) A c (rN (r * s)) A' c' (rD (r * s)) ∧ Below w.heap.size w w' := by
 obtain ⟨k, hk⟩ := (qMul hr hs h).get
 refine (zb2.calls k A0 c0 (rN r) A1 c1 (rD r) A2 c2 (rN s) A3 c3 (rD s) (rN (r * s)) (rD (r * s)) w h1.2.1 h1.1 h1.2.2.2 h1.2.2.1 h2.2.1 h2.1 h2.2.2.2 h2.2.2.1 hk).mono ?_
 rintro e w' ⟨v0, v1, rfl, hv0, hv1, hb⟩
 obtain ⟨A, c, A', c', rfl, rfl, hR⟩ := RV.of hv0 hv1
 exact ⟨A, c, A', c', rfl, hR, hb⟩
theorem t_Cmp (h1 : Rt w A0 c0 (rN r) A1 c1 (rD r)) (h2 : Rt w A2 c2 (rN s) A3 c3 (rD s)) (hr : Bd r m) (hs : Bd s n) (h : m + n ≤ 90000) :
  Calls Tryd.prog 35 #[.agg #[.slice A0 (rN r).length c0, .slice A1 (rD r).length c1], .agg #[.slice A2 (rN s).length c2, .slice A3 (rD s).length c3]] w fun e w' => e = .returned (.int .i64 (cmpR r s)) ∧ Below w.heap.size w w' := by
 obtain ⟨k, hk⟩ := (qCmp hr hs h).get
 exact zcp.calls k A0 c0 (rN r) A1 c1 (rD r) A2 c2 (rN s) A3 c3 (rD s) (cmpR r s) w h1.2.1 h1.1 h1.2.2.2 h1.2.2.1 h2.2.1 h2.1 h2.2.2.2 h2.2.2.1 hk
theorem t_Int (z : Int) (hz : z < 9223372036854775808) (w : World) :
  Calls Tryd.prog 22 #[.int .i64 z] w fun e w' => ∃ A c A' c', e = .returned (.agg #[.slice A (rN ((z.toNat : Nat) : Rat)).length c, .slice A' (rD ((z.toNat : Nat) : Rat)).length c']) ∧ RV w' (fun k => w.heap.size ≤ k) A c (rN ((z.toNat : Nat) : Rat)) A' c' (rD ((z.toNat : Nat) : Rat)) ∧ Below w.heap.size w w' := by
 obtain ⟨k, hk⟩ := (qInt z hz).get
 refine (zb6.calls k z (rN ((z.toNat : Nat) : Rat)) (rD ((z.toNat : Nat) : Rat)) w hk).mono ?_
 rintro e w' ⟨v0, v1, rfl, hv0, hv1, hb⟩
 obtain ⟨A, c, A', c', rfl, rfl, hR⟩ := RV.of hv0 hv1
 exact ⟨A, c, A', c', rfl, hR, hb⟩
end
end Go.Proofs.YtfjkamhcabckeaaDoor.P
end
section
namespace Go.Proofs.YtfjkamhcabckeaaDoor.P
open Go.RowKit Go.Proofs.YtfjkamhcabckeaaDoorW.PrintWords Go.Proofs.YtfjkamhcabckeaaDoorW.PrintLast Go.Proofs.YtfjkamhcabckeaaDoorW.PrintMore
attribute [local go_sem] zc8 zc9 max_two min_two zcv zcx zdc zdb
def strings_Cut.f (s sep : ByteArray) : Option (ByteArray × ByteArray × Bool) := if s.size < 4294967281 then some (⟨(Lib.cut s.data.toList sep.data.toList).1.toArray⟩, ⟨(Lib.cut s.data.toList sep.data.toList).2.1.toArray⟩, (Lib.cut s.data.toList sep.data.toList).2.2) else none
theorem strings_Cut.calls (a0 a1 : ByteArray) (r1 r2 : ByteArray) (r3 : Bool) (w : World) (hG : Glob w) (h : strings_Cut.f a0 a1 = some (r1, r2, r3)) :
  Calls Tryd.prog 67 #[.string a0, .string a1] w fun e w' => e = .returned (.tuple #[.string r1, .string r2, .bool r3]) ∧ Drawn0 w w' := by
 unfold strings_Cut.f at h
 split at h
 ·
  rename_i hs
  simp only [Option.some.injEq, Prod.mk.injEq] at h
  obtain ⟨rfl, rfl, rfl⟩ := h
  obtain ⟨m, hm⟩ := hG.2
  exact (Tryd.strings_Cut a0 a1 m w hs hm).mono fun e w' ⟨he, n, hw⟩ => ⟨he, n, hw⟩
 ·
  cases h
mutual
def za4.j0 : Nat → ByteArray → List Int → Int → List Int → Int → Option (List Int × List Int × Int)
 | 0, _, _, _, _, _ => none
 | k + 1, x0, x7, x8, x9, x10 => if x8 = 0 then (if x10 = 0 then (za4.j1 k x0 x7 x9 ((x9.length : Int) == 0)) else (za4.j1 k x0 x7 x9 true)) else (za4.j1 k x0 x7 x9 true)
def za4.j1 : Nat → ByteArray → List Int → List Int → Bool → Option (List Int × List Int × Int)
 | 0, _, _, _, _ => none
 | k + 1, x0, x7, x9, x40 => if x40 = true then (some (([] : List Int), ([] : List Int), 17)) else ((zba.f k x7 x9).bind fun bt1000 => ((zaz.f k bt1000.1 bt1000.2).bind fun t1007 => (if t1007.toList = x0.toList then (some (bt1000.1, bt1000.2, 0)) else (some (([] : List Int), ([] : List Int), 17)))))
end
def za4.f (k : Nat) (a0 : ByteArray) : Option (List Int × List Int × Int) := (strings_Cut.f a0 (⟨#[47]⟩ : ByteArray)).bind fun bt986 => ((zcd.f k bt986.1).bind fun bt989 => ((zbh.f k).bind fun t993 => (if bt986.2.2 = true then ((zcd.f k bt986.2.1).bind fun bt996 => (za4.j0 k a0 bt989.1 bt989.2 bt996.1 bt996.2)) else (za4.j0 k a0 bt989.1 bt989.2 t993 0))))
theorem za4.zcj : ∀ k, (∀ y0 y1 y2 y3 y4, LeO (za4.j0 k y0 y1 y2 y3 y4) (za4.j0 (k + 1) y0 y1 y2 y3 y4)) ∧ (∀ y0 y1 y2 y3, LeO (za4.j1 k y0 y1 y2 y3) (za4.j1 (k + 1) y0 y1 y2 y3))
 | 0 => ⟨fun _ _ _ _ _ r h => by simp [za4.j0] at h, fun _ _ _ _ r h => by simp [za4.j1] at h⟩
 | k + 1 => by
  obtain ⟨ih0, ih1⟩ := za4.zcj k
  refine ⟨?_, ?_⟩
  ·
   intro y0 y1 y2 y3 y4
   unfold za4.j0
   repeat' first
   | (with_reducible exact ih0 _ _ _ _ _)
   | (with_reducible exact ih1 _ _ _ _)
   | (with_reducible exact zcd.mono _ _)
   | (with_reducible exact zaz.mono _ _ _)
   | (with_reducible exact zba.mono _ _ _)
   | (with_reducible exact zbh.mono _)
   | (with_reducible exact LeO.refl _)
   | (with_reducible exact LeO.none _)
   | (with_reducible refine LeO.ite ?_ ?_)
   | (with_reducible refine LeO.bind ?_ (fun _ => ?_))
   | exact ih0 _ _ _ _ _
   | exact ih1 _ _ _ _
   | exact zcd.mono _ _
   | exact zaz.mono _ _ _
   | exact zba.mono _ _ _
   | exact zbh.mono _
   | exact LeO.none _
   | refine LeO.ite ?_ ?_
   | refine LeO.bind ?_ (fun _ => ?_)
  ·
   intro y0 y1 y2 y3
   unfold za4.j1
   repeat' first
   | (with_reducible exact ih0 _ _ _ _ _)
   | (with_reducible exact ih1 _ _ _ _)
   | (with_reducible exact zcd.mono _ _)
   | (with_reducible exact zaz.mono _ _ _)
   | (with_reducible exact zba.mono _ _ _)
   | (with_reducible exact zbh.mono _)
   | (with_reducible exact LeO.refl _)
   | (with_reducible exact LeO.none _)
   | (with_reducible refine LeO.ite ?_ ?_)
   | (with_reducible refine LeO.bind ?_ (fun _ => ?_))
   | exact ih0 _ _ _ _ _
   | exact ih1 _ _ _ _
   | exact zcd.mono _ _
   | exact zaz.mono _ _ _
   | exact zba.mono _ _ _
   | exact zbh.mono _
   | exact LeO.none _
   | refine LeO.ite ?_ ?_
   | refine LeO.bind ?_ (fun _ => ?_)
theorem za4.mono : ∀ a0 k, LeO (za4.f k a0) (za4.f (k + 1) a0) := by
 intro a0 k
 obtain ⟨ih0, ih1⟩ := za4.zcj k
 unfold za4.f
 repeat' first
   | (with_reducible exact ih0 _ _ _ _ _)
   | (with_reducible exact ih1 _ _ _ _)
   | (with_reducible exact zcd.mono _ _)
   | (with_reducible exact zaz.mono _ _ _)
   | (with_reducible exact zba.mono _ _ _)
   | (with_reducible exact zbh.mono _)
   | (with_reducible exact LeO.refl _)
   | (with_reducible exact LeO.none _)
   | (with_reducible refine LeO.ite ?_ ?_)
   | (with_reducible refine LeO.bind ?_ (fun _ => ?_))
   | exact ih0 _ _ _ _ _
   | exact ih1 _ _ _ _
   | exact zcd.mono _ _
   | exact zaz.mono _ _ _
   | exact zba.mono _ _ _
   | exact zbh.mono _
   | exact LeO.none _
   | refine LeO.ite ?_ ?_
   | refine LeO.bind ?_ (fun _ => ?_)
theorem za4.calls (k : Nat) (a0 : ByteArray) (r1 : List Int) (r2 : List Int) (r3 : Int) (w : World) (hG : Glob w) (h : za4.f k a0 = some (r1, r2, r3)) :
  Calls Tryd.prog 40 #[.string a0] w fun e w' => ∃ v0_ v1_ : Value, e = .returned (.tuple #[.agg #[v0_, v1_], .int .i64 r3]) ∧ Kd.V (Kd.int .u64) 57 w' w.heap.size (fun k_ => (w.heap.size ≤ k_)) v0_ r1 ∧ Kd.V (Kd.int .u64) 57 w' w.heap.size (fun k_ => (w.heap.size ≤ k_)) v1_ r2 ∧ Below w.heap.size w w' := by
 have hu28 := Tryd.underlying28
 have HG := zA hG
 clear hG
 have HB := zA (Below.refl w.heap.size w)
 have H : ((strings_Cut.f a0 (⟨#[47]⟩ : ByteArray)).bind fun bt986 => ((zcd.f k bt986.1).bind fun bt989 => ((zbh.f k).bind fun t993 => (if bt986.2.2 = true then ((zcd.f k bt986.2.1).bind fun bt996 => (za4.j0 k a0 bt989.1 bt989.2 bt996.1 bt996.2)) else (za4.j0 k a0 bt989.1 bt989.2 t993 0))))) = some (r1, r2, r3) := h
 clear h
 replace H := zO H
 obtain ⟨⟨t986, t987, t988⟩, A20, H⟩ := H
 try dsimp only at H
 have A2 := zA A20
 clear A20
 replace H := zO H
 obtain ⟨⟨t989, t992⟩, A30, H⟩ := H
 try dsimp only at H
 have A3 := zA A30
 clear A30
 replace H := zO H
 obtain ⟨t993, A40, H⟩ := H
 try dsimp only at H
 have A4 := zA A40
 clear A40
 have HC5 := zA H
 clear H
 go_enter Tryd.func40, Tryd.ntmps40
 go_upto_if 24 with (first | ((with_reducible refine zbf (N := 2) rfl ?_); (try (refine gate_guard (by rfl) ?_; dsimp only)); refine zbi ?hg (N := 2) ?hd (cs := #[.slice none 0 0, .slice none 0 0]) (t := 28) ?hr ?_; (case hd => rfl); (case hg => rfl); (case hr => first | (go_simp; done) | (go_simp; rfl)); intro gb985 hg w6 hbox hb; have n0_ := zA (zaa (zB HB) hb); have n1_ := zA (hbox); have n2_ := zA ((by rw [hg]; exact (za (zB HB)) : w.heap.size ≤ gb985)); have n3_ := zA ((by rw [hg]; exact (za (zB HB)) : w.heap.size ≤ gb985)); clear HB; have HB := n0_; have BK985 := n1_; have GW985 := n2_; have GE985 := n3_; clear n0_ n1_ n2_ n3_ hb hbox hg) | ((with_reducible refine zac (f := 67) rfl ?_); refine za0 (some 14) rfl rfl Tryd.func67 (by kernel_rfl) rfl #[.string a0, .string (⟨#[47]⟩ : ByteArray)] rfl (zE) ?_; (with_reducible refine (strings_Cut.calls a0 (⟨#[47]⟩ : ByteArray) t986 t987 t988 _ ?side1 A2.out).mono ?_); (case side1 => exact Glob.below HG.out (zB HB)); rintro e w' ⟨rfl, ⟨nd, rfl⟩⟩; refine ⟨_, rfl, ?_⟩) | ((with_reducible refine zac (f := 68) rfl ?_); refine za0 (some 20) rfl rfl Tryd.func68 (by kernel_rfl) rfl #[.string t986] rfl (zE) ?_; (with_reducible refine (zcd.calls k t986 t989 t992 _ A3.out).mono ?_); rintro e w7 ⟨v990, rfl, ho0, hb⟩; refine ⟨_, rfl, ?_⟩; have n0_ := zA (Kd.zb (Kd.zas (ok' := fun k_ => (w.heap.size ≤ k_) ∧ k_ ≠ gb985) ho0 (fun k_ hk_ => ⟨(Nat.le_trans (za (zB HB)) hk_), (Kd.freshB (g := gb985) (o := .cells #[.slice none 0 0, .slice none 0 0] 28 (0, 0)) (zK BK985) k_ hk_)⟩)) (za (zB HB))); have n1_ := zA (zai (g := gb985) (o := .cells #[.slice none 0 0, .slice none 0 0] 28 (0, 0)) (zK BK985) hb); have n2_ := zA (zaa (zB HB) hb); clear BK985 HB; have HO991 := n0_; have BK985 := n1_; have HB := n2_; clear n0_ n1_ n2_; (try clear hb); (try clear hb2); (try clear hk); (try clear hi); (try clear ho0)) | ((with_reducible refine zac (f := 54) rfl ?_); refine za0 (some 23) rfl rfl Tryd.func54 (by kernel_rfl) rfl #[] rfl (zE) ?_; (with_reducible refine (zbh.calls k  t993 _ A4.out).mono ?_); rintro e w8 ⟨v994, rfl, ho0, hb⟩; refine ⟨_, rfl, ?_⟩; have n0_ := zA (Kd.zaw (zV HO991) hb); have n1_ := zA (Kd.zb (Kd.zas (ok' := fun k_ => (w.heap.size ≤ k_) ∧ k_ ≠ gb985) ho0 (fun k_ hk_ => ⟨(Nat.le_trans (za (zB HB)) hk_), (Kd.freshB (g := gb985) (o := .cells #[.slice none 0 0, .slice none 0 0] 28 (0, 0)) (zK BK985) k_ hk_)⟩)) (za (zB HB))); have n2_ := zA (zai (g := gb985) (o := .cells #[.slice none 0 0, .slice none 0 0] 28 (0, 0)) (zK BK985) hb); have n3_ := zA (zaa (zB HB) hb); clear HO991 BK985 HB; have HO991 := n0_; have HO995 := n1_; have BK985 := n2_; have HB := n3_; clear n0_ n1_ n2_ n3_; (try clear hb); (try clear hb2); (try clear hk); (try clear hi); (try clear ho0)))
 (try simp only [Act.put, zs1, zs2, zs3])
 go_cut [9, 10] (fun v9 v10 wc => ∃ (kq : Nat) (x9_4 : List Int) (x10_4 : Int), v10 = .int .i64 x10_4 ∧ Aside0 (za4.j0 kq a0 t989 t992 x9_4 x10_4 = some (r1, r2, r3)) ∧ Aside0 (kq ≤ k) ∧ Aside0 (Kd.V (Kd.int .u64) 57 wc w.heap.size (fun k_ => (w.heap.size ≤ k_) ∧ k_ ≠ gb985) v990 t989) ∧ Aside0 (Kd.V (Kd.int .u64) 57 wc w.heap.size (fun k_ => (w.heap.size ≤ k_) ∧ k_ ≠ gb985) v9 x9_4) ∧ Aside0 (wc.heap[gb985]? = some (.cells #[(.slice none 0 0), (.slice none 0 0)] 28 (0, 0))) ∧ Aside0 (Below w.heap.size w wc))
 case first =>
  have H := HC5.out
  clear HC5
  by_cases c9 : t988 = true
  ·
   subst c9
   rw [if_pos rfl] at H
   replace H := zO H
   obtain ⟨⟨t996, t999⟩, A100, H⟩ := H
   try dsimp only at H
   have A10 := zA A100
   clear A100
   have H' := zA H
   clear H
   go_wp2_with (first | ((with_reducible refine zac (f := 68) rfl ?_); refine za0 (some 27) rfl rfl Tryd.func68 (by kernel_rfl) rfl #[.string t987] rfl (zE) ?_; (with_reducible refine (zcd.calls k t987 t996 t999 _ A10.out).mono ?_); rintro e w11 ⟨v997, rfl, ho0, hb⟩; refine ⟨_, rfl, ?_⟩; have n0_ := zA (Kd.zaw (zV HO991) hb); have n1_ := zA (Kd.zaw (zV HO995) hb); have n2_ := zA (Kd.zb (Kd.zas (ok' := fun k_ => (w.heap.size ≤ k_) ∧ k_ ≠ gb985) ho0 (fun k_ hk_ => ⟨(Nat.le_trans (za (zB HB)) hk_), (Kd.freshB (g := gb985) (o := .cells #[.slice none 0 0, .slice none 0 0] 28 (0, 0)) (zK BK985) k_ hk_)⟩)) (za (zB HB))); have n3_ := zA (zai (g := gb985) (o := .cells #[.slice none 0 0, .slice none 0 0] 28 (0, 0)) (zK BK985) hb); have n4_ := zA (zaa (zB HB) hb); clear HO991 HO995 BK985 HB; have HO991 := n0_; have HO995 := n1_; have HO998 := n2_; have BK985 := n3_; have HB := n4_; clear n0_ n1_ n2_ n3_ n4_; (try clear hb); (try clear hb2); (try clear hk); (try clear hi); (try clear ho0)))
   go_meet
   case rel => exact ⟨_, (t996), (t999), (zF), H', ⟨by first | omega | exact Nat.le_refl _⟩, ⟨zV HO991⟩, ⟨zV HO998⟩, ⟨zK BK985⟩, ⟨zB HB⟩⟩
  ·
   replace c9 := Bool.eq_false_iff.mpr c9
   subst c9
   rw [if_neg (show ¬ (false = true) by decide)] at H
   have H' := zA H
   clear H
   go_wp2
   go_meet
   case rel => exact ⟨_, (t993), (0), (zF), H', ⟨by first | omega | exact Nat.le_refl _⟩, ⟨zV HO991⟩, ⟨zV HO995⟩, ⟨zK BK985⟩, ⟨zB HB⟩⟩
 case rest =>
  clear HC5
  try clear p2
  try clear c4
  try clear c5
  try clear c6
  try clear p6
  try clear c9
  obtain ⟨kq, x9_4, x10_4, rfl, HA, HJ4, HO_7, HO_9, BK985, HB⟩ := hcut
  cases kq with
  | zero => exact absurd HA.out (by simp [za4.j0])
  | succ kj4 =>
   have H := HA.out
   clear HA
   simp only [za4.j0] at H
   have HC12 := zA H
   clear H
   go_upto_region 7 with (fail)
   go_cut [40] (fun v40 wc => ∃ (kq : Nat) (x40_11 : Bool), v40 = .bool x40_11 ∧ Aside0 (za4.j1 kq a0 t989 x9_4 x40_11 = some (r1, r2, r3)) ∧ Aside0 (kq ≤ kj4) ∧ Aside0 (Kd.V (Kd.int .u64) 57 wc w.heap.size (fun k_ => (w.heap.size ≤ k_) ∧ k_ ≠ gb985) v990 t989) ∧ Aside0 (Kd.V (Kd.int .u64) 57 wc w.heap.size (fun k_ => (w.heap.size ≤ k_) ∧ k_ ≠ gb985) u9 x9_4) ∧ Aside0 (wc.heap[gb985]? = some (.cells #[(.slice none 0 0), (.slice none 0 0)] 28 (0, 0))) ∧ Aside0 (Below w.heap.size w wc))
   case first =>
    have H := HC12.out
    clear HC12
    by_cases c13 : t992 = 0
    ·
     rw [if_pos c13] at H
     have c13b0 : (t992 == 0) = true := beq_iff_eq.mpr c13
     have c13b1 : (t992 != 0) = false := bne_eq_false_iff_eq.mpr c13
     clear c13
     (first | rw [c13b0] | (simp only [i64_w, i32_w]; rw [c13b0]) | skip)
     by_cases c14 : x10_4 = 0
     ·
      rw [if_pos c14] at H
      have c14b0 : (x10_4 == 0) = true := beq_iff_eq.mpr c14
      have c14b1 : (x10_4 != 0) = false := bne_eq_false_iff_eq.mpr c14
      clear c14
      have H' := zA H
      clear H
      obtain ⟨Ao15, co15, eo15⟩ := Kd.za6 HO_9.out
      subst eo15
      go_wp2
      go_meet
      case rel => exact ⟨_, (((x9_4.length : Int) == 0)), (zF), H', ⟨by have := HJ4.out; first | omega | exact Nat.le_refl _⟩, ⟨zV HO_7⟩, ⟨zV HO_9⟩, ⟨zK BK985⟩, ⟨zB HB⟩⟩
     ·
      rw [if_neg c14] at H
      have c14b0 : (x10_4 == 0) = false := beq_eq_false_iff_ne.mpr c14
      have c14b1 : (x10_4 != 0) = true := bne_iff_ne.mpr c14
      have H' := zA H
      clear H
      go_wp2
      go_meet
      case rel => exact ⟨_, (true), (zF), H', ⟨by have := HJ4.out; first | omega | exact Nat.le_refl _⟩, ⟨zV HO_7⟩, ⟨zV HO_9⟩, ⟨zK BK985⟩, ⟨zB HB⟩⟩
    ·
     rw [if_neg c13] at H
     have c13b0 : (t992 == 0) = false := beq_eq_false_iff_ne.mpr c13
     have c13b1 : (t992 != 0) = true := bne_iff_ne.mpr c13
     (first | rw [c13b0] | (simp only [i64_w, i32_w]; rw [c13b0]) | skip)
     have H' := zA H
     clear H
     go_wp2
     go_meet
     case rel => exact ⟨_, (true), (zF), H', ⟨by have := HJ4.out; first | omega | exact Nat.le_refl _⟩, ⟨zV HO_7⟩, ⟨zV HO_9⟩, ⟨zK BK985⟩, ⟨zB HB⟩⟩
   case rest =>
    clear HC12
    try clear c1
    try clear p2
    try clear c4
    try clear c5
    try clear c6
    try clear p6
    try clear c9
    try clear c13
    try clear c13b0
    try clear c13b1
    try clear c14
    try clear c14b0
    try clear c14b1
    try clear p2
    try clear p6
    obtain ⟨kq, x40_11, rfl, HA, HJ11, HO_7, HO_9, BK985, HB⟩ := hcut
    cases kq with
    | zero => exact absurd HA.out (by simp [za4.j1])
    | succ kj11 =>
     have H := HA.out
     clear HA
     simp only [za4.j1] at H
     by_cases c16 : x40_11 = true
     ·
      subst c16
      rw [if_pos rfl] at H
      simp only [Option.some.injEq, Prod.mk.injEq] at H
      obtain ⟨rfl, rfl, rfl⟩ := H
      have hcz17_0 : wc.cell? ⟨gb985, 0, none⟩ = some (.slice none 0 0) := (zad BK985.out 0).trans rfl
      have hcz17_1 : wc.cell? ⟨gb985, 1, none⟩ = some (.slice none 0 0) := (zad BK985.out 1).trans rfl
      have hfz17_0 := zat BK985.out 0
      have hfz17_1 := zat BK985.out 1
      go_wp2
      refine bodyPost_ret (results_ct rfl _ _ gb985 28 #[.slice none 0 0, .slice none 0 0] (0, 0) _ rfl (by (with_reducible repeat (first | refine zao ?_ _ | refine zar ?_ | refine zah ?_ _)); refine zbu (cs := #[.slice none 0 0, .slice none 0 0]) ?_ 1 _ rfl; (with_reducible repeat (first | refine zao ?_ _ | refine zar ?_ | refine zah ?_ _)); refine zbu (cs := #[.slice none 0 0, .slice none 0 0]) ?_ 0 _ rfl; (with_reducible repeat (first | refine zao ?_ _ | refine zar ?_ | refine zah ?_ _)); exact BK985.out) Tryd.underlying28 rfl (by kernel_rfl)) rfl ?_
      exact ⟨_, _, zW, Kd.V_nil _ _ _ _ _, Kd.V_nil _ _ _ _ _, zB HB⟩
     ·
      replace c16 := Bool.eq_false_iff.mpr c16
      subst c16
      rw [if_neg (show ¬ (false = true) by decide)] at H
      replace H := zO H
      obtain ⟨⟨t1000, t1003⟩, A180, H⟩ := H
      try dsimp only at H
      have A18 := zA A180
      clear A180
      replace H := zO H
      obtain ⟨t1007, A190, H⟩ := H
      try dsimp only at H
      have A19 := zA A190
      clear A190
      by_cases c20 : t1007.toList = a0.toList
      ·
       rw [if_pos c20] at H
       have c20b0 : (t1007.toList == a0.toList) = true := beq_iff_eq.mpr c20
       have c20b1 : (t1007.toList != a0.toList) = false := bne_eq_false_iff_eq.mpr c20
       clear c20
       simp only [Option.some.injEq, Prod.mk.injEq] at H
       obtain ⟨rfl, rfl, rfl⟩ := H
       obtain ⟨Ao21, co21, eo21⟩ := Kd.za6 HO_7.out
       subst eo21
       obtain ⟨Ao22, co22, eo22⟩ := Kd.za6 HO_9.out
       subst eo22
       go_wp2_with (first | ((with_reducible refine zac (f := 58) rfl ?_); refine za0 (some 44) rfl rfl Tryd.func58 (by kernel_rfl) rfl #[.slice Ao21 t989.length co21, .slice Ao22 x9_4.length co22] rfl (zE) ?_; (with_reducible refine (zba.calls kj11 _ _ t989 _ _ x9_4 t1000 t1003 _ ?side1 ?side2 ?side3 ?side4 A18.out).mono ?_); (case side1 => exact zJ (Kd.zam HO_7.out).2.2); (case side2 => exact (Kd.zam HO_7.out).2.1); (case side3 => exact zJ (Kd.zam HO_9.out).2.2); (case side4 => exact (Kd.zam HO_9.out).2.1); rintro e w23 ⟨v1001, v1004, rfl, ho0, ho1, hb⟩; refine ⟨_, rfl, ?_⟩; have n0_ := zA (Kd.zaw (zV HO_7) hb); have n1_ := zA (Kd.zaw (zV HO_9) hb); have n2_ := zA (Kd.zb (Kd.zas (ok' := fun k_ => (w.heap.size ≤ k_) ∧ k_ ≠ gb985) ho0 (fun k_ hk_ => ⟨(Nat.le_trans (za (zB HB)) hk_), (Kd.freshB (g := gb985) (o := .cells #[.slice none 0 0, .slice none 0 0] 28 (0, 0)) (zK BK985) k_ hk_)⟩)) (za (zB HB))); have n3_ := zA (Kd.zb (Kd.zas (ok' := fun k_ => (w.heap.size ≤ k_) ∧ k_ ≠ gb985) ho1 (fun k_ hk_ => ⟨(Nat.le_trans (za (zB HB)) hk_), (Kd.freshB (g := gb985) (o := .cells #[.slice none 0 0, .slice none 0 0] 28 (0, 0)) (zK BK985) k_ hk_)⟩)) (za (zB HB))); have n4_ := zA (zai (g := gb985) (o := .cells #[.slice none 0 0, .slice none 0 0] 28 (0, 0)) (zK BK985) hb); have n5_ := zA (zaa (zB HB) hb); clear HO_7 HO_9 BK985 HB; have HO_7 := n0_; have HO_9 := n1_; have HO1002 := n2_; have HO1005 := n3_; have BK985 := n4_; have HB := n5_; clear n0_ n1_ n2_ n3_ n4_ n5_; (try clear hb); (try clear hb2); (try clear hk); (try clear hi); (try clear ho0); (try clear ho1)) | ((with_reducible refine zbf (N := 11) rfl ?_); (try (refine gate_guard (by rfl) ?_; dsimp only)); refine zbi ?hg (N := 11) ?hd (cs := #[.slice none 0 0, .slice none 0 0]) (t := 28) ?hr ?_; (case hd => rfl); (case hg => rfl); (case hr => first | (go_simp; done) | (go_simp; rfl)); intro gb1006 hg w24 hbox hb; have n0_ := zA (Kd.zaw (Kd.zc7 (zV HO_7) gb1006 (Nat.le_of_eq hg.symm)) hb); have n1_ := zA (Kd.zaw (Kd.zc7 (zV HO_9) gb1006 (Nat.le_of_eq hg.symm)) hb); have n2_ := zA (Kd.zaw (Kd.zc7 (zV HO1002) gb1006 (Nat.le_of_eq hg.symm)) hb); have n3_ := zA (Kd.zaw (Kd.zc7 (zV HO1005) gb1006 (Nat.le_of_eq hg.symm)) hb); have n4_ := zA (zai (g := gb985) (o := .cells #[.slice none 0 0, .slice none 0 0] 28 (0, 0)) (zK BK985) hb); have n5_ := zA (zaa (zB HB) hb); have n6_ := zA (hbox); have n7_ := zA ((by rw [hg]; exact (za (zB HB)) : w.heap.size ≤ gb1006)); have n8_ := zA ((by rw [hg]; exact (za (zB HB)) : w.heap.size ≤ gb1006)); have n9_ := zA ((by rw [hg]; exact Nat.ne_of_lt (zbq (g := gb985) (o := .cells #[.slice none 0 0, .slice none 0 0] 28 (0, 0)) (zK BK985)) : gb985 ≠ gb1006)); have n10_ := zA ((by rw [hg]; exact Nat.ne_of_gt (zbq (g := gb985) (o := .cells #[.slice none 0 0, .slice none 0 0] 28 (0, 0)) (zK BK985)) : gb1006 ≠ gb985)); clear HO_7 HO_9 HO1002 HO1005 BK985 HB; have HO_7 := n0_; have HO_9 := n1_; have HO1002 := n2_; have HO1005 := n3_; have BK985 := n4_; have HB := n5_; have BK1006 := n6_; have GW1006 := n7_; have GE1006 := n8_; have NB985_1006 := n9_; have NB1006_985 := n10_; clear n0_ n1_ n2_ n3_ n4_ n5_ n6_ n7_ n8_ n9_ n10_ hb hbox hg; obtain ⟨Ao25, co25, eo25⟩ := Kd.za6 HO1002.out; subst eo25; have hnb26 := NB1006_985.out; have hnc26 := NB985_1006.out; have hcz27_0 : w24.cell? ⟨gb1006, 0, none⟩ = some (.slice none 0 0) := (zad BK1006.out 0).trans rfl; have hcz27_1 : w24.cell? ⟨gb1006, 1, none⟩ = some (.slice none 0 0) := (zad BK1006.out 1).trans rfl; have hfz27_0 := zat BK1006.out 0; have hfz27_1 := zat BK1006.out 1; obtain ⟨Ao28, co28, eo28⟩ := Kd.za6 HO1005.out; subst eo28) | ((with_reducible refine zac (f := 41) rfl ?_); refine za0 (some 46) rfl rfl Tryd.func41 (by kernel_rfl) rfl #[.agg #[.slice Ao25 t1000.length co25, .slice Ao28 t1003.length co28]] rfl (zE) ?_; (with_reducible refine (zaz.calls kj11 _ _ t1000 _ _ t1003 t1007 _ ?side1 ?side2 ?side3 ?side4 ?side5 A19.out).mono ?_); (case side1 => refine (Kd.zam (e := 57) (base := w.heap.size) (ok := fun k_ => (((w.heap.size ≤ k_) ∧ k_ ≠ gb985) ∧ k_ ≠ gb1006)) (n := t1000.length) (c := co25) ?_).2.2; exact (by (with_reducible repeat (first | apply Kd.zbw | apply Kd.zbv | apply Kd.zbz)); exact (Kd.zas (Kd.V_far (p := ⟨gb1006, 1, none⟩) (Kd.V_far (p := ⟨gb1006, 0, none⟩) (Kd.zas HO1002.out (fun k_ hk => (⟨hk, hk.2⟩ : _ ∧ k_ ≠ gb1006))) (fun _ hk => hk.2) (.slice Ao25 t1000.length co25)) (fun _ hk => hk.2) (.slice Ao28 t1003.length co28)) (fun _ h_ => h_.1)))); (case side2 => exact (Kd.zam HO1002.out).2.1); (case side3 => refine (Kd.zam (e := 57) (base := w.heap.size) (ok := fun k_ => (((w.heap.size ≤ k_) ∧ k_ ≠ gb985) ∧ k_ ≠ gb1006)) (n := t1003.length) (c := co28) ?_).2.2; exact (by (with_reducible repeat (first | apply Kd.zbw | apply Kd.zbv | apply Kd.zbz)); exact (Kd.zas (Kd.V_far (p := ⟨gb1006, 1, none⟩) (Kd.V_far (p := ⟨gb1006, 0, none⟩) (Kd.zas HO1005.out (fun k_ hk => (⟨hk, hk.2⟩ : _ ∧ k_ ≠ gb1006))) (fun _ hk => hk.2) (.slice Ao25 t1000.length co25)) (fun _ hk => hk.2) (.slice Ao28 t1003.length co28)) (fun _ h_ => h_.1)))); (case side4 => exact (Kd.zam HO1005.out).2.1); (case side5 => exact Glob.below HG.out (zB HB)); rintro e w29 ⟨rfl, hb⟩; refine ⟨_, rfl, ?_⟩; have n0_ := zA (Kd.zaw (by (with_reducible repeat (first | apply Kd.zbw | apply Kd.zbv | apply Kd.zbz)); exact (Kd.zas (Kd.V_far (p := ⟨gb1006, 1, none⟩) (Kd.V_far (p := ⟨gb1006, 0, none⟩) (Kd.zas HO_7.out (fun k_ hk => (⟨hk, hk.2⟩ : _ ∧ k_ ≠ gb1006))) (fun _ hk => hk.2) (.slice Ao25 t1000.length co25)) (fun _ hk => hk.2) (.slice Ao28 t1003.length co28)) (fun _ h_ => h_.1))) hb); have n1_ := zA (Kd.zaw (by (with_reducible repeat (first | apply Kd.zbw | apply Kd.zbv | apply Kd.zbz)); exact (Kd.zas (Kd.V_far (p := ⟨gb1006, 1, none⟩) (Kd.V_far (p := ⟨gb1006, 0, none⟩) (Kd.zas HO_9.out (fun k_ hk => (⟨hk, hk.2⟩ : _ ∧ k_ ≠ gb1006))) (fun _ hk => hk.2) (.slice Ao25 t1000.length co25)) (fun _ hk => hk.2) (.slice Ao28 t1003.length co28)) (fun _ h_ => h_.1))) hb); have n2_ := zA (Kd.zaw (by (with_reducible repeat (first | apply Kd.zbw | apply Kd.zbv | apply Kd.zbz)); exact (Kd.zas (Kd.V_far (p := ⟨gb1006, 1, none⟩) (Kd.V_far (p := ⟨gb1006, 0, none⟩) (Kd.zas HO1002.out (fun k_ hk => (⟨hk, hk.2⟩ : _ ∧ k_ ≠ gb1006))) (fun _ hk => hk.2) (.slice Ao25 t1000.length co25)) (fun _ hk => hk.2) (.slice Ao28 t1003.length co28)) (fun _ h_ => h_.1))) hb); have n3_ := zA (Kd.zaw (by (with_reducible repeat (first | apply Kd.zbw | apply Kd.zbv | apply Kd.zbz)); exact (Kd.zas (Kd.V_far (p := ⟨gb1006, 1, none⟩) (Kd.V_far (p := ⟨gb1006, 0, none⟩) (Kd.zas HO1005.out (fun k_ hk => (⟨hk, hk.2⟩ : _ ∧ k_ ≠ gb1006))) (fun _ hk => hk.2) (.slice Ao25 t1000.length co25)) (fun _ hk => hk.2) (.slice Ao28 t1003.length co28)) (fun _ h_ => h_.1))) hb); have n4_ := zA (zai (g := gb985) (o := .cells #[.slice none 0 0, .slice none 0 0] 28 (0, 0)) (by (with_reducible repeat (first | refine zao ?_ _ | refine zar ?_ | refine zah ?_ _)); refine zc4 ?_ NB985_1006.out _; (with_reducible repeat (first | refine zao ?_ _ | refine zar ?_ | refine zah ?_ _)); refine zc4 ?_ NB985_1006.out _; (with_reducible repeat (first | refine zao ?_ _ | refine zar ?_ | refine zah ?_ _)); exact BK985.out) hb); have n5_ := zA (zai (g := gb1006) (o := .cells #[.slice Ao25 t1000.length co25, .slice Ao28 t1003.length co28] 28 (0, 0)) (by (with_reducible repeat (first | refine zao ?_ _ | refine zar ?_ | refine zah ?_ _)); refine zbu (cs := #[.slice Ao25 t1000.length co25, .slice none 0 0]) ?_ 1 _ rfl; (with_reducible repeat (first | refine zao ?_ _ | refine zar ?_ | refine zah ?_ _)); refine zbu (cs := #[.slice none 0 0, .slice none 0 0]) ?_ 0 _ rfl; (with_reducible repeat (first | refine zao ?_ _ | refine zar ?_ | refine zah ?_ _)); exact BK1006.out) hb); have n6_ := zA (zaa (zB HB) hb); clear HO_7 HO_9 HO1002 HO1005 BK985 BK1006 HB; have HO_7 := n0_; have HO_9 := n1_; have HO1002 := n2_; have HO1005 := n3_; have BK985 := n4_; have BK1006 := n5_; have HB := n6_; clear n0_ n1_ n2_ n3_ n4_ n5_ n6_; (try clear hb); (try clear hb2); (try clear hk); (try clear hi); have hcz30_0 : w29.cell? ⟨gb1006, 0, none⟩ = some (.slice Ao25 t1000.length co25) := (zad BK1006.out 0).trans rfl; have hcz30_1 : w29.cell? ⟨gb1006, 1, none⟩ = some (.slice Ao28 t1003.length co28) := (zad BK1006.out 1).trans rfl; have hfz30_0 := zat BK1006.out 0; have hfz30_1 := zat BK1006.out 1; have hcz31_0 : w29.cell? ⟨gb985, 0, none⟩ = some (.slice none 0 0) := (zad BK985.out 0).trans rfl; have hcz31_1 : w29.cell? ⟨gb985, 1, none⟩ = some (.slice none 0 0) := (zad BK985.out 1).trans rfl; have hfz31_0 := zat BK985.out 0; have hfz31_1 := zat BK985.out 1))
       refine bodyPost_ret (results_ct rfl _ _ gb985 28 #[.slice Ao25 t1000.length co25, .slice Ao28 t1003.length co28] (0, 0) _ rfl (by (with_reducible repeat (first | refine zao ?_ _ | refine zar ?_ | refine zah ?_ _)); refine zbu (cs := #[.slice Ao25 t1000.length co25, .slice none 0 0]) ?_ 1 _ rfl; (with_reducible repeat (first | refine zao ?_ _ | refine zar ?_ | refine zah ?_ _)); refine zbu (cs := #[.slice none 0 0, .slice none 0 0]) ?_ 0 _ rfl; (with_reducible repeat (first | refine zao ?_ _ | refine zar ?_ | refine zah ?_ _)); exact BK985.out) Tryd.underlying28 rfl (by kernel_rfl)) rfl ?_
       exact ⟨_, _, zW, by (with_reducible repeat (first | apply Kd.zbw | apply Kd.zbv | apply Kd.zbz)); exact Kd.zas (Kd.V_far (p := ⟨gb985, 1, none⟩) (Kd.V_far (p := ⟨gb985, 0, none⟩) (Kd.zas HO1002.out (fun k_ hk => (⟨hk, hk.1.2⟩ : _ ∧ k_ ≠ gb985))) (fun _ hk => hk.2) (.slice Ao25 t1000.length co25)) (fun _ hk => hk.2) (.slice Ao28 t1003.length co28)) (fun _ hk => hk.1.1.1), by (with_reducible repeat (first | apply Kd.zbw | apply Kd.zbv | apply Kd.zbz)); exact Kd.zas (Kd.V_far (p := ⟨gb985, 1, none⟩) (Kd.V_far (p := ⟨gb985, 0, none⟩) (Kd.zas HO1005.out (fun k_ hk => (⟨hk, hk.1.2⟩ : _ ∧ k_ ≠ gb985))) (fun _ hk => hk.2) (.slice Ao25 t1000.length co25)) (fun _ hk => hk.2) (.slice Ao28 t1003.length co28)) (fun _ hk => hk.1.1.1), zB HB⟩
      ·
       rw [if_neg c20] at H
       have c20b0 : (t1007.toList == a0.toList) = false := beq_eq_false_iff_ne.mpr c20
       have c20b1 : (t1007.toList != a0.toList) = true := bne_iff_ne.mpr c20
       simp only [Option.some.injEq, Prod.mk.injEq] at H
       obtain ⟨rfl, rfl, rfl⟩ := H
       obtain ⟨Ao32, co32, eo32⟩ := Kd.za6 HO_7.out
       subst eo32
       obtain ⟨Ao33, co33, eo33⟩ := Kd.za6 HO_9.out
       subst eo33
       go_wp2_with (first | ((with_reducible refine zac (f := 58) rfl ?_); refine za0 (some 44) rfl rfl Tryd.func58 (by kernel_rfl) rfl #[.slice Ao32 t989.length co32, .slice Ao33 x9_4.length co33] rfl (zE) ?_; (with_reducible refine (zba.calls kj11 _ _ t989 _ _ x9_4 t1000 t1003 _ ?side1 ?side2 ?side3 ?side4 A18.out).mono ?_); (case side1 => exact zJ (Kd.zam HO_7.out).2.2); (case side2 => exact (Kd.zam HO_7.out).2.1); (case side3 => exact zJ (Kd.zam HO_9.out).2.2); (case side4 => exact (Kd.zam HO_9.out).2.1); rintro e w34 ⟨v1001, v1004, rfl, ho0, ho1, hb⟩; refine ⟨_, rfl, ?_⟩; have n0_ := zA (Kd.zaw (zV HO_7) hb); have n1_ := zA (Kd.zaw (zV HO_9) hb); have n2_ := zA (Kd.zb (Kd.zas (ok' := fun k_ => (w.heap.size ≤ k_) ∧ k_ ≠ gb985) ho0 (fun k_ hk_ => ⟨(Nat.le_trans (za (zB HB)) hk_), (Kd.freshB (g := gb985) (o := .cells #[.slice none 0 0, .slice none 0 0] 28 (0, 0)) (zK BK985) k_ hk_)⟩)) (za (zB HB))); have n3_ := zA (Kd.zb (Kd.zas (ok' := fun k_ => (w.heap.size ≤ k_) ∧ k_ ≠ gb985) ho1 (fun k_ hk_ => ⟨(Nat.le_trans (za (zB HB)) hk_), (Kd.freshB (g := gb985) (o := .cells #[.slice none 0 0, .slice none 0 0] 28 (0, 0)) (zK BK985) k_ hk_)⟩)) (za (zB HB))); have n4_ := zA (zai (g := gb985) (o := .cells #[.slice none 0 0, .slice none 0 0] 28 (0, 0)) (zK BK985) hb); have n5_ := zA (zaa (zB HB) hb); clear HO_7 HO_9 BK985 HB; have HO_7 := n0_; have HO_9 := n1_; have HO1002 := n2_; have HO1005 := n3_; have BK985 := n4_; have HB := n5_; clear n0_ n1_ n2_ n3_ n4_ n5_; (try clear hb); (try clear hb2); (try clear hk); (try clear hi); (try clear ho0); (try clear ho1)) | ((with_reducible refine zbf (N := 11) rfl ?_); (try (refine gate_guard (by rfl) ?_; dsimp only)); refine zbi ?hg (N := 11) ?hd (cs := #[.slice none 0 0, .slice none 0 0]) (t := 28) ?hr ?_; (case hd => rfl); (case hg => rfl); (case hr => first | (go_simp; done) | (go_simp; rfl)); intro gb1006 hg w35 hbox hb; have n0_ := zA (Kd.zaw (Kd.zc7 (zV HO_7) gb1006 (Nat.le_of_eq hg.symm)) hb); have n1_ := zA (Kd.zaw (Kd.zc7 (zV HO_9) gb1006 (Nat.le_of_eq hg.symm)) hb); have n2_ := zA (Kd.zaw (Kd.zc7 (zV HO1002) gb1006 (Nat.le_of_eq hg.symm)) hb); have n3_ := zA (Kd.zaw (Kd.zc7 (zV HO1005) gb1006 (Nat.le_of_eq hg.symm)) hb); have n4_ := zA (zai (g := gb985) (o := .cells #[.slice none 0 0, .slice none 0 0] 28 (0, 0)) (zK BK985) hb); have n5_ := zA (zaa (zB HB) hb); have n6_ := zA (hbox); have n7_ := zA ((by rw [hg]; exact (za (zB HB)) : w.heap.size ≤ gb1006)); have n8_ := zA ((by rw [hg]; exact (za (zB HB)) : w.heap.size ≤ gb1006)); have n9_ := zA ((by rw [hg]; exact Nat.ne_of_lt (zbq (g := gb985) (o := .cells #[.slice none 0 0, .slice none 0 0] 28 (0, 0)) (zK BK985)) : gb985 ≠ gb1006)); have n10_ := zA ((by rw [hg]; exact Nat.ne_of_gt (zbq (g := gb985) (o := .cells #[.slice none 0 0, .slice none 0 0] 28 (0, 0)) (zK BK985)) : gb1006 ≠ gb985)); clear HO_7 HO_9 HO1002 HO1005 BK985 HB; have HO_7 := n0_; have HO_9 := n1_; have HO1002 := n2_; have HO1005 := n3_; have BK985 := n4_; have HB := n5_; have BK1006 := n6_; have GW1006 := n7_; have GE1006 := n8_; have NB985_1006 := n9_; have NB1006_985 := n10_; clear n0_ n1_ n2_ n3_ n4_ n5_ n6_ n7_ n8_ n9_ n10_ hb hbox hg; obtain ⟨Ao36, co36, eo36⟩ := Kd.za6 HO1002.out; subst eo36; have hnb37 := NB1006_985.out; have hnc37 := NB985_1006.out; have hcz38_0 : w35.cell? ⟨gb1006, 0, none⟩ = some (.slice none 0 0) := (zad BK1006.out 0).trans rfl; have hcz38_1 : w35.cell? ⟨gb1006, 1, none⟩ = some (.slice none 0 0) := (zad BK1006.out 1).trans rfl; have hfz38_0 := zat BK1006.out 0; have hfz38_1 := zat BK1006.out 1; obtain ⟨Ao39, co39, eo39⟩ := Kd.za6 HO1005.out; subst eo39) | ((with_reducible refine zac (f := 41) rfl ?_); refine za0 (some 46) rfl rfl Tryd.func41 (by kernel_rfl) rfl #[.agg #[.slice Ao36 t1000.length co36, .slice Ao39 t1003.length co39]] rfl (zE) ?_; (with_reducible refine (zaz.calls kj11 _ _ t1000 _ _ t1003 t1007 _ ?side1 ?side2 ?side3 ?side4 ?side5 A19.out).mono ?_); (case side1 => refine (Kd.zam (e := 57) (base := w.heap.size) (ok := fun k_ => (((w.heap.size ≤ k_) ∧ k_ ≠ gb985) ∧ k_ ≠ gb1006)) (n := t1000.length) (c := co36) ?_).2.2; exact (by (with_reducible repeat (first | apply Kd.zbw | apply Kd.zbv | apply Kd.zbz)); exact (Kd.zas (Kd.V_far (p := ⟨gb1006, 1, none⟩) (Kd.V_far (p := ⟨gb1006, 0, none⟩) (Kd.zas HO1002.out (fun k_ hk => (⟨hk, hk.2⟩ : _ ∧ k_ ≠ gb1006))) (fun _ hk => hk.2) (.slice Ao36 t1000.length co36)) (fun _ hk => hk.2) (.slice Ao39 t1003.length co39)) (fun _ h_ => h_.1)))); (case side2 => exact (Kd.zam HO1002.out).2.1); (case side3 => refine (Kd.zam (e := 57) (base := w.heap.size) (ok := fun k_ => (((w.heap.size ≤ k_) ∧ k_ ≠ gb985) ∧ k_ ≠ gb1006)) (n := t1003.length) (c := co39) ?_).2.2; exact (by (with_reducible repeat (first | apply Kd.zbw | apply Kd.zbv | apply Kd.zbz)); exact (Kd.zas (Kd.V_far (p := ⟨gb1006, 1, none⟩) (Kd.V_far (p := ⟨gb1006, 0, none⟩) (Kd.zas HO1005.out (fun k_ hk => (⟨hk, hk.2⟩ : _ ∧ k_ ≠ gb1006))) (fun _ hk => hk.2) (.slice Ao36 t1000.length co36)) (fun _ hk => hk.2) (.slice Ao39 t1003.length co39)) (fun _ h_ => h_.1)))); (case side4 => exact (Kd.zam HO1005.out).2.1); (case side5 => exact Glob.below HG.out (zB HB)); rintro e w40 ⟨rfl, hb⟩; refine ⟨_, rfl, ?_⟩; have n0_ := zA (Kd.zaw (by (with_reducible repeat (first | apply Kd.zbw | apply Kd.zbv | apply Kd.zbz)); exact (Kd.zas (Kd.V_far (p := ⟨gb1006, 1, none⟩) (Kd.V_far (p := ⟨gb1006, 0, none⟩) (Kd.zas HO_7.out (fun k_ hk => (⟨hk, hk.2⟩ : _ ∧ k_ ≠ gb1006))) (fun _ hk => hk.2) (.slice Ao36 t1000.length co36)) (fun _ hk => hk.2) (.slice Ao39 t1003.length co39)) (fun _ h_ => h_.1))) hb); have n1_ := zA (Kd.zaw (by (with_reducible repeat (first | apply Kd.zbw | apply Kd.zbv | apply Kd.zbz)); exact (Kd.zas (Kd.V_far (p := ⟨gb1006, 1, none⟩) (Kd.V_far (p := ⟨gb1006, 0, none⟩) (Kd.zas HO_9.out (fun k_ hk => (⟨hk, hk.2⟩ : _ ∧ k_ ≠ gb1006))) (fun _ hk => hk.2) (.slice Ao36 t1000.length co36)) (fun _ hk => hk.2) (.slice Ao39 t1003.length co39)) (fun _ h_ => h_.1))) hb); have n2_ := zA (Kd.zaw (by (with_reducible repeat (first | apply Kd.zbw | apply Kd.zbv | apply Kd.zbz)); exact (Kd.zas (Kd.V_far (p := ⟨gb1006, 1, none⟩) (Kd.V_far (p := ⟨gb1006, 0, none⟩) (Kd.zas HO1002.out (fun k_ hk => (⟨hk, hk.2⟩ : _ ∧ k_ ≠ gb1006))) (fun _ hk => hk.2) (.slice Ao36 t1000.length co36)) (fun _ hk => hk.2) (.slice Ao39 t1003.length co39)) (fun _ h_ => h_.1))) hb); have n3_ := zA (Kd.zaw (by (with_reducible repeat (first | apply Kd.zbw | apply Kd.zbv | apply Kd.zbz)); exact (Kd.zas (Kd.V_far (p := ⟨gb1006, 1, none⟩) (Kd.V_far (p := ⟨gb1006, 0, none⟩) (Kd.zas HO1005.out (fun k_ hk => (⟨hk, hk.2⟩ : _ ∧ k_ ≠ gb1006))) (fun _ hk => hk.2) (.slice Ao36 t1000.length co36)) (fun _ hk => hk.2) (.slice Ao39 t1003.length co39)) (fun _ h_ => h_.1))) hb); have n4_ := zA (zai (g := gb985) (o := .cells #[.slice none 0 0, .slice none 0 0] 28 (0, 0)) (by (with_reducible repeat (first | refine zao ?_ _ | refine zar ?_ | refine zah ?_ _)); refine zc4 ?_ NB985_1006.out _; (with_reducible repeat (first | refine zao ?_ _ | refine zar ?_ | refine zah ?_ _)); refine zc4 ?_ NB985_1006.out _; (with_reducible repeat (first | refine zao ?_ _ | refine zar ?_ | refine zah ?_ _)); exact BK985.out) hb); have n5_ := zA (zai (g := gb1006) (o := .cells #[.slice Ao36 t1000.length co36, .slice Ao39 t1003.length co39] 28 (0, 0)) (by (with_reducible repeat (first | refine zao ?_ _ | refine zar ?_ | refine zah ?_ _)); refine zbu (cs := #[.slice Ao36 t1000.length co36, .slice none 0 0]) ?_ 1 _ rfl; (with_reducible repeat (first | refine zao ?_ _ | refine zar ?_ | refine zah ?_ _)); refine zbu (cs := #[.slice none 0 0, .slice none 0 0]) ?_ 0 _ rfl; (with_reducible repeat (first | refine zao ?_ _ | refine zar ?_ | refine zah ?_ _)); exact BK1006.out) hb); have n6_ := zA (zaa (zB HB) hb); clear HO_7 HO_9 HO1002 HO1005 BK985 BK1006 HB; have HO_7 := n0_; have HO_9 := n1_; have HO1002 := n2_; have HO1005 := n3_; have BK985 := n4_; have BK1006 := n5_; have HB := n6_; clear n0_ n1_ n2_ n3_ n4_ n5_ n6_; (try clear hb); (try clear hb2); (try clear hk); (try clear hi); have hcz41_0 : w40.cell? ⟨gb985, 0, none⟩ = some (.slice none 0 0) := (zad BK985.out 0).trans rfl; have hcz41_1 : w40.cell? ⟨gb985, 1, none⟩ = some (.slice none 0 0) := (zad BK985.out 1).trans rfl; have hfz41_0 := zat BK985.out 0; have hfz41_1 := zat BK985.out 1))
       refine bodyPost_ret (results_ct rfl _ _ gb985 28 #[.slice none 0 0, .slice none 0 0] (0, 0) _ rfl (by (with_reducible repeat (first | refine zao ?_ _ | refine zar ?_ | refine zah ?_ _)); refine zbu (cs := #[.slice none 0 0, .slice none 0 0]) ?_ 1 _ rfl; (with_reducible repeat (first | refine zao ?_ _ | refine zar ?_ | refine zah ?_ _)); refine zbu (cs := #[.slice none 0 0, .slice none 0 0]) ?_ 0 _ rfl; (with_reducible repeat (first | refine zao ?_ _ | refine zar ?_ | refine zah ?_ _)); exact BK985.out) Tryd.underlying28 rfl (by kernel_rfl)) rfl ?_
       exact ⟨_, _, zW, Kd.V_nil _ _ _ _ _, Kd.V_nil _ _ _ _ _, zB HB⟩
def zcc.f (a0 : Int) : Option (Bool) := if a0 ≥ 1 then (some (decide (a0 ≤ 1000))) else (some false)
theorem zcc.calls (a0 : Int) (r : Bool) (w : World) (h : zcc.f a0 = some r) :
  Calls Tryd.prog 71 #[.int .i64 a0] w fun e w' => e = .returned (.bool r) ∧ Drawn0 w w' := by
 have H : (if a0 ≥ 1 then (some (decide (a0 ≤ 1000))) else (some false)) = some r := h
 clear h
 by_cases c2 : a0 ≥ 1
 ·
  rw [if_pos c2] at H
  have c2b0 : decide (1 ≤ a0) = true := decide_eq_true c2
  clear c2
  obtain rfl := Option.some.inj H
  go_enter Tryd.func71, Tryd.ntmps71
  go_wp2
  go_ret
  exact ⟨zF, by repeat (first | exact Drawn0.refl _ | apply Drawn0.step)⟩
 ·
  rw [if_neg c2] at H
  have c2b0 : decide (1 ≤ a0) = false := decide_eq_false c2
  clear c2
  obtain rfl := Option.some.inj H
  go_enter Tryd.func71, Tryd.ntmps71
  go_wp2
  go_ret
  exact ⟨zF, by repeat (first | exact Drawn0.refl _ | apply Drawn0.step)⟩
def nat_Small.f (l0 : List Int) : Option (Int × Bool) := if (l0.length : Int) > 1 then (some (0, false)) else ((zb7.f l0 0).bind fun t1131 => (if t1131 > 4611686018427387904 then (some (0, false)) else ((zb7.f l0 0).bind fun t1132 => (some (wrap64 (t1132), true)))))
theorem nat_Small.calls (A0 : Option Addr) (c0 : Nat) (l0 : List Int) (r1 : Int) (r2 : Bool) (w : World) (hr0 : Kd.C (Kd.int .u64) w A0 l0.length l0) (hc0 : l0.length ≤ c0) (h : nat_Small.f l0 = some (r1, r2)) :
  Calls Tryd.prog 72 #[.slice A0 l0.length c0] w fun e w' => e = .returned (.tuple #[.int .i64 r1, .bool r2]) ∧ Drawn0 w w' := by
 have HR0 := zA hr0
 have HC0 := zA hc0
 clear hr0 hc0
 have H : (if (l0.length : Int) > 1 then (some (0, false)) else ((zb7.f l0 0).bind fun t1131 => (if t1131 > 4611686018427387904 then (some (0, false)) else ((zb7.f l0 0).bind fun t1132 => (some (wrap64 (t1132), true)))))) = some (r1, r2) := h
 clear h
 by_cases c2 : (l0.length : Int) > 1
 ·
  rw [if_pos c2] at H
  have c2b0 : decide (1 < (l0.length : Int)) = true := decide_eq_true c2
  have c2b1 : decide (1 < l0.length) = true := decide_eq_true (by omega)
  clear c2
  simp only [Option.some.injEq, Prod.mk.injEq] at H
  obtain ⟨rfl, rfl⟩ := H
  go_enter Tryd.func72, Tryd.ntmps72
  go_wp2
  go_ret2
  exact ⟨zF, by repeat (first | exact Drawn0.refl _ | apply Drawn0.step)⟩
 ·
  rw [if_neg c2] at H
  have c2b0 : decide (1 < (l0.length : Int)) = false := decide_eq_false c2
  have c2b1 : decide (1 < l0.length) = false := decide_eq_false (by omega)
  clear c2
  replace H := zO H
  obtain ⟨t1131, A30, H⟩ := H
  try dsimp only at H
  have A3 := zA A30
  clear A30
  by_cases c4 : t1131 > 4611686018427387904
  ·
   rw [if_pos c4] at H
   have c4b0 : decide (4611686018427387904 < t1131) = true := decide_eq_true c4
   clear c4
   simp only [Option.some.injEq, Prod.mk.injEq] at H
   obtain ⟨rfl, rfl⟩ := H
   go_enter Tryd.func72, Tryd.ntmps72
   go_wp2_with (first | (go_at_call 89; (with_reducible refine (zb7.calls _ _ l0 0 t1131 _ ?side1 ?side2 A3.out).mono ?_); (case side1 => repeat (first | exact HR0.out | (with_reducible refine Kd.zc2 ?_ _) | (with_reducible refine Kd.C_drewN ?_ _) | (with_reducible refine Kd.C_drew ?_))); (case side2 => exact HC0.out); rintro e w' ⟨rfl, ⟨nd, rfl⟩⟩))
   go_ret2
   exact ⟨zF, by repeat (first | exact Drawn0.refl _ | apply Drawn0.step)⟩
  ·
   rw [if_neg c4] at H
   have c4b0 : decide (4611686018427387904 < t1131) = false := decide_eq_false c4
   clear c4
   replace H := zO H
   obtain ⟨t1132, A50, H⟩ := H
   try dsimp only at H
   have A5 := zA A50
   clear A50
   simp only [Option.some.injEq, Prod.mk.injEq] at H
   obtain ⟨rfl, rfl⟩ := H
   go_enter Tryd.func72, Tryd.ntmps72
   go_wp2_with (first | (go_at_call 89; (with_reducible refine (zb7.calls _ _ l0 0 t1131 _ ?side1 ?side2 A3.out).mono ?_); (case side1 => repeat (first | exact HR0.out | (with_reducible refine Kd.zc2 ?_ _) | (with_reducible refine Kd.C_drewN ?_ _) | (with_reducible refine Kd.C_drew ?_))); (case side2 => exact HC0.out); rintro e w' ⟨rfl, ⟨nd, rfl⟩⟩) | ((with_reducible refine zac (f := 89) rfl ?_); refine za0 (some 13) rfl rfl Tryd.func89 (by kernel_rfl) rfl #[.slice A0 l0.length c0, .int .i64 0] rfl (zE) ?_; (with_reducible refine (zb7.calls _ _ l0 0 t1132 _ ?side1 ?side2 A5.out).mono ?_); (case side1 => repeat (first | exact HR0.out | (with_reducible refine Kd.zc2 ?_ _) | (with_reducible refine Kd.C_drewN ?_ _) | (with_reducible refine Kd.C_drew ?_))); (case side2 => exact HC0.out); rintro e w' ⟨rfl, ⟨nd, rfl⟩⟩; refine ⟨_, rfl, ?_⟩))
   go_ret2
   exact ⟨zF, by repeat (first | exact Drawn0.refl _ | apply Drawn0.step)⟩
def zb9.f (k : Nat) (a0 : Int) (l1_0 : List Int) (l1_1 : List Int) : Option (Int × Int) := (zcc.f a0).bind fun t1134 => (if t1134 = true then ((zbg.f k l1_0 l1_1).bind fun t1135 => (if t1135 = true then ((zb6.f k 1).bind fun bt1136 => ((zcp.f k l1_0 l1_1 bt1136.1 bt1136.2).bind fun t1142 => (if t1142 > 0 then (some (0, 14)) else ((zb6.f k a0).bind fun bt1143 => ((zb2.f k l1_0 l1_1 bt1143.1 bt1143.2).bind fun bt1149 => ((zbl.f k bt1149.1 bt1149.2).bind fun t1155 => ((nat_Small.f t1155).bind fun bt1158 => (some (mx 1 bt1158.1, 0))))))))) else (some (0, 17)))) else (some (0, 14)))
theorem zb9.mono : ∀ a0 a1 a2 k, LeO (zb9.f k a0 a1 a2) (zb9.f (k + 1) a0 a1 a2) := by
 intro a0 a1 a2 k
 unfold zb9.f
 repeat' first
   | (with_reducible exact zcp.mono _ _ _ _ _)
   | (with_reducible exact zb6.mono _ _)
   | (with_reducible exact zb2.mono _ _ _ _ _)
   | (with_reducible exact zbl.mono _ _ _)
   | (with_reducible exact zbg.mono _ _ _)
   | (with_reducible exact LeO.refl _)
   | (with_reducible exact LeO.none _)
   | (with_reducible refine LeO.ite ?_ ?_)
   | (with_reducible refine LeO.bind ?_ (fun _ => ?_))
   | exact zcp.mono _ _ _ _ _
   | exact zb6.mono _ _
   | exact zb2.mono _ _ _ _ _
   | exact zbl.mono _ _ _
   | exact zbg.mono _ _ _
   | exact LeO.none _
   | refine LeO.ite ?_ ?_
   | refine LeO.bind ?_ (fun _ => ?_)
def zb9.T7 : Bool × List (List Nat × List Nat) := (true, [([], []), ([], []), ([1], [1]), ([0, 2, 2], [0, 2]), ([3, 3], [3]), ([4, 4], [4]), ([5], [5]), ([6], [6]), ([6], [6]), ([7, 5, 0, 1, 2, 3, 4, 5, 6, 7], [7]), ([8, 9, 0, 1, 2, 3, 4, 5, 6, 7, 8, 9], [8])])
def zb9.B7 : List Nat := [0, 0, 2, 7, 15, 31, 63, 127, 127, 255, 1023]
theorem zb9.tab7 : rtab .any (opsOf Tryd.f46 7) = zb9.T7 := by kernel_rfl
theorem zb9.bits7 : waitsOk zb9.T7.2 zb9.B7 = true := by kernel_rfl
theorem zb9.calls (k : Nat) (a0 : Int) (A1_0 : Option Addr) (c1_0 : Nat) (l1_0 : List Int) (A1_1 : Option Addr) (c1_1 : Nat) (l1_1 : List Int) (r1 : Int) (r2 : Int) (w : World) (hr1_0 : Kd.C (Kd.int .u64) w A1_0 l1_0.length l1_0) (hc1_0 : l1_0.length ≤ c1_0) (hr1_1 : Kd.C (Kd.int .u64) w A1_1 l1_1.length l1_1) (hc1_1 : l1_1.length ≤ c1_1) (h : zb9.f k a0 l1_0 l1_1 = some (r1, r2)) :
  Calls Tryd.prog 46 #[.int .i64 a0, .agg #[.slice A1_0 l1_0.length c1_0, .slice A1_1 l1_1.length c1_1]] w fun e w' => e = .returned (.tuple #[.int .i64 r1, .int .i64 r2]) ∧ Below w.heap.size w w' := by
 have hu28 := Tryd.underlying28
 have HR1_0 := zA hr1_0
 have HC1_0 := zA hc1_0
 clear hr1_0 hc1_0
 have HR1_1 := zA hr1_1
 have HC1_1 := zA hc1_1
 clear hr1_1 hc1_1
 have HB := zA (Below.refl w.heap.size w)
 have H : ((zcc.f a0).bind fun t1134 => (if t1134 = true then ((zbg.f k l1_0 l1_1).bind fun t1135 => (if t1135 = true then ((zb6.f k 1).bind fun bt1136 => ((zcp.f k l1_0 l1_1 bt1136.1 bt1136.2).bind fun t1142 => (if t1142 > 0 then (some (0, 14)) else ((zb6.f k a0).bind fun bt1143 => ((zb2.f k l1_0 l1_1 bt1143.1 bt1143.2).bind fun bt1149 => ((zbl.f k bt1149.1 bt1149.2).bind fun t1155 => ((nat_Small.f t1155).bind fun bt1158 => (some (mx 1 bt1158.1, 0))))))))) else (some (0, 17)))) else (some (0, 14)))) = some (r1, r2) := h
 clear h
 replace H := zO H
 obtain ⟨t1134, A30, H⟩ := H
 try dsimp only at H
 have A3 := zA A30
 clear A30
 by_cases c4 : t1134 = true
 ·
  subst c4
  rw [if_pos rfl] at H
  replace H := zO H
  obtain ⟨t1135, A50, H⟩ := H
  try dsimp only at H
  have A5 := zA A50
  clear A50
  by_cases c6 : t1135 = true
  ·
   subst c6
   rw [if_pos rfl] at H
   replace H := zO H
   obtain ⟨⟨t1136, t1139⟩, A70, H⟩ := H
   try dsimp only at H
   have A7 := zA A70
   clear A70
   replace H := zO H
   obtain ⟨t1142, A80, H⟩ := H
   try dsimp only at H
   have A8 := zA A80
   clear A80
   by_cases c9 : t1142 > 0
   ·
    rw [if_pos c9] at H
    have c9b0 : decide (0 < t1142) = true := decide_eq_true c9
    clear c9
    simp only [Option.some.injEq, Prod.mk.injEq] at H
    obtain ⟨rfl, rfl⟩ := H
    go_enter Tryd.func46, Tryd.ntmps46
    try go_wp2_with (first | ((with_reducible refine zbf (N := 3) rfl ?_); refine zbi ?hg (N := 3) ?hd (cs := #[.slice A1_0 l1_0.length c1_0, .slice A1_1 l1_1.length c1_1]) (t := 28) ?hr ?_; (case hd => rfl); (case hg => rfl); (case hr => first | (go_simp; done) | (go_simp; rfl)); intro gb1133 hg w10 hbox hb; have n0_ := zA (zaa (zB HB) hb); have n1_ := zA (hbox); have n2_ := zA ((by rw [hg]; exact (za (zB HB)) : w.heap.size ≤ gb1133)); have n3_ := zA ((by rw [hg]; exact (za (zB HB)) : w.heap.size ≤ gb1133)); clear HB; have HB := n0_; have BK1133 := n1_; have GW1133 := n2_; have GE1133 := n3_; clear n0_ n1_ n2_ n3_ hb hbox hg) | ((with_reducible refine zac (f := 71) rfl ?_); refine za0 (some 10) rfl rfl Tryd.func71 (by kernel_rfl) rfl #[.int .i64 a0] rfl (zE) ?_; (with_reducible refine (zcc.calls a0 true _ A3.out).mono ?_); rintro e w' ⟨rfl, ⟨nd, rfl⟩⟩; refine ⟨_, rfl, ?_⟩; have hcz11_0 : w10.cell? ⟨gb1133, 0, none⟩ = some (.slice A1_0 l1_0.length c1_0) := (zad BK1133.out 0).trans rfl; have hcz11_1 : w10.cell? ⟨gb1133, 1, none⟩ = some (.slice A1_1 l1_1.length c1_1) := (zad BK1133.out 1).trans rfl; have hfz11_0 := zat BK1133.out 0; have hfz11_1 := zat BK1133.out 1) | ((with_reducible refine zac (f := 16) rfl ?_); refine za0 (some 14) rfl rfl Tryd.func16 (by kernel_rfl) rfl #[.agg #[.slice A1_0 l1_0.length c1_0, .slice A1_1 l1_1.length c1_1]] rfl (zE) ?_; (with_reducible refine (zbg.calls k _ _ l1_0 _ _ l1_1 true _ ?side1 ?side2 ?side3 ?side4 A5.out).mono ?_); (case side1 => exact zJ (Kd.za1 HR1_0.out (zB HB))); (case side2 => exact HC1_0.out); (case side3 => exact zJ (Kd.za1 HR1_1.out (zB HB))); (case side4 => exact HC1_1.out); rintro e w12 ⟨rfl, hb⟩; refine ⟨_, rfl, ?_⟩; have n0_ := zA (zai (g := gb1133) (o := .cells #[.slice A1_0 l1_0.length c1_0, .slice A1_1 l1_1.length c1_1] 28 (0, 0)) (zK BK1133) hb); have n1_ := zA (zaa (zB HB) hb); clear BK1133 HB; have BK1133 := n0_; have HB := n1_; clear n0_ n1_; (try clear hb); (try clear hb2); (try clear hk); (try clear hi)))
    have n0_ := zA (zar BK1133.out)
    have n1_ := zA (zbj HB.out)
    clear BK1133 HB
    have BK1133 := n0_
    have HB := n1_
    clear n0_ n1_
    refine start_ (n := 5) (S := fun w' => w'.cell? ⟨gb1133, 0, none⟩ = some (.slice A1_0 l1_0.length c1_0) ∧ w'.cell? ⟨gb1133, 1, none⟩ = some (.slice A1_1 l1_1.length c1_1)) (ds := []) #[false, false, false, false, false] (by kernel_rfl) rfl rfl ⟨(zad BK1133.out 0).trans rfl, (zad BK1133.out 1).trans rfl⟩ (fun hHeld => ?_)
    generalize w12.drew = w13 at BK1133 HB hHeld ⊢
    refine take_ (i := 0) (N := some 17) (v := ?_) (a' := ?_) #[true, false, false, false, false] rfl rfl (by kernel_rfl) (fun _ _ _ h => h) (Or.inl ⟨by rfl, ?_⟩) hHeld ?_ ?_
    rotate_left
    ·
     rintro w' ⟨s0, s1⟩
     go_simp
     with_reducible rfl
    rotate_left
    ·
     simp only [Act.put, zs1, zs2, zs3, i64_w, i32_w]
     rfl
    refine one_ (i := 1) (N := some 18) #[true, true, false, false, false] rfl rfl (by kernel_rfl) (by decide) (fun K hK => ?_)
    refine goes_ Tryd.func22 (by kernel_rfl) rfl #[.int .i64 1] (by rfl) rfl rfl (zE) ?_
    with_reducible refine (zb6.calls k 1 t1136 t1139 _ A7.out).mono ?_
    rintro e w14 ⟨v1137, v1140, rfl, ho0, ho1, hb⟩
    refine ⟨_, rfl, ?_⟩
    have n0_ := zA (Kd.zb (Kd.zas (ok' := fun k_ => k_ ≠ gb1133) ho0 (fun k_ hk_ => (Kd.freshB (g := gb1133) (o := .cells #[.slice A1_0 l1_0.length c1_0, .slice A1_1 l1_1.length c1_1] 28 (0, 0)) (zK BK1133) k_ hk_))) (za (zB HB)))
    have n1_ := zA (Kd.zb (Kd.zas (ok' := fun k_ => k_ ≠ gb1133) ho1 (fun k_ hk_ => (Kd.freshB (g := gb1133) (o := .cells #[.slice A1_0 l1_0.length c1_0, .slice A1_1 l1_1.length c1_1] 28 (0, 0)) (zK BK1133) k_ hk_))) (za (zB HB)))
    have n2_ := zA (zai (g := gb1133) (o := .cells #[.slice A1_0 l1_0.length c1_0, .slice A1_1 l1_1.length c1_1] 28 (0, 0)) (zK BK1133) hb)
    have n3_ := zA (zaa (zB HB) hb)
    clear BK1133 HB
    have HO1138 := n0_
    have HO1141 := n1_
    have BK1133 := n2_
    have HB := n3_
    clear n0_ n1_ n2_ n3_
    (try clear hb)
    (try clear hb2)
    (try clear hk)
    (try clear hi)
    (try clear ho0)
    (try clear ho1)
    obtain ⟨Ao15, co15, eo15⟩ := Kd.za6 HO1138.out
    (first | subst eo15 | (injection eo15 with f1_ f2_ f3_; have f4_ := f1_.symm; have f5_ := f3_.symm; clear f1_ f2_ f3_; subst f4_; subst f5_))
    obtain ⟨Ao16, co16, eo16⟩ := Kd.za6 HO1141.out
    (first | subst eo16 | (injection eo16 with f1_ f2_ f3_; have f4_ := f1_.symm; have f5_ := f3_.symm; clear f1_ f2_ f3_; subst f4_; subst f5_))
    refine hK.out _ _ ⟨(zad BK1133.out 0).trans rfl, (zad BK1133.out 1).trans rfl⟩ (fun hHeld => ?_)
    clear hK K
    refine norm_ (a' := ?_) ?_ ?_
    rotate_left
    ·
     show Act.put _ (some 18) _ = _
     simp only [Act.put, zs1, zs2, zs3, i64_w, i32_w]
     rfl
    refine one_ (i := 2) (N := some 19) #[true, true, true, false, false] rfl rfl (by kernel_rfl) (by decide) (fun K hK => ?_)
    refine goes_ Tryd.func35 (by kernel_rfl) rfl #[.agg #[.slice A1_0 l1_0.length c1_0, .slice A1_1 l1_1.length c1_1], .agg #[.slice Ao15 t1136.length co15, .slice Ao16 t1139.length co16]] (by rfl) rfl rfl (zE) ?_
    with_reducible refine (zcp.calls k _ _ l1_0 _ _ l1_1 _ _ t1136 _ _ t1139 t1142 _ ?side1 ?side2 ?side3 ?side4 ?side5 ?side6 ?side7 ?side8 A8.out).mono ?_
    (case side1 => exact zJ (Kd.za1 HR1_0.out HB.out))
    (case side2 => exact HC1_0.out)
    (case side3 => exact zJ (Kd.za1 HR1_1.out HB.out))
    (case side4 => exact HC1_1.out)
    (case side5 => exact zJ (Kd.zam HO1138.out).2.2)
    (case side6 => exact (Kd.zam HO1138.out).2.1)
    (case side7 => exact zJ (Kd.zam HO1141.out).2.2)
    (case side8 => exact (Kd.zam HO1141.out).2.1)
    rintro e w17 ⟨rfl, hb⟩
    refine ⟨_, rfl, ?_⟩
    have n0_ := zA (Kd.zaw (zV HO1138) hb)
    have n1_ := zA (Kd.zaw (zV HO1141) hb)
    have n2_ := zA (zai (g := gb1133) (o := .cells #[.slice A1_0 l1_0.length c1_0, .slice A1_1 l1_1.length c1_1] 28 (0, 0)) (zK BK1133) hb)
    have n3_ := zA (zaa (zB HB) hb)
    clear HO1138 HO1141 BK1133 HB
    have HO1138 := n0_
    have HO1141 := n1_
    have BK1133 := n2_
    have HB := n3_
    clear n0_ n1_ n2_ n3_
    (try clear hb)
    (try clear hb2)
    (try clear hk)
    (try clear hi)
    refine hK.out _ _ ⟨(zad BK1133.out 0).trans rfl, (zad BK1133.out 1).trans rfl⟩ (fun hHeld => ?_)
    clear hK K
    refine norm_ (a' := ?_) ?_ ?_
    rotate_left
    ·
     show Act.put _ (some 19) _ = _
     simp only [Act.put, zs1, zs2, zs3, i64_w, i32_w]
     rfl
    refine pure_ (i := 3) (N := some 20) (v := ?_) (a' := ?_) #[true, true, true, true, false] rfl rfl (by kernel_rfl) (fun _ _ _ h => h) (Or.inl ⟨by rfl, ?_⟩) ?_ ?_
    rotate_left
    ·
     intro w'
     go_simp
     with_reducible rfl
    rotate_left
    ·
     simp only [Act.put, zs1, zs2, zs3, i64_w, i32_w]
     rfl
    refine pure_ (i := 4) (N := some 16) (v := ?_) (a' := ?_) #[true, true, true, true, true] rfl rfl (by kernel_rfl) (fun _ _ _ h => h) (Or.inl ⟨by rfl, ?_⟩) ?_ ?_
    rotate_left
    ·
     intro w'
     go_simp
     with_reducible rfl
    rotate_left
    ·
     simp only [Act.put, zs1, zs2, zs3, i64_w, i32_w]
     rfl
    refine done_ (by kernel_rfl) ?_
    try go_wp2
    go_ret2
    exact ⟨zW, zB HB⟩
   ·
    rw [if_neg c9] at H
    have c9b0 : decide (0 < t1142) = false := decide_eq_false c9
    clear c9
    replace H := zO H
    obtain ⟨⟨t1143, t1146⟩, A180, H⟩ := H
    try dsimp only at H
    have A18 := zA A180
    clear A180
    replace H := zO H
    obtain ⟨⟨t1149, t1152⟩, A190, H⟩ := H
    try dsimp only at H
    have A19 := zA A190
    clear A190
    replace H := zO H
    obtain ⟨t1155, A200, H⟩ := H
    try dsimp only at H
    have A20 := zA A200
    clear A200
    replace H := zO H
    obtain ⟨⟨t1158, t1159⟩, A210, H⟩ := H
    try dsimp only at H
    have A21 := zA A210
    clear A210
    obtain ⟨ji22, hji22⟩ : ∃ j_ : Int, (mx 1 t1158) = j_ := ⟨_, rfl⟩
    replace H : (some (ji22, 0)) = some (r1, r2) := by first | (rw [hji22] at H; exact H) | (simp only [hji22] at H ⊢; exact H)
    (try rw [hji22] at A3)
    (try rw [hji22] at A5)
    (try rw [hji22] at A7)
    (try rw [hji22] at A8)
    (try rw [hji22] at A18)
    (try rw [hji22] at A19)
    (try rw [hji22] at A20)
    (try rw [hji22] at A21)
    (try (have hji22l : 1 ≤ ji22 := by (rw [← hji22]; unfold mx; (repeat' split) <;> omega)))
    (try (have hji22m : 0 ≤ ji22 := by omega))
    have hji22_ : (if 1 < t1158 then t1158 else 1) = ji22 := hji22
    (try (have hji22n_ := hji22_; simp only [Int.ofNat_lt] at hji22n_))
    simp only [Option.some.injEq, Prod.mk.injEq] at H
    obtain ⟨rfl, rfl⟩ := H
    go_enter Tryd.func46, Tryd.ntmps46
    try go_wp2_with (first | ((with_reducible refine zbf (N := 3) rfl ?_); refine zbi ?hg (N := 3) ?hd (cs := #[.slice A1_0 l1_0.length c1_0, .slice A1_1 l1_1.length c1_1]) (t := 28) ?hr ?_; (case hd => rfl); (case hg => rfl); (case hr => first | (go_simp; done) | (go_simp; rfl)); intro gb1133 hg w23 hbox hb; have n0_ := zA (zaa (zB HB) hb); have n1_ := zA (hbox); have n2_ := zA ((by rw [hg]; exact (za (zB HB)) : w.heap.size ≤ gb1133)); have n3_ := zA ((by rw [hg]; exact (za (zB HB)) : w.heap.size ≤ gb1133)); clear HB; have HB := n0_; have BK1133 := n1_; have GW1133 := n2_; have GE1133 := n3_; clear n0_ n1_ n2_ n3_ hb hbox hg) | ((with_reducible refine zac (f := 71) rfl ?_); refine za0 (some 10) rfl rfl Tryd.func71 (by kernel_rfl) rfl #[.int .i64 a0] rfl (zE) ?_; (with_reducible refine (zcc.calls a0 true _ A3.out).mono ?_); rintro e w' ⟨rfl, ⟨nd, rfl⟩⟩; refine ⟨_, rfl, ?_⟩; have hcz24_0 : w23.cell? ⟨gb1133, 0, none⟩ = some (.slice A1_0 l1_0.length c1_0) := (zad BK1133.out 0).trans rfl; have hcz24_1 : w23.cell? ⟨gb1133, 1, none⟩ = some (.slice A1_1 l1_1.length c1_1) := (zad BK1133.out 1).trans rfl; have hfz24_0 := zat BK1133.out 0; have hfz24_1 := zat BK1133.out 1) | ((with_reducible refine zac (f := 16) rfl ?_); refine za0 (some 14) rfl rfl Tryd.func16 (by kernel_rfl) rfl #[.agg #[.slice A1_0 l1_0.length c1_0, .slice A1_1 l1_1.length c1_1]] rfl (zE) ?_; (with_reducible refine (zbg.calls k _ _ l1_0 _ _ l1_1 true _ ?side1 ?side2 ?side3 ?side4 A5.out).mono ?_); (case side1 => exact zJ (Kd.za1 HR1_0.out (zB HB))); (case side2 => exact HC1_0.out); (case side3 => exact zJ (Kd.za1 HR1_1.out (zB HB))); (case side4 => exact HC1_1.out); rintro e w25 ⟨rfl, hb⟩; refine ⟨_, rfl, ?_⟩; have n0_ := zA (zai (g := gb1133) (o := .cells #[.slice A1_0 l1_0.length c1_0, .slice A1_1 l1_1.length c1_1] 28 (0, 0)) (zK BK1133) hb); have n1_ := zA (zaa (zB HB) hb); clear BK1133 HB; have BK1133 := n0_; have HB := n1_; clear n0_ n1_; (try clear hb); (try clear hb2); (try clear hk); (try clear hi)))
    have n0_ := zA (zar BK1133.out)
    have n1_ := zA (zbj HB.out)
    clear BK1133 HB
    have BK1133 := n0_
    have HB := n1_
    clear n0_ n1_
    refine start_ (n := 5) (S := fun w' => w'.cell? ⟨gb1133, 0, none⟩ = some (.slice A1_0 l1_0.length c1_0) ∧ w'.cell? ⟨gb1133, 1, none⟩ = some (.slice A1_1 l1_1.length c1_1)) (ds := []) #[false, false, false, false, false] (by kernel_rfl) rfl rfl ⟨(zad BK1133.out 0).trans rfl, (zad BK1133.out 1).trans rfl⟩ (fun hHeld => ?_)
    generalize w25.drew = w26 at BK1133 HB hHeld ⊢
    refine take_ (i := 0) (N := some 17) (v := ?_) (a' := ?_) #[true, false, false, false, false] rfl rfl (by kernel_rfl) (fun _ _ _ h => h) (Or.inl ⟨by rfl, ?_⟩) hHeld ?_ ?_
    rotate_left
    ·
     rintro w' ⟨s0, s1⟩
     go_simp
     with_reducible rfl
    rotate_left
    ·
     simp only [Act.put, zs1, zs2, zs3, i64_w, i32_w]
     rfl
    refine one_ (i := 1) (N := some 18) #[true, true, false, false, false] rfl rfl (by kernel_rfl) (by decide) (fun K hK => ?_)
    refine goes_ Tryd.func22 (by kernel_rfl) rfl #[.int .i64 1] (by rfl) rfl rfl (zE) ?_
    with_reducible refine (zb6.calls k 1 t1136 t1139 _ A7.out).mono ?_
    rintro e w27 ⟨v1137, v1140, rfl, ho0, ho1, hb⟩
    refine ⟨_, rfl, ?_⟩
    have n0_ := zA (Kd.zb (Kd.zas (ok' := fun k_ => k_ ≠ gb1133) ho0 (fun k_ hk_ => (Kd.freshB (g := gb1133) (o := .cells #[.slice A1_0 l1_0.length c1_0, .slice A1_1 l1_1.length c1_1] 28 (0, 0)) (zK BK1133) k_ hk_))) (za (zB HB)))
    have n1_ := zA (Kd.zb (Kd.zas (ok' := fun k_ => k_ ≠ gb1133) ho1 (fun k_ hk_ => (Kd.freshB (g := gb1133) (o := .cells #[.slice A1_0 l1_0.length c1_0, .slice A1_1 l1_1.length c1_1] 28 (0, 0)) (zK BK1133) k_ hk_))) (za (zB HB)))
    have n2_ := zA (zai (g := gb1133) (o := .cells #[.slice A1_0 l1_0.length c1_0, .slice A1_1 l1_1.length c1_1] 28 (0, 0)) (zK BK1133) hb)
    have n3_ := zA (zaa (zB HB) hb)
    clear BK1133 HB
    have HO1138 := n0_
    have HO1141 := n1_
    have BK1133 := n2_
    have HB := n3_
    clear n0_ n1_ n2_ n3_
    (try clear hb)
    (try clear hb2)
    (try clear hk)
    (try clear hi)
    (try clear ho0)
    (try clear ho1)
    obtain ⟨Ao28, co28, eo28⟩ := Kd.za6 HO1138.out
    (first | subst eo28 | (injection eo28 with f1_ f2_ f3_; have f4_ := f1_.symm; have f5_ := f3_.symm; clear f1_ f2_ f3_; subst f4_; subst f5_))
    obtain ⟨Ao29, co29, eo29⟩ := Kd.za6 HO1141.out
    (first | subst eo29 | (injection eo29 with f1_ f2_ f3_; have f4_ := f1_.symm; have f5_ := f3_.symm; clear f1_ f2_ f3_; subst f4_; subst f5_))
    refine hK.out _ _ ⟨(zad BK1133.out 0).trans rfl, (zad BK1133.out 1).trans rfl⟩ (fun hHeld => ?_)
    clear hK K
    refine norm_ (a' := ?_) ?_ ?_
    rotate_left
    ·
     show Act.put _ (some 18) _ = _
     simp only [Act.put, zs1, zs2, zs3, i64_w, i32_w]
     rfl
    refine one_ (i := 2) (N := some 19) #[true, true, true, false, false] rfl rfl (by kernel_rfl) (by decide) (fun K hK => ?_)
    refine goes_ Tryd.func35 (by kernel_rfl) rfl #[.agg #[.slice A1_0 l1_0.length c1_0, .slice A1_1 l1_1.length c1_1], .agg #[.slice Ao28 t1136.length co28, .slice Ao29 t1139.length co29]] (by rfl) rfl rfl (zE) ?_
    with_reducible refine (zcp.calls k _ _ l1_0 _ _ l1_1 _ _ t1136 _ _ t1139 t1142 _ ?side1 ?side2 ?side3 ?side4 ?side5 ?side6 ?side7 ?side8 A8.out).mono ?_
    (case side1 => exact zJ (Kd.za1 HR1_0.out HB.out))
    (case side2 => exact HC1_0.out)
    (case side3 => exact zJ (Kd.za1 HR1_1.out HB.out))
    (case side4 => exact HC1_1.out)
    (case side5 => exact zJ (Kd.zam HO1138.out).2.2)
    (case side6 => exact (Kd.zam HO1138.out).2.1)
    (case side7 => exact zJ (Kd.zam HO1141.out).2.2)
    (case side8 => exact (Kd.zam HO1141.out).2.1)
    rintro e w30 ⟨rfl, hb⟩
    refine ⟨_, rfl, ?_⟩
    have n0_ := zA (Kd.zaw (zV HO1138) hb)
    have n1_ := zA (Kd.zaw (zV HO1141) hb)
    have n2_ := zA (zai (g := gb1133) (o := .cells #[.slice A1_0 l1_0.length c1_0, .slice A1_1 l1_1.length c1_1] 28 (0, 0)) (zK BK1133) hb)
    have n3_ := zA (zaa (zB HB) hb)
    clear HO1138 HO1141 BK1133 HB
    have HO1138 := n0_
    have HO1141 := n1_
    have BK1133 := n2_
    have HB := n3_
    clear n0_ n1_ n2_ n3_
    (try clear hb)
    (try clear hb2)
    (try clear hk)
    (try clear hi)
    refine hK.out _ _ ⟨(zad BK1133.out 0).trans rfl, (zad BK1133.out 1).trans rfl⟩ (fun hHeld => ?_)
    clear hK K
    refine norm_ (a' := ?_) ?_ ?_
    rotate_left
    ·
     show Act.put _ (some 19) _ = _
     simp only [Act.put, zs1, zs2, zs3, i64_w, i32_w]
     rfl
    refine pure_ (i := 3) (N := some 20) (v := ?_) (a' := ?_) #[true, true, true, true, false] rfl rfl (by kernel_rfl) (fun _ _ _ h => h) (Or.inl ⟨by rfl, ?_⟩) ?_ ?_
    rotate_left
    ·
     intro w'
     go_simp
     with_reducible rfl
    rotate_left
    ·
     simp only [Act.put, zs1, zs2, zs3, i64_w, i32_w]
     rfl
    refine pure_ (i := 4) (N := some 16) (v := ?_) (a' := ?_) #[true, true, true, true, true] rfl rfl (by kernel_rfl) (fun _ _ _ h => h) (Or.inl ⟨by rfl, ?_⟩) ?_ ?_
    rotate_left
    ·
     intro w'
     go_simp
     with_reducible rfl
    rotate_left
    ·
     simp only [Act.put, zs1, zs2, zs3, i64_w, i32_w]
     rfl
    refine done_ (by kernel_rfl) ?_
    try go_wp2
    have n0_ := zA (Kd.zbz HO1138.out)
    have n1_ := zA (Kd.zbz HO1141.out)
    have n2_ := zA (zar BK1133.out)
    have n3_ := zA (zbj HB.out)
    clear HO1138 HO1141 BK1133 HB
    have HO1138 := n0_
    have HO1141 := n1_
    have BK1133 := n2_
    have HB := n3_
    clear n0_ n1_ n2_ n3_
    refine start_ (n := 11) (S := fun w' => w'.cell? ⟨gb1133, 0, none⟩ = some (.slice A1_0 l1_0.length c1_0) ∧ w'.cell? ⟨gb1133, 1, none⟩ = some (.slice A1_1 l1_1.length c1_1)) (ds := []) #[false, false, false, false, false, false, false, false, false, false, false] (by kernel_rfl) rfl rfl ⟨(zad BK1133.out 0).trans rfl, (zad BK1133.out 1).trans rfl⟩ (fun hHeld => ?_); refine zcw zb9.tab7 zb9.bits7 (fun HT_ HW_ => ?_)
    generalize w30.drew = w31 at HO1138 HO1141 BK1133 HB hHeld ⊢
    refine pure_ (i := 1) (N := some 23) (v := ?_) (a' := ?_) #[false, true, false, false, false, false, false, false, false, false, false] rfl rfl (za5 HT_.out (by kernel_rfl)) (fun _ _ _ h => h) (Or.inl ⟨by rfl, ?_⟩) ?_ ?_
    rotate_left
    ·
     intro w'
     go_simp
     with_reducible rfl
    rotate_left
    ·
     simp only [Act.put, zs1, zs2, zs3, i64_w, i32_w]
     rfl
    refine take_ (i := 0) (N := some 22) (v := ?_) (a' := ?_) #[true, true, false, false, false, false, false, false, false, false, false] rfl rfl (zcf HT_.out HW_.out (by kernel_rfl)) (fun _ _ _ h => h) (Or.inl ⟨by rfl, ?_⟩) hHeld ?_ ?_
    rotate_left
    ·
     rintro w' ⟨s0, s1⟩
     go_simp
     with_reducible rfl
    rotate_left
    ·
     simp only [Act.put, zs1, zs2, zs3, i64_w, i32_w]
     rfl
    refine one_ (i := 2) (N := some 24) #[true, true, true, false, false, false, false, false, false, false, false] rfl rfl (zcg HT_.out (by kernel_rfl)) (by decide) (fun K hK => ?_)
    refine goes_ Tryd.func22 (by kernel_rfl) rfl #[.int .i64 a0] (by rfl) rfl rfl (zE) ?_
    with_reducible refine (zb6.calls k a0 t1143 t1146 _ A18.out).mono ?_
    rintro e w32 ⟨v1144, v1147, rfl, ho0, ho1, hb⟩
    refine ⟨_, rfl, ?_⟩
    have n0_ := zA (Kd.zaw (zV HO1138) hb)
    have n1_ := zA (Kd.zaw (zV HO1141) hb)
    have n2_ := zA (Kd.zb (Kd.zas (ok' := fun k_ => k_ ≠ gb1133) ho0 (fun k_ hk_ => (Kd.freshB (g := gb1133) (o := .cells #[.slice A1_0 l1_0.length c1_0, .slice A1_1 l1_1.length c1_1] 28 (0, 0)) (zK BK1133) k_ hk_))) (za (zB HB)))
    have n3_ := zA (Kd.zb (Kd.zas (ok' := fun k_ => k_ ≠ gb1133) ho1 (fun k_ hk_ => (Kd.freshB (g := gb1133) (o := .cells #[.slice A1_0 l1_0.length c1_0, .slice A1_1 l1_1.length c1_1] 28 (0, 0)) (zK BK1133) k_ hk_))) (za (zB HB)))
    have n4_ := zA (zai (g := gb1133) (o := .cells #[.slice A1_0 l1_0.length c1_0, .slice A1_1 l1_1.length c1_1] 28 (0, 0)) (zK BK1133) hb)
    have n5_ := zA (zaa (zB HB) hb)
    clear HO1138 HO1141 BK1133 HB
    have HO1138 := n0_
    have HO1141 := n1_
    have HO1145 := n2_
    have HO1148 := n3_
    have BK1133 := n4_
    have HB := n5_
    clear n0_ n1_ n2_ n3_ n4_ n5_
    (try clear hb)
    (try clear hb2)
    (try clear hk)
    (try clear hi)
    (try clear ho0)
    (try clear ho1)
    obtain ⟨Ao33, co33, eo33⟩ := Kd.za6 HO1145.out
    (first | subst eo33 | (injection eo33 with f1_ f2_ f3_; have f4_ := f1_.symm; have f5_ := f3_.symm; clear f1_ f2_ f3_; subst f4_; subst f5_))
    obtain ⟨Ao34, co34, eo34⟩ := Kd.za6 HO1148.out
    (first | subst eo34 | (injection eo34 with f1_ f2_ f3_; have f4_ := f1_.symm; have f5_ := f3_.symm; clear f1_ f2_ f3_; subst f4_; subst f5_))
    refine hK.out _ _ ⟨(zad BK1133.out 0).trans rfl, (zad BK1133.out 1).trans rfl⟩ (fun hHeld => ?_)
    clear hK K
    refine norm_ (a' := ?_) ?_ ?_
    rotate_left
    ·
     show Act.put _ (some 24) _ = _
     simp only [Act.put, zs1, zs2, zs3, i64_w, i32_w]
     rfl
    refine one_ (i := 3) (N := some 25) #[true, true, true, true, false, false, false, false, false, false, false] rfl rfl (zcg HT_.out (by kernel_rfl)) (by decide) (fun K hK => ?_)
    refine goes_ Tryd.func29 (by kernel_rfl) rfl #[.agg #[.slice A1_0 l1_0.length c1_0, .slice A1_1 l1_1.length c1_1], .agg #[.slice Ao33 t1143.length co33, .slice Ao34 t1146.length co34]] (by rfl) rfl rfl (zE) ?_
    with_reducible refine (zb2.calls k _ _ l1_0 _ _ l1_1 _ _ t1143 _ _ t1146 t1149 t1152 _ ?side1 ?side2 ?side3 ?side4 ?side5 ?side6 ?side7 ?side8 A19.out).mono ?_
    (case side1 => exact zJ (Kd.za1 HR1_0.out HB.out))
    (case side2 => exact HC1_0.out)
    (case side3 => exact zJ (Kd.za1 HR1_1.out HB.out))
    (case side4 => exact HC1_1.out)
    (case side5 => exact zJ (Kd.zam HO1145.out).2.2)
    (case side6 => exact (Kd.zam HO1145.out).2.1)
    (case side7 => exact zJ (Kd.zam HO1148.out).2.2)
    (case side8 => exact (Kd.zam HO1148.out).2.1)
    rintro e w35 ⟨v1150, v1153, rfl, ho0, ho1, hb⟩
    refine ⟨_, rfl, ?_⟩
    have n0_ := zA (Kd.zaw (zV HO1138) hb)
    have n1_ := zA (Kd.zaw (zV HO1141) hb)
    have n2_ := zA (Kd.zaw (zV HO1145) hb)
    have n3_ := zA (Kd.zaw (zV HO1148) hb)
    have n4_ := zA (Kd.zb (Kd.zas (ok' := fun k_ => k_ ≠ gb1133) ho0 (fun k_ hk_ => (Kd.freshB (g := gb1133) (o := .cells #[.slice A1_0 l1_0.length c1_0, .slice A1_1 l1_1.length c1_1] 28 (0, 0)) (zK BK1133) k_ hk_))) (za (zB HB)))
    have n5_ := zA (Kd.zb (Kd.zas (ok' := fun k_ => k_ ≠ gb1133) ho1 (fun k_ hk_ => (Kd.freshB (g := gb1133) (o := .cells #[.slice A1_0 l1_0.length c1_0, .slice A1_1 l1_1.length c1_1] 28 (0, 0)) (zK BK1133) k_ hk_))) (za (zB HB)))
    have n6_ := zA (zai (g := gb1133) (o := .cells #[.slice A1_0 l1_0.length c1_0, .slice A1_1 l1_1.length c1_1] 28 (0, 0)) (zK BK1133) hb)
    have n7_ := zA (zaa (zB HB) hb)
    clear HO1138 HO1141 HO1145 HO1148 BK1133 HB
    have HO1138 := n0_
    have HO1141 := n1_
    have HO1145 := n2_
    have HO1148 := n3_
    have HO1151 := n4_
    have HO1154 := n5_
    have BK1133 := n6_
    have HB := n7_
    clear n0_ n1_ n2_ n3_ n4_ n5_ n6_ n7_
    (try clear hb)
    (try clear hb2)
    (try clear hk)
    (try clear hi)
    (try clear ho0)
    (try clear ho1)
    obtain ⟨Ao36, co36, eo36⟩ := Kd.za6 HO1151.out
    (first | subst eo36 | (injection eo36 with f1_ f2_ f3_; have f4_ := f1_.symm; have f5_ := f3_.symm; clear f1_ f2_ f3_; subst f4_; subst f5_))
    obtain ⟨Ao37, co37, eo37⟩ := Kd.za6 HO1154.out
    (first | subst eo37 | (injection eo37 with f1_ f2_ f3_; have f4_ := f1_.symm; have f5_ := f3_.symm; clear f1_ f2_ f3_; subst f4_; subst f5_))
    refine hK.out _ _ ⟨(zad BK1133.out 0).trans rfl, (zad BK1133.out 1).trans rfl⟩ (fun hHeld => ?_)
    clear hK K
    refine norm_ (a' := ?_) ?_ ?_
    rotate_left
    ·
     show Act.put _ (some 25) _ = _
     simp only [Act.put, zs1, zs2, zs3, i64_w, i32_w]
     rfl
    refine one_ (i := 4) (N := some 26) #[true, true, true, true, true, false, false, false, false, false, false] rfl rfl (zcg HT_.out (by kernel_rfl)) (by decide) (fun K hK => ?_)
    refine goes_ Tryd.func27 (by kernel_rfl) rfl #[.agg #[.slice Ao36 t1149.length co36, .slice Ao37 t1152.length co37]] (by rfl) rfl rfl (zE) ?_
    with_reducible refine (zbl.calls k _ _ t1149 _ _ t1152 t1155 _ ?side1 ?side2 ?side3 ?side4 A20.out).mono ?_
    (case side1 => exact zJ (Kd.zam HO1151.out).2.2)
    (case side2 => exact (Kd.zam HO1151.out).2.1)
    (case side3 => exact zJ (Kd.zam HO1154.out).2.2)
    (case side4 => exact (Kd.zam HO1154.out).2.1)
    rintro e w38 ⟨v1156, rfl, ho0, hb⟩
    refine ⟨_, rfl, ?_⟩
    have n0_ := zA (Kd.zaw (zV HO1138) hb)
    have n1_ := zA (Kd.zaw (zV HO1141) hb)
    have n2_ := zA (Kd.zaw (zV HO1145) hb)
    have n3_ := zA (Kd.zaw (zV HO1148) hb)
    have n4_ := zA (Kd.zaw (zV HO1151) hb)
    have n5_ := zA (Kd.zaw (zV HO1154) hb)
    have n6_ := zA (Kd.zb (Kd.zas (ok' := fun k_ => k_ ≠ gb1133) ho0 (fun k_ hk_ => (Kd.freshB (g := gb1133) (o := .cells #[.slice A1_0 l1_0.length c1_0, .slice A1_1 l1_1.length c1_1] 28 (0, 0)) (zK BK1133) k_ hk_))) (za (zB HB)))
    have n7_ := zA (zai (g := gb1133) (o := .cells #[.slice A1_0 l1_0.length c1_0, .slice A1_1 l1_1.length c1_1] 28 (0, 0)) (zK BK1133) hb)
    have n8_ := zA (zaa (zB HB) hb)
    clear HO1138 HO1141 HO1145 HO1148 HO1151 HO1154 BK1133 HB
    have HO1138 := n0_
    have HO1141 := n1_
    have HO1145 := n2_
    have HO1148 := n3_
    have HO1151 := n4_
    have HO1154 := n5_
    have HO1157 := n6_
    have BK1133 := n7_
    have HB := n8_
    clear n0_ n1_ n2_ n3_ n4_ n5_ n6_ n7_ n8_
    (try clear hb)
    (try clear hb2)
    (try clear hk)
    (try clear hi)
    (try clear ho0)
    obtain ⟨Ao39, co39, eo39⟩ := Kd.za6 HO1157.out
    (first | subst eo39 | (injection eo39 with f1_ f2_ f3_; have f4_ := f1_.symm; have f5_ := f3_.symm; clear f1_ f2_ f3_; subst f4_; subst f5_))
    refine hK.out _ _ ⟨(zad BK1133.out 0).trans rfl, (zad BK1133.out 1).trans rfl⟩ (fun hHeld => ?_)
    clear hK K
    refine norm_ (a' := ?_) ?_ ?_
    rotate_left
    ·
     show Act.put _ (some 26) _ = _
     simp only [Act.put, zs1, zs2, zs3, i64_w, i32_w]
     rfl
    refine one_ (i := 5) (N := some 27) #[true, true, true, true, true, true, false, false, false, false, false] rfl rfl (zcg HT_.out (by kernel_rfl)) (by decide) (fun K hK => ?_)
    refine goes_ Tryd.func72 (by kernel_rfl) rfl #[.slice Ao39 t1155.length co39] (by rfl) rfl rfl (zE) ?_
    with_reducible refine (nat_Small.calls _ _ t1155 t1158 t1159 _ ?side1 ?side2 A21.out).mono ?_
    (case side1 => exact zJ (Kd.zam HO1157.out).2.2)
    (case side2 => exact (Kd.zam HO1157.out).2.1)
    rintro e w' ⟨rfl, ⟨nd, rfl⟩⟩
    refine ⟨_, rfl, ?_⟩
    refine hK.out _ _ ⟨(zad BK1133.out 0).trans rfl, (zad BK1133.out 1).trans rfl⟩ (fun hHeld => ?_)
    clear hK K
    refine norm_ (a' := ?_) ?_ ?_
    rotate_left
    ·
     show Act.put _ (some 27) _ = _
     simp only [Act.put, zs1, zs2, zs3, i64_w, i32_w]
     rfl
    refine pure_ (i := 6) (N := some 21) (v := ?_) (a' := ?_) #[true, true, true, true, true, true, true, false, false, false, false] rfl rfl (za5 HT_.out (by kernel_rfl)) (fun _ _ _ h => h) (Or.inl ⟨by rfl, ?_⟩) ?_ ?_
    rotate_left
    ·
     intro w'
     go_simp
     with_reducible rfl
    rotate_left
    ·
     simp only [Act.put, zs1, zs2, zs3, i64_w, i32_w]
     rfl
    refine pure_ (i := 7) (N := some 28) (v := ?_) (a' := ?_) #[true, true, true, true, true, true, true, true, false, false, false] rfl rfl (za5 HT_.out (by kernel_rfl)) (fun _ _ _ h => h) (Or.inl ⟨by rfl, ?_⟩) ?_ ?_
    rotate_left
    ·
     intro w'
     go_simp
     with_reducible rfl
    rotate_left
    ·
     simp only [Act.put, zs1, zs2, zs3, i64_w, i32_w]
     rfl
    refine pure_ (i := 8) (N := some 29) (v := ?_) (a' := ?_) #[true, true, true, true, true, true, true, true, true, false, false] rfl rfl (za5 HT_.out (by kernel_rfl)) (fun _ _ _ h => h) (Or.inl ⟨by rfl, ?_⟩) ?_ ?_
    rotate_left
    ·
     intro w'
     go_simp
     with_reducible rfl
    rotate_left
    ·
     simp only [Act.put, zs1, zs2, zs3, i64_w, i32_w]
     rfl
    refine pure_ (i := 9) (N := some 6) (v := ?_) (a' := ?_) #[true, true, true, true, true, true, true, true, true, true, false] rfl rfl (za5 HT_.out (by kernel_rfl)) (fun _ _ _ h => h) (Or.inl ⟨by rfl, ?_⟩) ?_ ?_
    rotate_left
    ·
     intro w'
     go_simp
     with_reducible rfl
    rotate_left
    ·
     simp only [Act.put, zs1, zs2, zs3, i64_w, i32_w]
     rfl
    refine pure_ (i := 10) (N := some 7) (v := ?_) (a' := ?_) #[true, true, true, true, true, true, true, true, true, true, true] rfl rfl (za5 HT_.out (by kernel_rfl)) (fun _ _ _ h => h) (Or.inl ⟨by rfl, ?_⟩) ?_ ?_
    rotate_left
    ·
     intro w'
     go_simp
     with_reducible rfl
    rotate_left
    ·
     simp only [Act.put, zs1, zs2, zs3, i64_w, i32_w]
     rfl
    refine done_ (done_of HT_.out (by kernel_rfl)) ?_
    try go_wp2
    go_ret2
    exact ⟨by first | rfl | (simp [zbs, zbr] <;> rfl) | (simp only [← hji22]; first | rfl | (simp [zbs, zbr] <;> rfl)) | (simp [*, zbs, zbr] <;> rfl), zB HB⟩
  ·
   replace c6 := Bool.eq_false_iff.mpr c6
   subst c6
   rw [if_neg (show ¬ (false = true) by decide)] at H
   simp only [Option.some.injEq, Prod.mk.injEq] at H
   obtain ⟨rfl, rfl⟩ := H
   go_enter Tryd.func46, Tryd.ntmps46
   go_wp2_with (first | ((with_reducible refine zbf (N := 3) rfl ?_); refine zbi ?hg (N := 3) ?hd (cs := #[.slice A1_0 l1_0.length c1_0, .slice A1_1 l1_1.length c1_1]) (t := 28) ?hr ?_; (case hd => rfl); (case hg => rfl); (case hr => first | (go_simp; done) | (go_simp; rfl)); intro gb1133 hg w40 hbox hb; have n0_ := zA (zaa (zB HB) hb); have n1_ := zA (hbox); have n2_ := zA ((by rw [hg]; exact (za (zB HB)) : w.heap.size ≤ gb1133)); have n3_ := zA ((by rw [hg]; exact (za (zB HB)) : w.heap.size ≤ gb1133)); clear HB; have HB := n0_; have BK1133 := n1_; have GW1133 := n2_; have GE1133 := n3_; clear n0_ n1_ n2_ n3_ hb hbox hg) | ((with_reducible refine zac (f := 71) rfl ?_); refine za0 (some 10) rfl rfl Tryd.func71 (by kernel_rfl) rfl #[.int .i64 a0] rfl (zE) ?_; (with_reducible refine (zcc.calls a0 true _ A3.out).mono ?_); rintro e w' ⟨rfl, ⟨nd, rfl⟩⟩; refine ⟨_, rfl, ?_⟩; have hcz41_0 : w40.cell? ⟨gb1133, 0, none⟩ = some (.slice A1_0 l1_0.length c1_0) := (zad BK1133.out 0).trans rfl; have hcz41_1 : w40.cell? ⟨gb1133, 1, none⟩ = some (.slice A1_1 l1_1.length c1_1) := (zad BK1133.out 1).trans rfl; have hfz41_0 := zat BK1133.out 0; have hfz41_1 := zat BK1133.out 1) | ((with_reducible refine zac (f := 16) rfl ?_); refine za0 (some 14) rfl rfl Tryd.func16 (by kernel_rfl) rfl #[.agg #[.slice A1_0 l1_0.length c1_0, .slice A1_1 l1_1.length c1_1]] rfl (zE) ?_; (with_reducible refine (zbg.calls k _ _ l1_0 _ _ l1_1 false _ ?side1 ?side2 ?side3 ?side4 A5.out).mono ?_); (case side1 => exact zJ (Kd.za1 HR1_0.out (zB HB))); (case side2 => exact HC1_0.out); (case side3 => exact zJ (Kd.za1 HR1_1.out (zB HB))); (case side4 => exact HC1_1.out); rintro e w42 ⟨rfl, hb⟩; refine ⟨_, rfl, ?_⟩; have n0_ := zA (zai (g := gb1133) (o := .cells #[.slice A1_0 l1_0.length c1_0, .slice A1_1 l1_1.length c1_1] 28 (0, 0)) (zK BK1133) hb); have n1_ := zA (zaa (zB HB) hb); clear BK1133 HB; have BK1133 := n0_; have HB := n1_; clear n0_ n1_; (try clear hb); (try clear hb2); (try clear hk); (try clear hi)))
   go_ret2
   exact ⟨zW, zB HB⟩
 ·
  replace c4 := Bool.eq_false_iff.mpr c4
  subst c4
  rw [if_neg (show ¬ (false = true) by decide)] at H
  simp only [Option.some.injEq, Prod.mk.injEq] at H
  obtain ⟨rfl, rfl⟩ := H
  go_enter Tryd.func46, Tryd.ntmps46
  go_wp2_with (first | ((with_reducible refine zbf (N := 3) rfl ?_); refine zbi ?hg (N := 3) ?hd (cs := #[.slice A1_0 l1_0.length c1_0, .slice A1_1 l1_1.length c1_1]) (t := 28) ?hr ?_; (case hd => rfl); (case hg => rfl); (case hr => first | (go_simp; done) | (go_simp; rfl)); intro gb1133 hg w43 hbox hb; have n0_ := zA (zaa (zB HB) hb); have n1_ := zA (hbox); have n2_ := zA ((by rw [hg]; exact (za (zB HB)) : w.heap.size ≤ gb1133)); have n3_ := zA ((by rw [hg]; exact (za (zB HB)) : w.heap.size ≤ gb1133)); clear HB; have HB := n0_; have BK1133 := n1_; have GW1133 := n2_; have GE1133 := n3_; clear n0_ n1_ n2_ n3_ hb hbox hg) | ((with_reducible refine zac (f := 71) rfl ?_); refine za0 (some 10) rfl rfl Tryd.func71 (by kernel_rfl) rfl #[.int .i64 a0] rfl (zE) ?_; (with_reducible refine (zcc.calls a0 false _ A3.out).mono ?_); rintro e w' ⟨rfl, ⟨nd, rfl⟩⟩; refine ⟨_, rfl, ?_⟩))
  go_ret2
  exact ⟨zW, zB HB⟩
def zby.l0 : Nat → Int → List Int → List (S28) → Int → Int → Option (List Int × Int)
 | 0, _, _, _, _, _ => none
 | k + 1, x0, x6, x14, x15, x16 => if x16 < x15 then (if 0 ≤ x16 then (if x16 < (x14.length : Int) then ((zb9.f k x0 ((rd_T28 x14 x16).f0) ((rd_T28 x14 x16).f1)).bind fun bt1163 => (if bt1163.2 = 0 then (if x6.length < 17592186044416 then (zby.l0 k x0 (x6 ++ [bt1163.1]) x14 x15 (wrap64 (x16 + 1))) else (none)) else (some (([] : List Int), bt1163.2)))) else (none)) else (none)) else (some (x6, 0))
def zby.f (k : Nat) (a0 : Int) (l1 : List (S28)) : Option (List Int × Int) := (zcc.f a0).bind fun t1160 => (if t1160 = true then (zby.l0 k a0 ([] : List Int) l1 (l1.length : Int) 0) else (some (([] : List Int), 14)))
theorem zby.zcj : ∀ k, (∀ y0 y1 y2 y3 y4, LeO (zby.l0 k y0 y1 y2 y3 y4) (zby.l0 (k + 1) y0 y1 y2 y3 y4))
 | 0 => fun _ _ _ _ _ r h => by simp [zby.l0] at h
 | k + 1 => by
  have ih0 := zby.zcj k
  ·
   intro y0 y1 y2 y3 y4
   unfold zby.l0
   repeat' first
   | (with_reducible exact ih0 _ _ _ _ _)
   | (with_reducible exact zb9.mono _ _ _ _)
   | (with_reducible exact LeO.refl _)
   | (with_reducible exact LeO.none _)
   | (with_reducible refine LeO.ite ?_ ?_)
   | (with_reducible refine LeO.bind ?_ (fun _ => ?_))
   | exact ih0 _ _ _ _ _
   | exact zb9.mono _ _ _ _
   | exact LeO.none _
   | refine LeO.ite ?_ ?_
   | refine LeO.bind ?_ (fun _ => ?_)
theorem zby.mono : ∀ a0 a1 k, LeO (zby.f k a0 a1) (zby.f (k + 1) a0 a1) := by
 intro a0 a1 k
 have ih0 := zby.zcj k
 unfold zby.f
 repeat' first
   | (with_reducible exact ih0 _ _ _ _ _)
   | (with_reducible exact zb9.mono _ _ _ _)
   | (with_reducible exact LeO.refl _)
   | (with_reducible exact LeO.none _)
   | (with_reducible refine LeO.ite ?_ ?_)
   | (with_reducible refine LeO.bind ?_ (fun _ => ?_))
   | exact ih0 _ _ _ _ _
   | exact zb9.mono _ _ _ _
   | exact LeO.none _
   | refine LeO.ite ?_ ?_
   | refine LeO.bind ?_ (fun _ => ?_)
theorem zby.calls (k : Nat) (a0 : Int) (A1 : Option Addr) (c1 : Nat) (l1 : List (S28)) (r1 : List Int) (r2 : Int) (w : World) (hr1 : Kd.C k28 w A1 l1.length l1) (hc1 : l1.length ≤ c1) (h : zby.f k a0 l1 = some (r1, r2)) :
  Calls Tryd.prog 48 #[.int .i64 a0, .slice A1 l1.length c1] w fun e w' => ∃ v0_ : Value, e = .returned (.tuple #[v0_, .int .i64 r2]) ∧ Kd.R (Kd.int .i64) 3 w' w.heap.size (fun _ => True) v0_ r1 ∧ Below w.heap.size w w' := by
 have hu28 := Tryd.underlying28
 have HR1 := zA hr1
 have HC1 := zA hc1
 clear hr1 hc1
 have HB := zA (Below.refl w.heap.size w)
 have H : ((zcc.f a0).bind fun t1160 => (if t1160 = true then (zby.l0 k a0 ([] : List Int) l1 (l1.length : Int) 0) else (some (([] : List Int), 14)))) = some (r1, r2) := h
 clear h
 replace H := zO H
 obtain ⟨t1160, A30, H⟩ := H
 try dsimp only at H
 have A3 := zA A30
 clear A30
 by_cases c4 : t1160 = true
 ·
  subst c4
  rw [if_pos rfl] at H
  have H' := zA H
  clear H
  go_enter Tryd.func48, Tryd.ntmps48
  go_wp2_with (first | ((with_reducible refine zac (f := 71) rfl ?_); refine za0 (some 12) rfl rfl Tryd.func71 (by kernel_rfl) rfl #[.int .i64 a0] rfl (zE) ?_; (with_reducible refine (zcc.calls a0 true _ A3.out).mono ?_); rintro e w' ⟨rfl, ⟨nd, rfl⟩⟩; refine ⟨_, rfl, ?_⟩))
  go_loopg [6, 16] k (fun kq v6 v16 w' => ∃ (x6_1 : List Int) (x16_1 : Int), v16 = .int .i64 x16_1 ∧ Aside0 (zby.l0 kq a0 x6_1 l1 (l1.length : Int) x16_1 = some (r1, r2)) ∧ Aside0 (kq ≤ k) ∧ Aside0 (Kd.R (Kd.int .i64) 3 w' w.heap.size (fun _ => True) v6 x6_1) ∧ Aside0 (Below w.heap.size w w'))
  case atStart => exact ⟨(([] : List Int)), (0), (zF), H', ⟨Nat.le_refl _⟩, ⟨by first | exact Kd.R_nil _ _ _ _ _ | exact Kd.N_nil _ _ _ _ _ | exact Kd.V_nil _ _ _ _ _ | exact Kd.Q_nil _ _ _ _ _ | exact Kd.S_nil _ _ _ _ _⟩, ⟨zB HB⟩⟩
  case round =>
   clear H'
   try clear c1
   try clear p2
   try clear c4
   obtain ⟨x6_1, x16_1, rfl, HA, HK1, HO_6, HB⟩ := hrel
   cases gk with
   | zero => exact absurd HA.out (by simp [zby.l0])
   | succ k1 =>
    have H := HA.out
    clear HA
    simp only [zby.l0] at H
    by_cases c5 : x16_1 < (l1.length : Int)
    ·
     rw [if_pos c5] at H
     have c5b0 : decide (x16_1 < (l1.length : Int)) = true := decide_eq_true c5
     clear c5
     by_cases c6 : 0 ≤ x16_1
     ·
      rw [if_pos c6] at H
      have c6b0 : decide (0 ≤ x16_1) = true := decide_eq_true c6
      clear c6
      by_cases c7 : x16_1 < (l1.length : Int)
      ·
       rw [if_pos c7] at H
       have c7b0 : decide (x16_1 < (l1.length : Int)) = true := decide_eq_true c7
       clear c7
       replace H := zO H
       obtain ⟨⟨t1163, t1164⟩, A80, H⟩ := H
       try dsimp only at H
       have A8 := zA A80
       clear A80
       by_cases c9 : t1164 = 0
       ·
        rw [if_pos c9] at H
        have c9b0 : (t1164 == 0) = true := beq_iff_eq.mpr c9
        have c9b1 : (t1164 != 0) = false := bne_eq_false_iff_eq.mpr c9
        clear c9
        by_cases c10 : x6_1.length < 17592186044416
        ·
         rw [if_pos c10] at H
         have LMc10 := zA c10
         clear c10
         obtain ⟨y1165, hy1165⟩ : ∃ y_ : List Int, y_ = (x6_1 ++ [t1163]) := ⟨_, rfl⟩
         replace H : (zby.l0 k1 a0 y1165 l1 (l1.length : Int) (wrap64 (x16_1 + 1))) = some (r1, r2) := by first | (rw [hy1165]; with_reducible exact H) | (have H2_ := (Option.bind_some _ _).symm.trans H; rw [hy1165]; with_reducible exact H2_) | (have H2_ := (Option.bind_some _ _).symm.trans H; with_reducible exact H2_) | with_reducible exact H | (rw [hy1165]; exact H) | exact H
         have Ny1165 := zA hy1165
         clear hy1165
         have H' := zA H
         clear H
         have p1161 : 0 ≤ (x16_1 : Int) := of_decide_eq_true (by first | (with_reducible assumption) | assumption)
         have q1161 : x16_1 < (l1.length : Int) := of_decide_eq_true (by first | (with_reducible assumption) | assumption)
         obtain ⟨ad1161, A1161_0, c1161_0, A1161_1, c1161_1, e1161, hx1161_0, hx1161_1, hl1161_0, hi1161_0, hl1161_1, hi1161_1⟩ := at_T28 HR1.out x16_1 p1161 q1161
         cases e1161
         replace hx1161_0 := (HB.out.cell (World.block_lt_of_cell? w _ hx1161_0)).trans hx1161_0
         replace hx1161_1 := (HB.out.cell (World.block_lt_of_cell? w _ hx1161_1)).trans hx1161_1
         have HR1161_0 := zA hi1161_0
         have HC1161_0 := zA hl1161_0
         clear hi1161_0 hl1161_0
         have HR1161_1 := zA hi1161_1
         have HC1161_1 := zA hl1161_1
         clear hi1161_1 hl1161_1
         replace p1161 := eq_true p1161
         replace q1161 := eq_true q1161
         go_wp2_with (first | ((with_reducible refine zbf (N := 8) rfl ?_); refine zbi ?hg (N := 8) ?hd (cs := #[.slice none 0 0, .slice none 0 0]) (t := 28) ?hr ?_; (case hd => rfl); (case hg => rfl); (case hr => first | (go_simp; done) | (go_simp; rfl)); intro gb1162 hg w11 hbox hb; have n0_ := zA (Kd.zb5 (zR HO_6) hb); have n1_ := zA (zaa (zB HB) hb); have n2_ := zA (hbox); have n3_ := zA ((by rw [hg]; exact (za (zB HB)) : w.heap.size ≤ gb1162)); have n4_ := zA ((by rw [hg]; exact (za (zB HB)) : w.heap.size ≤ gb1162)); clear HO_6 HB; have HO_6 := n0_; have HB := n1_; have BK1162 := n2_; have GW1162 := n3_; have GE1162 := n4_; clear n0_ n1_ n2_ n3_ n4_ hb hbox hg; have hcz12_0 : w11.cell? ⟨gb1162, 0, none⟩ = some (.slice none 0 0) := (zad BK1162.out 0).trans rfl; have hcz12_1 : w11.cell? ⟨gb1162, 1, none⟩ = some (.slice none 0 0) := (zad BK1162.out 1).trans rfl; have hfz12_0 := zat BK1162.out 0; have hfz12_1 := zat BK1162.out 1) | ((with_reducible refine zac (f := 46) rfl ?_); refine za0 (some 23) rfl rfl Tryd.func46 (by kernel_rfl) rfl #[.int .i64 a0, .agg #[.slice A1161_0 ((rd_T28 l1 x16_1).f0).length c1161_0, .slice A1161_1 ((rd_T28 l1 x16_1).f1).length c1161_1]] rfl (zE) ?_; (with_reducible refine (zb9.calls k1 a0 _ _ ((rd_T28 l1 x16_1).f0) _ _ ((rd_T28 l1 x16_1).f1) t1163 t1164 _ ?side1 ?side2 ?side3 ?side4 A8.out).mono ?_); (case side1 => exact Kd.za1 HR1161_0.out (zB HB)); (case side2 => exact HC1161_0.out); (case side3 => exact Kd.za1 HR1161_1.out (zB HB)); (case side4 => exact HC1161_1.out); rintro e w13 ⟨rfl, hb⟩; refine ⟨_, rfl, ?_⟩; have n0_ := zA (Kd.zb5 (by (with_reducible repeat (first | apply Kd.zca | apply Kd.zcb | apply Kd.zcn)); exact (Kd.zbn (Kd.R_far (p := ⟨gb1162, 1, none⟩) (Kd.R_far (p := ⟨gb1162, 0, none⟩) (Kd.R_types HO_6.out BK1162.out (by decide)) (fun _ hk => hk.2) (.slice A1161_0 ((rd_T28 l1 x16_1).f0).length c1161_0)) (fun _ hk => hk.2) (.slice A1161_1 ((rd_T28 l1 x16_1).f1).length c1161_1)) (fun _ h_ => h_.1))) hb); have n1_ := zA (zai (g := gb1162) (o := .cells #[.slice A1161_0 ((rd_T28 l1 x16_1).f0).length c1161_0, .slice A1161_1 ((rd_T28 l1 x16_1).f1).length c1161_1] 28 (0, 0)) (by (with_reducible repeat (first | refine zao ?_ _ | refine zar ?_ | refine zah ?_ _)); refine zbu (cs := #[.slice A1161_0 ((rd_T28 l1 x16_1).f0).length c1161_0, .slice none 0 0]) ?_ 1 _ rfl; (with_reducible repeat (first | refine zao ?_ _ | refine zar ?_ | refine zah ?_ _)); refine zbu (cs := #[.slice none 0 0, .slice none 0 0]) ?_ 0 _ rfl; (with_reducible repeat (first | refine zao ?_ _ | refine zar ?_ | refine zah ?_ _)); exact BK1162.out) hb); have n2_ := zA (zaa (zB HB) hb); clear HO_6 BK1162 HB; have HO_6 := n0_; have BK1162 := n1_; have HB := n2_; clear n0_ n1_ n2_; (try clear hb); (try clear hb2); (try clear hk); (try clear hi)) | ((with_reducible refine zbx (b := .append) (xs := #[.tmp 29, .tmp 31]) rfl ?_); at_builtin; refine Kd.zcu (Kd.int .i64) (w0 := w) w.heap.size rfl (.tmp 29) (.tmp 31) 30 3 (.int .i64 0) 8 rfl Tryd.underlying30 info3 rfl (by decide) (by omega) u6 x6_1 t1163 [.int .i64 t1163] (fun _ => True) (fun _ => False) rfl rfl ?aP (fun _ hk => hk.elim) ?aF ?aO ?aB ?aS ?aL ?_; (case aP => exact rfl); (case aB => exact (zB HB)); (case aF => exact (fun _ _ => trivial)); (case aO => exact (zR HO_6)); (case aS => exact (za (zB HB))); (case aL => have := LMc10.out; omega); intro v1166 w14 ho hb hg hat; rw [← Ny1165.out] at ho; have n0_ := zA (blk_grown (g := gb1162) (o := .cells #[.slice A1161_0 ((rd_T28 l1 x16_1).f0).length c1161_0, .slice A1161_1 ((rd_T28 l1 x16_1).f1).length c1161_1] 28 (0, 0)) (zK BK1162) hg (Kd.R_ne HO_6.out BK1162.out (by decide))); have n1_ := zA (hb); have n2_ := zA (ho); clear BK1162 HB HO_6; have BK1162 := n0_; have HB := n1_; have HO1167 := n2_; clear n0_ n1_ n2_ ho hb hg hat))
         go_roundg k1
         case measure => have := HK1.out; omega
         case rel => exact ⟨(y1165), (wrap64 (x16_1 + 1)), (zF), H', ⟨by have := HK1.out; omega⟩, ⟨zR HO1167⟩, ⟨zB HB⟩⟩
        ·
         rw [if_neg c10] at H
         exact absurd H (by simp)
       ·
        rw [if_neg c9] at H
        have c9b0 : (t1164 == 0) = false := beq_eq_false_iff_ne.mpr c9
        have c9b1 : (t1164 != 0) = true := bne_iff_ne.mpr c9
        simp only [Option.some.injEq, Prod.mk.injEq] at H
        obtain ⟨rfl, rfl⟩ := H
        have p1161 : 0 ≤ (x16_1 : Int) := of_decide_eq_true (by first | (with_reducible assumption) | assumption)
        have q1161 : x16_1 < (l1.length : Int) := of_decide_eq_true (by first | (with_reducible assumption) | assumption)
        obtain ⟨ad1161, A1161_0, c1161_0, A1161_1, c1161_1, e1161, hx1161_0, hx1161_1, hl1161_0, hi1161_0, hl1161_1, hi1161_1⟩ := at_T28 HR1.out x16_1 p1161 q1161
        cases e1161
        replace hx1161_0 := (HB.out.cell (World.block_lt_of_cell? w _ hx1161_0)).trans hx1161_0
        replace hx1161_1 := (HB.out.cell (World.block_lt_of_cell? w _ hx1161_1)).trans hx1161_1
        have HR1161_0 := zA hi1161_0
        have HC1161_0 := zA hl1161_0
        clear hi1161_0 hl1161_0
        have HR1161_1 := zA hi1161_1
        have HC1161_1 := zA hl1161_1
        clear hi1161_1 hl1161_1
        replace p1161 := eq_true p1161
        replace q1161 := eq_true q1161
        go_wp2_with (first | ((with_reducible refine zbf (N := 8) rfl ?_); refine zbi ?hg (N := 8) ?hd (cs := #[.slice none 0 0, .slice none 0 0]) (t := 28) ?hr ?_; (case hd => rfl); (case hg => rfl); (case hr => first | (go_simp; done) | (go_simp; rfl)); intro gb1162 hg w15 hbox hb; have n0_ := zA (Kd.zb5 (zR HO_6) hb); have n1_ := zA (zaa (zB HB) hb); have n2_ := zA (hbox); have n3_ := zA ((by rw [hg]; exact (za (zB HB)) : w.heap.size ≤ gb1162)); have n4_ := zA ((by rw [hg]; exact (za (zB HB)) : w.heap.size ≤ gb1162)); clear HO_6 HB; have HO_6 := n0_; have HB := n1_; have BK1162 := n2_; have GW1162 := n3_; have GE1162 := n4_; clear n0_ n1_ n2_ n3_ n4_ hb hbox hg; have hcz16_0 : w15.cell? ⟨gb1162, 0, none⟩ = some (.slice none 0 0) := (zad BK1162.out 0).trans rfl; have hcz16_1 : w15.cell? ⟨gb1162, 1, none⟩ = some (.slice none 0 0) := (zad BK1162.out 1).trans rfl; have hfz16_0 := zat BK1162.out 0; have hfz16_1 := zat BK1162.out 1) | ((with_reducible refine zac (f := 46) rfl ?_); refine za0 (some 23) rfl rfl Tryd.func46 (by kernel_rfl) rfl #[.int .i64 a0, .agg #[.slice A1161_0 ((rd_T28 l1 x16_1).f0).length c1161_0, .slice A1161_1 ((rd_T28 l1 x16_1).f1).length c1161_1]] rfl (zE) ?_; (with_reducible refine (zb9.calls k1 a0 _ _ ((rd_T28 l1 x16_1).f0) _ _ ((rd_T28 l1 x16_1).f1) t1163 t1164 _ ?side1 ?side2 ?side3 ?side4 A8.out).mono ?_); (case side1 => exact Kd.za1 HR1161_0.out (zB HB)); (case side2 => exact HC1161_0.out); (case side3 => exact Kd.za1 HR1161_1.out (zB HB)); (case side4 => exact HC1161_1.out); rintro e w17 ⟨rfl, hb⟩; refine ⟨_, rfl, ?_⟩; have n0_ := zA (Kd.zb5 (by (with_reducible repeat (first | apply Kd.zca | apply Kd.zcb | apply Kd.zcn)); exact (Kd.zbn (Kd.R_far (p := ⟨gb1162, 1, none⟩) (Kd.R_far (p := ⟨gb1162, 0, none⟩) (Kd.R_types HO_6.out BK1162.out (by decide)) (fun _ hk => hk.2) (.slice A1161_0 ((rd_T28 l1 x16_1).f0).length c1161_0)) (fun _ hk => hk.2) (.slice A1161_1 ((rd_T28 l1 x16_1).f1).length c1161_1)) (fun _ h_ => h_.1))) hb); have n1_ := zA (zai (g := gb1162) (o := .cells #[.slice A1161_0 ((rd_T28 l1 x16_1).f0).length c1161_0, .slice A1161_1 ((rd_T28 l1 x16_1).f1).length c1161_1] 28 (0, 0)) (by (with_reducible repeat (first | refine zao ?_ _ | refine zar ?_ | refine zah ?_ _)); refine zbu (cs := #[.slice A1161_0 ((rd_T28 l1 x16_1).f0).length c1161_0, .slice none 0 0]) ?_ 1 _ rfl; (with_reducible repeat (first | refine zao ?_ _ | refine zar ?_ | refine zah ?_ _)); refine zbu (cs := #[.slice none 0 0, .slice none 0 0]) ?_ 0 _ rfl; (with_reducible repeat (first | refine zao ?_ _ | refine zar ?_ | refine zah ?_ _)); exact BK1162.out) hb); have n2_ := zA (zaa (zB HB) hb); clear HO_6 BK1162 HB; have HO_6 := n0_; have BK1162 := n1_; have HB := n2_; clear n0_ n1_ n2_; (try clear hb); (try clear hb2); (try clear hk); (try clear hi)))
        go_ret2
        exact ⟨_, zW, by first | exact Kd.R_nil _ _ _ _ _ | exact Kd.N_nil _ _ _ _ _ | exact Kd.V_nil _ _ _ _ _ | exact Kd.Q_nil _ _ _ _ _ | exact Kd.S_nil _ _ _ _ _, zB HB⟩
      ·
       rw [if_neg c7] at H
       exact absurd H (by simp)
     ·
      rw [if_neg c6] at H
      exact absurd H (by simp)
    ·
     rw [if_neg c5] at H
     have c5b0 : decide (x16_1 < (l1.length : Int)) = false := decide_eq_false c5
     clear c5
     simp only [Option.some.injEq, Prod.mk.injEq] at H
     obtain ⟨rfl, rfl⟩ := H
     go_wp2
     go_ret2
     exact ⟨_, zW, zR HO_6, zB HB⟩
 ·
  replace c4 := Bool.eq_false_iff.mpr c4
  subst c4
  rw [if_neg (show ¬ (false = true) by decide)] at H
  simp only [Option.some.injEq, Prod.mk.injEq] at H
  obtain ⟨rfl, rfl⟩ := H
  go_enter Tryd.func48, Tryd.ntmps48
  go_wp2_with (first | ((with_reducible refine zac (f := 71) rfl ?_); refine za0 (some 12) rfl rfl Tryd.func71 (by kernel_rfl) rfl #[.int .i64 a0] rfl (zE) ?_; (with_reducible refine (zcc.calls a0 false _ A3.out).mono ?_); rintro e w' ⟨rfl, ⟨nd, rfl⟩⟩; refine ⟨_, rfl, ?_⟩))
  go_ret2
  exact ⟨_, zW, by first | exact Kd.R_nil _ _ _ _ _ | exact Kd.N_nil _ _ _ _ _ | exact Kd.V_nil _ _ _ _ _ | exact Kd.Q_nil _ _ _ _ _ | exact Kd.S_nil _ _ _ _ _, zB HB⟩
def zbm.f (k : Nat) : Option Bool := (za4.f k (⟨#[49, 47, 51]⟩ : ByteArray)).bind fun r => (za4.f k (⟨#[49, 47, 50, 48]⟩ : ByteArray)).bind fun s => (zby.f k 10 [⟨r.1, r.2.1⟩, ⟨s.1, s.2.1⟩]).bind fun l => if l = ([3, 1], 0) then some true else none
theorem zbm.mono : ∀ k, LeO (zbm.f k) (zbm.f (k + 1)) := by
 intro k
 unfold zbm.f
 exact LeO.bind (za4.mono _ _) (fun r => LeO.bind (za4.mono _ _) (fun s => LeO.bind (zby.mono _ _ _) (fun _ => LeO.refl _)))
theorem k28_row {w : World} {g : Nat} {A0 A1 A2 A3 : Option Addr} {c0 c1 c2 c3 : Nat} {l0 l1 l2 l3 : List Int} {t : Nat} (hb : w.heap[g]? = some (.cells #[.slice A0 l0.length c0, .slice A1 l1.length c1, .slice A2 l2.length c2, .slice A3 l3.length c3] t (0, 0)))
  (h0 : l0.length ≤ c0 ∧ Kd.C (Kd.int .u64) w A0 l0.length l0) (h1 : l1.length ≤ c1 ∧ Kd.C (Kd.int .u64) w A1 l1.length l1) (h2 : l2.length ≤ c2 ∧ Kd.C (Kd.int .u64) w A2 l2.length l2) (h3 : l3.length ≤ c3 ∧ Kd.C (Kd.int .u64) w A3 l3.length l3) :
  Kd.C k28 w (some ⟨g, 0, none⟩) 2 [⟨l0, l1⟩, ⟨l2, l3⟩] := by
 refine ⟨rfl, by omega, fun _ => ⟨_, rfl, fun j p hj => ?_⟩⟩
 match j, hj with
 | 0, hj =>
  simp at hj
  subst hj
  refine ⟨[.slice A0 l0.length c0, .slice A1 l1.length c1], rfl, ⟨[.slice A0 l0.length c0], [.slice A1 l1.length c1], rfl, ⟨A0, c0, rfl, h0.1, h0.2⟩, ⟨A1, c1, rfl, h1.1, h1.2⟩⟩, fun i u hu => ?_⟩
  match i, hu with
  | 0, hu => exact (zad hb 0).trans hu
  | 1, hu => exact (zad hb 1).trans hu
 | 1, hj =>
  simp at hj
  subst hj
  refine ⟨[.slice A2 l2.length c2, .slice A3 l3.length c3], rfl, ⟨[.slice A2 l2.length c2], [.slice A3 l3.length c3], rfl, ⟨A2, c2, rfl, h2.1, h2.2⟩, ⟨A3, c3, rfl, h3.1, h3.2⟩⟩, fun i u hu => ?_⟩
  match i, hu with
  | 0, hu => exact (zad hb 2).trans hu
  | 1, hu => exact (zad hb 3).trans hu
theorem zbm.calls (k : Nat) (r : Bool) (w : World) (hG : Glob w) (h : zbm.f k = some r) :
  Calls Tryd.prog 45 #[] w fun e w' => e = .returned (.bool r) ∧ Below w.heap.size w w' := by
 unfold zbm.f at h
 obtain ⟨r1, e1, h⟩ := zO h
 obtain ⟨r2, e2, h⟩ := zO h
 obtain ⟨l, e3, h⟩ := zO h
 split at h
 ·
  rename_i hl
  subst hl
  injection h with h
  subst h
  obtain ⟨p1, p2, p3⟩ := r1
  obtain ⟨q1, q2, q3⟩ := r2
  have E1 := zA e1
  have E2 := zA e2
  have E3 := zA e3
  have HG := zA hG
  clear e1 e2 e3 hG
  go_enter Tryd.func45, Tryd.ntmps45
  go_wp2_with fail
  go_at_call 40
  refine (za4.calls k _ p1 p2 p3 _ HG.out E1.out).mono ?_
  rintro e w1 ⟨v0, v1, rfl, ho0, ho1, hb⟩
  obtain ⟨A0, c0, rfl⟩ := Kd.za6 ho0
  obtain ⟨A1, c1, rfl⟩ := Kd.za6 ho1
  have HO0 := zA (Kd.zam ho0)
  have HO1 := zA (Kd.zam ho1)
  have HB := zA hb
  have HG1 := zA (Glob.below HG.out hb)
  clear ho0 ho1 hb
  go_wp2_with fail
  go_at_call 40
  refine (za4.calls k _ q1 q2 q3 _ (Glob.below HG1.out (zax (Below.refl _ _) _)) E2.out).mono ?_
  rintro e w2 ⟨v2, v3, rfl, ho2, ho3, hb2⟩
  obtain ⟨A2, c2, rfl⟩ := Kd.za6 ho2
  obtain ⟨A3, c3, rfl⟩ := Kd.za6 ho3
  have BK1 := zA (zai (blk_new w1 (.cells #[.slice A0 p1.length c0, .slice A1 p2.length c1] 28)) hb2)
  have HO2 := zA (Kd.zam ho2)
  have HO3 := zA (Kd.zam ho3)
  have HB2 := zA (zaa (zax HB.out (.cells #[.slice A0 p1.length c0, .slice A1 p2.length c1] 28)) hb2)
  have C0 := zA (Kd.za1 (Kd.zc2 HO0.out.2.2 (.cells #[.slice A0 p1.length c0, .slice A1 p2.length c1] 28)) hb2)
  have C1 := zA (Kd.za1 (Kd.zc2 HO1.out.2.2 (.cells #[.slice A0 p1.length c0, .slice A1 p2.length c1] 28)) hb2)
  have hs1 : w1.heap.size < w2.heap.size := zbq BK1.out
  have B0 := zA (zah BK1.out (.cells #[.slice A2 q1.length c2, .slice A3 q2.length c3] 28))
  have e0 := (zad B0.out 0).trans rfl
  have e1 := (zad B0.out 1).trans rfl
  have B1 := zA (blk_new w2 (.cells #[.slice A2 q1.length c2, .slice A3 q2.length c3] 28))
  have e2 := (zad B1.out 0).trans rfl
  have e3 := (zad B1.out 1).trans rfl
  clear ho2 ho3 hb2 hs1
  have B3 : Aside0 (((w2.alloc (.cells #[.slice A2 q1.length c2, .slice A3 q2.length c3] 28)).alloc (.cells #[.slice A0 p1.length c0, .slice A1 p2.length c1, .slice A2 q1.length c2, .slice A3 q2.length c3] 28)).heap[w2.heap.size + 1]? = some (.cells #[.slice A0 p1.length c0, .slice A1 p2.length c1, .slice A2 q1.length c2, .slice A3 q2.length c3] 28 (0, 0))) := ⟨by
   have := blk_new (w2.alloc (.cells #[.slice A2 q1.length c2, .slice A3 q2.length c3] 28)) (.cells #[.slice A0 p1.length c0, .slice A1 p2.length c1, .slice A2 q1.length c2, .slice A3 q2.length c3] 28)
   rwa [show (w2.alloc (.cells #[.slice A2 q1.length c2, .slice A3 q2.length c3] 28)).heap.size = w2.heap.size + 1 by simp] at this⟩
  go_wp2_with fail
  go_at_call 48
  refine (zby.calls k 10 (some ⟨w2.heap.size + 1, 0, none⟩) 2 [⟨p1, p2⟩, ⟨q1, q2⟩] [3, 1] 0 _ (k28_row B3.out ⟨HO0.out.2.1, Kd.zc2 (Kd.zc2 C0.out _) _⟩ ⟨HO1.out.2.1, Kd.zc2 (Kd.zc2 C1.out _) _⟩ ⟨HO2.out.2.1, Kd.zc2 (Kd.zc2 HO2.out.2.2 _) _⟩ ⟨HO3.out.2.1, Kd.zc2 (Kd.zc2 HO3.out.2.2 _) _⟩) (Nat.le_refl _) E3.out).mono ?_
  rintro e w3 ⟨v4, rfl, ho4, hb4⟩
  have hb5 := zA (zaa (zax (zax HB2.out _) _) hb4)
  obtain ⟨g, cap, rfl, _, _, cells, hcells⟩ := Kd.R_form ho4 (by decide)
  have f0 := (Kd.R_cell (0 : Int) ho4 0 (by decide) (by decide)).1
  have f1 := (Kd.R_cell (0 : Int) ho4 1 (by decide) (by decide)).1
  have g0 : w3.cell? ⟨g, 0, none⟩ = some (.int .i64 3) := f0
  have g1 : w3.cell? ⟨g, 1, none⟩ = some (.int .i64 1) := f1
  clear f0 f1 hcells ho4 hb4 e0 e1 e2 e3
  go_wp2
  go_ret
  exact ⟨rfl, hb5.out⟩
 ·
  cases h
end Go.Proofs.YtfjkamhcabckeaaDoor.P
end
