-- Written by a program of this session (wip/tools/shake.py) out of its own texts and of the kit's printed ones; not trusted: Lean checks it.
import Derived.Test.YthiicmanfpmipaaGreatDoorZFillCaps3
set_option maxHeartbeats 8000000
set_option maxRecDepth 100000
set_option linter.unusedVariables false
set_option linter.unusedSimpArgs false
section
namespace Go.Proofs.YthiicmanfpmipaaGreatDoor.P
open Go.RowKit Go.Proofs.YthiicmanfpmipaaGreatDoorW.PrintWords Go.Proofs.YthiicmanfpmipaaGreatDoorW.PrintLast Go.Proofs.YthiicmanfpmipaaGreatDoorW.PrintMore
attribute [local go_sem] zcf zci zcu zct zb6 zb2 zch zce
section Div64
theorem u64w (x : Int) : IntKind.u64.wrap x = x % 18446744073709551616 := rfl
theorem u64s {x : Int} (h0 : 0 ≤ x) (h1 : x < 18446744073709551616) : IntKind.u64.wrap x = x := by rw [u64w]; omega
structure Guess (y y1 y0 u u0 q r : Int) : Prop where
 hy : y = y1 * 4294967296 + y0
 hy1 : 2147483648 ≤ y1
 hy1' : y1 < 4294967296
 hy0 : 0 ≤ y0
 hy0' : y0 < 4294967296
 hu0 : 0 ≤ u0
 hu0' : u0 < 4294967296
 hu : 0 ≤ u
 hu' : u < y
 hq : 0 ≤ q
 hr : 0 ≤ r
 eq : q * y1 + r = u
 ge : (u * 4294967296 + u0) / y ≤ q
theorem Guess.small {y y1 y0 u u0 q r : Int} (g : Guess y y1 y0 u u0 q r) : q ≤ 4294967297 ∧ 0 ≤ q * y0 ∧ q * y0 ≤ 4294967297 * 4294967295 := by
 obtain ⟨hy, hy1, hy1', hy0, hy0', hu0, hu0', hu, hu', hq, hr, eq, ge⟩ := g
 have h1 : q ≤ 4294967297 := by
  rcases Int.lt_or_le 4294967297 q with h | h
  ·
   exfalso
   have h2 : 4294967298 * y1 ≤ q * y1 := Int.mul_le_mul_of_nonneg_right (by omega) (by omega)
   omega
  ·
   exact h
 refine ⟨h1, Int.mul_nonneg hq hy0, ?_⟩
 exact Int.le_trans (Int.mul_le_mul_of_nonneg_right h1 hy0) (Int.mul_le_mul_of_nonneg_left (by omega) (by omega))
theorem Guess.prod {y y1 y0 u u0 q r : Int} (g : Guess y y1 y0 u u0 q r) : q * y = (u - r) * 4294967296 + q * y0 := by
 rw [g.hy, Int.mul_add, ← Int.mul_assoc, show q * y1 = u - r by have := g.eq; omega]
theorem Guess.pos {y y1 y0 u u0 q r : Int} (g : Guess y y1 y0 u u0 q r) : 0 < y := by
 have := g.hu; have := g.hu'; omega
theorem Guess.fit {y y1 y0 u u0 q r : Int} (g : Guess y y1 y0 u u0 q r) (h : q * y0 ≤ 4294967296 * r + u0) : q = (u * 4294967296 + u0) / y := by
 have h1 : q * y ≤ u * 4294967296 + u0 := by rw [g.prod]; omega
 exact Int.le_antisymm ((Int.le_ediv_iff_mul_le g.pos).2 h1) g.ge
theorem Guess.less {y y1 y0 u u0 q r : Int} (g : Guess y y1 y0 u u0 q r) (h : q ≥ 4294967296 ∨ q * y0 > 4294967296 * r + u0) : Guess y y1 y0 u u0 (q - 1) (r + y1) := by
 have hlt : (u * 4294967296 + u0) / y < q := by
  rcases h with h | h
  ·
   refine Int.lt_of_lt_of_le ((Int.ediv_lt_iff_lt_mul g.pos).2 ?_) h
   have := g.hu'; have := g.hu0'
   omega
  ·
   refine (Int.ediv_lt_iff_lt_mul g.pos).2 ?_
   rw [g.prod]; omega
 have h0 : 0 ≤ (u * 4294967296 + u0) / y := Int.ediv_nonneg (by have := g.hu; have := g.hu0; omega) (Int.le_of_lt g.pos)
 refine ⟨g.hy, g.hy1, g.hy1', g.hy0, g.hy0', g.hu0, g.hu0', g.hu, g.hu', by omega, by have := g.hr; have := g.hy1; omega, ?_, by omega⟩
 rw [Int.sub_mul, Int.one_mul]
 have := g.eq
 omega
theorem Guess.last {y y1 y0 u u0 q r : Int} (g : Guess y y1 y0 u u0 q r) (hq : q ≤ 4294967296) (hr : 4294967296 ≤ r) : q = (u * 4294967296 + u0) / y := by
 refine g.fit ?_
 have := g.hu0
 have h1 : q * y0 ≤ 4294967296 * 4294967295 := Int.le_trans (Int.mul_le_mul_of_nonneg_right hq g.hy0) (Int.mul_le_mul_of_nonneg_left (by have := g.hy0'; omega) (by omega))
 omega
theorem Guess.first {y y1 y0 u u0 : Int} (hy : y = y1 * 4294967296 + y0) (hy1 : 2147483648 ≤ y1) (hy1' : y1 < 4294967296) (hy0 : 0 ≤ y0) (hy0' : y0 < 4294967296) (hu0 : 0 ≤ u0) (hu0' : u0 < 4294967296) (hu : 0 ≤ u) (hu' : u < y) : Guess y y1 y0 u u0 (u / y1) (u % y1) := by
 have hp : 0 < y1 := by omega
 have e := Int.mul_ediv_add_emod u y1
 refine ⟨hy, hy1, hy1', hy0, hy0', hu0, hu0', hu, hu', Int.ediv_nonneg hu (by omega), Int.emod_nonneg _ (by omega), by rw [Int.mul_comm]; exact e, ?_⟩
 have hq := Int.ediv_nonneg hu (Int.le_of_lt hp)
 have hm := Int.emod_lt_of_pos u hp
 refine Int.le_of_lt_add_one ((Int.ediv_lt_iff_lt_mul (by omega)).2 ?_)
 rw [Int.add_mul, Int.one_mul]
 have e2 : u / y1 * y = (u - u % y1) * 4294967296 + u / y1 * y0 := by
  rw [hy, Int.mul_add, ← Int.mul_assoc, show u / y1 * y1 = u - u % y1 by rw [Int.mul_comm]; omega]
 have h2 := Int.mul_nonneg hq hy0
 omega
theorem div64_l0s (k : Nat) (x2 x8 x9 x10 x11 x13 x14 x15 x16 : Int) : zao.l0 (k + 1) x2 x8 x9 x10 x11 x13 x14 x15 x16 = if x15 ≥ 4294967296 then (zao.j1 k x2 x8 x9 x10 x11 x13 x14 x15 x16 true) else (zao.j1 k x2 x8 x9 x10 x11 x13 x14 x15 x16 (decide ((IntKind.u64.wrap (x15 * x10)) > (IntKind.u64.wrap ((IntKind.u64.wrap (4294967296 * x16)) + x13))))) := by rw [zao.l0]
theorem div64_j1s (k : Nat) (x2 x8 x9 x10 x11 x13 x14 x15 x16 : Int) (b : Bool) : zao.j1 (k + 1) x2 x8 x9 x10 x11 x13 x14 x15 x16 b = if b = true then (if (IntKind.u64.wrap (x16 + x9)) ≥ 4294967296 then (zao.j2 k x2 x8 x9 x10 x11 x13 x14 (IntKind.u64.wrap (x15 - 1))) else (zao.l0 k x2 x8 x9 x10 x11 x13 x14 (IntKind.u64.wrap (x15 - 1)) (IntKind.u64.wrap (x16 + x9)))) else (zao.j2 k x2 x8 x9 x10 x11 x13 x14 x15) := by rw [zao.j1]
theorem div64_l0 (y y1 y0 u u1 u0 s : Int) : ∀ (n k : Nat) (q r : Int), Guess y y1 y0 u u1 q r → r < 4294967296 → 4294967296 ≤ r + n * y1 →
  ∃ k', k ≤ k' ∧ zao.l0 (k + 2 * n) y s y1 y0 u u1 u0 q r = zao.j2 k' y s y1 y0 u u1 u0 ((u * 4294967296 + u1) / y)
 | 0, k, q, r, g, hr, hn => by exfalso; simp at hn; omega
 | n + 1, k, q, r, g, hr, hn => by
  obtain ⟨b1, b2, b3⟩ := g.small
  have hg0 := g.hr
  have hq0 := g.hq
  have hu := g.hu0; have hu' := g.hu0'; have hy := g.hy1; have hy' := g.hy1'
  have e1 : IntKind.u64.wrap (q * y0) = q * y0 := u64s b2 (by omega)
  have e2 : IntKind.u64.wrap (4294967296 * r) = 4294967296 * r := u64s (by omega) (by omega)
  have e3 : IntKind.u64.wrap (4294967296 * r + u1) = 4294967296 * r + u1 := u64s (by omega) (by omega)
  have e4 : IntKind.u64.wrap (r + y1) = r + y1 := u64s (by omega) (by omega)
  have hstep : ∀ m, zao.l0 (m + 2) y s y1 y0 u u1 u0 q r = if q ≥ 4294967296 ∨ q * y0 > 4294967296 * r + u1 then (if r + y1 ≥ 4294967296 then zao.j2 m y s y1 y0 u u1 u0 (IntKind.u64.wrap (q - 1)) else zao.l0 m y s y1 y0 u u1 u0 (IntKind.u64.wrap (q - 1)) (r + y1)) else zao.j2 m y s y1 y0 u u1 u0 q := by
   intro m
   rw [show m + 2 = (m + 1) + 1 from rfl]
   rw [div64_l0s]
   by_cases h1 : q ≥ 4294967296
   ·
    rw [if_pos h1, if_pos (.inl h1)]
    rw [div64_j1s, if_pos rfl, e4]
   ·
    rw [if_neg h1, e1, e2, e3]
    rw [div64_j1s]
    by_cases h2 : q * y0 > 4294967296 * r + u1
    ·
     have hor : q ≥ 4294967296 ∨ q * y0 > 4294967296 * r + u1 := .inr h2
     rw [decide_eq_true h2, if_pos rfl, if_pos hor, e4]
    ·
     rw [decide_eq_false h2, if_neg (by simp), if_neg (by omega)]
  rw [show k + 2 * (n + 1) = (k + 2 * n) + 2 by omega, hstep]
  by_cases hc : q ≥ 4294967296 ∨ q * y0 > 4294967296 * r + u1
  ·
   rw [if_pos hc]
   have g' := g.less hc
   have h0 := g'.hq
   rw [u64s h0 (by omega)]
   by_cases h3 : r + y1 ≥ 4294967296
   ·
    rw [if_pos h3, g'.last (by omega) h3]
    exact ⟨_, by omega, rfl⟩
   ·
    rw [if_neg h3]
    exact div64_l0 y y1 y0 u u1 u0 s n k (q - 1) (r + y1) g' (by omega) (by
     rw [Int.natCast_add, Int.add_mul] at hn
     omega)
  ·
   rw [if_neg hc, ← g.fit (by omega)]
   exact ⟨_, by omega, rfl⟩
def div64Out (s y u15 v : Int) (u0 q : Int) : Int × Int := (IntKind.u64.wrap (IntKind.u64.wrap (u15 * 4294967296) + q), shr .u64 (IntKind.u64.wrap (IntKind.u64.wrap (IntKind.u64.wrap (v * 4294967296) + u0) - IntKind.u64.wrap (q * y))) s)
theorem div64_l1s (k : Nat) (x2 x8 x9 x10 x14 x15 x16 x17 x18 : Int) : zao.l1 (k + 1) x2 x8 x9 x10 x14 x15 x16 x17 x18 = if x18 ≥ 4294967296 then (zao.j4 k x2 x8 x9 x10 x14 x15 x16 x17 x18 true) else (zao.j4 k x2 x8 x9 x10 x14 x15 x16 x17 x18 (decide ((IntKind.u64.wrap (x18 * x10)) > (IntKind.u64.wrap ((IntKind.u64.wrap (4294967296 * x16)) + x14))))) := by rw [zao.l1]
theorem div64_j4s (k : Nat) (x2 x8 x9 x10 x14 x15 x16 x17 x18 : Int) (b : Bool) : zao.j4 (k + 1) x2 x8 x9 x10 x14 x15 x16 x17 x18 b = if b = true then (if (IntKind.u64.wrap (x16 + x9)) ≥ 4294967296 then (if 0 ≤ x8 then some (div64Out x8 x2 x15 x17 x14 (IntKind.u64.wrap (x18 - 1))) else none) else (zao.l1 k x2 x8 x9 x10 x14 x15 (IntKind.u64.wrap (x16 + x9)) x17 (IntKind.u64.wrap (x18 - 1)))) else (if 0 ≤ x8 then some (div64Out x8 x2 x15 x17 x14 x18) else none) := by rw [zao.j4]; rfl
theorem div64_l1 (y y1 y0 u u0 s d : Int) (hs : 0 ≤ s) : ∀ (n k : Nat) (q r : Int), Guess y y1 y0 u u0 q r → r < 4294967296 → 4294967296 ≤ r + n * y1 →
  zao.l1 (k + 2 * n) y s y1 y0 u0 d r u q = some (div64Out s y d u u0 ((u * 4294967296 + u0) / y))
 | 0, k, q, r, g, hr, hn => by exfalso; simp at hn; omega
 | n + 1, k, q, r, g, hr, hn => by
  obtain ⟨b1, b2, b3⟩ := g.small
  have hg0 := g.hr
  have hq0 := g.hq
  have hu := g.hu0; have hu' := g.hu0'; have hy := g.hy1; have hy' := g.hy1'
  have e1 : IntKind.u64.wrap (q * y0) = q * y0 := u64s b2 (by omega)
  have e2 : IntKind.u64.wrap (4294967296 * r) = 4294967296 * r := u64s (by omega) (by omega)
  have e3 : IntKind.u64.wrap (4294967296 * r + u0) = 4294967296 * r + u0 := u64s (by omega) (by omega)
  have e4 : IntKind.u64.wrap (r + y1) = r + y1 := u64s (by omega) (by omega)
  have hstep : ∀ m, zao.l1 (m + 2) y s y1 y0 u0 d r u q = if q ≥ 4294967296 ∨ q * y0 > 4294967296 * r + u0 then (if r + y1 ≥ 4294967296 then some (div64Out s y d u u0 (IntKind.u64.wrap (q - 1))) else zao.l1 m y s y1 y0 u0 d (r + y1) u (IntKind.u64.wrap (q - 1))) else some (div64Out s y d u u0 q) := by
   intro m
   rw [show m + 2 = (m + 1) + 1 from rfl]
   rw [div64_l1s]
   by_cases h1 : q ≥ 4294967296
   ·
    rw [if_pos h1, if_pos (.inl h1)]
    rw [div64_j4s, if_pos rfl, e4, if_pos hs]
   ·
    rw [if_neg h1, e1, e2, e3]
    rw [div64_j4s, if_pos hs]
    by_cases h2 : q * y0 > 4294967296 * r + u0
    ·
     have hor : q ≥ 4294967296 ∨ q * y0 > 4294967296 * r + u0 := .inr h2
     rw [decide_eq_true h2, if_pos rfl, if_pos hor, e4]
    ·
     have hor : ¬ (q ≥ 4294967296 ∨ q * y0 > 4294967296 * r + u0) := by omega
     rw [decide_eq_false h2, if_neg (by simp), if_pos hs, if_neg hor]
  rw [show k + 2 * (n + 1) = (k + 2 * n) + 2 by omega, hstep]
  by_cases hc : q ≥ 4294967296 ∨ q * y0 > 4294967296 * r + u0
  ·
   rw [if_pos hc]
   have g' := g.less hc
   have h0 := g'.hq
   rw [u64s h0 (by omega)]
   by_cases h3 : r + y1 ≥ 4294967296
   ·
    rw [if_pos h3, g'.last (by omega) h3]
   ·
    rw [if_neg h3]
    exact div64_l1 y y1 y0 u u0 s d hs n k (q - 1) (r + y1) g' (by omega) (by
     rw [Int.natCast_add, Int.add_mul] at hn
     omega)
  ·
   rw [if_neg hc, ← g.fit (by omega)]
theorem and32 {y : Int} (h0 : 0 ≤ y) (h1 : y < 18446744073709551616) : Go.bits .and .u64 y 4294967295 = y % 4294967296 := by
 obtain ⟨n, rfl⟩ := Int.eq_ofNat_of_zero_le h0
 have e : (BitVec.ofInt 64 (n : Int) &&& BitVec.ofInt 64 4294967295).toNat = n % 4294967296 := by
  have e1 : (BitVec.ofInt 64 (n : Int)).toNat = n := by
   rw [BitVec.toNat_ofInt]
   omega
  have e2 : (BitVec.ofInt 64 4294967295).toNat = 2 ^ 32 - 1 := by decide
  rw [BitVec.toNat_and, e1, e2, Nat.and_two_pow_sub_one_eq_mod]
 show IntKind.u64.wrap (((BitVec.ofInt 64 (n : Int) &&& BitVec.ofInt 64 4294967295).toNat : Nat) : Int) = _
 rw [e, u64s (by omega) (by omega)]
 omega
theorem orAdd {a b s : Nat} (h0 : b < 2 ^ s) (h1 : 2 ^ s * a + b < 18446744073709551616) : Go.bits .or .u64 ((2 ^ s * a : Nat) : Int) (b : Int) = ((2 ^ s * a + b : Nat) : Int) := by
 have e1 : ∀ n : Nat, n < 18446744073709551616 → (BitVec.ofInt 64 (n : Int)).toNat = n := fun n hn => by
  rw [BitVec.toNat_ofInt]
  omega
 show IntKind.u64.wrap (((BitVec.ofInt 64 ((2 ^ s * a : Nat) : Int) ||| BitVec.ofInt 64 (b : Int)).toNat : Nat) : Int) = _
 rw [BitVec.toNat_or, e1 _ (by omega), e1 _ (by omega), ← Nat.two_pow_add_eq_or_of_lt h0, u64s (by omega) (by omega)]
theorem div64_out (y u q0 s u0 r1 : Int) (hy : 0 < y) (hu0 : 0 ≤ u0) (h : u * 4294967296 + u0 - q0 * y = r1) (hr0 : 0 ≤ r1) (hr1 : r1 < y) (hy1 : y < 18446744073709551616) :
  IntKind.u64.wrap (IntKind.u64.wrap (IntKind.u64.wrap (u * 4294967296) + u0) - IntKind.u64.wrap (q0 * y)) = r1 := by
 rw [u64w, u64w, u64w, u64w, ← h]
 have : 0 ≤ u * 4294967296 + u0 - q0 * y := by omega
 have : u * 4294967296 + u0 - q0 * y < 18446744073709551616 := by omega
 omega
theorem two_digits (y N : Int) (u0 : Int) (hy : 0 < y) (hN : 0 ≤ N) (hu0 : 0 ≤ u0) (hu0' : u0 < 4294967296) : (N * 4294967296 + u0) / y = N / y * 4294967296 + (N % y * 4294967296 + u0) / y ∧ (N * 4294967296 + u0) % y = (N % y * 4294967296 + u0) % y := by
 have e := Int.mul_ediv_add_emod N y
 have e2 : N * 4294967296 + u0 = (N % y * 4294967296 + u0) + y * (N / y * 4294967296) := by
  rw [← Int.mul_assoc]
  omega
 refine ⟨?_, ?_⟩
 ·
  rw [e2, Int.add_mul_ediv_left _ _ (by omega)]
  omega
 ·
  rw [e2, Int.add_mul_emod_self_left]
theorem lead_spec (a : Int) (h0 : 0 < a) (h1 : a < 18446744073709551616) : ∃ s : Nat, s ≤ 63 ∧ bits_LeadingZeros64.f a = some (s : Int) ∧ 9223372036854775808 ≤ a * 2 ^ s ∧ a * 2 ^ s < 18446744073709551616 := by
 obtain ⟨n, rfl⟩ := Int.eq_ofNat_of_zero_le (Int.le_of_lt h0)
 obtain ⟨b1, b2, b3⟩ := Lib.bitLenAux_bounds 64 n (by omega) (by omega)
 have b4 := Lib.bitLen_le n 64 (by omega) (by omega)
 have hb : Lib.bitLen n = Lib.bitLenAux 64 n := rfl
 rw [← hb] at b1 b2 b3
 have hf : bits_LeadingZeros64.f (n : Int) = some ((64 - Lib.bitLen n : Nat) : Int) := by
  unfold bits_LeadingZeros64.f bits_Len64.f
  rw [if_pos (by omega), if_pos (by omega)]
  show some (wrap64 (64 - ((Lib.bitLen (n : Int).toNat : Nat) : Int))) = _
  rw [Int.toNat_natCast]
  congr 1
  unfold wrap64
  omega
 refine ⟨64 - Lib.bitLen n, by omega, hf, ?_, ?_⟩
 ·
  have h2 : 2 ^ (Lib.bitLen n - 1) * 2 ^ (64 - Lib.bitLen n) ≤ n * 2 ^ (64 - Lib.bitLen n) := Nat.mul_le_mul_right _ b2
  rw [← Nat.pow_add, show Lib.bitLen n - 1 + (64 - Lib.bitLen n) = 63 by omega] at h2
  have h3 : ((n * 2 ^ (64 - Lib.bitLen n) : Nat) : Int) = (n : Int) * 2 ^ (64 - Lib.bitLen n) := by simp
  omega
 ·
  have h2 : n * 2 ^ (64 - Lib.bitLen n) < 2 ^ Lib.bitLen n * 2 ^ (64 - Lib.bitLen n) := Nat.mul_lt_mul_of_pos_right b3 (Nat.two_pow_pos _)
  rw [← Nat.pow_add, show Lib.bitLen n + (64 - Lib.bitLen n) = 64 by omega] at h2
  have h3 : ((n * 2 ^ (64 - Lib.bitLen n) : Nat) : Int) = (n : Int) * 2 ^ (64 - Lib.bitLen n) := by simp
  omega
theorem div64_tail (k : Nat) (y N u0 : Int) (s : Nat) (hy : 9223372036854775808 ≤ y) (hy' : y < 18446744073709551616) (hN : 0 ≤ N) (hNy : N < y * 4294967296) (hu0 : 0 ≤ u0) (hu0' : u0 < 4294967296) (hs : s ≤ 63) :
  zao.j2 (k + 5) y s (y / 4294967296) (y % 4294967296) (N / 4294967296) (N % 4294967296) u0 (N / y) = some ((N * 4294967296 + u0) / y, (N * 4294967296 + u0) % y / 2 ^ s) := by
 have hp : 0 < y := by omega
 have hq0 : 0 ≤ N / y := Int.ediv_nonneg hN (by omega)
 have hq1 : N / y < 4294967296 := (Int.ediv_lt_iff_lt_mul hp).2 (by rw [Int.mul_comm]; exact hNy)
 have hr0 : 0 ≤ N % y := Int.emod_nonneg _ (by omega)
 have hr1 : N % y < y := Int.emod_lt_of_pos _ hp
 have eN := Int.mul_ediv_add_emod N y
 have h21 : IntKind.u64.wrap (IntKind.u64.wrap (IntKind.u64.wrap (N / 4294967296 * 4294967296) + N % 4294967296) - IntKind.u64.wrap (N / y * y)) = N % y :=
  div64_out y (N / 4294967296) (N / y) 0 (N % 4294967296) (N % y) hp (by omega) (by rw [Int.mul_comm (N / y)]; omega) hr0 hr1 hy'
 rw [show k + 5 = (k + 4) + 1 from rfl, zao.j2, if_neg (by omega)]
 have g := Guess.first (y := y) (y1 := y / 4294967296) (y0 := y % 4294967296) (u := N % y) (u0 := u0) (by omega) (by omega) (by omega) (by omega) (by omega) hu0 hu0' hr0 hr1
 have hq3 := g.hq
 have hq4 := g.small.1
 have hy1 : 0 < y / 4294967296 := by omega
 have hm1 := Int.emod_lt_of_pos (N % y) hy1
 have hm0 := g.hr
 have hge := g.eq
 have et : IntKind.u64.wrap (Int.tdiv (N % y) (y / 4294967296)) = N % y / (y / 4294967296) := by
  rw [Int.tdiv_eq_ediv_of_nonneg hr0]
  exact u64s hq3 (by omega)
 have er : IntKind.u64.wrap (N % y - IntKind.u64.wrap (N % y / (y / 4294967296) * (y / 4294967296))) = N % y % (y / 4294967296) := by
  have e5 : IntKind.u64.wrap (N % y / (y / 4294967296) * (y / 4294967296)) = N % y / (y / 4294967296) * (y / 4294967296) := u64s (Int.mul_nonneg hq3 (by omega)) (by omega)
  rw [e5, show N % y - N % y / (y / 4294967296) * (y / 4294967296) = N % y % (y / 4294967296) by omega]
  exact u64s hm0 (by omega)
 rw [h21, et, er, show k + 4 = k + 2 * 2 from rfl]
 rw [div64_l1 y (y / 4294967296) (y % 4294967296) (N % y) u0 s (N / y) (by omega) 2 k _ _ g (by omega) (by omega)]
 obtain ⟨t1, t2⟩ := two_digits y N u0 hp hN hu0 hu0'
 have d0 : 0 ≤ (N % y * 4294967296 + u0) / y := Int.ediv_nonneg (by omega) (by omega)
 have d1 : (N % y * 4294967296 + u0) / y < 4294967296 := (Int.ediv_lt_iff_lt_mul hp).2 (by omega)
 have e6 := Int.mul_ediv_add_emod (N % y * 4294967296 + u0) y
 have e7 : 0 ≤ (N % y * 4294967296 + u0) % y := Int.emod_nonneg _ (by omega)
 have e8 : (N % y * 4294967296 + u0) % y < y := Int.emod_lt_of_pos _ hp
 unfold div64Out
 rw [div64_out y (N % y) _ 0 u0 ((N % y * 4294967296 + u0) % y) hp hu0 (by rw [Int.mul_comm (_ / y)]; omega) e7 e8 hy', t1, t2]
 congr 2
 ·
  rw [u64s (x := N / y * 4294967296) (by omega) (by omega)]
  exact u64s (by omega) (by omega)
 ·
  unfold shr
  rw [show min ((s : Int)).toNat IntKind.u64.bits = s by simp [IntKind.bits]; omega]
theorem div64_spec (k : Nat) (a0 a1 a2 : Int) (h0 : 0 ≤ a0) (h2 : a0 < a2) (h3 : a2 < 18446744073709551616) (h4 : 0 ≤ a1) (h5 : a1 < 18446744073709551616) (hk : 16 ≤ k) :
  zao.f k a0 a1 a2 = some ((a0 * 18446744073709551616 + a1) / a2, (a0 * 18446744073709551616 + a1) % a2) := by
 unfold zao.f
 rw [if_neg (by omega), if_neg (by omega)]
 by_cases hz : a0 = 0
 ·
  subst hz
  have h6 : 0 ≤ a1 / a2 := Int.ediv_nonneg h4 (by omega)
  have h7 : a1 / a2 ≤ a1 := Int.ediv_le_self _ h4
  rw [if_pos rfl, Int.tdiv_eq_ediv_of_nonneg h4, Int.tmod_eq_emod_of_nonneg h4, u64s h6 (by omega)]
  simp
 ·
  rw [if_neg hz]
  obtain ⟨s, hs, he, hl, hu⟩ := lead_spec a2 (by omega) h3
  rw [he]
  have e1 : IntKind.u64.wrap (s : Int) = s := u64s (by omega) (by omega)
  have e2 : IntKind.u64.wrap (64 - (s : Int)) = 64 - s := u64s (by omega) (by omega)
  have hmin : min ((s : Int)).toNat IntKind.u64.bits = s := by simp [IntKind.bits] <;> omega
  have hmin2 : min (64 - (s : Int)).toNat IntKind.u64.bits = 64 - s := by simp [IntKind.bits] <;> omega
  have ey : shl .u64 a2 (s : Int) = a2 * 2 ^ s := by
   unfold shl
   rw [hmin]
   exact u64s (by omega) hu
  have hP : (0 : Int) < 2 ^ s := Int.pow_pos (by omega)
  have ex : shl .u64 a0 (s : Int) = a0 * 2 ^ s := by
   have := Int.mul_lt_mul_of_pos_right h2 hP
   unfold shl
   rw [hmin]
   exact u64s (Int.mul_nonneg h0 (by omega)) (by omega)
  have ez : shr .u64 a1 (64 - (s : Int)) = a1 / 2 ^ (64 - s) := by
   unfold shr
   rw [hmin2]
  have ew : shl .u64 a1 (s : Int) = a1 * 2 ^ s % 18446744073709551616 := by
   unfold shl
   rw [hmin, u64w]
  have hsplit : (2 : Int) ^ (64 - s) * 2 ^ s = 18446744073709551616 := by
   rw [← Int.pow_add, show 64 - s + s = 64 by omega]
   decide
  have hQ : (0 : Int) < 2 ^ (64 - s) := Int.pow_pos (by omega)
  have hd : a1 * 2 ^ s / 18446744073709551616 = a1 / 2 ^ (64 - s) := by
   rw [← hsplit]
   exact Int.mul_ediv_mul_of_pos_left _ _ hP
  have hhi : a1 / 2 ^ (64 - s) < 2 ^ s := (Int.ediv_lt_iff_lt_mul hQ).2 (by rw [Int.mul_comm, hsplit]; exact h5)
  have hhi0 : 0 ≤ a1 / 2 ^ (64 - s) := Int.ediv_nonneg h4 (by omega)
  have hU : a0 * 2 ^ s + a1 / 2 ^ (64 - s) < a2 * 2 ^ s := by
   have := Int.mul_le_mul_of_nonneg_right (show a0 + 1 ≤ a2 by omega) (Int.le_of_lt hP)
   rw [Int.add_mul] at this
   omega
  have eor : Go.bits .or .u64 (a0 * 2 ^ s) (a1 / 2 ^ (64 - s)) = a0 * 2 ^ s + a1 / 2 ^ (64 - s) := by
   obtain ⟨x, hx⟩ := Int.eq_ofNat_of_zero_le h0
   obtain ⟨z, hz'⟩ := Int.eq_ofNat_of_zero_le hhi0
   have c1 : ((2 ^ s * x : Nat) : Int) = a0 * 2 ^ s := by rw [hx]; simp [Int.mul_comm]
   have c2 : ((2 ^ s : Nat) : Int) = 2 ^ s := by simp
   have := @orAdd x z s (by omega) (by omega)
   rw [c1] at this
   rw [hz', this]
   omega
  have hw0 : 0 ≤ a1 * 2 ^ s % 18446744073709551616 := by omega
  have hw1 : a1 * 2 ^ s % 18446744073709551616 < 18446744073709551616 := by omega
  have hx0 := Int.mul_nonneg h0 (Int.le_of_lt hP)
  have hdm : a1 * 2 ^ s = a1 / 2 ^ (64 - s) * 18446744073709551616 + a1 * 2 ^ s % 18446744073709551616 := by rw [← hd]; omega
  show Option.bind (some (s : Int)) _ = _
  simp only [Option.bind_some, e1, e2, ey, ex, ez, ew, eor]
  rw [if_pos (by omega), if_pos (by omega), if_neg (by omega), and32 (by omega) hu, and32 hw0 hw1]
  have eV : (a0 * 18446744073709551616 + a1) * 2 ^ s = ((a0 * 2 ^ s + a1 / 2 ^ (64 - s)) * 4294967296 + a1 * 2 ^ s % 18446744073709551616 / 4294967296) * 4294967296 + a1 * 2 ^ s % 18446744073709551616 % 4294967296 := by
   rw [Int.add_mul, hdm, Int.mul_right_comm]
   omega
  have eD : (a0 * 18446744073709551616 + a1) * 2 ^ s / (a2 * 2 ^ s) = (a0 * 18446744073709551616 + a1) / a2 := Int.mul_ediv_mul_of_pos_left _ _ hP
  have eM : (a0 * 18446744073709551616 + a1) * 2 ^ s % (a2 * 2 ^ s) / 2 ^ s = (a0 * 18446744073709551616 + a1) % a2 := by
   rw [Int.mul_comm _ (2 ^ s), Int.mul_comm a2, Int.mul_emod_mul_of_pos _ _ hP, Int.mul_ediv_cancel_left _ (by omega)]
  have hu0 : 0 ≤ a0 * 2 ^ s + a1 / 2 ^ (64 - s) := by omega
  generalize a2 * 2 ^ s = y at *
  generalize a0 * 2 ^ s + a1 / 2 ^ (64 - s) = u at *
  generalize a1 * 2 ^ s % 18446744073709551616 = v at *
  have g := Guess.first (y := y) (y1 := y / 4294967296) (y0 := y % 4294967296) (u := u) (u0 := v / 4294967296) (by omega) (by omega) (by omega) (by omega) (by omega) (by omega) (by omega) hu0 hU
  have hq3 := g.hq
  have hq4 := g.small.1
  have hy1 : 0 < y / 4294967296 := by omega
  have hm1 := Int.emod_lt_of_pos u hy1
  have hm0 := g.hr
  have hge := g.eq
  have et : IntKind.u64.wrap (Int.tdiv u (y / 4294967296)) = u / (y / 4294967296) := by
   rw [Int.tdiv_eq_ediv_of_nonneg hu0]
   exact u64s hq3 (by omega)
  have er : IntKind.u64.wrap (u - IntKind.u64.wrap (u / (y / 4294967296) * (y / 4294967296))) = u % (y / 4294967296) := by
   have e5 : IntKind.u64.wrap (u / (y / 4294967296) * (y / 4294967296)) = u / (y / 4294967296) * (y / 4294967296) := u64s (Int.mul_nonneg hq3 (by omega)) (by omega)
   rw [e5, show u - u / (y / 4294967296) * (y / 4294967296) = u % (y / 4294967296) by omega]
   exact u64s hm0 (by omega)
  rw [et, er]
  obtain ⟨m, rfl⟩ : ∃ m, k = m + 5 + 2 * 2 := ⟨k - 9, by omega⟩
  obtain ⟨k', hk', hl0⟩ := div64_l0 y (y / 4294967296) (y % 4294967296) u (v / 4294967296) (v % 4294967296) s 2 (m + 5) _ _ g (by omega) (by omega)
  rw [hl0]
  obtain ⟨m', rfl⟩ : ∃ m', k' = m' + 5 := ⟨k' - 5, by omega⟩
  have ht := div64_tail m' y (u * 4294967296 + v / 4294967296) (v % 4294967296) s hl hu (by omega) (by omega) (by omega) (by omega) hs
  rw [show (u * 4294967296 + v / 4294967296) / 4294967296 = u by omega, show (u * 4294967296 + v / 4294967296) % 4294967296 = v / 4294967296 by omega] at ht
  rw [ht, ← eV, eD, eM]
end Div64
def shortP (d : Int) : List Int → Int → List Int × Int
 | [], left => ([], left)
 | x :: xs, left => ((shortP d xs ((left * 18446744073709551616 + x) % d)).1 ++ [(left * 18446744073709551616 + x) / d], (shortP d xs ((left * 18446744073709551616 + x) % d)).2)
def limbs64 (l : List Int) : Bool := l.all fun x => decide (0 ≤ x) && decide (x < 18446744073709551616)
theorem limbs64_mem {l : List Int} (h : limbs64 l = true) (x : Int) (hx : x ∈ l) : 0 ≤ x ∧ x < 18446744073709551616 := by
 have := List.all_eq_true.1 h x hx
 simpa using this
def zcn.f (k : Nat) (l0 : List Int) (d : Int) : Option (List Int × Int) := if 0 < d ∧ d < 18446744073709551616 ∧ limbs64 l0 = true ∧ l0.length ≤ 35184372088832 then (zbl.f k (shortP d l0.reverse 0).1).bind fun t => some (t, (shortP d l0.reverse 0).2) else none
theorem shortP_length (d : Int) : ∀ (l : List Int) (left : Int), (shortP d l left).1.length = l.length
 | [], _ => rfl
 | x :: xs, left => by
  rw [shortP, List.length_append, shortP_length d xs]
  rfl
theorem shortP_snoc (d : Int) : ∀ (l : List Int) (left x : Int), shortP d (l ++ [x]) left = (((shortP d l left).2 * 18446744073709551616 + x) / d :: (shortP d l left).1, ((shortP d l left).2 * 18446744073709551616 + x) % d)
 | [], left, x => rfl
 | y :: l, left, x => by
  rw [List.cons_append, shortP, shortP, shortP_snoc d l]
  rfl
def stp (d : Int) (l0 : List Int) (pre : List (Fin l0.length)) : List Int × Int := pre.foldl (fun s x => (s.1.set x.val ((s.2 * 18446744073709551616 + l0.getD x.val 0) / d), (s.2 * 18446744073709551616 + l0.getD x.val 0) % d)) (List.replicate l0.length 0, 0)
theorem stp_snoc (d : Int) (l0 : List Int) (pre : List (Fin l0.length)) (x : Fin l0.length) : stp d l0 (pre ++ [x]) = ((stp d l0 pre).1.set x.val (((stp d l0 pre).2 * 18446744073709551616 + l0.getD x.val 0) / d), ((stp d l0 pre).2 * 18446744073709551616 + l0.getD x.val 0) % d) := by
 unfold stp
 rw [List.foldl_append]
 rfl
theorem foldl_inv {σ β : Type} (Q : σ → Prop) (f : σ → β → σ) (hf : ∀ s x, Q s → Q (f s x)) : ∀ (l : List β) (s : σ), Q s → Q (l.foldl f s)
 | [], _, h => h
 | x :: l, s, h => foldl_inv Q f hf l _ (hf s x h)
theorem stp_length (d : Int) (l0 : List Int) (pre : List (Fin l0.length)) : (stp d l0 pre).1.length = l0.length := by
 unfold stp
 exact foldl_inv (fun s : List Int × Int => s.1.length = l0.length) _ (fun s x h => by rw [List.length_set]; exact h) pre _ (by simp)
theorem stp_left (d : Int) (hd : 0 < d) (l0 : List Int) (pre : List (Fin l0.length)) : 0 ≤ (stp d l0 pre).2 ∧ (stp d l0 pre).2 < d := by
 unfold stp
 exact foldl_inv (fun s : List Int × Int => 0 ≤ s.2 ∧ s.2 < d) _ (fun s x h => ⟨Int.emod_nonneg _ (by omega), Int.emod_lt_of_pos _ hd⟩) pre _ ⟨by simp, hd⟩
theorem stp_bw (d : Int) (l0 : List Int) : ∀ k, k ≤ l0.length → stp d l0 (bw l0 k) = (List.replicate (l0.length - k) 0 ++ (shortP d (l0.reverse.take k) 0).1, (shortP d (l0.reverse.take k) 0).2)
 | 0, _ => by simp [bw, stp, shortP]
 | k + 1, h => by
  have hk : k < l0.reverse.length := by rw [List.length_reverse]; omega
  rw [bw_succ l0 k h, stp_snoc, stp_bw d l0 k (by omega), List.take_succ_eq_append_getElem hk, shortP_snoc]
  have e : l0.getD (l0.length - 1 - k) 0 = l0.reverse[k] := by
   rw [List.getElem_reverse, List.getD_eq_getElem?_getD, List.getElem?_eq_getElem (by omega)]
   rfl
  dsimp only
  rw [e]
  refine Prod.ext ?_ rfl
  dsimp only
  rw [show l0.length - k = (l0.length - 1 - k) + 1 by omega, List.replicate_succ', List.append_assoc, List.set_append_right _ _ (by simp), List.length_replicate, Nat.sub_self]
  rw [show l0.length - (k + 1) = l0.length - 1 - k by omega]
  rfl
theorem stp_end (d : Int) (l0 : List Int) : stp d l0 (bw l0 l0.length) = shortP d l0.reverse 0 := by
 rw [stp_bw d l0 _ (Nat.le_refl _), Nat.sub_self, List.take_of_length_le (by simp)]
 rfl
theorem R_kept {β : Type} (f : β → List Int) (g base c e : Nat) : Own (fun (s : β) W => Kd.R (Kd.int .u64) e W base (fun k => k = g) (.slice (some ⟨g, 0, none⟩) (f s).length c) (f s)) := by
 intro s W W' row hs hg hr
 refine Kd.zbp (Kd.R_step (Kd.R_bound hs) (fun k hk hlt => hg.block k hlt ?_)) (fun k hk => hk.1)
 intro he
 obtain ⟨o, ho, hc⟩ := hr k he.symm
 obtain ⟨_, _, _, _, _, cells, hcl⟩ := hk
 rw [hcl] at ho
 injection ho with ho
 rw [← ho] at hc
 cases hc
theorem wpIn_outRound {F : Fence} {n : Nat} {P : Program} {o : Oper} {a : Act} {w : World} {K : Act → World → Prop} {Q : Exit → Act → World → Prop} (l : Nat) (hro : F.round = none) (hd : ∀ c, o.op ≠ .defer c) (h : o.wpIn F n P a w K Q) : o.wpIn (F.inRound l) n P a w K Q := by
 unfold Oper.wpIn at *
 refine ⟨h.1, ?_⟩
 rw [hro, Oper.semAt_none] at h
 rw [Fence.inRound_round, Oper.semAt_some l _ _ hd]
 have h := h.2
 generalize (execOp a.eval o).run P w = r at *
 cases r with
 | ok x w' => cases x <;> exact h
 | halt x w' => cases x <;> exact h
theorem wpAnyIn_outRound {F : Fence} {n : Nat} {P : Program} {md : Region.Mode} {ops : Array Oper} {Q : Exit → Act → World → Prop} (l : Nat) (hro : F.round = none) (hd : ops.toList.all (fun o => match o.op with | .defer _ => false | _ => true) = true) :
  ∀ (fuel : Nat) (listed : Array Bool) (a : Act) (w : World), wpAnyIn F n P md ops Q fuel listed a w → wpAnyIn (F.inRound l) n P md ops Q fuel listed a w
 | 0, listed, a, w, h => h
 | fuel + 1, listed, a, w, h => by
  refine ⟨h.1, fun i hi => ?_⟩
  have h2 := wpOpIn_mono (K' := wpAnyIn (F.inRound l) n P md ops Q fuel (listed.setIfInBounds i true)) (fun a w => wpAnyIn_outRound l hro hd fuel _ a w) (h.2 i hi)
  unfold wpOpIn at *
  split
  ·
   rename_i ho
   rw [ho] at h2
   exact h2
  ·
   rename_i o ho
   rw [ho] at h2
   dsimp only at h2
   split
   ·
    rename_i hw
    rw [if_pos hw] at h2
    refine wpIn_outRound l hro (fun c hc => ?_) h2
    have hm := List.all_eq_true.1 hd o (by rw [Array.getElem?_eq_some_iff] at ho; obtain ⟨hlt, rfl⟩ := ho; simp)
    rw [hc] at hm
    exact Bool.noConfusion hm
   ·
    rename_i hw
    rw [if_neg hw] at h2
    exact h2
section
open Go.Shelf
attribute [local go_sem] Oper.semAt_some
theorem zcn.inner (k : Nat) (A0 : Option Addr) (c0 : Nat) (l0 : List Int) (d : Int) (T : List Int) (w : World) (hreach : l0.length * 8 ≤ 281474976710656) (hd0 : 0 < d) (hd1 : d < 18446744073709551616) (hl : limbs64 l0 = true) (hT : zbl.f k (shortP d l0.reverse 0).1 = some T)
  (hI0 : ∀ j, j < l0.length → ∃ ad, A0 = some ad ∧ ad.block < w.heap.size ∧ w.cell? (ad.add j) = some (.int .u64 (l0.getD j 0))) :
  Calls Tryz.prog 115 #[.slice A0 l0.length c0, .int .u64 d] w fun e w' => ∃ v0_ : Value, e = .returned (.tuple #[v0_, .int .u64 (shortP d l0.reverse 0).2]) ∧ Kd.V (Kd.int .u64) 82 w' w.heap.size (fun k_ => (w.heap.size ≤ k_)) v0_ T ∧ Below w.heap.size w w' := by
 refine (callsIn_wide (n := 4)).1 ?_
 refine callsIn_of_wp_marks Tryz.func115 rfl trivial ?_ rfl
 simp only [Tryz.ntmps115, List.size_toArray, List.length_cons, List.length_nil, Nat.reduceAdd, Nat.reduceSub, Array.replicate_succ, Array.replicate_zero, List.push_toArray, List.append_toArray, List.nil_append, List.cons_append]
 have HI0 := Lib.hid hI0
 have HD0 := Lib.hid hd0
 have HD1 := Lib.hid hd1
 have HL := Lib.hid hl
 have HT := Lib.hid hT
 clear hI0 hT hd0 hd1 hl
 obtain ⟨i0, hi, hz0, hz1, hz2⟩ := info_parts info82
 have hmk : ∀ W : World, (Instr.makeSlice 27 (.int .i64 (l0.length : Int)) (.int .i64 (l0.length : Int))).run Tryz.prog W = .ok (.slice (some ⟨W.heap.size, 0, none⟩) l0.length l0.length) (W.alloc (.cells (madeCells #[.int .u64 0] l0.length) 82)) := fun W => by
  have hr := run_make (P := Tryz.prog) W 27 82 i0 (.int .u64 0) Tryz.underlying27 hi hz0 .i64 .i64 (l0.length : Int) (l0.length : Int) (by omega) (by omega) (by rw [hz2]; omega) (by omega)
  rw [hz1] at hr
  rw [hr, Int.toNat_natCast, Nat.mul_one]
  rfl
 have hrow : ∀ W : World, w.heap.size ≤ W.heap.size → Kd.R (Kd.int .u64) 82 (W.alloc (.cells (madeCells #[.int .u64 0] l0.length) 82)) w.heap.size (fun k => k = W.heap.size) (.slice (some ⟨W.heap.size, 0, none⟩) l0.length l0.length) (List.replicate l0.length 0) := fun W hW => by
  have ho := own_made W w.heap.size 82 .u64 l0.length hW (by omega)
  refine Kd.R_of_own (by rw [List.length_replicate]; exact ho) (fun k hk => ?_)
  simpa [Value.ownBlock] using hk.symm
 clear hi hz0 hz1 hz2
 gi_wp2_with (refine ⟨trivial, ?_⟩; gi_at_call 80; refine (back_in Fence.wide _ trivial rfl _ _ _ _).mono ?_; rintro e w' ⟨rfl, rfl⟩)
 have hR1 := hrow (w.alloc (.cells #[.int .u64 d] 82)) (by simp)
 rw [World.size_alloc] at hR1
 have bD := Boxed.new w 82 (.int .u64 d)
 obtain ⟨w1, hw1⟩ : ∃ w1, (w.alloc (.cells #[.int .u64 d] 82)).alloc (.cells (madeCells #[.int .u64 0] l0.length) 82) = w1 := ⟨_, rfl⟩
 have hs1 : w1.heap.size = w.heap.size + 1 + 1 := by rw [← hw1]; simp
 have hb1 : Below w.heap.size w w1 := by rw [← hw1]; exact ((Below.refl _ w).alloc (Nat.le_refl _) _).alloc (by simp) _
 have bD1 := bD.alloc (.cells (madeCells #[.int .u64 0] l0.length) 82)
 rw [hw1] at hR1 bD1 ⊢
 clear hrow bD
 have bO := Boxed.new w1 27 (.slice (some ⟨w.heap.size + 1, 0, none⟩) l0.length l0.length)
 have bL := Boxed.new (w1.alloc (.cells #[.slice (some ⟨w.heap.size + 1, 0, none⟩) l0.length l0.length] 27)) 82 (.int .u64 0)
 have bN := Boxed.new ((w1.alloc (.cells #[.slice (some ⟨w.heap.size + 1, 0, none⟩) l0.length l0.length] 27)).alloc (.cells #[.int .u64 0] 82)) 27 (.slice A0 l0.length c0)
 rw [World.size_alloc] at bL
 rw [World.size_alloc, World.size_alloc] at bN
 rw [hs1] at bO bL bN
 have hB0 : Below w.heap.size w (((w1.alloc (.cells #[.slice (some ⟨w.heap.size + 1, 0, none⟩) l0.length l0.length] 27)).alloc (.cells #[.int .u64 0] 82)).alloc (.cells #[.slice A0 l0.length c0] 27)) := ((hb1.alloc (by omega) _).alloc (by simp; omega) _).alloc (by simp; omega) _
 have hmx : Tryz.prog.follows .mixedOrders = true := by kernel_rfl
 refine wpIn_rangeFunc_ownG rfl (by omega) (gf := 128) (lb := #[.pointer (some ⟨w.heap.size + 1 + 1 + 1 + 1, 0, none⟩)]) rfl trivial (enters_of Tryz.func128 (by kernel_rfl) rfl)
  (back_stops Fence.wide 3 trivial rfl (by omega) (w.heap.size + 1 + 1 + 1 + 1) w.heap.size c0 A0 l0 (by omega) _ (by simp; omega) (by simp; omega) bN.cell (fun j hj => by
   obtain ⟨ad, e, hb, hc⟩ := HI0.out j hj
   exact ⟨ad, e, hb, (hB0.cell (p := ad.add j) (by unfold Addr.add; split <;> exact hb)).trans hc⟩)) bwKp_t (bwKp_b (by simp; omega) (by simp; omega)) (Below.refl _ _) (fun _ => rfl)
  (fun pre W => (W.cell? ⟨w.heap.size, 0, none⟩ = some (.int .u64 d) ∧ W.cell? ⟨w.heap.size + 1 + 1, 0, none⟩ = some (.slice (some ⟨w.heap.size + 1, 0, none⟩) l0.length l0.length) ∧ W.cell? ⟨w.heap.size + 1 + 1 + 1, 0, none⟩ = some (.int .u64 (stp d l0 pre).2) ∧ W.frozen? ⟨w.heap.size + 1 + 1 + 1, 0, none⟩ = false ∧ Kd.R (Kd.int .u64) 82 W w.heap.size (fun k => k = w.heap.size + 1) (.slice (some ⟨w.heap.size + 1, 0, none⟩) (stp d l0 pre).1.length l0.length) (stp d l0 pre).1) ∧ Below w.heap.size w W)
  (fun _ _ _ => False)
  (OwnFrom.and (Own.from (fun s A B row hs hg hr => ⟨cell_kept hs.1 hg hr, cell_kept hs.2.1 hg hr, cell_kept hs.2.2.1 hg hr, (frozen_kept hs.2.2.1 hg hr).trans hs.2.2.2.1, R_kept (fun pre => (stp d l0 pre).1) _ _ _ _ s A B row hs.2.2.2.2 hg hr⟩) _) (ownFrom_below (Nat.le_refl _) (by simp; omega)))
  (fun c => Own.from (fun s A B row hs hg hr => hs.elim) _)
  ⟨⟨((bD1.alloc _).alloc _ |>.alloc _).cell, ((bO.alloc _).alloc _).cell, (bL.alloc _).cell, (bL.alloc _).frozen, ?r0⟩, hB0⟩
  (fun x => { tmps := #[.slice A0 l0.length c0, .int .u64 d, undef, .pointer (some ⟨w.heap.size, 0, none⟩), .slice none 0 0, .int .u64 0, .pointer (some ⟨w.heap.size + 1 + 1, 0, none⟩), .pointer (some ⟨w.heap.size + 1 + 1 + 1, 0, none⟩), .int .i64 (x.val : Int), .int .u64 (bwv l0 x), .slice A0 l0.length c0, .int .i64 l0.length, .slice (some ⟨w.heap.size + 1, 0, none⟩) l0.length l0.length, .slice A0 l0.length c0, .func (.func 128) #[] #[.pointer (some ⟨w.heap.size + 1 + 1 + 1 + 1, 0, none⟩)], .int .i64 (x.val : Int), .int .u64 (bwv l0 x), undef, undef, undef, undef, undef, undef, undef, undef, undef, undef, undef, undef, undef], defers := [] }) ?assign ?body ?done ?stop
 case r0 => exact Kd.zca (Kd.zca (Kd.zca (by simpa [stp] using hR1) _) _) _
 case assign =>
  intro l x W K hK
  gi_wp2
  exact hK
 case body =>
  rintro l pre x W ⟨⟨hcd, hco, hcl, hfl, hR⟩, hB⟩ _
  obtain ⟨hl0, hl1⟩ := stp_left d HD0.out l0 pre
  have hx := x.isLt
  have hmem : l0.getD x.val 0 ∈ l0 := by rw [List.getD_eq_getElem?_getD, List.getElem?_eq_getElem hx]; exact List.getElem_mem hx
  obtain ⟨hv0, hv1⟩ := limbs64_mem HL.out _ hmem
  have hdiv := div64_spec 16 (stp d l0 pre).2 (l0.getD x.val 0) d hl0 hl1 HD1.out hv0 hv1 (Nat.le_refl _)
  have hlen := stp_length d l0 pre
  have hsn := stp_snoc d l0 pre x
  have hx0 : (0 : Int) ≤ (x.val : Int) := by omega
  have hx1 : (x.val : Int) < (l0.length : Int) := by omega
  have hcell := Kd.zda (0 : Int) (enc := fun n => Value.int .u64 n) hR (x.val : Int) hx0 (by rw [hlen]; omega)
  rw [Int.toNat_natCast] at hcell
  obtain ⟨hcx, hfx⟩ := hcell
  obtain ⟨j, hj⟩ : ∃ j, x.val = j := ⟨_, rfl⟩
  have hbw : bwv l0 x = l0.getD j 0 := by rw [← hj]; rfl
  rw [hj] at hx hv0 hv1 hdiv hx0 hx1 hcx hfx hsn
  obtain ⟨v, hv⟩ : ∃ v, l0.getD j 0 = v := ⟨_, rfl⟩
  obtain ⟨u, hu⟩ : ∃ u, (stp d l0 pre).2 = u := ⟨_, rfl⟩
  rw [hv] at hdiv hbw hsn
  rw [hu] at hdiv hcl hsn
  have HSN := Lib.hid hsn
  have HDV := Lib.hid hdiv
  have HR := Lib.hid hR
  have HLEN := Lib.hid hlen
  simp only [hbw, hj]
  clear hsn hdiv hl0 hl1 hmem hv0 hv1 hR hlen hu hv hbw
  obtain ⟨q, hq⟩ : ∃ q, (u * 18446744073709551616 + v) / d = q := ⟨_, rfl⟩
  obtain ⟨r, hr⟩ : ∃ r, (u * 18446744073709551616 + v) % d = r := ⟨_, rfl⟩
  simp only [hq, hr] at HSN HDV
  clear hq hr
  gi_wp2
  refine wpIn_region_any hmx ?_
  change wpAnyIn _ _ _ _ _ _ _ _ _ (World.drew _)
  refine wpAnyIn_outRound l rfl rfl _ _ _ _ ?_
  refine wpAnyIn_take (i := 1) (v := ?_) rfl rfl (by kernel_rfl) (by kernel_rfl) (by kernel_rfl) (fun _ _ _ h => h) ⟨Or.inl ⟨by rfl, ?_⟩, fun _ => rfl⟩ ?_
  rotate_left 1
  ·
   intro w; go_simp; with_reducible rfl
  refine wpAnyIn_take (i := 3) (v := ?_) rfl rfl (by kernel_rfl) (by kernel_rfl) (by kernel_rfl) (fun _ _ _ h => h) ⟨Or.inl ⟨by rfl, ?_⟩, fun _ => rfl⟩ ?_
  rotate_left 1
  ·
   intro w; go_simp; with_reducible rfl
  refine wpAnyIn_ready (rs := [0, 2, 4]) (by kernel_rfl) (by simp) ?_
  refine AllReadyIn.cons rfl (fun K hK => ?_) ?_
  go_simp
  try (refine hK _ _ ?_; clear hK K)
  refine wpAnyIn_ready (rs := [2, 4]) (by kernel_rfl) (by simp) ?_
  refine AllReadyIn.cons rfl (fun K hK => ?_) ?_
  go_simp
  try (refine hK _ _ ?_; clear hK K)
  refine wpAnyIn_ready (rs := [4]) (by kernel_rfl) (by simp) ?_
  refine AllReadyIn.cons rfl (fun K hK => ?_) ?_
  go_simp
  try (refine hK _ _ ?_; clear hK K)
  refine wpAnyIn_ready (rs := [5]) (by kernel_rfl) (by simp) ?_
  refine AllReadyIn.cons rfl (fun K hK => ?_) ?_
  go_simp
  gi_wp2_with (refine ⟨trivial, ?_⟩; gi_at_call 149; refine (callsIn_wide.2 (zao.calls 16 u v d q r _ HDV.out)).mono ?_; rintro e w' ⟨rfl, ⟨nd, rfl⟩⟩)
  try (refine hK _ _ ?_; clear hK K)
  refine wpAnyIn_take (i := 6) (v := ?_) rfl rfl (by kernel_rfl) (by kernel_rfl) (by kernel_rfl) (fun _ _ _ h => h) ⟨Or.inl ⟨by rfl, ?_⟩, fun _ => rfl⟩ ?_
  rotate_left 1
  ·
   intro w; go_simp; with_reducible rfl
  refine wpAnyIn_take (i := 7) (v := ?_) rfl rfl (by kernel_rfl) (by kernel_rfl) (by kernel_rfl) (fun _ _ _ h => h) ⟨Or.inl ⟨by rfl, ?_⟩, fun _ => rfl⟩ ?_
  rotate_left 1
  ·
   intro w; go_simp; with_reducible rfl
  refine wpAnyIn_take (i := 8) (v := ?_) rfl rfl (by kernel_rfl) (by kernel_rfl) (by kernel_rfl) (fun _ _ _ h => h) ⟨Or.inl ⟨by rfl, ?_⟩, fun _ => rfl⟩ ?_
  rotate_left 1
  ·
   intro w; go_simp; with_reducible rfl
  refine wpAnyIn_take (i := 9) (v := ?_) rfl rfl (by kernel_rfl) (by kernel_rfl) (by kernel_rfl) (fun _ _ _ h => h) ⟨Or.inl ⟨by rfl, ?_⟩, fun _ => rfl⟩ ?_
  rotate_left 1
  ·
   intro w; go_simp; with_reducible rfl
  refine wpAnyIn_ready (rs := [10]) (by kernel_rfl) (by simp) ?_
  refine AllReadyIn.cons rfl (fun K hK => ?_) ?_
  go_simp
  try (refine hK _ _ ?_; clear hK K)
  refine wpAnyIn_ready (rs := [11]) (by kernel_rfl) (by simp) ?_
  refine AllReadyIn.cons rfl (fun K hK => ?_) ?_
  go_simp
  try (refine hK _ _ ?_; clear hK K)
  refine wpAnyIn_done (by kernel_rfl) ?_ _
  rotate_left 1
  exact AllReadyIn.nil
  exact AllReadyIn.nil
  exact AllReadyIn.nil
  exact AllReadyIn.nil
  refine AllReadyIn.cons rfl (fun K hK => ?_) ?_
  go_simp
  try (refine hK _ _ ?_; clear hK K)
  refine wpAnyIn_ready (rs := [2]) (by kernel_rfl) (by simp) ?_
  refine AllReadyIn.cons rfl (fun K hK => ?_) ?_
  go_simp
  try (refine hK _ _ ?_; clear hK K)
  refine wpAnyIn_ready (rs := [5]) (by kernel_rfl) (by simp) ?_
  refine AllReadyIn.cons rfl (fun K hK => ?_) ?_
  go_simp
  gi_wp2_with (refine ⟨trivial, ?_⟩; gi_at_call 149; refine (callsIn_wide.2 (zao.calls 16 u v d q r _ HDV.out)).mono ?_; rintro e w' ⟨rfl, ⟨nd, rfl⟩⟩)
  try (refine hK _ _ ?_; clear hK K)
  refine wpAnyIn_take (i := 6) (v := ?_) rfl rfl (by kernel_rfl) (by kernel_rfl) (by kernel_rfl) (fun _ _ _ h => h) ⟨Or.inl ⟨by rfl, ?_⟩, fun _ => rfl⟩ ?_
  rotate_left 1
  ·
   intro w; go_simp; with_reducible rfl
  refine wpAnyIn_take (i := 7) (v := ?_) rfl rfl (by kernel_rfl) (by kernel_rfl) (by kernel_rfl) (fun _ _ _ h => h) ⟨Or.inl ⟨by rfl, ?_⟩, fun _ => rfl⟩ ?_
  rotate_left 1
  ·
   intro w; go_simp; with_reducible rfl
  refine wpAnyIn_take (i := 8) (v := ?_) rfl rfl (by kernel_rfl) (by kernel_rfl) (by kernel_rfl) (fun _ _ _ h => h) ⟨Or.inl ⟨by rfl, ?_⟩, fun _ => rfl⟩ ?_
  rotate_left 1
  ·
   intro w; go_simp; with_reducible rfl
  refine wpAnyIn_take (i := 9) (v := ?_) rfl rfl (by kernel_rfl) (by kernel_rfl) (by kernel_rfl) (fun _ _ _ h => h) ⟨Or.inl ⟨by rfl, ?_⟩, fun _ => rfl⟩ ?_
  rotate_left 1
  ·
   intro w; go_simp; with_reducible rfl
  refine wpAnyIn_ready (rs := [10]) (by kernel_rfl) (by simp) ?_
  refine AllReadyIn.cons rfl (fun K hK => ?_) ?_
  go_simp
  try (refine hK _ _ ?_; clear hK K)
  refine wpAnyIn_ready (rs := [11]) (by kernel_rfl) (by simp) ?_
  refine AllReadyIn.cons rfl (fun K hK => ?_) ?_
  go_simp
  try (refine hK _ _ ?_; clear hK K)
  refine wpAnyIn_done (by kernel_rfl) ?_ _
  rotate_left 1
  exact AllReadyIn.nil
  exact AllReadyIn.nil
  exact AllReadyIn.nil
  exact AllReadyIn.nil
  exact AllReadyIn.nil
  refine AllReadyIn.cons rfl (fun K hK => ?_) ?_
  go_simp
  try (refine hK _ _ ?_; clear hK K)
  refine wpAnyIn_ready (rs := [0, 4]) (by kernel_rfl) (by simp) ?_
  refine AllReadyIn.cons rfl (fun K hK => ?_) ?_
  go_simp
  try (refine hK _ _ ?_; clear hK K)
  refine wpAnyIn_ready (rs := [4]) (by kernel_rfl) (by simp) ?_
  refine AllReadyIn.cons rfl (fun K hK => ?_) ?_
  go_simp
  try (refine hK _ _ ?_; clear hK K)
  refine wpAnyIn_ready (rs := [5]) (by kernel_rfl) (by simp) ?_
  refine AllReadyIn.cons rfl (fun K hK => ?_) ?_
  go_simp
  gi_wp2_with (refine ⟨trivial, ?_⟩; gi_at_call 149; refine (callsIn_wide.2 (zao.calls 16 u v d q r _ HDV.out)).mono ?_; rintro e w' ⟨rfl, ⟨nd, rfl⟩⟩)
  try (refine hK _ _ ?_; clear hK K)
  refine wpAnyIn_take (i := 6) (v := ?_) rfl rfl (by kernel_rfl) (by kernel_rfl) (by kernel_rfl) (fun _ _ _ h => h) ⟨Or.inl ⟨by rfl, ?_⟩, fun _ => rfl⟩ ?_
  rotate_left 1
  ·
   intro w; go_simp; with_reducible rfl
  refine wpAnyIn_take (i := 7) (v := ?_) rfl rfl (by kernel_rfl) (by kernel_rfl) (by kernel_rfl) (fun _ _ _ h => h) ⟨Or.inl ⟨by rfl, ?_⟩, fun _ => rfl⟩ ?_
  rotate_left 1
  ·
   intro w; go_simp; with_reducible rfl
  refine wpAnyIn_take (i := 8) (v := ?_) rfl rfl (by kernel_rfl) (by kernel_rfl) (by kernel_rfl) (fun _ _ _ h => h) ⟨Or.inl ⟨by rfl, ?_⟩, fun _ => rfl⟩ ?_
  rotate_left 1
  ·
   intro w; go_simp; with_reducible rfl
  refine wpAnyIn_take (i := 9) (v := ?_) rfl rfl (by kernel_rfl) (by kernel_rfl) (by kernel_rfl) (fun _ _ _ h => h) ⟨Or.inl ⟨by rfl, ?_⟩, fun _ => rfl⟩ ?_
  rotate_left 1
  ·
   intro w; go_simp; with_reducible rfl
  refine wpAnyIn_ready (rs := [10]) (by kernel_rfl) (by simp) ?_
  refine AllReadyIn.cons rfl (fun K hK => ?_) ?_
  go_simp
  try (refine hK _ _ ?_; clear hK K)
  refine wpAnyIn_ready (rs := [11]) (by kernel_rfl) (by simp) ?_
  refine AllReadyIn.cons rfl (fun K hK => ?_) ?_
  go_simp
  try (refine hK _ _ ?_; clear hK K)
  refine wpAnyIn_done (by kernel_rfl) ?_ _
  rotate_left 1
  exact AllReadyIn.nil
  exact AllReadyIn.nil
  exact AllReadyIn.nil
  exact AllReadyIn.nil
  refine AllReadyIn.cons rfl (fun K hK => ?_) ?_
  go_simp
  try (refine hK _ _ ?_; clear hK K)
  refine wpAnyIn_ready (rs := [0, 5]) (by kernel_rfl) (by simp) ?_
  refine AllReadyIn.cons rfl (fun K hK => ?_) ?_
  go_simp
  try (refine hK _ _ ?_; clear hK K)
  refine wpAnyIn_ready (rs := [5]) (by kernel_rfl) (by simp) ?_
  refine AllReadyIn.cons rfl (fun K hK => ?_) ?_
  go_simp
  gi_wp2_with (refine ⟨trivial, ?_⟩; gi_at_call 149; refine (callsIn_wide.2 (zao.calls 16 u v d q r _ HDV.out)).mono ?_; rintro e w' ⟨rfl, ⟨nd, rfl⟩⟩)
  try (refine hK _ _ ?_; clear hK K)
  refine wpAnyIn_take (i := 6) (v := ?_) rfl rfl (by kernel_rfl) (by kernel_rfl) (by kernel_rfl) (fun _ _ _ h => h) ⟨Or.inl ⟨by rfl, ?_⟩, fun _ => rfl⟩ ?_
  rotate_left 1
  ·
   intro w; go_simp; with_reducible rfl
  refine wpAnyIn_take (i := 7) (v := ?_) rfl rfl (by kernel_rfl) (by kernel_rfl) (by kernel_rfl) (fun _ _ _ h => h) ⟨Or.inl ⟨by rfl, ?_⟩, fun _ => rfl⟩ ?_
  rotate_left 1
  ·
   intro w; go_simp; with_reducible rfl
  refine wpAnyIn_take (i := 8) (v := ?_) rfl rfl (by kernel_rfl) (by kernel_rfl) (by kernel_rfl) (fun _ _ _ h => h) ⟨Or.inl ⟨by rfl, ?_⟩, fun _ => rfl⟩ ?_
  rotate_left 1
  ·
   intro w; go_simp; with_reducible rfl
  refine wpAnyIn_take (i := 9) (v := ?_) rfl rfl (by kernel_rfl) (by kernel_rfl) (by kernel_rfl) (fun _ _ _ h => h) ⟨Or.inl ⟨by rfl, ?_⟩, fun _ => rfl⟩ ?_
  rotate_left 1
  ·
   intro w; go_simp; with_reducible rfl
  refine wpAnyIn_ready (rs := [10]) (by kernel_rfl) (by simp) ?_
  refine AllReadyIn.cons rfl (fun K hK => ?_) ?_
  go_simp
  try (refine hK _ _ ?_; clear hK K)
  refine wpAnyIn_ready (rs := [11]) (by kernel_rfl) (by simp) ?_
  refine AllReadyIn.cons rfl (fun K hK => ?_) ?_
  go_simp
  try (refine hK _ _ ?_; clear hK K)
  refine wpAnyIn_done (by kernel_rfl) ?_ _
  rotate_left 1
  exact AllReadyIn.nil
  exact AllReadyIn.nil
  exact AllReadyIn.nil
  refine AllReadyIn.cons rfl (fun K hK => ?_) ?_
  go_simp
  gi_wp2_with (refine ⟨trivial, ?_⟩; gi_at_call 149; refine (callsIn_wide.2 (zao.calls 16 u v d q r _ HDV.out)).mono ?_; rintro e w' ⟨rfl, ⟨nd, rfl⟩⟩)
  try (refine hK _ _ ?_; clear hK K)
  refine wpAnyIn_take (i := 6) (v := ?_) rfl rfl (by kernel_rfl) (by kernel_rfl) (by kernel_rfl) (fun _ _ _ h => h) ⟨Or.inl ⟨by rfl, ?_⟩, fun _ => rfl⟩ ?_
  rotate_left 1
  ·
   intro w; go_simp; with_reducible rfl
  refine wpAnyIn_take (i := 7) (v := ?_) rfl rfl (by kernel_rfl) (by kernel_rfl) (by kernel_rfl) (fun _ _ _ h => h) ⟨Or.inl ⟨by rfl, ?_⟩, fun _ => rfl⟩ ?_
  rotate_left 1
  ·
   intro w; go_simp; with_reducible rfl
  refine wpAnyIn_take (i := 8) (v := ?_) rfl rfl (by kernel_rfl) (by kernel_rfl) (by kernel_rfl) (fun _ _ _ h => h) ⟨Or.inl ⟨by rfl, ?_⟩, fun _ => rfl⟩ ?_
  rotate_left 1
  ·
   intro w; go_simp; with_reducible rfl
  refine wpAnyIn_ready (rs := [0]) (by kernel_rfl) (by simp) ?_
  refine AllReadyIn.cons rfl (fun K hK => ?_) ?_
  go_simp
  try (refine hK _ _ ?_; clear hK K)
  refine wpAnyIn_take (i := 9) (v := ?_) rfl rfl (by kernel_rfl) (by kernel_rfl) (by kernel_rfl) (fun _ _ _ h => h) ⟨Or.inl ⟨by rfl, ?_⟩, fun _ => rfl⟩ ?_
  rotate_left 1
  ·
   intro w; go_simp; with_reducible rfl
  refine wpAnyIn_ready (rs := [10]) (by kernel_rfl) (by simp) ?_
  refine AllReadyIn.cons rfl (fun K hK => ?_) ?_
  go_simp
  try (refine hK _ _ ?_; clear hK K)
  refine wpAnyIn_ready (rs := [11]) (by kernel_rfl) (by simp) ?_
  refine AllReadyIn.cons rfl (fun K hK => ?_) ?_
  go_simp
  try (refine hK _ _ ?_; clear hK K)
  refine wpAnyIn_done (by kernel_rfl) ?_ _
  rotate_left 1
  exact AllReadyIn.nil
  exact AllReadyIn.nil
  exact AllReadyIn.nil
  exact AllReadyIn.nil
  exact AllReadyIn.nil
  refine AllReadyIn.cons rfl (fun K hK => ?_) ?_
  go_simp
  try (refine hK _ _ ?_; clear hK K)
  refine wpAnyIn_ready (rs := [0, 2]) (by kernel_rfl) (by simp) ?_
  refine AllReadyIn.cons rfl (fun K hK => ?_) ?_
  go_simp
  try (refine hK _ _ ?_; clear hK K)
  refine wpAnyIn_ready (rs := [2]) (by kernel_rfl) (by simp) ?_
  refine AllReadyIn.cons rfl (fun K hK => ?_) ?_
  go_simp
  try (refine hK _ _ ?_; clear hK K)
  refine wpAnyIn_ready (rs := [5]) (by kernel_rfl) (by simp) ?_
  refine AllReadyIn.cons rfl (fun K hK => ?_) ?_
  go_simp
  gi_wp2_with (refine ⟨trivial, ?_⟩; gi_at_call 149; refine (callsIn_wide.2 (zao.calls 16 u v d q r _ HDV.out)).mono ?_; rintro e w' ⟨rfl, ⟨nd, rfl⟩⟩)
  try (refine hK _ _ ?_; clear hK K)
  refine wpAnyIn_take (i := 6) (v := ?_) rfl rfl (by kernel_rfl) (by kernel_rfl) (by kernel_rfl) (fun _ _ _ h => h) ⟨Or.inl ⟨by rfl, ?_⟩, fun _ => rfl⟩ ?_
  rotate_left 1
  ·
   intro w; go_simp; with_reducible rfl
  refine wpAnyIn_take (i := 7) (v := ?_) rfl rfl (by kernel_rfl) (by kernel_rfl) (by kernel_rfl) (fun _ _ _ h => h) ⟨Or.inl ⟨by rfl, ?_⟩, fun _ => rfl⟩ ?_
  rotate_left 1
  ·
   intro w; go_simp; with_reducible rfl
  refine wpAnyIn_take (i := 8) (v := ?_) rfl rfl (by kernel_rfl) (by kernel_rfl) (by kernel_rfl) (fun _ _ _ h => h) ⟨Or.inl ⟨by rfl, ?_⟩, fun _ => rfl⟩ ?_
  rotate_left 1
  ·
   intro w; go_simp; with_reducible rfl
  refine wpAnyIn_take (i := 9) (v := ?_) rfl rfl (by kernel_rfl) (by kernel_rfl) (by kernel_rfl) (fun _ _ _ h => h) ⟨Or.inl ⟨by rfl, ?_⟩, fun _ => rfl⟩ ?_
  rotate_left 1
  ·
   intro w; go_simp; with_reducible rfl
  refine wpAnyIn_ready (rs := [10]) (by kernel_rfl) (by simp) ?_
  refine AllReadyIn.cons rfl (fun K hK => ?_) ?_
  go_simp
  try (refine hK _ _ ?_; clear hK K)
  refine wpAnyIn_ready (rs := [11]) (by kernel_rfl) (by simp) ?_
  refine AllReadyIn.cons rfl (fun K hK => ?_) ?_
  go_simp
  try (refine hK _ _ ?_; clear hK K)
  refine wpAnyIn_done (by kernel_rfl) ?_ _
  rotate_left 1
  exact AllReadyIn.nil
  exact AllReadyIn.nil
  exact AllReadyIn.nil
  exact AllReadyIn.nil
  refine AllReadyIn.cons rfl (fun K hK => ?_) ?_
  go_simp
  try (refine hK _ _ ?_; clear hK K)
  refine wpAnyIn_ready (rs := [0, 5]) (by kernel_rfl) (by simp) ?_
  refine AllReadyIn.cons rfl (fun K hK => ?_) ?_
  go_simp
  try (refine hK _ _ ?_; clear hK K)
  refine wpAnyIn_ready (rs := [5]) (by kernel_rfl) (by simp) ?_
  refine AllReadyIn.cons rfl (fun K hK => ?_) ?_
  go_simp
  gi_wp2_with (refine ⟨trivial, ?_⟩; gi_at_call 149; refine (callsIn_wide.2 (zao.calls 16 u v d q r _ HDV.out)).mono ?_; rintro e w' ⟨rfl, ⟨nd, rfl⟩⟩)
  try (refine hK _ _ ?_; clear hK K)
  refine wpAnyIn_take (i := 6) (v := ?_) rfl rfl (by kernel_rfl) (by kernel_rfl) (by kernel_rfl) (fun _ _ _ h => h) ⟨Or.inl ⟨by rfl, ?_⟩, fun _ => rfl⟩ ?_
  rotate_left 1
  ·
   intro w; go_simp; with_reducible rfl
  refine wpAnyIn_take (i := 7) (v := ?_) rfl rfl (by kernel_rfl) (by kernel_rfl) (by kernel_rfl) (fun _ _ _ h => h) ⟨Or.inl ⟨by rfl, ?_⟩, fun _ => rfl⟩ ?_
  rotate_left 1
  ·
   intro w; go_simp; with_reducible rfl
  refine wpAnyIn_take (i := 8) (v := ?_) rfl rfl (by kernel_rfl) (by kernel_rfl) (by kernel_rfl) (fun _ _ _ h => h) ⟨Or.inl ⟨by rfl, ?_⟩, fun _ => rfl⟩ ?_
  rotate_left 1
  ·
   intro w; go_simp; with_reducible rfl
  refine wpAnyIn_take (i := 9) (v := ?_) rfl rfl (by kernel_rfl) (by kernel_rfl) (by kernel_rfl) (fun _ _ _ h => h) ⟨Or.inl ⟨by rfl, ?_⟩, fun _ => rfl⟩ ?_
  rotate_left 1
  ·
   intro w; go_simp; with_reducible rfl
  refine wpAnyIn_ready (rs := [10]) (by kernel_rfl) (by simp) ?_
  refine AllReadyIn.cons rfl (fun K hK => ?_) ?_
  go_simp
  try (refine hK _ _ ?_; clear hK K)
  refine wpAnyIn_ready (rs := [11]) (by kernel_rfl) (by simp) ?_
  refine AllReadyIn.cons rfl (fun K hK => ?_) ?_
  go_simp
  try (refine hK _ _ ?_; clear hK K)
  refine wpAnyIn_done (by kernel_rfl) ?_ _
  rotate_left 1
  exact AllReadyIn.nil
  exact AllReadyIn.nil
  exact AllReadyIn.nil
  refine AllReadyIn.cons rfl (fun K hK => ?_) ?_
  go_simp
  gi_wp2_with (refine ⟨trivial, ?_⟩; gi_at_call 149; refine (callsIn_wide.2 (zao.calls 16 u v d q r _ HDV.out)).mono ?_; rintro e w' ⟨rfl, ⟨nd, rfl⟩⟩)
  try (refine hK _ _ ?_; clear hK K)
  refine wpAnyIn_take (i := 6) (v := ?_) rfl rfl (by kernel_rfl) (by kernel_rfl) (by kernel_rfl) (fun _ _ _ h => h) ⟨Or.inl ⟨by rfl, ?_⟩, fun _ => rfl⟩ ?_
  rotate_left 1
  ·
   intro w; go_simp; with_reducible rfl
  refine wpAnyIn_take (i := 7) (v := ?_) rfl rfl (by kernel_rfl) (by kernel_rfl) (by kernel_rfl) (fun _ _ _ h => h) ⟨Or.inl ⟨by rfl, ?_⟩, fun _ => rfl⟩ ?_
  rotate_left 1
  ·
   intro w; go_simp; with_reducible rfl
  refine wpAnyIn_take (i := 8) (v := ?_) rfl rfl (by kernel_rfl) (by kernel_rfl) (by kernel_rfl) (fun _ _ _ h => h) ⟨Or.inl ⟨by rfl, ?_⟩, fun _ => rfl⟩ ?_
  rotate_left 1
  ·
   intro w; go_simp; with_reducible rfl
  refine wpAnyIn_ready (rs := [0]) (by kernel_rfl) (by simp) ?_
  refine AllReadyIn.cons rfl (fun K hK => ?_) ?_
  go_simp
  try (refine hK _ _ ?_; clear hK K)
  refine wpAnyIn_take (i := 9) (v := ?_) rfl rfl (by kernel_rfl) (by kernel_rfl) (by kernel_rfl) (fun _ _ _ h => h) ⟨Or.inl ⟨by rfl, ?_⟩, fun _ => rfl⟩ ?_
  rotate_left 1
  ·
   intro w; go_simp; with_reducible rfl
  refine wpAnyIn_ready (rs := [10]) (by kernel_rfl) (by simp) ?_
  refine AllReadyIn.cons rfl (fun K hK => ?_) ?_
  go_simp
  try (refine hK _ _ ?_; clear hK K)
  refine wpAnyIn_ready (rs := [11]) (by kernel_rfl) (by simp) ?_
  refine AllReadyIn.cons rfl (fun K hK => ?_) ?_
  go_simp
  try (refine hK _ _ ?_; clear hK K)
  refine wpAnyIn_done (by kernel_rfl) ?_ _
  rotate_left 1
  exact AllReadyIn.nil
  exact AllReadyIn.nil
  exact AllReadyIn.nil
  exact AllReadyIn.nil
  exact AllReadyIn.nil
  exact AllReadyIn.nil
  all_goals gi_wp2
  all_goals
   have hkd : KeepsOthers W (W.drewN (1 + nd)) := ⟨Nat.le_of_eq (by simp), fun k o ho hc => by simpa using ho⟩
   have hR2 := Kd.R_far (p := ⟨w.heap.size + 1 + 1 + 1, 0, none⟩) (Kd.R_putn (enc := fun n => Value.int .u64 n) (Kd.zcb HR.out (1 + nd)) (j : Int) q) (fun k hk => by subst hk; simp) (.int .u64 r)
   rw [Int.toNat_natCast] at hR2
   refine ⟨((hkd.trans (KeepsOthers.setCell _ _ _)).trans (KeepsOthers.setCell _ _ _)).from _, ⟨((zbh (Below.refl _ _) _).setCell (by simp) _).setCell (by simp; omega) _, ?_⟩, ⟨?_, ?_, ?_, ?_, ?_⟩, ((zbh hB _).setCell (by simp) _).setCell (by simp; omega) _⟩
   ·
    rw [World.cell?_setCell_far _ _ _ _ (by simp), World.cell?_setCell_far _ _ _ _ (by simp <;> omega), World.cell?_drewN]
   ·
    rw [World.cell?_setCell_far _ _ _ _ (by simp <;> omega), World.cell?_setCell_far _ _ _ _ (by simp <;> omega), World.cell?_drewN]
    exact hcd
   ·
    rw [World.cell?_setCell_far _ _ _ _ (by simp), World.cell?_setCell_far _ _ _ _ (by simp), World.cell?_drewN]
    exact hco
   ·
    rw [HSN.out]
    exact World.cell?_setCell_same' _ _ _ (by rw [World.cell?_setCell_far _ _ _ _ (by simp), World.cell?_drewN, hcl]; rfl)
   ·
    rw [World.frozen?_setCell, World.frozen?_setCell, World.frozen?_drewN]
    exact hfl
   ·
    rw [HSN.out]
    dsimp only
    rw [List.length_set]
    exact hR2
 case done =>
  rintro D ys W hD rfl ⟨⟨hcd, hco, hcl, hfl, hR⟩, hB⟩ hK
  have hQl : (shortP d l0.reverse 0).1.length = l0.length := by rw [shortP_length, List.length_reverse]
  rw [stp_end] at hR hcl
  obtain ⟨Qs, hQs⟩ : ∃ Qs, (shortP d l0.reverse 0).1 = Qs := ⟨_, rfl⟩
  obtain ⟨lf, hlf⟩ : ∃ lf, (shortP d l0.reverse 0).2 = lf := ⟨_, rfl⟩
  have HT2 := HT.out
  rw [hQs] at hQl hR HT2
  rw [hlf] at hcl
  simp only [hlf]
  rw [hQl] at hR
  have htrim : ∀ W2 : World, Below W.heap.size W W2 → CallsIn Fence.wide (4 - 1) Tryz.prog 67 #[.slice (some ⟨w.heap.size + 1, 0, none⟩) l0.length l0.length] W2 fun e w' => ∃ v0_ : Value, e = .returned (v0_) ∧ Kd.V (Kd.int .u64) 82 w' W2.heap.size (fun k_ => (k_ = w.heap.size + 1 ∨ W2.heap.size ≤ k_)) v0_ T ∧ Below W2.heap.size W2 w' := fun W2 hb => by
   have h := zbl.calls k (fun k_ => k_ = w.heap.size + 1) (some ⟨w.heap.size + 1, 0, none⟩) l0.length Qs T W2 (by rw [hQl]; exact Kd.R_V (Kd.zbf hR hb)) HT2
   rw [hQl] at h
   exact callsIn_wide.2 h
  have HTR := Lib.hid htrim
  have hlt3 := World.block_lt_of_cell? W _ hcl
  clear htrim
  gi_wp2
  first | gi_region_with_o (refine ⟨trivial, ?_⟩; gi_at_call 67; refine (HTR.out _ (by repeat (first | exact Below.refl _ _ | apply zbh | apply below_drew))).mono ?_; rintro e w' ⟨v0, rfl, hv, hb⟩; have hcl2 : w'.cell? ⟨w.heap.size + 1 + 1 + 1, 0, none⟩ = some (.int .u64 lf) := (hb.cell (by simpa using hlt3)).trans hcl) | fail "no"
  all_goals gi_wp2
  all_goals
   have hDl : D < W.heap.size := by
    have := (Array.getElem?_eq_some_iff.1 hK).1
    exact this
   have hK' : w'.heap[D]? = some (.deferred (some [])) := (hb.block D hDl).trans hK
   refine ⟨by simp, .inl ⟨_, _, rfl, run_takeDeferred hK', ?_⟩⟩
   have hkeep : ∀ k, k ≠ D → (w'.putObj D (.deferred none)).heap[k]? = w'.heap[k]? := fun k hk => World.putObj_heap_other hk
   have hDn : w.heap.size + 1 + 1 + 1 < D := by simp at hD; omega
   refine ⟨_, by simp [results, Tryz.f115, go_sem, hlf], v0, rfl, ?_, ?_⟩
   ·
    refine Kd.zam (Kd.V_step (Kd.V_bound hv) (fun k hk _ => hkeep k ?_)) (fun k hk => ?_)
    ·
     rcases hk.1 with h | h
     ·
      omega
     ·
      have h2 : W.heap.size ≤ k := by simpa using h
      omega
    ·
     rcases hk.1 with h | h
     ·
      omega
     ·
      have h2 : W.heap.size ≤ k := by simpa using h
      have := hB.size
      omega
   ·
    have h1 : Below w.heap.size w w' := hB.trans ((below_drew (Below.refl _ _)).trans (hb.mono (by have := hB.size; show w.heap.size ≤ W.heap.size; omega)))
    exact ⟨h1.os, h1.tape, h1.output, by rw [World.putObj_size]; exact h1.size, fun k hk => by rw [hkeep k (by omega)]; exact h1.block k hk⟩
 case stop =>
  rintro D c pre W hD _ hf
  exact hf.elim
end
theorem zcn.calls (k : Nat) (A0 : Option Addr) (c0 : Nat) (l0 : List Int) (a1 : Int) (r1 : List Int) (r2 : Int) (w : World) (hr0 : Kd.C (Kd.int .u64) w A0 l0.length l0) (hc0 : l0.length ≤ c0) (h : zcn.f k l0 a1 = some (r1, r2)) :
  Calls Tryz.prog 115 #[.slice A0 l0.length c0, .int .u64 a1] w fun e w' => ∃ v0_ : Value, e = .returned (.tuple #[v0_, .int .u64 r2]) ∧ Kd.V (Kd.int .u64) 82 w' w.heap.size (fun k_ => (w.heap.size ≤ k_)) v0_ r1 ∧ Below w.heap.size w w' := by
 unfold zcn.f at h
 split at h
 ·
  rename_i hc
  obtain ⟨h1, h2, h3, h4⟩ := hc
  obtain ⟨T, hT, he⟩ := Option.bind_eq_some_iff.1 h
  injection he with he
  injection he with he1 he2
  subst he1 he2
  exact zcn.inner k A0 c0 l0 a1 T w (by omega) h1 h2 h3 hT (fun j hj => by
   obtain ⟨ad, e, hc⟩ := Kd.at_int hr0 (j : Int) (by omega) (by omega)
   refine ⟨ad, e, ?_, by simpa [rd] using hc⟩
   have := World.block_lt_of_cell? w _ hc
   unfold Addr.add at this
   split at this <;> exact this)
 ·
  cases h
end Go.Proofs.YthiicmanfpmipaaGreatDoor.P
end
section
namespace Go.Proofs.YthiicmanfpmipaaGreatDoor.P
open Go.RowKit Go.Proofs.YthiicmanfpmipaaGreatDoorW.PrintWords Go.Proofs.YthiicmanfpmipaaGreatDoorW.PrintLast Go.Proofs.YthiicmanfpmipaaGreatDoorW.PrintMore
attribute [local go_sem] zcf zci zcu zct zb6 zb2 zch zce
def zbv.f (i base : Int) : Option ByteArray := if base = 10 then (if 0 ≤ i then (if i < 18446744073709551616 then some ⟨(Lib.decDigits i.toNat).toArray⟩ else none) else none) else none
theorem zbv.inner (u : Nat) (w : World) (hu64 : u < 18446744073709551616) (htab0 : Glob w) :
  Calls Tryz.prog 150 #[.int .u64 u, .int .i64 10] w fun e w' => e = .returned (.string ⟨(Lib.decDigits u).toArray⟩) ∧ Below w.heap.size w w' := by
 have htab := htab0.1
 by_cases hs : u < 100
 ·
  have hi : (u : Int) < 100 := by omega
  go_enter Tryz.func150, Tryz.ntmps150
  go_wp2_with (go_at_call 169; refine (Tryz.internal_strconv_small u hs _).mono ?_; rintro e w' ⟨rfl, rfl⟩)
  go_ret
  exact ⟨rfl, Below.refl _ _⟩
 ·
  have hi : ¬ ((u : Int) < 100) := by omega
  have hu1 : 1 ≤ u := by omega
  have hnd20 : Lib.nDigits u ≤ 20 := by have := Lib.numDigits_eq u hu1 hu64; split at this <;> omega
  have hb3 : Lib.nDigits u ≤ 24 := by omega
  have hal : (Tryz.prog).arrayLen 237 = 24 := by simp [Program.arrayLen, Tryz.underlying237]
  have hsl1 : ∀ W, (Instr.sliceAt 237 (.pointer (some ⟨w.heap.size, 0, none⟩)) none (some (.int .i64 (Lib.nDigits u : Int))) none).run Tryz.prog W = .ok (.slice (some ⟨w.heap.size, 0, none⟩) (Lib.nDigits u) 24) W := fun W => by
   rw [run_sliceAt_array_h W 237 ⟨w.heap.size, 0, none⟩ (by simp [Program.arrayLen, Program.elem, Tryz.underlying237]) .i64 (Lib.nDigits u : Int) (by omega) (by rw [hal]; omega)]
   go_simp
  have hH0 := Lib.holds_zero0 w 237 (Lib.nDigits u) (by omega)
  have hfmt := Tryz.internal_strconv_formatBase10 w.heap.size 0 24 u (Array.replicate (Lib.nDigits u) 0) (w.alloc (.cells Lib.zeros24 237)) hH0 (by rw [Array.size_replicate]; exact Lib.lt_pow_nDigits u) hu64 (by rw [Array.size_replicate]; omega)
  rw [Array.size_replicate] at hfmt
  have HH0 := Lib.hid hH0
  clear hH0 hal
  go_enter Tryz.func150, Tryz.ntmps150
  go_wp2_with (first
   | (go_at_call 170; refine (Tryz.internal_strconv_numDigits u hu1 hu64 _ (Lib.tabIs_alloc htab _)).mono ?_; rintro e w' ⟨rfl, rfl⟩))
  go_at_call 171
  refine hfmt.mono ?_
  rintro e w' ⟨rfl, k, v', dk, rfl, hF⟩
  have hcv : (convert 220 9 (.slice (some ⟨w.heap.size, 0, none⟩) (Lib.nDigits u) 24)).run Tryz.prog ((Sort.putRow (fun (b : UInt8) => Value.int .u8 (b.toNat : Int)) (w.alloc (.cells Lib.zeros24 237)) w.heap.size 0 dk).drewN k) = .ok (.string ⟨(Lib.decDigits u).toArray⟩) ((Sort.putRow (fun (b : UInt8) => Value.int .u8 (b.toNat : Int)) (w.alloc (.cells Lib.zeros24 237)) w.heap.size 0 dk).drewN k) := by
   have h := run_convert_bytes_back (P := Tryz.prog) ((Sort.putRow (fun (b : UInt8) => Value.int .u8 (b.toNat : Int)) (w.alloc (.cells Lib.zeros24 237)) w.heap.size 0 dk).drewN k) 220 9 5 ⟨w.heap.size, 0, none⟩ 24 (Lib.decDigits u) Tryz.underlying220 Tryz.underlying5 Tryz.underlying9 (fun j hj => by
    rw [Lib.row_is_numeral hF j hj, Lib.add_plain, World.cell?_drewN]
    exact Sort.cell?_putRow (fun (b : UInt8) => Value.int .u8 (b.toNat : Int)) _ w.heap.size 0 _ dk HH0.out (by rw [hF.size, Array.size_replicate]) j (by rw [hF.size]; rw [Lib.decDigits_length] at hj; exact hj))
   rw [Lib.decDigits_length] at h
   exact h
  go_wp2
  go_ret
  obtain ⟨os, eo⟩ := Lib.fin_at w (.cells Lib.zeros24 237) dk k 0
  refine ⟨rfl, ?_⟩
  rw [eo]
  exact Lib.below_grow _ w (Nat.le_refl _) k os
theorem zbv.calls (a0 a1 : Int) (r : ByteArray) (w : World) (hG : Glob w) (h : zbv.f a0 a1 = some r) :
  Calls Tryz.prog 116 #[.int .u64 a0, .int .i64 a1] w fun e w' => e = .returned (.string r) ∧ Below w.heap.size w w' := by
 unfold zbv.f at h
 split at h
 ·
  rename_i h0
  subst h0
  split at h
  ·
   rename_i h1
   obtain ⟨u, rfl⟩ := Int.eq_ofNat_of_zero_le h1
   split at h
   ·
    rename_i h2
    injection h with h
    subst h
    go_enter Tryz.func116, Tryz.ntmps116
    go_wp2_with (go_at_call 150; refine (zbv.inner u _ (by omega) hG).mono ?_; rintro e w' ⟨rfl, hb⟩)
    go_ret
    exact ⟨rfl, hb⟩
   ·
    cases h
  ·
   cases h
 ·
  cases h
def strings_Repeat.f (s : ByteArray) (n : Int) : Option ByteArray := if 0 ≤ n then (if n ≤ 9223372036854775807 then (if s.size * n.toNat ≤ 140737488355328 then some ⟨(Lib.repeatL s.data.toList n.toNat).toArray⟩ else none) else none) else none
theorem strings_Repeat.calls (a0 : ByteArray) (a1 : Int) (r : ByteArray) (w : World) (h : strings_Repeat.f a0 a1 = some r) :
  Calls Tryz.prog 117 #[.string a0, .int .i64 a1] w fun e w' => e = .returned (.string r) ∧ Below w.heap.size w w' := by
 unfold strings_Repeat.f at h
 split at h
 ·
  rename_i h0
  obtain ⟨c, rfl⟩ := Int.eq_ofNat_of_zero_le h0
  split at h
  ·
   rename_i h1
   split at h
   ·
    rename_i h2
    injection h with h
    subst h
    exact Tryz.strings_Repeat a0 c w (by omega) h2
   ·
    cases h
  ·
   cases h
 ·
  cases h
def strings_Join.f (l : List ByteArray) (sep : ByteArray) : Option ByteArray := if l.length ≤ 140737488355328 then (if (Lib.join (l.map (·.data.toList)) sep.data.toList).length ≤ 140737488355328 then some ⟨(Lib.join (l.map (·.data.toList)) sep.data.toList).toArray⟩ else none) else none
theorem strings_Join.calls (A0 : Option Addr) (c0 : Nat) (l0 : List ByteArray) (a1 : ByteArray) (r : ByteArray) (w : World) (hr0 : Kd.C Kd.string w A0 l0.length l0) (hc0 : l0.length ≤ c0) (h : strings_Join.f l0 a1 = some r) :
  Calls Tryz.prog 119 #[.slice A0 l0.length c0, .string a1] w fun e w' => e = .returned (.string r) ∧ Below w.heap.size w w' := by
 unfold strings_Join.f at h
 split at h
 ·
  rename_i h1
  split at h
  ·
   rename_i h2
   injection h with h
   subst h
   cases l0 with
   | nil => exact (Tryz.strings_Join_none A0 c0 a1 w).mono fun e w' ⟨he, hw⟩ => ⟨he, by rw [hw]; exact Below.refl _ _⟩
   | cons x xs =>
    obtain ⟨ad, rfl, hc1⟩ := Kd.at_string hr0 0 (by omega) (by simp)
    obtain ⟨b, o, rfl, hb⟩ := addr_plain hc1
    refine Tryz.strings_Join b o c0 (x :: xs) a1 w (fun j y hy => ?_) hb h1 hc0 h2
    obtain ⟨hj, hy⟩ := List.getElem?_eq_some_iff.1 hy
    obtain ⟨ad, e, hc2⟩ := Kd.at_string hr0 (j : Int) (by omega) (by omega)
    cases e
    rw [Int.toNat_natCast, add_none] at hc2
    rw [hc2]
    simp only [rdOf, Int.toNat_natCast]
    rw [List.getD_eq_getElem?_getD, List.getElem?_eq_getElem hj, hy]
    rfl
  ·
   cases h
 ·
  cases h
def zcg.l0 : Nat → List Int → List ByteArray → Option (ByteArray)
 | 0, _, _ => none
 | k + 1, x0, x3 => (zcn.f k x0 1000000000000000000).bind fun bt353 => ((zbv.f bt353.2 10).bind fun t357 => (if (bt353.1.length : Int) = 0 then (if x3.length < 8796093022208 then ((zaf.f k (x3 ++ [t357])).bind fun t361 => ((strings_Join.f t361 (⟨#[]⟩ : ByteArray)).bind fun t362 => (some t362))) else (none)) else ((strings_Repeat.f (⟨#[48]⟩ : ByteArray) (wrap64 (18 - (t357.size : Int)))).bind fun t363 => (if t363.size + t357.size ≤ 9223372036854775807 then (if x3.length < 8796093022208 then (zcg.l0 k bt353.1 (x3 ++ [t363 ++ t357])) else (none)) else (none)))))
def zcg.f (k : Nat) (l0 : List Int) : Option (ByteArray) := zcg.l0 k l0 ([] : List ByteArray)
theorem zcg.calls (k : Nat) (P0_ : Nat → Prop) (A0 : Option Addr) (c0 : Nat) (l0 : List Int) (r : ByteArray) (w : World) (hs0 : Kd.V (Kd.int .u64) 82 w w.heap.size (fun k_ => P0_ k_) (.slice A0 l0.length c0) l0) (hG : Glob w) (h : zcg.f k l0 = some r) :
  Calls Tryz.prog 66 #[.slice A0 l0.length c0] w fun e w' => e = .returned (.string r) ∧ Below w.heap.size w w' := by
 have HO0 := zA (show Kd.V (Kd.int .u64) 82 w w.heap.size (fun k_ => (P0_ k_ ∨ w.heap.size ≤ k_)) (.slice A0 l0.length c0) l0 from Kd.zam hs0 (fun k_ hk => .inl hk))
 have HG := zA hG
 clear hG
 have HB := zA (Below.refl w.heap.size w)
 have H : (zcg.l0 k l0 ([] : List ByteArray)) = some r := h
 clear h
 have H' := zA H
 clear H
 go_enter Tryz.func66, Tryz.ntmps66
 go_wp2
 go_loopg [0, 3] k (fun kq v0 v3 w' => ∃ (x0_1 : List Int) (x3_1 : List ByteArray), Aside0 (zcg.l0 kq x0_1 x3_1 = some r) ∧ Aside0 (kq ≤ k) ∧ Aside0 (Kd.V (Kd.int .u64) 82 w' w.heap.size (fun k_ => (P0_ k_ ∨ w.heap.size ≤ k_) ∧ some k_ ≠ (v3 : Value).ownBlock) v0 x0_1) ∧ Aside0 (Kd.R Kd.string 9 w' w.heap.size (fun k_ => (w.heap.size ≤ k_)) v3 x3_1) ∧ Aside0 (Below w.heap.size w w'))
 case atStart => exact ⟨(l0), (([] : List ByteArray)), H', ⟨Nat.le_refl _⟩, ⟨by (with_reducible repeat (first | apply Kd.zbr | apply Kd.zbq | apply Kd.zbt)); exact Kd.zam HO0.out (fun _ hk => ⟨hk, (by simp [Value.ownBlock])⟩)⟩, ⟨by first | exact Kd.R_nil _ _ _ _ _ | exact Kd.N_nil _ _ _ _ _ | exact Kd.V_nil _ _ _ _ _ | exact Kd.Q_nil _ _ _ _ _ | exact Kd.S_nil _ _ _ _ _⟩, ⟨zB HB⟩⟩
 case round =>
  clear H'
  obtain ⟨x0_1, x3_1, HA, HK1, HO_0, HO_3, HB⟩ := hrel
  cases gk with
  | zero => exact absurd HA.out (by simp [zcg.l0])
  | succ k1 =>
   have H := HA.out
   clear HA
   simp only [zcg.l0] at H
   replace H := zO H
   obtain ⟨⟨t353, t356⟩, A20, H⟩ := H
   try dsimp only at H
   have A2 := zA A20
   clear A20
   replace H := zO H
   obtain ⟨t357, A30, H⟩ := H
   try dsimp only at H
   have A3 := zA A30
   clear A30
   by_cases c4 : (t353.length : Int) = 0
   ·
    rw [if_pos c4] at H
    have c4b0 : ((t353.length : Int) == 0) = true := beq_iff_eq.mpr c4
    have c4b1 : ((t353.length : Int) != 0) = false := bne_eq_false_iff_eq.mpr c4
    clear c4
    by_cases c5 : x3_1.length < 8796093022208
    ·
     rw [if_pos c5] at H
     have LMc5 := zA c5
     clear c5
     obtain ⟨y358, hy358⟩ : ∃ y_ : List ByteArray, y_ = (x3_1 ++ [t357]) := ⟨_, rfl⟩
     replace H : ((zaf.f k1 y358).bind fun t361 => ((strings_Join.f t361 (⟨#[]⟩ : ByteArray)).bind fun t362 => (some t362))) = some r := by first | (rw [hy358]; with_reducible exact H) | (have H2_ := (Option.bind_some _ _).symm.trans H; rw [hy358]; with_reducible exact H2_) | (have H2_ := (Option.bind_some _ _).symm.trans H; with_reducible exact H2_) | with_reducible exact H | (rw [hy358]; exact H) | exact H
     have Ny358 := zA hy358
     clear hy358
     replace H := zO H
     obtain ⟨t361, A60, H⟩ := H
     try dsimp only at H
     have A6 := zA A60
     clear A60
     replace H := zO H
     obtain ⟨t362, A70, H⟩ := H
     try dsimp only at H
     have A7 := zA A70
     clear A70
     obtain rfl := Option.some.inj H
     obtain ⟨Ao8, co8, eo8⟩ := Kd.za1 HO_0.out
     subst eo8
     go_wp2_with (first | ((with_reducible refine zae (f := 115) rfl ?_); refine za2 (some 8) rfl rfl Tryz.func115 (by kernel_rfl) rfl #[.slice Ao8 x0_1.length co8, .int .u64 1000000000000000000] rfl (zE) ?_; (with_reducible refine (zcn.calls k1 _ _ x0_1 1000000000000000000 t353 t356 _ ?side1 ?side2 A2.out).mono ?_); (case side1 => exact zJ (Kd.zak HO_0.out).2.2); (case side2 => exact (Kd.zak HO_0.out).2.1); rintro e w9 ⟨v354, rfl, ho0, hb⟩; refine ⟨_, rfl, ?_⟩; have n0_ := zA (Kd.zau (zV HO_0) hb); have n1_ := zA (Kd.zbf (zR HO_3) hb); have n2_ := zA (Kd.zaz (Kd.zam (ok' := fun k_ => (P0_ k_ ∨ w.heap.size ≤ k_) ∧ some k_ ≠ (u3 : Value).ownBlock) ho0 (fun k_ hk_ => ⟨(.inr (Nat.le_trans (za (zB HB)) hk_)), (Kd.fresh' (Kd.R_lt (zR HO_3)) k_ hk_)⟩)) (za (zB HB))); have n3_ := zA (zaa (zB HB) hb); clear HO_0 HO_3 HB; have HO_0 := n0_; have HO_3 := n1_; have HO355 := n2_; have HB := n3_; clear n0_ n1_ n2_ n3_; (try clear hb); (try clear hb2); (try clear hk); (try clear hi); (try clear ho0)) | ((with_reducible refine zae (f := 116) rfl ?_); refine za2 (some 12) rfl rfl Tryz.func116 (by kernel_rfl) rfl #[.int .u64 t356, .int .i64 10] rfl (zE) ?_; (with_reducible refine (zbv.calls t356 10 t357 _ ?side1 A3.out).mono ?_); (case side1 => exact Glob.below HG.out (zB HB)); rintro e w10 ⟨rfl, hb⟩; refine ⟨_, rfl, ?_⟩; have n0_ := zA (Kd.zau (zV HO_0) hb); have n1_ := zA (Kd.zbf (zR HO_3) hb); have n2_ := zA (Kd.zau (zV HO355) hb); have n3_ := zA (zaa (zB HB) hb); clear HO_0 HO_3 HO355 HB; have HO_0 := n0_; have HO_3 := n1_; have HO355 := n2_; have HB := n3_; clear n0_ n1_ n2_ n3_; (try clear hb); (try clear hb2); (try clear hk); (try clear hi); obtain ⟨Ao11, co11, eo11⟩ := Kd.za1 HO355.out; subst eo11) | ((with_reducible refine zb3 (b := .append) (xs := #[.tmp 16, .tmp 18]) rfl ?_); at_builtin; refine Kd.zdj Kd.string (w0 := w) w.heap.size rfl (.tmp 16) (.tmp 18) 179 9 (.string ⟨#[]⟩) 16 rfl Tryz.underlying179 info9 rfl (by decide) (by omega) u3 x3_1 t357 [.string t357] (fun k_ => (w.heap.size ≤ k_)) (fun _ => False) rfl rfl ?aP (fun _ hk => hk.elim) ?aF ?aO ?aB ?aS ?aL ?_; (case aP => exact rfl); (case aB => exact (zB HB)); (case aF => exact (fun k_ hk => (Nat.le_trans (za (zB HB)) hk))); (case aO => exact (zR HO_3)); (case aS => exact (za (zB HB))); (case aL => have := LMc5.out; omega); intro v359 w12 ho hb hg hat; rw [← Ny358.out] at ho; have n0_ := zA (Kd.V_afterv (ok := (fun k_ => (P0_ k_ ∨ w.heap.size ≤ k_))) (zV HO_0) hg hat); have n1_ := zA (Kd.V_afterv (ok := (fun k_ => (P0_ k_ ∨ w.heap.size ≤ k_))) (zV HO355) hg hat); have n2_ := zA (hb); have n3_ := zA (ho); clear HO_0 HO355 HB HO_3; have HO_0 := n0_; have HO355 := n1_; have HB := n2_; have HO360 := n3_; clear n0_ n1_ n2_ n3_ ho hb hg hat; obtain ⟨Ao13, co13, eo13⟩ := Kd.zbm HO360.out; subst eo13) | ((with_reducible refine zae (f := 118) rfl ?_); refine za2 (some 30) rfl rfl Tryz.func118 (by kernel_rfl) rfl #[.slice Ao13 y358.length co13] rfl (zE) ?_; (with_reducible refine (zaf.calls k1 (fun k_ => some k_ = (.slice Ao13 y358.length co13 : Value).ownBlock) (.slice Ao13 y358.length co13) y358 t361 w _ ?side1 ?side2 A6.out).mono ?_); (case side1 => repeat (first | (with_reducible first | exact HB.out | apply zb | apply zbh | apply zbo) | exact HB.out)); (case side2 => exact Kd.zde rfl HO360.out); rintro e w14 ⟨rfl, hy0, hb, hkp⟩; refine ⟨_, rfl, ?_⟩; have n0_ := zA (Kd.zam (ok' := fun k_ => (P0_ k_ ∨ w.heap.size ≤ k_) ∧ some k_ ≠ (.slice Ao13 y358.length co13 : Value).ownBlock) (Kd.V_keptB (HO_0.out) hkp (fun k_ hk_ hs_ => (hk_.2) hs_)) (fun k_ hk_ => ⟨hk_.1.1, hk_.1.2⟩)); have n1_ := zA (Kd.zam (ok' := fun k_ => (P0_ k_ ∨ w.heap.size ≤ k_) ∧ some k_ ≠ (.slice Ao13 y358.length co13 : Value).ownBlock) (Kd.V_keptB (HO355.out) hkp (fun k_ hk_ hs_ => (hk_.2) hs_)) (fun k_ hk_ => ⟨hk_.1.1, hk_.1.2⟩)); have n2_ := zA (Kd.R_reok rfl hy0 (fun k_ e_ => HO360.out.1 k_ e_)); have n3_ := zA (hb); clear HO_0 HO355 HO360 HB; have HO_0 := n0_; have HO355 := n1_; have HO360 := n2_; have HB := n3_; clear n0_ n1_ n2_ n3_; (try clear hb); (try clear hkp); (try clear hy0)) | ((with_reducible refine zae (f := 119) rfl ?_); refine za2 (some 32) rfl rfl Tryz.func119 (by kernel_rfl) rfl #[.slice Ao13 t361.length co13, .string (⟨#[]⟩ : ByteArray)] rfl (by (try simp only [List.map_toArray, List.map_cons, List.map_nil]); first | done | (rw [show t361.length = y358.length from (Kd.zay HO360.out).1.symm] <;> rfl) | rfl | (simp only [List.length_drop, List.length_take]; rfl) | ((simp [Act.eval, wrap64]) <;> omega) | ((simp [Act.eval, wrap64, IntKind.wrap, IntKind.bits, IntKind.signed]) <;> omega)) ?_; (with_reducible refine (strings_Join.calls _ _ t361 (⟨#[]⟩ : ByteArray) t362 _ ?side1 ?side2 A7.out).mono ?_); (case side1 => exact zJ (Kd.zay HO360.out).2.2); (case side2 => rw [show t361.length = y358.length from (Kd.zay HO360.out).1.symm]; exact (Kd.zay HO360.out).2.1); rintro e w15 ⟨rfl, hb⟩; refine ⟨_, rfl, ?_⟩; have n0_ := zA (Kd.zau (zV HO_0) hb); have n1_ := zA (Kd.zau (zV HO355) hb); have n2_ := zA (Kd.zbf (zR HO360) hb); have n3_ := zA (zaa (zB HB) hb); clear HO_0 HO355 HO360 HB; have HO_0 := n0_; have HO355 := n1_; have HO360 := n2_; have HB := n3_; clear n0_ n1_ n2_ n3_; (try clear hb); (try clear hb2); (try clear hk); (try clear hi)))
     go_ret
     exact ⟨zW, zB HB⟩
    ·
     rw [if_neg c5] at H
     exact absurd H (by simp)
   ·
    rw [if_neg c4] at H
    have c4b0 : ((t353.length : Int) == 0) = false := beq_eq_false_iff_ne.mpr c4
    have c4b1 : ((t353.length : Int) != 0) = true := bne_iff_ne.mpr c4
    have c4b2 : ¬ (t353 = []) := fun h_ => c4 (by rw [h_]; rfl)
    replace H := zO H
    obtain ⟨t363, A160, H⟩ := H
    try dsimp only at H
    have A16 := zA A160
    clear A160
    by_cases c17 : t363.size + t357.size ≤ 9223372036854775807
    ·
     rw [if_pos c17] at H
     have c17b0 := eq_true c17
     have c17b1 : decide (t363.size + t357.size ≤ 9223372036854775807) = true := decide_eq_true c17
     try have c17b2 : (9223372036854775807 < t363.size + t357.size) = False := eq_false (Nat.not_lt.2 c17)
     by_cases c18 : x3_1.length < 8796093022208
     ·
      rw [if_pos c18] at H
      have LMc18 := zA c18
      clear c18
      obtain ⟨y364, hy364⟩ : ∃ y_ : List ByteArray, y_ = (x3_1 ++ [t363 ++ t357]) := ⟨_, rfl⟩
      replace H : (zcg.l0 k1 t353 y364) = some r := by first | (rw [hy364]; with_reducible exact H) | (have H2_ := (Option.bind_some _ _).symm.trans H; rw [hy364]; with_reducible exact H2_) | (have H2_ := (Option.bind_some _ _).symm.trans H; with_reducible exact H2_) | with_reducible exact H | (rw [hy364]; exact H) | exact H
      have Ny364 := zA hy364
      clear hy364
      have H' := zA H
      clear H
      obtain ⟨Ao19, co19, eo19⟩ := Kd.za1 HO_0.out
      subst eo19
      go_wp2_with (first | ((with_reducible refine zae (f := 115) rfl ?_); refine za2 (some 8) rfl rfl Tryz.func115 (by kernel_rfl) rfl #[.slice Ao19 x0_1.length co19, .int .u64 1000000000000000000] rfl (zE) ?_; (with_reducible refine (zcn.calls k1 _ _ x0_1 1000000000000000000 t353 t356 _ ?side1 ?side2 A2.out).mono ?_); (case side1 => exact zJ (Kd.zak HO_0.out).2.2); (case side2 => exact (Kd.zak HO_0.out).2.1); rintro e w20 ⟨v354, rfl, ho0, hb⟩; refine ⟨_, rfl, ?_⟩; have n0_ := zA (Kd.zau (zV HO_0) hb); have n1_ := zA (Kd.zbf (zR HO_3) hb); have n2_ := zA (Kd.zaz (Kd.zam (ok' := fun k_ => (P0_ k_ ∨ w.heap.size ≤ k_) ∧ some k_ ≠ (u3 : Value).ownBlock) ho0 (fun k_ hk_ => ⟨(.inr (Nat.le_trans (za (zB HB)) hk_)), (Kd.fresh' (Kd.R_lt (zR HO_3)) k_ hk_)⟩)) (za (zB HB))); have n3_ := zA (zaa (zB HB) hb); clear HO_0 HO_3 HB; have HO_0 := n0_; have HO_3 := n1_; have HO355 := n2_; have HB := n3_; clear n0_ n1_ n2_ n3_; (try clear hb); (try clear hb2); (try clear hk); (try clear hi); (try clear ho0)) | ((with_reducible refine zae (f := 116) rfl ?_); refine za2 (some 12) rfl rfl Tryz.func116 (by kernel_rfl) rfl #[.int .u64 t356, .int .i64 10] rfl (zE) ?_; (with_reducible refine (zbv.calls t356 10 t357 _ ?side1 A3.out).mono ?_); (case side1 => exact Glob.below HG.out (zB HB)); rintro e w21 ⟨rfl, hb⟩; refine ⟨_, rfl, ?_⟩; have n0_ := zA (Kd.zau (zV HO_0) hb); have n1_ := zA (Kd.zbf (zR HO_3) hb); have n2_ := zA (Kd.zau (zV HO355) hb); have n3_ := zA (zaa (zB HB) hb); clear HO_0 HO_3 HO355 HB; have HO_0 := n0_; have HO_3 := n1_; have HO355 := n2_; have HB := n3_; clear n0_ n1_ n2_ n3_; (try clear hb); (try clear hb2); (try clear hk); (try clear hi); obtain ⟨Ao22, co22, eo22⟩ := Kd.za1 HO355.out; subst eo22) | ((with_reducible refine zae (f := 117) rfl ?_); refine za2 (some 24) rfl rfl Tryz.func117 (by kernel_rfl) rfl #[.string (⟨#[48]⟩ : ByteArray), .int .i64 (wrap64 (18 - (t357.size : Int)))] rfl (zE) ?_; (with_reducible refine (strings_Repeat.calls (⟨#[48]⟩ : ByteArray) (wrap64 (18 - (t357.size : Int))) t363 _ A16.out).mono ?_); rintro e w23 ⟨rfl, hb⟩; refine ⟨_, rfl, ?_⟩; have n0_ := zA (Kd.zau (zV HO_0) hb); have n1_ := zA (Kd.zbf (zR HO_3) hb); have n2_ := zA (Kd.zau (zV HO355) hb); have n3_ := zA (zaa (zB HB) hb); clear HO_0 HO_3 HO355 HB; have HO_0 := n0_; have HO_3 := n1_; have HO355 := n2_; have HB := n3_; clear n0_ n1_ n2_ n3_; (try clear hb); (try clear hb2); (try clear hk); (try clear hi)) | ((with_reducible refine zb3 (b := .append) (xs := #[.tmp 20, .tmp 27]) rfl ?_); at_builtin; refine Kd.zdj Kd.string (w0 := w) w.heap.size rfl (.tmp 20) (.tmp 27) 179 9 (.string ⟨#[]⟩) 16 rfl Tryz.underlying179 info9 rfl (by decide) (by omega) u3 x3_1 (t363 ++ t357) [.string (t363 ++ t357)] (fun k_ => (w.heap.size ≤ k_)) (fun _ => False) rfl rfl ?aP (fun _ hk => hk.elim) ?aF ?aO ?aB ?aS ?aL ?_; (case aP => exact rfl); (case aB => exact (zB HB)); (case aF => exact (fun k_ hk => (Nat.le_trans (za (zB HB)) hk))); (case aO => exact (zR HO_3)); (case aS => exact (za (zB HB))); (case aL => have := LMc18.out; omega); intro v365 w24 ho hb hg hat; rw [← Ny364.out] at ho; have n0_ := zA (Kd.V_afterv (ok := (fun k_ => (P0_ k_ ∨ w.heap.size ≤ k_))) (zV HO_0) hg hat); have n1_ := zA (Kd.V_afterv (ok := (fun k_ => (P0_ k_ ∨ w.heap.size ≤ k_))) (zV HO355) hg hat); have n2_ := zA (hb); have n3_ := zA (ho); clear HO_0 HO355 HB HO_3; have HO_0 := n0_; have HO355 := n1_; have HB := n2_; have HO366 := n3_; clear n0_ n1_ n2_ n3_ ho hb hg hat))
      go_roundg k1
      case measure => have := HK1.out; omega
      case rel => exact ⟨(t353), (y364), H', ⟨by have := HK1.out; omega⟩, ⟨zV HO355⟩, ⟨zR HO366⟩, ⟨zB HB⟩⟩
     ·
      rw [if_neg c18] at H
      exact absurd H (by simp)
    ·
     rw [if_neg c17] at H
     exact absurd H (by simp)
def za0.f (k : Nat) (l0_0 : List Int) (l0_1 : List Int) : Option (ByteArray) := (zcs.f k).bind fun t368 => ((zcp.f l0_1 t368).bind fun t371 => (if t371 = 0 then ((zcg.f k l0_0).bind fun t372 => (some t372)) else ((zcg.f k l0_0).bind fun t373 => (if t373.size + 1 ≤ 9223372036854775807 then ((zcg.f k l0_1).bind fun t374 => (if (t373 ++ (⟨#[47]⟩ : ByteArray)).size + t374.size ≤ 9223372036854775807 then (some ((t373 ++ (⟨#[47]⟩ : ByteArray)) ++ t374)) else (none))) else (none)))))
def za0.T3 : Bool × List (List Nat × List Nat) := (true, [([], []), ([0], [0]), ([1], [1]), ([2], [2]), ([], []), ([4], [4]), ([5, 2], [5]), ([3, 6], [3, 6]), ([7, 6, 0, 1, 2, 3, 4, 5, 6, 7], [7])])
def za0.B3 : List Nat := [0, 1, 3, 7, 0, 16, 55, 127, 255]
theorem za0.tab3 : rtab .any (opsOf Tryz.f33 3) = za0.T3 := by kernel_rfl
theorem za0.bits3 : waitsOk za0.T3.2 za0.B3 = true := by kernel_rfl
theorem za0.calls (k : Nat) (A0_0 : Option Addr) (c0_0 : Nat) (l0_0 : List Int) (A0_1 : Option Addr) (c0_1 : Nat) (l0_1 : List Int) (r : ByteArray) (w : World) (hr0_0 : Kd.C (Kd.int .u64) w A0_0 l0_0.length l0_0) (hc0_0 : l0_0.length ≤ c0_0) (hr0_1 : Kd.C (Kd.int .u64) w A0_1 l0_1.length l0_1) (hc0_1 : l0_1.length ≤ c0_1) (hG : Glob w) (h : za0.f k l0_0 l0_1 = some r) :
  Calls Tryz.prog 33 #[.agg #[.slice A0_0 l0_0.length c0_0, .slice A0_1 l0_1.length c0_1]] w fun e w' => e = .returned (.string r) ∧ Below w.heap.size w w' := by
 have hu29 := Tryz.underlying29
 have HR0_0 := zA hr0_0
 have HC0_0 := zA hc0_0
 clear hr0_0 hc0_0
 have HR0_1 := zA hr0_1
 have HC0_1 := zA hc0_1
 clear hr0_1 hc0_1
 have HG := zA hG
 clear hG
 have HB := zA (Below.refl w.heap.size w)
 have H : ((zcs.f k).bind fun t368 => ((zcp.f l0_1 t368).bind fun t371 => (if t371 = 0 then ((zcg.f k l0_0).bind fun t372 => (some t372)) else ((zcg.f k l0_0).bind fun t373 => (if t373.size + 1 ≤ 9223372036854775807 then ((zcg.f k l0_1).bind fun t374 => (if (t373 ++ (⟨#[47]⟩ : ByteArray)).size + t374.size ≤ 9223372036854775807 then (some ((t373 ++ (⟨#[47]⟩ : ByteArray)) ++ t374)) else (none))) else (none)))))) = some r := h
 clear h
 replace H := zO H
 obtain ⟨t368, A20, H⟩ := H
 try dsimp only at H
 have A2 := zA A20
 clear A20
 replace H := zO H
 obtain ⟨t371, A30, H⟩ := H
 try dsimp only at H
 have A3 := zA A30
 clear A30
 by_cases c4 : t371 = 0
 ·
  rw [if_pos c4] at H
  have c4b0 : (t371 == 0) = true := beq_iff_eq.mpr c4
  have c4b1 : (t371 != 0) = false := bne_eq_false_iff_eq.mpr c4
  clear c4
  replace H := zO H
  obtain ⟨t372, A50, H⟩ := H
  try dsimp only at H
  have A5 := zA A50
  clear A50
  obtain rfl := Option.some.inj H
  go_enter Tryz.func33, Tryz.ntmps33
  try go_wp2_with (first | ((with_reducible refine za8 (N := 1) rfl ?_); refine zbd ?hg (N := 1) ?hd (cs := #[.slice A0_0 l0_0.length c0_0, .slice A0_1 l0_1.length c0_1]) (t := 29) ?hr ?_; (case hd => rfl); (case hg => rfl); (case hr => first | (go_simp; done) | (go_simp; rfl)); intro gb367 hg w6 hbox hb; have n0_ := zA (zaa (zB HB) hb); have n1_ := zA (hbox); have n2_ := zA ((by rw [hg]; exact (za (zB HB)) : w.heap.size ≤ gb367)); have n3_ := zA ((by rw [hg]; exact (za (zB HB)) : w.heap.size ≤ gb367)); clear HB; have HB := n0_; have BK367 := n1_; have GW367 := n2_; have GE367 := n3_; clear n0_ n1_ n2_ n3_ hb hbox hg))
  have n0_ := zA (zai BK367.out)
  have n1_ := zA (zbo HB.out)
  clear BK367 HB
  have BK367 := n0_
  have HB := n1_
  clear n0_ n1_
  refine start_ (n := 5) (S := fun w' => w'.cell? ⟨gb367, 0, none⟩ = some (.slice A0_0 l0_0.length c0_0) ∧ w'.cell? ⟨gb367, 1, none⟩ = some (.slice A0_1 l0_1.length c0_1)) (ds := []) #[false, false, false, false, false] (by kernel_rfl) rfl rfl ⟨(zab BK367.out 0).trans rfl, (zab BK367.out 1).trans rfl⟩ (fun hHeld => ?_)
  generalize w6.drew = w7 at BK367 HB hHeld ⊢
  refine pure_ (i := 0) (N := some 3) (v := ?_) (a' := ?_) #[true, false, false, false, false] rfl rfl (by kernel_rfl) (fun _ _ _ h => h) (Or.inl ⟨by rfl, ?_⟩) ?_ ?_
  rotate_left
  ·
   intro w'
   go_simp
   with_reducible rfl
  rotate_left
  ·
   simp only [Act.put, zs1, zs2, zs3, i64_w, i32_w]
   rfl
  refine take_ (i := 1) (N := some 4) (v := ?_) (a' := ?_) #[true, true, false, false, false] rfl rfl (by kernel_rfl) (fun _ _ _ h => h) (Or.inl ⟨by rfl, ?_⟩) hHeld ?_ ?_
  rotate_left
  ·
   rintro w' ⟨s0, s1⟩
   go_simp
   with_reducible rfl
  rotate_left
  ·
   simp only [Act.put, zs1, zs2, zs3, i64_w, i32_w]
   rfl
  refine one_ (i := 2) (N := some 5) #[true, true, true, false, false] rfl rfl (by kernel_rfl) (by decide) (fun K hK => ?_)
  refine goes_ Tryz.func43 (by kernel_rfl) rfl #[] (by rfl) rfl rfl (zE) ?_
  with_reducible refine (zcs.calls k  t368 _ A2.out).mono ?_
  rintro e w8 ⟨v369, rfl, ho0, hb⟩
  refine ⟨_, rfl, ?_⟩
  have n0_ := zA (Kd.zaz (Kd.zam (ok' := fun k_ => k_ ≠ gb367) ho0 (fun k_ hk_ => (Kd.freshB (g := gb367) (o := .cells #[.slice A0_0 l0_0.length c0_0, .slice A0_1 l0_1.length c0_1] 29 (0, 0)) (zK BK367) k_ hk_))) (za (zB HB)))
  have n1_ := zA (zad (g := gb367) (o := .cells #[.slice A0_0 l0_0.length c0_0, .slice A0_1 l0_1.length c0_1] 29 (0, 0)) (zK BK367) hb)
  have n2_ := zA (zaa (zB HB) hb)
  clear BK367 HB
  have HO370 := n0_
  have BK367 := n1_
  have HB := n2_
  clear n0_ n1_ n2_
  (try clear hb)
  (try clear hb2)
  (try clear hk)
  (try clear hi)
  (try clear ho0)
  obtain ⟨Ao9, co9, eo9⟩ := Kd.za1 HO370.out
  (first | subst eo9 | (injection eo9 with f1_ f2_ f3_; have f4_ := f1_.symm; have f5_ := f3_.symm; clear f1_ f2_ f3_; subst f4_; subst f5_))
  refine hK.out _ _ ⟨(zab BK367.out 0).trans rfl, (zab BK367.out 1).trans rfl⟩ (fun hHeld => ?_)
  clear hK K
  refine norm_ (a' := ?_) ?_ ?_
  rotate_left
  ·
   show Act.put _ (some 5) _ = _
   simp only [Act.put, zs1, zs2, zs3, i64_w, i32_w]
   rfl
  refine one_ (i := 3) (N := some 6) #[true, true, true, true, false] rfl rfl (by kernel_rfl) (by decide) (fun K hK => ?_)
  refine goes_ Tryz.func42 (by kernel_rfl) rfl #[.slice A0_1 l0_1.length c0_1, .slice Ao9 t368.length co9] (by rfl) rfl rfl (zE) ?_
  with_reducible refine (zcp.calls _ _ l0_1 _ _ t368 t371 _ ?side1 ?side2 ?side3 ?side4 A3.out).mono ?_
  (case side1 => exact zJ (Kd.zas HR0_1.out HB.out))
  (case side2 => exact HC0_1.out)
  (case side3 => exact zJ (Kd.zak HO370.out).2.2)
  (case side4 => exact (Kd.zak HO370.out).2.1)
  rintro e w10 ⟨rfl, hb⟩
  refine ⟨_, rfl, ?_⟩
  have n0_ := zA (Kd.zau (zV HO370) hb)
  have n1_ := zA (zad (g := gb367) (o := .cells #[.slice A0_0 l0_0.length c0_0, .slice A0_1 l0_1.length c0_1] 29 (0, 0)) (zK BK367) hb)
  have n2_ := zA (zaa (zB HB) hb)
  clear HO370 BK367 HB
  have HO370 := n0_
  have BK367 := n1_
  have HB := n2_
  clear n0_ n1_ n2_
  (try clear hb)
  (try clear hb2)
  (try clear hk)
  (try clear hi)
  refine hK.out _ _ ⟨(zab BK367.out 0).trans rfl, (zab BK367.out 1).trans rfl⟩ (fun hHeld => ?_)
  clear hK K
  refine norm_ (a' := ?_) ?_ ?_
  rotate_left
  ·
   show Act.put _ (some 6) _ = _
   simp only [Act.put, zs1, zs2, zs3, i64_w, i32_w]
   rfl
  refine pure_ (i := 4) (N := some 7) (v := ?_) (a' := ?_) #[true, true, true, true, true] rfl rfl (by kernel_rfl) (fun _ _ _ h => h) (Or.inl ⟨by rfl, ?_⟩) ?_ ?_
  rotate_left
  ·
   intro w'
   go_simp
   with_reducible rfl
  rotate_left
  ·
   simp only [Act.put, zs1, zs2, zs3, i64_w, i32_w]
   rfl
  refine done_ (by kernel_rfl) ?_
  have hcz11_0 : w10.cell? ⟨gb367, 0, none⟩ = some (.slice A0_0 l0_0.length c0_0) := (zab BK367.out 0).trans rfl
  have hcz11_1 : w10.cell? ⟨gb367, 1, none⟩ = some (.slice A0_1 l0_1.length c0_1) := (zab BK367.out 1).trans rfl
  have hfz11_0 := zal BK367.out 0
  have hfz11_1 := zal BK367.out 1
  try go_wp2_with (first | ((with_reducible refine zae (f := 66) rfl ?_); refine za2 (some 10) rfl rfl Tryz.func66 (by kernel_rfl) rfl #[.slice A0_0 l0_0.length c0_0] rfl (zE) ?_; (with_reducible refine (zcg.calls k (fun k_ => k_ < w.heap.size) _ _ l0_0 t372 _ ?side1 ?side2 A5.out).mono ?_); (case side1 => exact Kd.V_mk HC0_0.out (Kd.F_below (Kd.C_F (Kd.heap_int .u64) HR0_0.out) (zB HB))); (case side2 => exact Glob.below HG.out (zB HB)); rintro e w12 ⟨rfl, hb⟩; refine ⟨_, rfl, ?_⟩; have n0_ := zA (Kd.zau (zV HO370) hb); have n1_ := zA (zad (g := gb367) (o := .cells #[.slice A0_0 l0_0.length c0_0, .slice A0_1 l0_1.length c0_1] 29 (0, 0)) (zK BK367) hb); have n2_ := zA (zaa (zB HB) hb); clear HO370 BK367 HB; have HO370 := n0_; have BK367 := n1_; have HB := n2_; clear n0_ n1_ n2_; (try clear hb); (try clear hb2); (try clear hk); (try clear hi)))
  go_ret
  exact ⟨zW, zB HB⟩
 ·
  rw [if_neg c4] at H
  have c4b0 : (t371 == 0) = false := beq_eq_false_iff_ne.mpr c4
  have c4b1 : (t371 != 0) = true := bne_iff_ne.mpr c4
  replace H := zO H
  obtain ⟨t373, A130, H⟩ := H
  try dsimp only at H
  have A13 := zA A130
  clear A130
  by_cases c14 : t373.size + 1 ≤ 9223372036854775807
  ·
   rw [if_pos c14] at H
   have c14b0 := eq_true c14
   have c14b1 : decide (t373.size + 1 ≤ 9223372036854775807) = true := decide_eq_true c14
   try have c14b2 : (9223372036854775807 < t373.size + 1) = False := eq_false (Nat.not_lt.2 c14)
   replace H := zO H
   obtain ⟨t374, A150, H⟩ := H
   try dsimp only at H
   have A15 := zA A150
   clear A150
   by_cases c16 : (t373 ++ (⟨#[47]⟩ : ByteArray)).size + t374.size ≤ 9223372036854775807
   ·
    rw [if_pos c16] at H
    have c16b0 := eq_true c16
    have c16b1 : decide ((t373 ++ (⟨#[47]⟩ : ByteArray)).size + t374.size ≤ 9223372036854775807) = true := decide_eq_true c16
    try have c16b3 : (9223372036854775807 < t373.size + 1 + t374.size) = False := by have h_ := eq_false (Nat.not_lt.2 c16); rw [ByteArray.size_append] at h_; exact h_
    try have c16b2 : (9223372036854775807 < (t373 ++ (⟨#[47]⟩ : ByteArray)).size + t374.size) = False := eq_false (Nat.not_lt.2 c16)
    obtain rfl := Option.some.inj H
    go_enter Tryz.func33, Tryz.ntmps33
    try go_wp2_with (first | ((with_reducible refine za8 (N := 1) rfl ?_); refine zbd ?hg (N := 1) ?hd (cs := #[.slice A0_0 l0_0.length c0_0, .slice A0_1 l0_1.length c0_1]) (t := 29) ?hr ?_; (case hd => rfl); (case hg => rfl); (case hr => first | (go_simp; done) | (go_simp; rfl)); intro gb367 hg w17 hbox hb; have n0_ := zA (zaa (zB HB) hb); have n1_ := zA (hbox); have n2_ := zA ((by rw [hg]; exact (za (zB HB)) : w.heap.size ≤ gb367)); have n3_ := zA ((by rw [hg]; exact (za (zB HB)) : w.heap.size ≤ gb367)); clear HB; have HB := n0_; have BK367 := n1_; have GW367 := n2_; have GE367 := n3_; clear n0_ n1_ n2_ n3_ hb hbox hg))
    have n0_ := zA (zai BK367.out)
    have n1_ := zA (zbo HB.out)
    clear BK367 HB
    have BK367 := n0_
    have HB := n1_
    clear n0_ n1_
    refine start_ (n := 5) (S := fun w' => w'.cell? ⟨gb367, 0, none⟩ = some (.slice A0_0 l0_0.length c0_0) ∧ w'.cell? ⟨gb367, 1, none⟩ = some (.slice A0_1 l0_1.length c0_1)) (ds := []) #[false, false, false, false, false] (by kernel_rfl) rfl rfl ⟨(zab BK367.out 0).trans rfl, (zab BK367.out 1).trans rfl⟩ (fun hHeld => ?_)
    generalize w17.drew = w18 at BK367 HB hHeld ⊢
    refine pure_ (i := 0) (N := some 3) (v := ?_) (a' := ?_) #[true, false, false, false, false] rfl rfl (by kernel_rfl) (fun _ _ _ h => h) (Or.inl ⟨by rfl, ?_⟩) ?_ ?_
    rotate_left
    ·
     intro w'
     go_simp
     with_reducible rfl
    rotate_left
    ·
     simp only [Act.put, zs1, zs2, zs3, i64_w, i32_w]
     rfl
    refine take_ (i := 1) (N := some 4) (v := ?_) (a' := ?_) #[true, true, false, false, false] rfl rfl (by kernel_rfl) (fun _ _ _ h => h) (Or.inl ⟨by rfl, ?_⟩) hHeld ?_ ?_
    rotate_left
    ·
     rintro w' ⟨s0, s1⟩
     go_simp
     with_reducible rfl
    rotate_left
    ·
     simp only [Act.put, zs1, zs2, zs3, i64_w, i32_w]
     rfl
    refine one_ (i := 2) (N := some 5) #[true, true, true, false, false] rfl rfl (by kernel_rfl) (by decide) (fun K hK => ?_)
    refine goes_ Tryz.func43 (by kernel_rfl) rfl #[] (by rfl) rfl rfl (zE) ?_
    with_reducible refine (zcs.calls k  t368 _ A2.out).mono ?_
    rintro e w19 ⟨v369, rfl, ho0, hb⟩
    refine ⟨_, rfl, ?_⟩
    have n0_ := zA (Kd.zaz (Kd.zam (ok' := fun k_ => k_ ≠ gb367) ho0 (fun k_ hk_ => (Kd.freshB (g := gb367) (o := .cells #[.slice A0_0 l0_0.length c0_0, .slice A0_1 l0_1.length c0_1] 29 (0, 0)) (zK BK367) k_ hk_))) (za (zB HB)))
    have n1_ := zA (zad (g := gb367) (o := .cells #[.slice A0_0 l0_0.length c0_0, .slice A0_1 l0_1.length c0_1] 29 (0, 0)) (zK BK367) hb)
    have n2_ := zA (zaa (zB HB) hb)
    clear BK367 HB
    have HO370 := n0_
    have BK367 := n1_
    have HB := n2_
    clear n0_ n1_ n2_
    (try clear hb)
    (try clear hb2)
    (try clear hk)
    (try clear hi)
    (try clear ho0)
    obtain ⟨Ao20, co20, eo20⟩ := Kd.za1 HO370.out
    (first | subst eo20 | (injection eo20 with f1_ f2_ f3_; have f4_ := f1_.symm; have f5_ := f3_.symm; clear f1_ f2_ f3_; subst f4_; subst f5_))
    refine hK.out _ _ ⟨(zab BK367.out 0).trans rfl, (zab BK367.out 1).trans rfl⟩ (fun hHeld => ?_)
    clear hK K
    refine norm_ (a' := ?_) ?_ ?_
    rotate_left
    ·
     show Act.put _ (some 5) _ = _
     simp only [Act.put, zs1, zs2, zs3, i64_w, i32_w]
     rfl
    refine one_ (i := 3) (N := some 6) #[true, true, true, true, false] rfl rfl (by kernel_rfl) (by decide) (fun K hK => ?_)
    refine goes_ Tryz.func42 (by kernel_rfl) rfl #[.slice A0_1 l0_1.length c0_1, .slice Ao20 t368.length co20] (by rfl) rfl rfl (zE) ?_
    with_reducible refine (zcp.calls _ _ l0_1 _ _ t368 t371 _ ?side1 ?side2 ?side3 ?side4 A3.out).mono ?_
    (case side1 => exact zJ (Kd.zas HR0_1.out HB.out))
    (case side2 => exact HC0_1.out)
    (case side3 => exact zJ (Kd.zak HO370.out).2.2)
    (case side4 => exact (Kd.zak HO370.out).2.1)
    rintro e w21 ⟨rfl, hb⟩
    refine ⟨_, rfl, ?_⟩
    have n0_ := zA (Kd.zau (zV HO370) hb)
    have n1_ := zA (zad (g := gb367) (o := .cells #[.slice A0_0 l0_0.length c0_0, .slice A0_1 l0_1.length c0_1] 29 (0, 0)) (zK BK367) hb)
    have n2_ := zA (zaa (zB HB) hb)
    clear HO370 BK367 HB
    have HO370 := n0_
    have BK367 := n1_
    have HB := n2_
    clear n0_ n1_ n2_
    (try clear hb)
    (try clear hb2)
    (try clear hk)
    (try clear hi)
    refine hK.out _ _ ⟨(zab BK367.out 0).trans rfl, (zab BK367.out 1).trans rfl⟩ (fun hHeld => ?_)
    clear hK K
    refine norm_ (a' := ?_) ?_ ?_
    rotate_left
    ·
     show Act.put _ (some 6) _ = _
     simp only [Act.put, zs1, zs2, zs3, i64_w, i32_w]
     rfl
    refine pure_ (i := 4) (N := some 7) (v := ?_) (a' := ?_) #[true, true, true, true, true] rfl rfl (by kernel_rfl) (fun _ _ _ h => h) (Or.inl ⟨by rfl, ?_⟩) ?_ ?_
    rotate_left
    ·
     intro w'
     go_simp
     with_reducible rfl
    rotate_left
    ·
     simp only [Act.put, zs1, zs2, zs3, i64_w, i32_w]
     rfl
    refine done_ (by kernel_rfl) ?_
    try go_wp2
    have n0_ := zA (Kd.zbt HO370.out)
    have n1_ := zA (zai BK367.out)
    have n2_ := zA (zbo HB.out)
    clear HO370 BK367 HB
    have HO370 := n0_
    have BK367 := n1_
    have HB := n2_
    clear n0_ n1_ n2_
    refine start_ (n := 9) (S := fun w' => w'.cell? ⟨gb367, 0, none⟩ = some (.slice A0_0 l0_0.length c0_0) ∧ w'.cell? ⟨gb367, 1, none⟩ = some (.slice A0_1 l0_1.length c0_1)) (ds := []) #[false, false, false, false, false, false, false, false, false] (by kernel_rfl) rfl rfl ⟨(zab BK367.out 0).trans rfl, (zab BK367.out 1).trans rfl⟩ (fun hHeld => ?_); refine zcq za0.tab3 za0.bits3 (fun HT_ HW_ => ?_)
    generalize w21.drew = w22 at HO370 BK367 HB hHeld ⊢
    refine pure_ (i := 0) (N := some 11) (v := ?_) (a' := ?_) #[true, false, false, false, false, false, false, false, false] rfl rfl (zat HT_.out (by kernel_rfl)) (fun _ _ _ h => h) (Or.inl ⟨by rfl, ?_⟩) ?_ ?_
    rotate_left
    ·
     intro w'
     go_simp
     with_reducible rfl
    rotate_left
    ·
     simp only [Act.put, zs1, zs2, zs3, i64_w, i32_w]
     rfl
    refine pure_ (i := 4) (N := some 15) (v := ?_) (a' := ?_) #[true, false, false, false, true, false, false, false, false] rfl rfl (zat HT_.out (by kernel_rfl)) (fun _ _ _ h => h) (Or.inl ⟨by rfl, ?_⟩) ?_ ?_
    rotate_left
    ·
     intro w'
     go_simp
     with_reducible rfl
    rotate_left
    ·
     simp only [Act.put, zs1, zs2, zs3, i64_w, i32_w]
     rfl
    refine take_ (i := 1) (N := some 12) (v := ?_) (a' := ?_) #[true, true, false, false, true, false, false, false, false] rfl rfl (zbk HT_.out HW_.out (by kernel_rfl)) (fun _ _ _ h => h) (Or.inl ⟨by rfl, ?_⟩) hHeld ?_ ?_
    rotate_left
    ·
     rintro w' ⟨s0, s1⟩
     go_simp
     with_reducible rfl
    rotate_left
    ·
     simp only [Act.put, zs1, zs2, zs3, i64_w, i32_w]
     rfl
    refine take_ (i := 5) (N := some 16) (v := ?_) (a' := ?_) #[true, true, false, false, true, true, false, false, false] rfl rfl (zbk HT_.out HW_.out (by kernel_rfl)) (fun _ _ _ h => h) (Or.inl ⟨by rfl, ?_⟩) hHeld ?_ ?_
    rotate_left
    ·
     rintro w' ⟨s0, s1⟩
     go_simp
     with_reducible rfl
    rotate_left
    ·
     simp only [Act.put, zs1, zs2, zs3, i64_w, i32_w]
     rfl
    refine one_ (i := 2) (N := some 13) #[true, true, true, false, true, true, false, false, false] rfl rfl (zbu HT_.out (by kernel_rfl)) (by decide) (fun K hK => ?_)
    refine goes_ Tryz.func66 (by kernel_rfl) rfl #[.slice A0_0 l0_0.length c0_0] (by rfl) rfl rfl (zE) ?_
    with_reducible refine (zcg.calls k (fun k_ => k_ < w.heap.size) _ _ l0_0 t373 _ ?side1 ?side2 A13.out).mono ?_
    (case side1 => exact Kd.V_mk HC0_0.out (Kd.F_below (Kd.C_F (Kd.heap_int .u64) HR0_0.out) (zB HB)))
    (case side2 => exact Glob.below HG.out (zB HB))
    rintro e w23 ⟨rfl, hb⟩
    refine ⟨_, rfl, ?_⟩
    have n0_ := zA (Kd.zau (zV HO370) hb)
    have n1_ := zA (zad (g := gb367) (o := .cells #[.slice A0_0 l0_0.length c0_0, .slice A0_1 l0_1.length c0_1] 29 (0, 0)) (zK BK367) hb)
    have n2_ := zA (zaa (zB HB) hb)
    clear HO370 BK367 HB
    have HO370 := n0_
    have BK367 := n1_
    have HB := n2_
    clear n0_ n1_ n2_
    (try clear hb)
    (try clear hb2)
    (try clear hk)
    (try clear hi)
    refine hK.out _ _ ⟨(zab BK367.out 0).trans rfl, (zab BK367.out 1).trans rfl⟩ (fun hHeld => ?_)
    clear hK K
    refine norm_ (a' := ?_) ?_ ?_
    rotate_left
    ·
     show Act.put _ (some 13) _ = _
     simp only [Act.put, zs1, zs2, zs3, i64_w, i32_w]
     rfl
    refine pure_ (i := 3) (N := some 14) (v := ?_) (a' := ?_) #[true, true, true, true, true, true, false, false, false] rfl rfl (zat HT_.out (by kernel_rfl)) (fun _ _ _ h => h) (Or.inl ⟨by rfl, ?_⟩) ?_ ?_
    rotate_left
    ·
     intro w'
     go_simp
     with_reducible rfl
    rotate_left
    ·
     simp only [Act.put, zs1, zs2, zs3, i64_w, i32_w]
     rfl
    refine one_ (i := 6) (N := some 17) #[true, true, true, true, true, true, true, false, false] rfl rfl (zbu HT_.out (by kernel_rfl)) (by decide) (fun K hK => ?_)
    refine goes_ Tryz.func66 (by kernel_rfl) rfl #[.slice A0_1 l0_1.length c0_1] (by rfl) rfl rfl (zE) ?_
    with_reducible refine (zcg.calls k (fun k_ => k_ < w.heap.size) _ _ l0_1 t374 _ ?side1 ?side2 A15.out).mono ?_
    (case side1 => exact Kd.V_mk HC0_1.out (Kd.F_below (Kd.C_F (Kd.heap_int .u64) HR0_1.out) (zB HB)))
    (case side2 => exact Glob.below HG.out (zB HB))
    rintro e w24 ⟨rfl, hb⟩
    refine ⟨_, rfl, ?_⟩
    have n0_ := zA (Kd.zau (zV HO370) hb)
    have n1_ := zA (zad (g := gb367) (o := .cells #[.slice A0_0 l0_0.length c0_0, .slice A0_1 l0_1.length c0_1] 29 (0, 0)) (zK BK367) hb)
    have n2_ := zA (zaa (zB HB) hb)
    clear HO370 BK367 HB
    have HO370 := n0_
    have BK367 := n1_
    have HB := n2_
    clear n0_ n1_ n2_
    (try clear hb)
    (try clear hb2)
    (try clear hk)
    (try clear hi)
    refine hK.out _ _ ⟨(zab BK367.out 0).trans rfl, (zab BK367.out 1).trans rfl⟩ (fun hHeld => ?_)
    clear hK K
    refine norm_ (a' := ?_) ?_ ?_
    rotate_left
    ·
     show Act.put _ (some 17) _ = _
     simp only [Act.put, zs1, zs2, zs3, i64_w, i32_w]
     rfl
    refine pure_ (i := 7) (N := some 18) (v := ?_) (a' := ?_) #[true, true, true, true, true, true, true, true, false] rfl rfl (zat HT_.out (by kernel_rfl)) (fun _ _ _ h => h) (Or.inl ⟨by rfl, ?_⟩) ?_ ?_
    rotate_left
    ·
     intro w'
     go_simp
     with_reducible rfl
    rotate_left
    ·
     simp only [Act.put, zs1, zs2, zs3, i64_w, i32_w]
     rfl
    refine pure_ (i := 8) (N := some 2) (v := ?_) (a' := ?_) #[true, true, true, true, true, true, true, true, true] rfl rfl (zat HT_.out (by kernel_rfl)) (fun _ _ _ h => h) (Or.inl ⟨by rfl, ?_⟩) ?_ ?_
    rotate_left
    ·
     intro w'
     go_simp
     with_reducible rfl
    rotate_left
    ·
     simp only [Act.put, zs1, zs2, zs3, i64_w, i32_w]
     rfl
    refine done_ (zdf HT_.out (by kernel_rfl)) ?_
    try go_wp2
    go_ret
    exact ⟨zW, zB HB⟩
   ·
    rw [if_neg c16] at H
    exact absurd H (by simp)
  ·
   rw [if_neg c14] at H
   exact absurd H (by simp)
def zav.l0 : Nat → Int → List Int → Option (List Int)
 | 0, _, _ => none
 | k + 1, x0, x3 => if x0 > 0 then (if x3.length < 17592186044416 then (zav.l0 k (wrap64 (Int.tdiv x0 10000)) (x3 ++ [Int.tmod x0 10000])) else (none)) else (some x3)
def zav.f (k : Nat) (a0 : Int) : Option (List Int) := zav.l0 k a0 ([] : List Int)
theorem zav.calls (k : Nat) (a0 : Int) (r : List Int) (w : World) (h : zav.f k a0 = some r) :
  Calls Tryz.prog 37 #[.int .i64 a0] w fun e w' => ∃ v0_ : Value, e = .returned (v0_) ∧ Kd.R (Kd.int .i64) 3 w' w.heap.size (fun _ => True) v0_ r ∧ Below w.heap.size w w' := by
 have HB := zA (Below.refl w.heap.size w)
 have H : (zav.l0 k a0 ([] : List Int)) = some r := h
 clear h
 have H' := zA H
 clear H
 go_enter Tryz.func37, Tryz.ntmps37
 go_wp2
 go_loopg [0, 3] k (fun kq v0 v3 w' => ∃ (x0_1 : Int) (x3_1 : List Int), v0 = .int .i64 x0_1 ∧ Aside0 (zav.l0 kq x0_1 x3_1 = some r) ∧ Aside0 (kq ≤ k) ∧ Aside0 (Kd.R (Kd.int .i64) 3 w' w.heap.size (fun _ => True) v3 x3_1) ∧ Aside0 (Below w.heap.size w w'))
 case atStart => exact ⟨(a0), (([] : List Int)), (zF), H', ⟨Nat.le_refl _⟩, ⟨by first | exact Kd.R_nil _ _ _ _ _ | exact Kd.N_nil _ _ _ _ _ | exact Kd.V_nil _ _ _ _ _ | exact Kd.Q_nil _ _ _ _ _ | exact Kd.S_nil _ _ _ _ _⟩, ⟨zB HB⟩⟩
 case round =>
  clear H'
  obtain ⟨x0_1, x3_1, rfl, HA, HK1, HO_3, HB⟩ := hrel
  cases gk with
  | zero => exact absurd HA.out (by simp [zav.l0])
  | succ k1 =>
   have H := HA.out
   clear HA
   simp only [zav.l0] at H
   by_cases c2 : x0_1 > 0
   ·
    rw [if_pos c2] at H
    have c2b0 : decide (0 < x0_1) = true := decide_eq_true c2
    clear c2
    by_cases c3 : x3_1.length < 17592186044416
    ·
     rw [if_pos c3] at H
     have LMc3 := zA c3
     clear c3
     obtain ⟨y395, hy395⟩ : ∃ y_ : List Int, y_ = (x3_1 ++ [Int.tmod x0_1 10000]) := ⟨_, rfl⟩
     replace H : (zav.l0 k1 (wrap64 (Int.tdiv x0_1 10000)) y395) = some r := by first | (rw [hy395]; with_reducible exact H) | (have H2_ := (Option.bind_some _ _).symm.trans H; rw [hy395]; with_reducible exact H2_) | (have H2_ := (Option.bind_some _ _).symm.trans H; with_reducible exact H2_) | with_reducible exact H | (rw [hy395]; exact H) | exact H
     have Ny395 := zA hy395
     clear hy395
     have H' := zA H
     clear H
     go_wp2_with (first | ((with_reducible refine zb3 (b := .append) (xs := #[.tmp 6, .tmp 9]) rfl ?_); at_builtin; refine Kd.zdj (Kd.int .i64) (w0 := w) w.heap.size rfl (.tmp 6) (.tmp 9) 30 3 (.int .i64 0) 8 rfl Tryz.underlying30 info3 rfl (by decide) (by omega) u3 x3_1 (Int.tmod x0_1 10000) [.int .i64 (Int.tmod x0_1 10000)] (fun _ => True) (fun _ => False) rfl rfl ?aP (fun _ hk => hk.elim) ?aF ?aO ?aB ?aS ?aL ?_; (case aP => exact rfl); (case aB => exact (zB HB)); (case aF => exact (fun _ _ => trivial)); (case aO => exact (zR HO_3)); (case aS => exact (za (zB HB))); (case aL => have := LMc3.out; omega); intro v396 w4 ho hb hg hat; rw [← Ny395.out] at ho; have n0_ := zA (hb); have n1_ := zA (ho); clear HB HO_3; have HB := n0_; have HO397 := n1_; clear n0_ n1_ ho hb hg hat))
     go_roundg k1
     case measure => have := HK1.out; omega
     case rel => exact ⟨(wrap64 (Int.tdiv x0_1 10000)), (y395), (zF), H', ⟨by have := HK1.out; omega⟩, ⟨zR HO397⟩, ⟨zB HB⟩⟩
    ·
     rw [if_neg c3] at H
     exact absurd H (by simp)
   ·
    rw [if_neg c2] at H
    have c2b0 : decide (0 < x0_1) = false := decide_eq_false c2
    clear c2
    obtain rfl := Option.some.inj H
    go_wp2
    go_ret
    exact ⟨_, zW, zR HO_3, zB HB⟩
def za3.l0 : Nat → List Int → List Int → Int → Option (Int)
 | 0, _, _, _ => none
 | k + 1, x0, x1, x5 => if x5 ≥ 0 then (if 0 ≤ x5 then (if x5 < (x0.length : Int) then (if x5 < (x1.length : Int) then (if (rd x0 x5) < (rd x1 x5) then (some (-1)) else (if (rd x0 x5) > (rd x1 x5) then (some 1) else (za3.l0 k x0 x1 (wrap64 (x5 - 1))))) else (none)) else (none)) else (none)) else (some 0)
def za3.f (k : Nat) (l0 : List Int) (l1 : List Int) : Option (Int) := if (l0.length : Int) = (l1.length : Int) then (za3.l0 k l0 l1 (wrap64 ((l0.length : Int) - 1))) else (if (l0.length : Int) < (l1.length : Int) then (some (-1)) else (some 1))
theorem za3.calls (k : Nat) (A0 : Option Addr) (c0 : Nat) (l0 : List Int) (A1 : Option Addr) (c1 : Nat) (l1 : List Int) (r : Int) (w : World) (hr0 : Kd.C (Kd.int .i64) w A0 l0.length l0) (hc0 : l0.length ≤ c0) (hr1 : Kd.C (Kd.int .i64) w A1 l1.length l1) (hc1 : l1.length ≤ c1) (h : za3.f k l0 l1 = some r) :
  Calls Tryz.prog 88 #[.slice A0 l0.length c0, .slice A1 l1.length c1] w fun e w' => e = .returned (.int .i64 r) ∧ Drawn0 w w' := by
 have HR0 := zA hr0
 have HC0 := zA hc0
 clear hr0 hc0
 have HR1 := zA hr1
 have HC1 := zA hc1
 clear hr1 hc1
 have H : (if (l0.length : Int) = (l1.length : Int) then (za3.l0 k l0 l1 (wrap64 ((l0.length : Int) - 1))) else (if (l0.length : Int) < (l1.length : Int) then (some (-1)) else (some 1))) = some r := h
 clear h
 by_cases c3 : (l0.length : Int) = (l1.length : Int)
 ·
  rw [if_pos c3] at H
  have c3b0 : ((l0.length : Int) == (l1.length : Int)) = true := beq_iff_eq.mpr c3
  have c3b1 : ((l0.length : Int) != (l1.length : Int)) = false := bne_eq_false_iff_eq.mpr c3
  have c3b2 : (l0.length == l1.length) = true := by first | simpa using c3 | (simp at c3 ⊢; omega)
  clear c3
  have H' := zA H
  clear H
  go_enter Tryz.func88, Tryz.ntmps88
  go_wp2
  repeat (go_quiet (fail); try go_wp2)
  go_loopg [5] k (fun kq v5 w' => ∃ (x5_1 : Int), v5 = .int .i64 x5_1 ∧ Aside0 (za3.l0 kq l0 l1 x5_1 = some r) ∧ Aside0 (kq ≤ k) ∧ Drawn0 w w')
  case atStart => exact ⟨(wrap64 ((l0.length : Int) - 1)), (zF), H', ⟨Nat.le_refl _⟩, by repeat (first | exact Drawn0.refl _ | apply Drawn0.step)⟩
  case round =>
   clear H'
   try clear c1
   try clear p2
   try clear c3
   try clear c3b0
   try clear c3b1
   try clear c3b2
   obtain ⟨x5_1, rfl, HA, HK1, ⟨m1, rfl⟩⟩ := hrel
   cases gk with
   | zero => exact absurd HA.out (by simp [za3.l0])
   | succ k1 =>
    have H := HA.out
    clear HA
    simp only [za3.l0] at H
    by_cases c4 : x5_1 ≥ 0
    ·
     rw [if_pos c4] at H
     have c4b0 : decide (0 ≤ x5_1) = true := decide_eq_true c4
     clear c4
     by_cases c5 : 0 ≤ x5_1
     ·
      rw [if_pos c5] at H
      have c5b0 : decide (0 ≤ x5_1) = true := decide_eq_true c5
      clear c5
      by_cases c6 : x5_1 < (l0.length : Int)
      ·
       rw [if_pos c6] at H
       have c6b0 : decide (x5_1 < (l0.length : Int)) = true := decide_eq_true c6
       clear c6
       by_cases c7 : x5_1 < (l1.length : Int)
       ·
        rw [if_pos c7] at H
        have c7b0 : decide (x5_1 < (l1.length : Int)) = true := decide_eq_true c7
        clear c7
        by_cases c8 : (rd l0 x5_1) < (rd l1 x5_1)
        ·
         rw [if_pos c8] at H
         have c8b0 : decide ((rd l0 x5_1) < (rd l1 x5_1)) = true := decide_eq_true c8
         clear c8
         obtain rfl := Option.some.inj H
         have p398 : 0 ≤ (x5_1 : Int) := of_decide_eq_true (by first | (with_reducible assumption) | assumption)
         have q398 : x5_1 < (l0.length : Int) := of_decide_eq_true (by first | (with_reducible assumption) | assumption)
         obtain ⟨ad398, e398, hx398_0⟩ := Kd.at_int HR0.out x5_1 p398 q398
         cases e398
         replace p398 := eq_true p398
         replace q398 := eq_true q398
         have p399 : 0 ≤ (x5_1 : Int) := of_decide_eq_true (by first | (with_reducible assumption) | assumption)
         have q399 : x5_1 < (l1.length : Int) := of_decide_eq_true (by first | (with_reducible assumption) | assumption)
         obtain ⟨ad399, e399, hx399_0⟩ := Kd.at_int HR1.out x5_1 p399 q399
         cases e399
         replace p399 := eq_true p399
         replace q399 := eq_true q399
         go_wp2
         repeat (go_quiet (fail); try go_wp2)
         go_ret
         exact ⟨zF, by repeat (first | exact Drawn0.refl _ | apply Drawn0.step)⟩
        ·
         rw [if_neg c8] at H
         have c8b0 : decide ((rd l0 x5_1) < (rd l1 x5_1)) = false := decide_eq_false c8
         clear c8
         by_cases c9 : (rd l0 x5_1) > (rd l1 x5_1)
         ·
          rw [if_pos c9] at H
          have c9b0 : decide ((rd l1 x5_1) < (rd l0 x5_1)) = true := decide_eq_true c9
          clear c9
          obtain rfl := Option.some.inj H
          have p398 : 0 ≤ (x5_1 : Int) := of_decide_eq_true (by first | (with_reducible assumption) | assumption)
          have q398 : x5_1 < (l0.length : Int) := of_decide_eq_true (by first | (with_reducible assumption) | assumption)
          obtain ⟨ad398, e398, hx398_0⟩ := Kd.at_int HR0.out x5_1 p398 q398
          cases e398
          replace p398 := eq_true p398
          replace q398 := eq_true q398
          have p399 : 0 ≤ (x5_1 : Int) := of_decide_eq_true (by first | (with_reducible assumption) | assumption)
          have q399 : x5_1 < (l1.length : Int) := of_decide_eq_true (by first | (with_reducible assumption) | assumption)
          obtain ⟨ad399, e399, hx399_0⟩ := Kd.at_int HR1.out x5_1 p399 q399
          cases e399
          replace p399 := eq_true p399
          replace q399 := eq_true q399
          have p400 : 0 ≤ (x5_1 : Int) := of_decide_eq_true (by first | (with_reducible assumption) | assumption)
          have q400 : x5_1 < (l0.length : Int) := of_decide_eq_true (by first | (with_reducible assumption) | assumption)
          obtain ⟨ad400, e400, hx400_0⟩ := Kd.at_int HR0.out x5_1 p400 q400
          obtain rfl : ad398 = ad400 := (by injection e400)
          replace p400 := eq_true p400
          replace q400 := eq_true q400
          have p401 : 0 ≤ (x5_1 : Int) := of_decide_eq_true (by first | (with_reducible assumption) | assumption)
          have q401 : x5_1 < (l1.length : Int) := of_decide_eq_true (by first | (with_reducible assumption) | assumption)
          obtain ⟨ad401, e401, hx401_0⟩ := Kd.at_int HR1.out x5_1 p401 q401
          obtain rfl : ad399 = ad401 := (by injection e401)
          replace p401 := eq_true p401
          replace q401 := eq_true q401
          go_wp2
          repeat (go_quiet (fail); try go_wp2)
          go_ret
          exact ⟨zF, by repeat (first | exact Drawn0.refl _ | apply Drawn0.step)⟩
         ·
          rw [if_neg c9] at H
          have c9b0 : decide ((rd l1 x5_1) < (rd l0 x5_1)) = false := decide_eq_false c9
          clear c9
          have H' := zA H
          clear H
          have p398 : 0 ≤ (x5_1 : Int) := of_decide_eq_true (by first | (with_reducible assumption) | assumption)
          have q398 : x5_1 < (l0.length : Int) := of_decide_eq_true (by first | (with_reducible assumption) | assumption)
          obtain ⟨ad398, e398, hx398_0⟩ := Kd.at_int HR0.out x5_1 p398 q398
          cases e398
          replace p398 := eq_true p398
          replace q398 := eq_true q398
          have p399 : 0 ≤ (x5_1 : Int) := of_decide_eq_true (by first | (with_reducible assumption) | assumption)
          have q399 : x5_1 < (l1.length : Int) := of_decide_eq_true (by first | (with_reducible assumption) | assumption)
          obtain ⟨ad399, e399, hx399_0⟩ := Kd.at_int HR1.out x5_1 p399 q399
          cases e399
          replace p399 := eq_true p399
          replace q399 := eq_true q399
          have p400 : 0 ≤ (x5_1 : Int) := of_decide_eq_true (by first | (with_reducible assumption) | assumption)
          have q400 : x5_1 < (l0.length : Int) := of_decide_eq_true (by first | (with_reducible assumption) | assumption)
          obtain ⟨ad400, e400, hx400_0⟩ := Kd.at_int HR0.out x5_1 p400 q400
          obtain rfl : ad398 = ad400 := (by injection e400)
          replace p400 := eq_true p400
          replace q400 := eq_true q400
          have p401 : 0 ≤ (x5_1 : Int) := of_decide_eq_true (by first | (with_reducible assumption) | assumption)
          have q401 : x5_1 < (l1.length : Int) := of_decide_eq_true (by first | (with_reducible assumption) | assumption)
          obtain ⟨ad401, e401, hx401_0⟩ := Kd.at_int HR1.out x5_1 p401 q401
          obtain rfl : ad399 = ad401 := (by injection e401)
          replace p401 := eq_true p401
          replace q401 := eq_true q401
          go_wp2
          repeat (go_quiet (fail); try go_wp2)
          go_roundg k1
          case measure => have := HK1.out; omega
          case rel => exact ⟨(wrap64 (x5_1 - 1)), (zF), H', ⟨by have := HK1.out; omega⟩, by repeat (first | exact Drawn0.refl _ | apply Drawn0.step)⟩
       ·
        rw [if_neg c7] at H
        exact absurd H (by simp)
      ·
       rw [if_neg c6] at H
       exact absurd H (by simp)
     ·
      rw [if_neg c5] at H
      exact absurd H (by simp)
    ·
     rw [if_neg c4] at H
     have c4b0 : decide (0 ≤ x5_1) = false := decide_eq_false c4
     clear c4
     obtain rfl := Option.some.inj H
     go_wp2
     repeat (go_quiet (fail); try go_wp2)
     go_ret
     exact ⟨zF, by repeat (first | exact Drawn0.refl _ | apply Drawn0.step)⟩
 ·
  rw [if_neg c3] at H
  have c3b0 : ((l0.length : Int) == (l1.length : Int)) = false := beq_eq_false_iff_ne.mpr c3
  have c3b1 : ((l0.length : Int) != (l1.length : Int)) = true := bne_iff_ne.mpr c3
  have c3b2 : (l0.length == l1.length) = false := by first | simpa using c3 | (simp at c3 ⊢; omega)
  by_cases c10 : (l0.length : Int) < (l1.length : Int)
  ·
   rw [if_pos c10] at H
   have c10b0 : decide ((l0.length : Int) < (l1.length : Int)) = true := decide_eq_true c10
   have c10b1 : decide (l0.length < l1.length) = true := decide_eq_true (Int.ofNat_lt.mp c10)
   clear c10
   obtain rfl := Option.some.inj H
   go_enter Tryz.func88, Tryz.ntmps88
   go_wp2
   repeat (go_quiet (fail); try go_wp2)
   go_ret
   exact ⟨zF, by repeat (first | exact Drawn0.refl _ | apply Drawn0.step)⟩
  ·
   rw [if_neg c10] at H
   have c10b0 : decide ((l0.length : Int) < (l1.length : Int)) = false := decide_eq_false c10
   have c10b1 : decide (l0.length < l1.length) = false := decide_eq_false (fun h => c10 (Int.ofNat_lt.mpr h))
   clear c10
   obtain rfl := Option.some.inj H
   go_enter Tryz.func88, Tryz.ntmps88
   go_wp2
   repeat (go_quiet (fail); try go_wp2)
   go_ret
   exact ⟨zF, by repeat (first | exact Drawn0.refl _ | apply Drawn0.step)⟩
def zar.l0 : Nat → List Int → Int → Option (List Int)
 | 0, _, _ => none
 | k + 1, x0, x3 => if x3 > 0 then (if 0 ≤ (wrap64 (x3 - 1)) then (if (wrap64 (x3 - 1)) < (x0.length : Int) then (if (rd x0 (wrap64 (x3 - 1))) = 0 then (zar.l0 k x0 (wrap64 (x3 - 1))) else (if 0 ≤ x3 then (if x3 ≤ (x0.length : Int) then (some (x0.take (x3 : Int).toNat)) else (none)) else (none))) else (none)) else (none)) else (if 0 ≤ x3 then (if x3 ≤ (x0.length : Int) then (some (x0.take (x3 : Int).toNat)) else (none)) else (none))
def zar.f (k : Nat) (l0 : List Int) : Option (List Int) := zar.l0 k l0 (l0.length : Int)
theorem zar.calls (k : Nat) (P0_ : Nat → Prop) (u9000_ : Value) (l0 : List Int) (r : List Int) (w0 w : World) (hB : Below w0.heap.size w0 w) (ho0 : Kd.R (Kd.int .i64) 3 w w0.heap.size P0_ u9000_ l0) (h : zar.f k l0 = some r) :
  Calls Tryz.prog 120 #[u9000_] w fun e w' => ∃ v0_ : Value, e = .returned (v0_) ∧ Kd.R (Kd.int .i64) 3 w' w0.heap.size (fun k_ => (P0_ k_ ∨ w.heap.size ≤ k_)) v0_ r ∧ Below w0.heap.size w0 w' ∧ Kept w w' (fun k_ => P0_ k_) := by
 have HO0 := zA (show Kd.R (Kd.int .i64) 3 w w0.heap.size (fun k_ => (P0_ k_ ∨ w.heap.size ≤ k_)) u9000_ l0 from Kd.zbp ho0 (fun k_ hk => (.inl hk)))
 have HK := zA (Kept.refl w (fun k_ => P0_ k_))
 have HW0 := zA hB.size
 have HB := zA hB
 clear hB
 have H : (zar.l0 k l0 (l0.length : Int)) = some r := h
 clear h
 have H' := zA H
 clear H
 obtain ⟨Ao2, co2, eo2⟩ := Kd.zbm HO0.out
 subst eo2
 go_enter Tryz.func120, Tryz.ntmps120
 go_wp2
 go_loopg [3] k (fun kq v3 w' => ∃ (x3_1 : Int), v3 = .int .i64 x3_1 ∧ Aside0 (zar.l0 kq l0 x3_1 = some r) ∧ Aside0 (kq ≤ k) ∧ Aside0 (Kd.R (Kd.int .i64) 3 w' w0.heap.size (fun k_ => (P0_ k_ ∨ w.heap.size ≤ k_)) (.slice Ao2 l0.length co2) l0) ∧ Aside0 (Kept w w' (fun k_ => P0_ k_)) ∧ Aside0 (Below w0.heap.size w0 w'))
 case atStart => exact ⟨((l0.length : Int)), (zF), H', ⟨Nat.le_refl _⟩, ⟨zR HO0⟩, ⟨by repeat (first | (with_reducible first | exact HK.out | apply Kept.alloc | apply Kept.drewN | apply Kept.drew) | exact HK.out)⟩, ⟨zB HB⟩⟩
 case round =>
  clear H'
  try clear c1
  try clear p2
  obtain ⟨x3_1, rfl, HA, HK1, HO_0, HK, HB⟩ := hrel
  cases gk with
  | zero => exact absurd HA.out (by simp [zar.l0])
  | succ k1 =>
   have H := HA.out
   clear HA
   simp only [zar.l0] at H
   by_cases c3 : x3_1 > 0
   ·
    rw [if_pos c3] at H
    have c3b0 : decide (0 < x3_1) = true := decide_eq_true c3
    clear c3
    obtain ⟨ji4, hji4⟩ : ∃ j_ : Int, (wrap64 (x3_1 - 1)) = j_ := ⟨_, rfl⟩
    replace H : (if 0 ≤ (ji4) then (if (ji4) < (l0.length : Int) then (if (rd l0 (ji4)) = 0 then (zar.l0 k1 l0 ji4) else (if 0 ≤ x3_1 then (if x3_1 ≤ (l0.length : Int) then (some (l0.take (x3_1 : Int).toNat)) else (none)) else (none))) else (none)) else (none)) = some r := by first | (rw [hji4] at H; exact H) | (simp only [hji4] at H ⊢; exact H)
    have hji4w : (IntKind.i64.wrap (x3_1 - 1)) = ji4 := (i64_w _).trans hji4
    by_cases c5 : 0 ≤ (ji4)
    ·
     rw [if_pos c5] at H
     have c5b0 : decide (0 ≤ (ji4)) = true := decide_eq_true c5
     clear c5
     by_cases c6 : (ji4) < (l0.length : Int)
     ·
      rw [if_pos c6] at H
      have c6b0 : decide ((ji4) < (l0.length : Int)) = true := decide_eq_true c6
      clear c6
      by_cases c7 : (rd l0 (ji4)) = 0
      ·
       rw [if_pos c7] at H
       have c7b0 : ((rd l0 (ji4)) == 0) = true := beq_iff_eq.mpr c7
       have c7b1 : ((rd l0 (ji4)) != 0) = false := bne_eq_false_iff_eq.mpr c7
       clear c7
       have H' := zA H
       clear H
       have p402 : 0 ≤ ((ji4) : Int) := of_decide_eq_true (by first | (with_reducible assumption) | assumption)
       have q402 : (ji4) < (l0.length : Int) := of_decide_eq_true (by first | (with_reducible assumption) | assumption)
       obtain ⟨ad402, e402, hx402_0⟩ := Kd.at_int (Kd.zay HO_0.out).2.2 (ji4) p402 q402
       cases e402
       replace p402 := eq_true p402
       replace q402 := eq_true q402
       go_wp2
       go_roundg k1
       case measure => have := HK1.out; omega
       case rel => exact ⟨(ji4), (by first | rfl | (simp; done) | (simp only [← hji4] <;> (first | rfl | simp)) | (simp [*]; done)), H', ⟨by have := HK1.out; omega⟩, ⟨zR HO_0⟩, ⟨by repeat (first | (with_reducible first | exact HK.out | apply Kept.alloc | apply Kept.drewN | apply Kept.drew) | exact HK.out)⟩, ⟨zB HB⟩⟩
      ·
       rw [if_neg c7] at H
       have c7b0 : ((rd l0 (ji4)) == 0) = false := beq_eq_false_iff_ne.mpr c7
       have c7b1 : ((rd l0 (ji4)) != 0) = true := bne_iff_ne.mpr c7
       by_cases c8 : 0 ≤ x3_1
       ·
        rw [if_pos c8] at H
        have c8b0 := eq_true c8
        have c8b1 : decide (0 ≤ x3_1) = true := decide_eq_true c8
        clear c8
        by_cases c9 : x3_1 ≤ (l0.length : Int)
        ·
         rw [if_pos c9] at H
         have c9b0 := eq_true c9
         have c9b1 : decide (x3_1 ≤ (l0.length : Int)) = true := decide_eq_true c9
         clear c9
         obtain ⟨y403, hy403⟩ : ∃ y_ : List Int, y_ = (l0.take (x3_1 : Int).toNat) := ⟨_, rfl⟩
         replace H : (some y403) = some r := by first | (rw [hy403]; with_reducible exact H) | (have H2_ := (Option.bind_some _ _).symm.trans H; rw [hy403]; with_reducible exact H2_) | (have H2_ := (Option.bind_some _ _).symm.trans H; with_reducible exact H2_) | with_reducible exact H | (rw [hy403]; exact H) | exact H
         have Ny403 := zA hy403
         clear hy403
         obtain rfl := Option.some.inj H
         have p402 : 0 ≤ ((ji4) : Int) := of_decide_eq_true (by first | (with_reducible assumption) | assumption)
         have q402 : (ji4) < (l0.length : Int) := of_decide_eq_true (by first | (with_reducible assumption) | assumption)
         obtain ⟨ad402, e402, hx402_0⟩ := Kd.at_int (Kd.zay HO_0.out).2.2 (ji4) p402 q402
         cases e402
         replace p402 := eq_true p402
         replace q402 := eq_true q402
         have q10 : (x3_1 : Int) ≤ ((l0.length : Int) : Int) := of_decide_eq_true (by first | (with_reducible assumption) | assumption)
         obtain ⟨i010, hi010, _, hsz10, _⟩ := info_parts info3
         have hcut10 := cut_to (P := Tryz.prog) 30 3 .i64 Tryz.underlying30 hi010 (some ad402) l0.length co2 x3_1 (of_decide_eq_true (by first | (with_reducible assumption) | assumption)) q10 (Kd.zay HO_0.out).2.1
         have hr10 := Kd.R_take (m := (x3_1 : Int).toNat) HO_0.out (by omega)
         have hy10 : y403.length = (x3_1 : Int).toNat := (by rw [Ny403.out, List.length_take]; omega)
         rw [← Ny403.out] at hr10
         rw [← hy10] at hr10 hcut10
         clear hy10 hi010 hsz10 HO_0
         have HO405 := zA hr10
         clear hr10
         replace q10 := eq_true q10
         go_wp2
         go_ret
         exact ⟨_, by first | rfl | (simp [zb7, zb4] <;> rfl) | (simp only [← hji4]; first | rfl | (simp [zb7, zb4] <;> rfl)) | (simp [*, zb7, zb4] <;> rfl), zR HO405, zB HB, by repeat (first | (with_reducible first | exact HK.out | apply Kept.alloc | apply Kept.drewN | apply Kept.drew) | exact HK.out)⟩
        ·
         rw [if_neg c9] at H
         exact absurd H (by simp)
       ·
        rw [if_neg c8] at H
        exact absurd H (by simp)
     ·
      rw [if_neg c6] at H
      exact absurd H (by simp)
    ·
     rw [if_neg c5] at H
     exact absurd H (by simp)
   ·
    rw [if_neg c3] at H
    have c3b0 : decide (0 < x3_1) = false := decide_eq_false c3
    clear c3
    by_cases c11 : 0 ≤ x3_1
    ·
     rw [if_pos c11] at H
     have c11b0 := eq_true c11
     have c11b1 : decide (0 ≤ x3_1) = true := decide_eq_true c11
     clear c11
     by_cases c12 : x3_1 ≤ (l0.length : Int)
     ·
      rw [if_pos c12] at H
      have c12b0 := eq_true c12
      have c12b1 : decide (x3_1 ≤ (l0.length : Int)) = true := decide_eq_true c12
      clear c12
      obtain ⟨y406, hy406⟩ : ∃ y_ : List Int, y_ = (l0.take (x3_1 : Int).toNat) := ⟨_, rfl⟩
      replace H : (some y406) = some r := by first | (rw [hy406]; with_reducible exact H) | (have H2_ := (Option.bind_some _ _).symm.trans H; rw [hy406]; with_reducible exact H2_) | (have H2_ := (Option.bind_some _ _).symm.trans H; with_reducible exact H2_) | with_reducible exact H | (rw [hy406]; exact H) | exact H
      have Ny406 := zA hy406
      clear hy406
      obtain rfl := Option.some.inj H
      have q13 : (x3_1 : Int) ≤ ((l0.length : Int) : Int) := of_decide_eq_true (by first | (with_reducible assumption) | assumption)
      obtain ⟨i013, hi013, _, hsz13, _⟩ := info_parts info3
      have hcut13 := cut_to (P := Tryz.prog) 30 3 .i64 Tryz.underlying30 hi013 Ao2 l0.length co2 x3_1 (of_decide_eq_true (by first | (with_reducible assumption) | assumption)) q13 (Kd.zay HO_0.out).2.1
      have hr13 := Kd.R_take (m := (x3_1 : Int).toNat) HO_0.out (by omega)
      have hy13 : y406.length = (x3_1 : Int).toNat := (by rw [Ny406.out, List.length_take]; omega)
      rw [← Ny406.out] at hr13
      rw [← hy13] at hr13 hcut13
      clear hy13 hi013 hsz13 HO_0
      have HO408 := zA hr13
      clear hr13
      replace q13 := eq_true q13
      go_wp2
      go_ret
      exact ⟨_, zW, zR HO408, zB HB, by repeat (first | (with_reducible first | exact HK.out | apply Kept.alloc | apply Kept.drewN | apply Kept.drew) | exact HK.out)⟩
     ·
      rw [if_neg c12] at H
      exact absurd H (by simp)
    ·
     rw [if_neg c11] at H
     exact absurd H (by simp)
end Go.Proofs.YthiicmanfpmipaaGreatDoor.P
end
