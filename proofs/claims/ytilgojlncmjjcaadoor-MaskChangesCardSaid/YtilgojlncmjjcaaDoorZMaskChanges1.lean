-- Written by a program of this session (wip/tools/shake.py) out of its own texts and of the kit's printed ones; not trusted: Lean checks it.
import Derived.Test.YtilgojlncmjjcaaDoorZMaskChanges0
set_option maxHeartbeats 8000000
set_option maxRecDepth 100000
set_option linter.unusedVariables false
set_option linter.unusedSimpArgs false
section
namespace Go.Proofs.YtilgojlncmjjcaaDoor.P
open Go.RowKit Go.Proofs.YtilgojlncmjjcaaDoorW.PrintWords Go.Proofs.YtilgojlncmjjcaaDoorW.PrintLast Go.Proofs.YtilgojlncmjjcaaDoorW.PrintMore
attribute [local go_sem] max2_int min2_int max_two min_two max_three min_three max_four min_four
def onesN (n s : Nat) : List Nat := (List.range n).filter (s.testBit ·)
def bval : List Nat → Nat
 | [] => 0
 | b :: l => b + 256 * bval l
def brep (c : Nat) : Nat → Nat
 | 0 => 0
 | n + 1 => c + 256 * brep c n
theorem and_byte (b c x m : Nat) (hb : b < 256) (hc : c < 256) : (b + 256 * x) &&& (c + 256 * m) = (b &&& c) + 256 * (x &&& m) := by
 have h1 : ((b + 256 * x) &&& (c + 256 * m)) % 2 ^ 8 = (b &&& c) := by
  rw [Nat.and_mod_two_pow]
  congr 1 <;> omega
 have h2 : ((b + 256 * x) &&& (c + 256 * m)) / 2 ^ 8 = (x &&& m) := by
  rw [Nat.and_div_two_pow]
  congr 1 <;> omega
 omega
theorem p1_byte : ∀ b : Fin 256, ∀ t : Fin 2, ((b.val / 2 + 128 * t.val) &&& 85) + (b.val &&& 85) = (b.val / 2 &&& 85) + (b.val &&& 85) ∧ (b.val / 2 &&& 85) + (b.val &&& 85) < 256 := by decide +kernel
theorem p2_byte : ∀ b : Fin 256, ∀ t : Fin 4, ((b.val / 4 + 64 * t.val) &&& 51) + (b.val &&& 51) = (b.val / 4 &&& 51) + (b.val &&& 51) ∧ (b.val / 4 &&& 51) + (b.val &&& 51) < 256 := by decide +kernel
theorem p3_byte : ∀ h : Fin 5, ∀ l : Fin 5, ∀ t : Fin 5, ((((h.val * 16 + l.val) / 16 + 16 * t.val) + (h.val * 16 + l.val)) &&& 15) = h.val + l.val := by decide +kernel
def q1 (b : Nat) : Nat := (b / 2 &&& 85) + (b &&& 85)
def q2 (b : Nat) : Nat := (b / 4 &&& 51) + (b &&& 51)
theorem pop_byte : ∀ b : Fin 256, q2 (q1 b.val) / 16 + q2 (q1 b.val) % 16 = (onesN 8 b.val).length ∧ q2 (q1 b.val) / 16 ≤ 4 ∧ q2 (q1 b.val) % 16 ≤ 4 ∧ q1 b.val < 256 ∧ q2 (q1 b.val) < 256 := by decide +kernel
theorem stage1 : ∀ l : List Nat, (∀ b ∈ l, b < 256) → ((bval l / 2) &&& brep 85 l.length) + (bval l &&& brep 85 l.length) = bval (l.map q1)
 | [], _ => rfl
 | b :: l, h => by
  have hb := h b List.mem_cons_self
  have ih := stage1 l (fun x hx => h x (List.mem_cons_of_mem _ hx))
  have hp := p1_byte ⟨b, hb⟩ ⟨bval l % 2, by omega⟩
  simp only at hp
  have e : bval (b :: l) / 2 = (b / 2 + 128 * (bval l % 2)) + 256 * (bval l / 2) := by show (b + 256 * bval l) / 2 = _; omega
  show (bval (b :: l) / 2 &&& (85 + 256 * brep 85 l.length)) + ((b + 256 * bval l) &&& (85 + 256 * brep 85 l.length)) = q1 b + 256 * bval (l.map q1)
  rw [e, and_byte _ _ _ _ (by omega) (by decide), and_byte _ _ _ _ hb (by decide), ← ih]
  unfold q1
  omega
theorem stage2 : ∀ l : List Nat, (∀ b ∈ l, b < 256) → ((bval l / 4) &&& brep 51 l.length) + (bval l &&& brep 51 l.length) = bval (l.map q2)
 | [], _ => rfl
 | b :: l, h => by
  have hb := h b List.mem_cons_self
  have ih := stage2 l (fun x hx => h x (List.mem_cons_of_mem _ hx))
  have hp := p2_byte ⟨b, hb⟩ ⟨bval l % 4, by omega⟩
  simp only at hp
  have e : bval (b :: l) / 4 = (b / 4 + 64 * (bval l % 4)) + 256 * (bval l / 4) := by show (b + 256 * bval l) / 4 = _; omega
  show (bval (b :: l) / 4 &&& (51 + 256 * brep 51 l.length)) + ((b + 256 * bval l) &&& (51 + 256 * brep 51 l.length)) = q2 b + 256 * bval (l.map q2)
  rw [e, and_byte _ _ _ _ (by omega) (by decide), and_byte _ _ _ _ hb (by decide), ← ih]
  unfold q2
  omega
theorem low4 : ∀ l : List Nat, (∀ b ∈ l, b < 256 ∧ b / 16 ≤ 4 ∧ b % 16 ≤ 4) → bval l % 16 ≤ 4
 | [], _ => by decide
 | b :: l, h => by
  have hb := h b List.mem_cons_self
  show (b + 256 * bval l) % 16 ≤ 4
  omega
theorem stage3 : ∀ l : List Nat, (∀ b ∈ l, b < 256 ∧ b / 16 ≤ 4 ∧ b % 16 ≤ 4) → (bval l / 16 + bval l) &&& brep 15 l.length = bval (l.map (fun b => b / 16 + b % 16))
 | [], _ => rfl
 | b :: l, h => by
  have hb := h b List.mem_cons_self
  have hl := fun x hx => h x (List.mem_cons_of_mem b hx)
  have ih := stage3 l hl
  have h4 := low4 l hl
  have hp := p3_byte ⟨b / 16, by omega⟩ ⟨b % 16, by omega⟩ ⟨bval l % 16, by omega⟩
  simp only at hp
  rw [show b / 16 * 16 + b % 16 = b by omega] at hp
  have e : bval (b :: l) / 16 + bval (b :: l) = ((b / 16 + 16 * (bval l % 16)) + b) + 256 * (bval l / 16 + bval l) := by show (b + 256 * bval l) / 16 + (b + 256 * bval l) = _; omega
  show (bval (b :: l) / 16 + bval (b :: l)) &&& (15 + 256 * brep 15 l.length) = (b / 16 + b % 16) + 256 * bval (l.map (fun b => b / 16 + b % 16))
  rw [e, and_byte _ _ _ _ (by omega) (by decide), ← ih, hp]
theorem onesN_byte (n b x : Nat) (hb : b < 256) : (onesN (8 + n) (b + 256 * x)).length = (onesN 8 b).length + (onesN n x).length := by
 unfold onesN
 rw [List.range_add, List.filter_append, List.length_append, List.filter_map, List.length_map]
 congr 1
 ·
  congr 1
  refine List.filter_congr fun i hi => ?_
  have hi8 : i < 8 := List.mem_range.1 hi
  have e := Nat.testBit_mod_two_pow (b + 256 * x) 8 i
  rw [show (b + 256 * x) % 2 ^ 8 = b by omega] at e
  rw [e]
  simp [hi8]
 ·
  congr 1
  refine List.filter_congr fun i hi => ?_
  show (b + 256 * x).testBit (8 + i) = x.testBit i
  rw [Nat.add_comm 8 i, ← Nat.testBit_div_two_pow, show (b + 256 * x) / 2 ^ 8 = x by omega]
theorem onesN_bytes : ∀ l : List Nat, (∀ b ∈ l, b < 256) → (onesN (8 * l.length) (bval l)).length = (l.map (fun b => (onesN 8 b).length)).sum
 | [], _ => rfl
 | b :: l, h => by
  rw [List.length_cons, show 8 * (l.length + 1) = 8 + 8 * l.length by omega]
  show (onesN (8 + 8 * l.length) (b + 256 * bval l)).length = _
  rw [onesN_byte _ _ _ (h b List.mem_cons_self), onesN_bytes l (fun x hx => h x (List.mem_cons_of_mem _ hx)), List.map_cons, List.sum_cons]
def bytes8 (s : Nat) : List Nat := [s % 256, s / 256 % 256, s / 65536 % 256, s / 16777216 % 256, s / 4294967296 % 256, s / 1099511627776 % 256, s / 281474976710656 % 256, s / 72057594037927936 % 256]
theorem bytes8_val (s : Nat) (hs : s < 18446744073709551616) : bval (bytes8 s) = s := by
 simp only [bytes8, bval]
 omega
theorem bytes8_lt (s : Nat) : ∀ b ∈ bytes8 s, b < 256 := by
 intro b hb
 simp only [bytes8, List.mem_cons, List.not_mem_nil, or_false] at hb
 omega
def w1 (x : Int) : Int := IntKind.u64.wrap ((Go.bits .and .u64 (x / 2) 6148914691236517205) + (Go.bits .and .u64 x 6148914691236517205))
def w2 (x : Int) : Int := IntKind.u64.wrap ((Go.bits .and .u64 (x / 4) 3689348814741910323) + (Go.bits .and .u64 x 3689348814741910323))
def w3 (x : Int) : Int := Go.bits .and .u64 (IntKind.u64.wrap ((x / 16) + x)) 1085102592571150095
def w4 (x : Int) : Int := IntKind.u64.wrap (x + x / 256)
def w5 (x : Int) : Int := IntKind.u64.wrap (x + x / 65536)
def w6 (x : Int) : Int := IntKind.u64.wrap (x + x / 4294967296)
theorem ones_form (x : Int) : zab.f x = some (Go.bits .and .i64 (wrap64 (w6 (w5 (w4 (w3 (w2 (w1 x))))))) 127) := rfl
theorem s1_lt (n : Nat) (h : n < 18446744073709551616) : w1 (n : Int) = (((n / 2 &&& 6148914691236517205) + (n &&& 6148914691236517205) : Nat) % 18446744073709551616 : Nat) := by
 unfold w1
 rw [show ((n : Int) / 2) = ((n / 2 : Nat) : Int) by omega, show (6148914691236517205 : Int) = ((6148914691236517205 : Nat) : Int) by rfl, bits_and_u64_nat _ _ (by omega) (by decide), bits_and_u64_nat _ _ h (by decide), IntKind.wrap_u64]
 omega
theorem s2_lt (n : Nat) (h : n < 18446744073709551616) : w2 (n : Int) = (((n / 4 &&& 3689348814741910323) + (n &&& 3689348814741910323) : Nat) % 18446744073709551616 : Nat) := by
 unfold w2
 rw [show ((n : Int) / 4) = ((n / 4 : Nat) : Int) by omega, show (3689348814741910323 : Int) = ((3689348814741910323 : Nat) : Int) by rfl, bits_and_u64_nat _ _ (by omega) (by decide), bits_and_u64_nat _ _ h (by decide), IntKind.wrap_u64]
 omega
theorem s3_lt (n : Nat) (h : n / 16 + n < 18446744073709551616) : w3 (n : Int) = ((n / 16 + n) &&& 1085102592571150095 : Nat) := by
 unfold w3
 rw [show IntKind.u64.wrap ((n : Int) / 16 + n) = ((n / 16 + n : Nat) : Int) by rw [IntKind.wrap_u64]; omega, show (1085102592571150095 : Int) = ((1085102592571150095 : Nat) : Int) by rfl, bits_and_u64_nat _ _ h (by decide)]
theorem brep85 : brep 85 8 = 6148914691236517205 := by decide
theorem brep51 : brep 51 8 = 3689348814741910323 := by decide
theorem brep15 : brep 15 8 = 1085102592571150095 := by decide
theorem bv2 (a b : Nat) (l : List Nat) (ha : a < 256) (hb : b < 256) : bval (a :: b :: l) / 65536 = bval l := by
 simp only [bval]
 omega
theorem bv4 (a b c d : Nat) (l : List Nat) (ha : a < 256) (hb : b < 256) (hc : c < 256) (hd : d < 256) : bval (a :: b :: c :: d :: l) / 4294967296 = bval l := by
 simp only [bval]
 omega
theorem last_sum (p0 p1 p2 p3 p4 p5 p6 p7 : Nat) (h0 : p0 ≤ 8) (h1 : p1 ≤ 8) (h2 : p2 ≤ 8) (h3 : p3 ≤ 8) (h4 : p4 ≤ 8) (h5 : p5 ≤ 8) (h6 : p6 ≤ 8) (h7 : p7 ≤ 8) :
  Go.bits .and .i64 (wrap64 (w6 (w5 (w4 ((bval [p0, p1, p2, p3, p4, p5, p6, p7] : Nat) : Int))))) 127 = ((p0 + p1 + p2 + p3 + p4 + p5 + p6 + p7 : Nat) : Int) := by
 have e4 : w4 ((bval [p0, p1, p2, p3, p4, p5, p6, p7] : Nat) : Int) = ((bval [p0 + p1, p1 + p2, p2 + p3, p3 + p4, p4 + p5, p5 + p6, p6 + p7, p7] : Nat) : Int) := by
  unfold w4
  rw [IntKind.wrap_u64]
  simp only [bval]
  omega
 have e5 : w5 ((bval [p0 + p1, p1 + p2, p2 + p3, p3 + p4, p4 + p5, p5 + p6, p6 + p7, p7] : Nat) : Int) = ((bval [p0 + p1 + (p2 + p3), p1 + p2 + (p3 + p4), p2 + p3 + (p4 + p5), p3 + p4 + (p5 + p6), p4 + p5 + (p6 + p7), p5 + p6 + p7, p6 + p7, p7] : Nat) : Int) := by
  unfold w5
  have hd := bv2 (p0 + p1) (p1 + p2) [p2 + p3, p3 + p4, p4 + p5, p5 + p6, p6 + p7, p7] (by omega) (by omega)
  rw [IntKind.wrap_u64, show (65536 : Int) = ((65536 : Nat) : Int) by rfl, ← Int.natCast_ediv, hd]
  simp only [bval]
  omega
 have e6 : w6 ((bval [p0 + p1 + (p2 + p3), p1 + p2 + (p3 + p4), p2 + p3 + (p4 + p5), p3 + p4 + (p5 + p6), p4 + p5 + (p6 + p7), p5 + p6 + p7, p6 + p7, p7] : Nat) : Int) = ((bval [p0 + p1 + (p2 + p3) + (p4 + p5 + (p6 + p7)), p1 + p2 + (p3 + p4) + (p5 + p6 + p7), p2 + p3 + (p4 + p5) + (p6 + p7), p3 + p4 + (p5 + p6) + p7, p4 + p5 + (p6 + p7), p5 + p6 + p7, p6 + p7, p7] : Nat) : Int) := by
  unfold w6
  have hd := bv4 (p0 + p1 + (p2 + p3)) (p1 + p2 + (p3 + p4)) (p2 + p3 + (p4 + p5)) (p3 + p4 + (p5 + p6)) [p4 + p5 + (p6 + p7), p5 + p6 + p7, p6 + p7, p7] (by omega) (by omega) (by omega) (by omega)
  rw [IntKind.wrap_u64, show (4294967296 : Int) = ((4294967296 : Nat) : Int) by rfl, ← Int.natCast_ediv, hd]
  simp only [bval]
  omega
 rw [e4, e5, e6, show wrap64 ((bval [p0 + p1 + (p2 + p3) + (p4 + p5 + (p6 + p7)), p1 + p2 + (p3 + p4) + (p5 + p6 + p7), p2 + p3 + (p4 + p5) + (p6 + p7), p3 + p4 + (p5 + p6) + p7, p4 + p5 + (p6 + p7), p5 + p6 + p7, p6 + p7, p7] : Nat) : Int) = ((bval [p0 + p1 + (p2 + p3) + (p4 + p5 + (p6 + p7)), p1 + p2 + (p3 + p4) + (p5 + p6 + p7), p2 + p3 + (p4 + p5) + (p6 + p7), p3 + p4 + (p5 + p6) + p7, p4 + p5 + (p6 + p7), p5 + p6 + p7, p6 + p7, p7] : Nat) : Int) by
  unfold wrap64
  simp only [bval]
  omega]
 have hm := bits_mask .i64 63 (by decide) (fun n h0 h1 => by rw [IntKind.wrap_i64]; omega) 7 (by decide) ((bval [p0 + p1 + (p2 + p3) + (p4 + p5 + (p6 + p7)), p1 + p2 + (p3 + p4) + (p5 + p6 + p7), p2 + p3 + (p4 + p5) + (p6 + p7), p3 + p4 + (p5 + p6) + p7, p4 + p5 + (p6 + p7), p5 + p6 + p7, p6 + p7, p7] : Nat) : Int) (by omega) (by simp only [bval]; omega)
 refine Eq.trans hm ?_
 simp only [bval]
 omega
theorem ones_ok (s : Nat) (hs : s < 18446744073709551616) : zab.f (s : Int) = some ((onesN 64 s).length : Int) := by
 have hv := bytes8_val s hs
 have hl := bytes8_lt s
 have hp : ∀ b ∈ bytes8 s, q2 (q1 b) / 16 + q2 (q1 b) % 16 = (onesN 8 b).length ∧ q2 (q1 b) / 16 ≤ 4 ∧ q2 (q1 b) % 16 ≤ 4 ∧ q1 b < 256 ∧ q2 (q1 b) < 256 := fun b hb => pop_byte ⟨b, hl b hb⟩
 have hn := onesN_bytes _ hl
 have h1 := stage1 _ hl
 have h2 := stage2 ((bytes8 s).map q1) (by simp only [List.mem_map]; rintro _ ⟨b, hb, rfl⟩; exact (hp b hb).2.2.2.1)
 have h3 := stage3 (((bytes8 s).map q1).map q2) (by simp only [List.mem_map]; rintro _ ⟨_, ⟨b, hb, rfl⟩, rfl⟩; exact ⟨(hp b hb).2.2.2.2, (hp b hb).2.1, (hp b hb).2.2.1⟩)
 have e8 : (bytes8 s).length = 8 := rfl
 rw [List.length_map] at h2
 rw [List.length_map, List.length_map] at h3
 rw [e8] at h1 h2 h3 hn
 rw [hv, brep85] at h1
 rw [brep51] at h2
 rw [brep15] at h3
 rw [hv] at hn
 rw [show (((bytes8 s).map q1).map q2).map (fun b => b / 16 + b % 16) = (bytes8 s).map (fun b => (onesN 8 b).length) by rw [List.map_map, List.map_map]; exact List.map_congr_left fun b hb => (hp b hb).1] at h3
 have hlt : ∀ l : List Nat, l.length = 8 → (∀ b ∈ l, b < 256) → bval l < 18446744073709551616 := by
  intro l h8 h
  match l, h8 with
  | [a, b, c, d, e, f, g, i], _ =>
   simp only [List.mem_cons, List.not_mem_nil, or_false, forall_eq_or_imp, forall_eq] at h
   simp only [bval]
   omega
 have b1 := hlt ((bytes8 s).map q1) (by simp [e8]) (by simp only [List.mem_map]; rintro _ ⟨b, hb, rfl⟩; exact (hp b hb).2.2.2.1)
 have b2 := hlt (((bytes8 s).map q1).map q2) (by simp [e8]) (by simp only [List.mem_map]; rintro _ ⟨_, ⟨b, hb, rfl⟩, rfl⟩; exact (hp b hb).2.2.2.2)
 have b3 : bval (((bytes8 s).map q1).map q2) / 16 + bval (((bytes8 s).map q1).map q2) < 18446744073709551616 := by
  have h : ∀ l : List Nat, l.length = 8 → (∀ b ∈ l, b / 16 ≤ 4 ∧ b % 16 ≤ 4) → bval l / 16 + bval l < 18446744073709551616 := by
   intro l h8 h
   match l, h8 with
   | [a, b, c, d, e, f, g, i], _ =>
    simp only [List.mem_cons, List.not_mem_nil, or_false, forall_eq_or_imp, forall_eq] at h
    simp only [bval]
    omega
  exact h _ (by simp [e8]) (by simp only [List.mem_map]; rintro _ ⟨_, ⟨b, hb, rfl⟩, rfl⟩; exact ⟨(hp b hb).2.1, (hp b hb).2.2.1⟩)
 rw [ones_form, s1_lt s hs, h1, Nat.mod_eq_of_lt b1, s2_lt _ b1, h2, Nat.mod_eq_of_lt b2, s3_lt _ b3, h3]
 have hc : ∀ b ∈ bytes8 s, (onesN 8 b).length ≤ 8 := fun b hb => by
  unfold onesN
  exact Nat.le_trans (List.length_filter_le _ _) (by simp)
 have hL : (bytes8 s).map (fun b => (onesN 8 b).length) = (bytes8 s).map (fun b => (onesN 8 b).length) := rfl
 revert hn hc
 generalize onesN (8 * 8) s = X
 generalize hg : (fun b => (onesN 8 b).length) = g
 intro hn hc
 have hc' : ∀ b ∈ bytes8 s, g b ≤ 8 := fun b hb => by rw [← hg]; exact hc b hb
 simp only [bytes8, List.mem_cons, List.not_mem_nil, or_false, forall_eq_or_imp, forall_eq] at hc'
 obtain ⟨c0, c1, c2, c3, c4, c5, c6, c7⟩ := hc'
 rw [show (bytes8 s).map g = [g (s % 256), g (s / 256 % 256), g (s / 65536 % 256), g (s / 16777216 % 256), g (s / 4294967296 % 256), g (s / 1099511627776 % 256), g (s / 281474976710656 % 256), g (s / 72057594037927936 % 256)] from rfl] at hn ⊢
 refine (congrArg some (last_sum _ _ _ _ _ _ _ _ c0 c1 c2 c3 c4 c5 c6 c7)).trans ?_
 rw [hn]
 simp [Nat.add_assoc]
def minusN (a b : Nat) : Nat := a ^^^ (a &&& b)
theorem testBit_minus (a b i : Nat) : (minusN a b).testBit i = (a.testBit i && !b.testBit i) := by
 unfold minusN
 rw [Nat.testBit_xor, Nat.testBit_and]
 cases a.testBit i <;> cases b.testBit i <;> rfl
theorem minus_lt (a b : Nat) (ha : a < 18446744073709551616) : minusN a b < 18446744073709551616 := by
 have h1 : a &&& b < 2 ^ 64 := Nat.lt_of_le_of_lt Nat.and_le_left (by omega)
 have h2 := Nat.xor_lt_two_pow (n := 64) (x := a) (y := a &&& b) (by omega) h1
 unfold minusN
 omega
theorem minus_bits (A B : BitVec 64) : (A &&& ~~~B).toNat = minusN A.toNat B.toNat := by
 refine Nat.eq_of_testBit_eq fun i => ?_
 rw [BitVec.testBit_toNat, BitVec.getLsbD_and, BitVec.getLsbD_not, testBit_minus, BitVec.testBit_toNat, BitVec.testBit_toNat]
 by_cases hi : i < 64
 ·
  simp [hi]
 ·
  rw [BitVec.getLsbD_of_ge A i (by omega)]
  rfl
theorem bits_andNot_u64_nat (a b : Nat) (ha : a < 18446744073709551616) (hb : b < 18446744073709551616) :
  Go.bits .andNot .u64 (a : Int) (b : Int) = ((minusN a b : Nat) : Int) := by
 have hx := minus_lt a b ha
 have h1 : (BitVec.ofInt 64 (a : Int)).toNat = a := by
  rw [BitVec.ofInt_natCast, BitVec.toNat_ofNat]; exact Nat.mod_eq_of_lt (by omega)
 have h2 : (BitVec.ofInt 64 (b : Int)).toNat = b := by
  rw [BitVec.ofInt_natCast, BitVec.toNat_ofNat]; exact Nat.mod_eq_of_lt (by omega)
 show IntKind.u64.wrap ((BitVec.ofInt 64 (a : Int) &&& ~~~BitVec.ofInt 64 (b : Int)).toNat : Int) = _
 rw [minus_bits, h1, h2, IntKind.wrap_u64]
 omega
def isC (c : Int) : Bool := decide (0 ≤ c ∧ c < 64)
theorem isC_iff {c : Int} : isC c = true ↔ 0 ≤ c ∧ c < 64 := by unfold isC; exact decide_eq_true_iff
def withN (s : Nat) (c : Int) : Nat := if isC c = true then s ||| 2 ^ c.toNat else s
def withoutN (s : Nat) (c : Int) : Nat := if isC c = true then minusN s (2 ^ c.toNat) else s
def hasN (s : Nat) (c : Int) : Bool := isC c && s.testBit c.toNat
theorem pow_lt64 {c : Int} (h : isC c = true) : 2 ^ c.toNat < 18446744073709551616 := by
 have h' := isC_iff.1 h
 have := Nat.pow_lt_pow_right (a := 2) (by decide) (show c.toNat < 64 by omega)
 omega
theorem with_lt (s : Nat) (c : Int) (hs : s < 18446744073709551616) : withN s c < 18446744073709551616 := by
 unfold withN
 by_cases h : isC c = true
 ·
  rw [if_pos h]
  have := Nat.or_lt_two_pow (n := 64) (x := s) (y := 2 ^ c.toNat) (by omega) (by have := pow_lt64 h; omega)
  omega
 ·
  rw [if_neg h]; exact hs
theorem without_lt (s : Nat) (c : Int) (hs : s < 18446744073709551616) : withoutN s c < 18446744073709551616 := by
 unfold withoutN
 by_cases h : isC c = true
 ·
  rw [if_pos h]; exact minus_lt s _ hs
 ·
  rw [if_neg h]; exact hs
theorem zai (s : Nat) (c : Int) (i : Nat) : (withN s c).testBit i = (s.testBit i || (isC c && decide (c.toNat = i))) := by
 unfold withN
 by_cases h : isC c = true
 ·
  rw [if_pos h, Nat.testBit_or, Nat.testBit_two_pow, h, Bool.true_and]
 ·
  rw [if_neg h, eq_false_of_ne_true h, Bool.false_and, Bool.or_false]
theorem zac (s : Nat) (c : Int) (i : Nat) : (withoutN s c).testBit i = (s.testBit i && !(isC c && decide (c.toNat = i))) := by
 unfold withoutN
 by_cases h : isC c = true
 ·
  rw [if_pos h, testBit_minus, Nat.testBit_two_pow, h, Bool.true_and]
 ·
  rw [if_neg h, eq_false_of_ne_true h, Bool.false_and, Bool.not_false, Bool.and_true]
theorem minus_zero (a b : Nat) : minusN a b = 0 ↔ ∀ i, a.testBit i = true → b.testBit i = true := by
 constructor
 ·
  intro h i ha
  have := testBit_minus a b i
  rw [h, Nat.zero_testBit, ha, Bool.true_and] at this
  simpa using this.symm
 ·
  intro h
  refine Nat.eq_of_testBit_eq fun i => ?_
  rw [testBit_minus, Nat.zero_testBit]
  have := h i
  cases ha : a.testBit i
  ·
   rfl
  ·
   rw [this ha]; rfl
theorem in_with (s : Nat) (c : Int) : minusN s (withN s c) = 0 := (minus_zero _ _).2 (fun i h => by rw [zai, h, Bool.true_or])
theorem without_in (s : Nat) (c : Int) : minusN (withoutN s c) s = 0 := (minus_zero _ _).2 (fun i h => by
 rw [zac] at h
 exact (Bool.and_eq_true_iff.1 h).1)
theorem has_without (s : Nat) (c : Int) : hasN (withoutN s c) c = false := by
 unfold hasN
 rw [zac]
 cases isC c
 ·
  rfl
 ·
  simp
theorem has_with (s : Nat) (c : Int) : hasN (withN s c) c = isC c := by
 unfold hasN
 rw [zai]
 cases isC c
 ·
  rfl
 ·
  simp
theorem with_without (s : Nat) (c : Int) : withoutN (withN s c) c = withoutN s c := by
 refine Nat.eq_of_testBit_eq fun i => ?_
 rw [zac, zac, zai]
 cases s.testBit i <;> cases (isC c && decide (c.toNat = i)) <;> rfl
theorem without_with (s : Nat) (c : Int) : withN (withoutN s c) c = withN s c := by
 refine Nat.eq_of_testBit_eq fun i => ?_
 rw [zai, zai, zac]
 cases s.testBit i <;> cases (isC c && decide (c.toNat = i)) <;> rfl
theorem no_core (s : Nat) (c : Int) (h : isC c = false) : withN s c = s ∧ withoutN s c = s := by
 unfold withN withoutN
 rw [h]
 exact ⟨rfl, rfl⟩
theorem len_one (a b k : Nat) (h : ∀ i, a.testBit i = (b.testBit i || decide (k = i))) (hb : b.testBit k = false) :
  ∀ n, (onesN n a).length = (onesN n b).length + if k < n then 1 else 0
 | 0 => rfl
 | n + 1 => by
  have ih := len_one a b k h hb n
  unfold onesN at ih ⊢
  rw [List.range_succ, List.filter_append, List.filter_append, List.length_append, List.length_append, ih]
  have hn := h n
  by_cases e : k = n
  ·
   subst e
   rw [hb] at hn
   simp [hn, hb]
  ·
   rw [decide_eq_false e, Bool.or_false] at hn
   have e1 : (if k < n + 1 then 1 else 0) = (if k < n then 1 else 0) := by
    by_cases h1 : k < n
    ·
     rw [if_pos h1, if_pos (by omega)]
    ·
     rw [if_neg h1, if_neg (by omega)]
   rw [e1, List.filter_cons, List.filter_cons, hn]
   split <;> simp only [List.filter_nil] <;> omega
theorem len_with (s : Nat) (c : Int) (h : isC c = true) : (onesN 64 (withN s c)).length = (onesN 64 (withoutN s c)).length + 1 := by
 have hc := isC_iff.1 h
 have e := len_one (withN s c) (withoutN s c) c.toNat (fun i => by
  rw [zai, zac, h, Bool.true_and]
  cases s.testBit i <;> cases decide (c.toNat = i) <;> rfl) (by
  rw [zac, h]; simp) 64
 rw [if_pos (by omega)] at e
 exact e
theorem ones_le (n s : Nat) : (onesN n s).length ≤ n := by
 have := List.length_filter_le (s.testBit ·) (List.range n)
 rw [List.length_range] at this
 exact this
theorem shl_core {c : Int} (h : isC c = true) : shl .u64 1 c = ((2 ^ c.toNat : Nat) : Int) := by
 have h' := isC_iff.1 h
 have hp := pow_lt64 h
 have e : min c.toNat 64 = c.toNat := by omega
 show IntKind.u64.wrap (1 * 2 ^ min c.toNat 64) = _
 rw [e, Int.one_mul, show ((2 : Int) ^ c.toNat) = ((2 ^ c.toNat : Nat) : Int) by rw [Int.natCast_pow]; rfl, IntKind.wrap_u64]
 generalize 2 ^ c.toNat = p at hp
 omega
theorem shr_core {c : Int} (s : Nat) (h : isC c = true) : shr .u64 (s : Int) c = ((s / 2 ^ c.toNat : Nat) : Int) := by
 have h' := isC_iff.1 h
 have e : min c.toNat 64 = c.toNat := by omega
 show (s : Int) / 2 ^ min c.toNat 64 = _
 rw [e, show ((2 : Int) ^ c.toNat) = ((2 ^ c.toNat : Nat) : Int) by rw [Int.natCast_pow]; rfl, Int.natCast_ediv]
theorem core_f (c : Int) : zaa.f c = some (isC c) := by
 unfold zaa.f isC
 by_cases h : c ≥ 0
 ·
  rw [if_pos h]
  by_cases h2 : c < 64
  ·
   rw [decide_eq_true h2, decide_eq_true ⟨h, h2⟩]
  ·
   rw [decide_eq_false h2, decide_eq_false (by omega)]
 ·
  rw [if_neg h, decide_eq_false (by omega)]
theorem rcore_f (c : Int) : zah.f c = some (isC c) := core_f c
theorem isC_nonneg {c : Int} (h : isC c = true) : 0 ≤ c := (isC_iff.1 h).1
theorem with_f (s : Nat) (c : Int) (hs : s < 18446744073709551616) : zae.f (s : Int) c = some ((withN s c : Nat) : Int) := by
 unfold zae.f withN
 rw [core_f, Option.bind_some]
 by_cases h : isC c = true
 ·
  rw [if_pos h, if_pos h, if_pos (isC_nonneg h), shl_core h, bits_or_u64_nat _ _ hs (pow_lt64 h)]
 ·
  rw [if_neg h, if_neg h]
theorem without_f (s : Nat) (c : Int) (hs : s < 18446744073709551616) : zaf.f (s : Int) c = some ((withoutN s c : Nat) : Int) := by
 unfold zaf.f withoutN
 rw [core_f, Option.bind_some]
 by_cases h : isC c = true
 ·
  rw [if_pos h, if_pos h, if_pos (isC_nonneg h), shl_core h, bits_andNot_u64_nat _ _ hs (pow_lt64 h)]
 ·
  rw [if_neg h, if_neg h]
theorem has_f (s : Nat) (c : Int) (hs : s < 18446744073709551616) : mask_Set_Has.f (s : Int) c = some (hasN s c) := by
 unfold mask_Set_Has.f hasN
 rw [core_f, Option.bind_some]
 by_cases h : isC c = true
 ·
  have hl : s / 2 ^ c.toNat < 18446744073709551616 := Nat.lt_of_le_of_lt (Nat.div_le_self _ _) hs
  rw [if_pos h, if_pos (isC_nonneg h), shr_core s h, h, Bool.true_and, show (1 : Int) = ((1 : Nat) : Int) by rfl, bits_and_u64_nat _ _ hl (by decide), Nat.and_one_is_mod, Nat.testBit_eq_decide_div_mod_eq]
  by_cases h1 : s / 2 ^ c.toNat % 2 = 1
  ·
   rw [h1]; rfl
  ·
   rw [decide_eq_false h1, show s / 2 ^ c.toNat % 2 = 0 by omega]; rfl
 ·
  rw [if_neg h, eq_false_of_ne_true h]; rfl
theorem in_f (a b : Nat) (ha : a < 18446744073709551616) (hb : b < 18446744073709551616) : mask_Set_In.f (a : Int) (b : Int) = some (decide (minusN a b = 0)) := by
 unfold mask_Set_In.f
 rw [bits_andNot_u64_nat a b ha hb]
 congr 1
 by_cases h : minusN a b = 0
 ·
  rw [h]; rfl
 ·
  rw [decide_eq_false h, beq_eq_false_iff_ne]; omega
theorem len_f (s : Nat) (hs : s < 18446744073709551616) : zaj.f (s : Int) = some ((onesN 64 s).length : Int) := by
 unfold zaj.f
 rw [ones_ok s hs, Option.bind_some]
theorem with_ok (s : Nat) (c : Int) (hs : s < 18446744073709551616) (w : World) : Calls Tryd.prog 23 #[.int .u64 s, .int .i64 c] w fun e w' => e = .returned (.int .u64 (withN s c : Nat)) ∧ Below w.heap.size w w' :=
 (zae.calls _ _ _ w (with_f s c hs)).mono fun _ _ h => ⟨h.1, h.2.below⟩
theorem without_ok (s : Nat) (c : Int) (hs : s < 18446744073709551616) (w : World) : Calls Tryd.prog 25 #[.int .u64 s, .int .i64 c] w fun e w' => e = .returned (.int .u64 (withoutN s c : Nat)) ∧ Below w.heap.size w w' :=
 (zaf.calls _ _ _ w (without_f s c hs)).mono fun _ _ h => ⟨h.1, h.2.below⟩
theorem has_ok (s : Nat) (c : Int) (hs : s < 18446744073709551616) (w : World) : Calls Tryd.prog 21 #[.int .u64 s, .int .i64 c] w fun e w' => e = .returned (.bool (hasN s c)) ∧ Below w.heap.size w w' :=
 (mask_Set_Has.calls _ _ _ w (has_f s c hs)).mono fun _ _ h => ⟨h.1, h.2.below⟩
theorem in_ok (a b : Nat) (ha : a < 18446744073709551616) (hb : b < 18446744073709551616) (w : World) : Calls Tryd.prog 19 #[.int .u64 a, .int .u64 b] w fun e w' => e = .returned (.bool (decide (minusN a b = 0))) ∧ Below w.heap.size w w' :=
 (mask_Set_In.calls _ _ _ w (in_f a b ha hb)).mono fun _ _ h => ⟨h.1, h.2.below⟩
theorem len_ok (s : Nat) (hs : s < 18446744073709551616) (w : World) : Calls Tryd.prog 26 #[.int .u64 s] w fun e w' => e = .returned (.int .i64 ((onesN 64 s).length : Nat)) ∧ Below w.heap.size w w' :=
 (zaj.calls _ _ w (len_f s hs)).mono fun _ _ h => ⟨h.1, h.2.below⟩
theorem rcore_ok (c : Int) (w : World) : Calls Tryd.prog 22 #[.int .i64 c] w fun e w' => e = .returned (.bool (isC c)) ∧ Below w.heap.size w w' :=
 (zah.calls _ _ w (rcore_f c)).mono fun _ _ h => ⟨h.1, h.2.below⟩
theorem changes_ok (n : Nat) (c : Int) (hn : n < 18446744073709551616) (w : World) (hT : TabAt 0 Lib.deBruijn64tab w) (hg : 0 < w.heap.size) :
  Calls Tryd.prog 7 #[.int .u64 n, .int .i64 c] w fun e w' => e = .returned (.bool true) ∧ Below w.heap.size w w' := by
 have HT := Aside0.mk hT
 have HG := Aside0.mk hg
 have HN := Aside0.mk hn
 clear hT hg hn
 go_enter Tryd.func7, Tryd.ntmps7
 go_wp2_with fail
 refine (awake01_ok w HT.out HG.out).mono ?_
 rintro e w1 ⟨rfl, hb1⟩
 have HB := Aside0.mk hb1
 clear hb1
 go_wp2_with fail
 refine (with_ok n c HN.out w1).mono ?_
 rintro e w2 ⟨rfl, hb⟩
 have HB2 := Aside0.mk (za HB.out hb)
 clear hb HB
 go_wp2_with fail
 refine (without_ok n c HN.out w2).mono ?_
 rintro e w3 ⟨rfl, hb⟩
 have HB3 := Aside0.mk (za HB2.out hb)
 clear hb HB2
 have HA := Aside0.mk (with_lt n c HN.out)
 have HO := Aside0.mk (without_lt n c HN.out)
 go_wp2_with fail
 refine (in_ok n (withN n c) HN.out HA.out w3).mono ?_
 rintro e w4 ⟨rfl, hb⟩
 have HB4 := Aside0.mk (za HB3.out hb)
 clear hb HB3
 rw [decide_eq_true (in_with n c)]
 go_wp2_with fail
 refine (in_ok (withoutN n c) n HO.out HN.out w4).mono ?_
 rintro e w5 ⟨rfl, hb⟩
 have HB5 := Aside0.mk (za HB4.out hb)
 clear hb HB4
 rw [decide_eq_true (without_in n c)]
 go_wp2_with fail
 refine (has_ok (withoutN n c) c HO.out w5).mono ?_
 rintro e w6 ⟨rfl, hb⟩
 have HB6 := Aside0.mk (za HB5.out hb)
 clear hb HB5
 rw [has_without n c]
 go_wp2_with fail
 refine (has_ok (withN n c) c HA.out w6).mono ?_
 rintro e w7 ⟨rfl, hb⟩
 have HB7 := Aside0.mk (za HB6.out hb)
 clear hb HB6
 rw [has_with n c]
 go_wp2_with fail
 refine (rcore_ok c w7).mono ?_
 rintro e w8 ⟨rfl, hb⟩
 have HB8 := Aside0.mk (za HB7.out hb)
 clear hb HB7
 have db : (isC c != isC c) = false := by cases isC c <;> rfl
 go_wp2_with fail
 refine (len_ok (withN n c) HA.out w8).mono ?_
 rintro e w9 ⟨rfl, hb⟩
 have HB9 := Aside0.mk (za HB8.out hb)
 clear hb HB8
 go_wp2_with fail
 refine (len_ok (withoutN n c) HO.out w9).mono ?_
 rintro e w10 ⟨rfl, hb⟩
 have HB10 := Aside0.mk (za HB9.out hb)
 clear hb HB9
 have hle1 := ones_le 64 (withN n c)
 have hle2 := ones_le 64 (withoutN n c)
 have hone : isC c = true → (onesN 64 (withN n c)).length = (onesN 64 (withoutN n c)).length + 1 := len_with n c
 generalize (onesN 64 (withN n c)).length = la at hle1 hone ⊢
 generalize (onesN 64 (withoutN n c)).length = lb at hle2 hone ⊢
 have hwr : wrap64 ((la : Int) - (lb : Int)) = (la : Int) - (lb : Int) := by unfold wrap64; omega
 have HNB := Aside0.mk (no_core n c)
 have HONE := Aside0.mk hone
 have dw := bne_self_eq_false ((withN n c : Nat) : Int)
 have do' := bne_self_eq_false ((withoutN n c : Nat) : Int)
 have dn : (((n : Nat) : Int) == ((n : Nat) : Int)) = true := beq_self_eq_true _
 clear hone hle1 hle2
 cases hd : ((la : Int) - (lb : Int) != 1)
 ·
  go_wp2_with fail
  refine (without_ok (withN n c) c HA.out w10).mono ?_
  rintro e w12 ⟨rfl, hb⟩
  have HB12 := Aside0.mk (za HB10.out hb)
  clear hb
  rw [with_without n c]
  go_wp2_with fail
  refine (with_ok (withoutN n c) c HO.out w12).mono ?_
  rintro e w13 ⟨rfl, hb⟩
  have HB13 := Aside0.mk (za HB12.out hb)
  clear hb
  rw [without_with n c]
  go_wp2_with fail
  refine (rcore_ok c w13).mono ?_
  rintro e w14 ⟨rfl, hb⟩
  have HB14 := Aside0.mk (za HB13.out hb)
  clear hb
  cases hc : isC c
  ·
   obtain ⟨e1, e2⟩ := HNB.out hc
   rw [e1, e2]
   go_wp2_with fail
   go_ret
   exact ⟨rfl, HB14.out⟩
  ·
   go_wp2_with fail
   go_ret
   exact ⟨rfl, HB14.out⟩
 ·
  go_wp2_with fail
  refine (rcore_ok c w10).mono ?_
  rintro e w11 ⟨rfl, hb⟩
  have HB11 := Aside0.mk (za HB10.out hb)
  clear hb
  have hcf : isC c = false := by
   cases h : isC c
   ·
    rfl
   ·
    have := HONE.out h
    rw [this] at hd
    have h1 : ((lb + 1 : Nat) : Int) - (lb : Int) = 1 := by omega
    rw [h1] at hd
    cases hd
  rw [hcf]
  go_wp2_with fail
  refine (without_ok (withN n c) c HA.out w11).mono ?_
  rintro e w12 ⟨rfl, hb⟩
  have HB12 := Aside0.mk (za HB11.out hb)
  clear hb
  rw [with_without n c]
  go_wp2_with fail
  refine (with_ok (withoutN n c) c HO.out w12).mono ?_
  rintro e w13 ⟨rfl, hb⟩
  have HB13 := Aside0.mk (za HB12.out hb)
  clear hb
  rw [without_with n c]
  go_wp2_with fail
  refine (rcore_ok c w13).mono ?_
  rintro e w14 ⟨rfl, hb⟩
  have HB14 := Aside0.mk (za HB13.out hb)
  clear hb
  cases hc : isC c
  ·
   obtain ⟨e1, e2⟩ := HNB.out hc
   rw [e1, e2]
   go_wp2_with fail
   go_ret
   exact ⟨rfl, HB14.out⟩
  ·
   go_wp2_with fail
   go_ret
   exact ⟨rfl, HB14.out⟩
theorem changes_row (a c : Int) (ha : (Lit.int .u64 a).wf = true) (w : World) (hT : TabAt 0 Lib.deBruijn64tab w) (hg : 0 < w.heap.size) :
  Calls Tryd.prog 7 #[.int .u64 a, .int .i64 c] w fun e w' => e = .returned (.bool true) ∧ Below w.heap.size w w' := by
 have hb := bounds_u64 ha
 obtain ⟨n, rfl⟩ : ∃ n : Nat, a = (n : Int) := ⟨a.toNat, by omega⟩
 exact changes_ok n c (by omega) w hT hg
end Go.Proofs.YtilgojlncmjjcaaDoor.P
end
