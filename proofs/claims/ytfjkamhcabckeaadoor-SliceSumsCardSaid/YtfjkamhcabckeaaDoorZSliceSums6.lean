-- Written by a program of this session (wip/tools/shake.py) out of its own texts and of the kit's printed ones; not trusted: Lean checks it.
import Derived.Test.YtfjkamhcabckeaaDoorZSliceSums5
set_option maxHeartbeats 8000000
set_option maxRecDepth 100000
set_option linter.unusedVariables false
set_option linter.unusedSimpArgs false
section
namespace Go.Proofs.YtfjkamhcabckeaaDoor.P
open Go.RowKit Go.Proofs.YtfjkamhcabckeaaDoorW.PrintWords Go.Proofs.YtfjkamhcabckeaaDoorW.PrintLast Go.Proofs.YtfjkamhcabckeaaDoorW.PrintMore
attribute [local go_sem] max2_int min2_int max_two min_two max_three min_three max_four min_four
theorem dig_single (x : Nat) (h0 : x ≠ 0) (h : x < 18446744073709551616) : dig 18446744073709551616 x = [(x : Int)] := by
 rw [dig_pos (by decide) h0, Nat.div_eq_of_lt h, zca, Nat.mod_eq_of_lt h]
theorem dig_two (x : Nat) (h : 18446744073709551616 ≤ x) : 2 ≤ (dig 18446744073709551616 x).length := by
 have h1 : x / 18446744073709551616 ≠ 0 := by omega
 rw [dig_pos (by decide) (by omega), dig_pos (by decide) h1]
 simp
theorem nSmall (x : Nat) : nat_Small.f (dig 18446744073709551616 x) = some (if x ≤ 4611686018427387904 then ((x : Int), true) else (0, false)) := by
 have hat := nAt (dig 18446744073709551616 x) 0
 have h00 : ((0 : Nat) : Int) = 0 := rfl
 rw [h00] at hat
 unfold nat_Small.f
 by_cases h1 : x < 18446744073709551616
 ·
  have hx : (dig 18446744073709551616 x).getD 0 0 = (x : Int) ∧ (dig 18446744073709551616 x).length ≤ 1 := by
   by_cases h0 : x = 0
   ·
    subst h0
    rw [zca]
    exact ⟨rfl, by simp⟩
   ·
    rw [dig_single x h0 h1]
    exact ⟨rfl, by simp⟩
  rw [hx.1] at hat
  rw [if_neg (by omega), hat, Option.bind_some, Option.bind_some]
  by_cases hs : x ≤ 4611686018427387904
  ·
   rw [if_neg (by omega), if_pos hs, w64s (by omega) (by omega)]
  ·
   rw [if_pos (by omega), if_neg hs]
 ·
  have := dig_two x (by omega)
  rw [if_pos (by omega), if_neg (by omega)]
theorem div_low {x y : Nat} (hy : 0 < y) : (mkRat (x : Int) y).num.toNat / (mkRat (x : Int) y).den = x / y := by
 obtain ⟨h1, h2⟩ := low_rat (x := x) hy
 rw [← h1, ← h2]
 have hg := gcdPos (x := x) hy
 have e1 := Nat.div_mul_cancel (Nat.gcd_dvd_left x y)
 have e2 := Nat.div_mul_cancel (Nat.gcd_dvd_right x y)
 have : x / y = (x / Nat.gcd x y * Nat.gcd x y) / (y / Nat.gcd x y * Nat.gcd x y) := by rw [e1, e2]
 rw [this, Nat.mul_div_mul_right _ _ hg]
theorem mul_nat_floor {r : Rat} (hr : 0 ≤ r) (q : Nat) : (r * ((q : Nat) : Rat)).num.toNat / (r * ((q : Nat) : Rat)).den = r.num.toNat * q / r.den := by
 have h := mul_rat hr (Rat.natCast_nonneg (a := q))
 rw [Rat.num_natCast, Rat.den_natCast, Int.toNat_natCast, Nat.mul_one] at h
 rw [← h]
 exact div_low r.den_pos
def sliceV (q : Nat) (r : Rat) : Nat := max 1 (r.num.toNat * q / r.den)
theorem le_one {r : Rat} (hr : 0 ≤ r) (h1 : r ≤ 1) : r.num.toNat ≤ r.den := by
 have := (le_rat (r := 1) (s := r) (by decide) hr).2 h1
 simpa using this
theorem floor_le_q {r : Rat} (hr : 0 ≤ r) (h1 : r ≤ 1) (q : Nat) : r.num.toNat * q / r.den ≤ q := by
 rw [Nat.div_le_iff_le_mul_add_pred r.den_pos]
 have := Nat.mul_le_mul_right q (le_one hr h1)
 omega
theorem one_nat : ((1 : Nat) : Rat) = 1 := rfl
theorem cmp_pos {r s : Rat} : cmpR r s > 0 ↔ s < r := by
 unfold cmpR
 by_cases h1 : r = s
 ·
  rw [if_pos h1]
  constructor
  ·
   intro h
   cases h
  ·
   intro h
   rw [h1] at h
   exact absurd h Rat.lt_irrefl
 ·
  rw [if_neg h1]
  by_cases h2 : r < s
  ·
   rw [if_pos h2]
   constructor
   ·
    intro h
    cases h
   ·
    intro h
    exact absurd (Rat.le_of_lt h) (Rat.not_le.2 h2)
  ·
   rw [if_neg h2]
   constructor
   ·
    intro _
    exact Rat.lt_of_le_of_ne (Rat.not_lt.1 h2) (fun e => h1 e.symm)
   ·
    intro _
    decide
theorem right_in {q : Nat} (h1 : 1 ≤ q) (h2 : q ≤ 1000) : zbu.f (q : Int) = some true := by
 unfold zbu.f
 rw [if_pos (by omega), decide_eq_true (by omega)]
theorem int_nat (q : Nat) (h : q < 9223372036854775808) : Ev (fun k => zbr.f k (q : Int)) (dig 18446744073709551616 ((q : Nat) : Rat).num.toNat, dig 18446744073709551616 ((q : Nat) : Rat).den) := by
 have := qInt (q : Int) (by omega)
 rw [Int.toNat_natCast] at this
 exact this
theorem qSlice {r : Rat} {m q : Nat} (hr : Bd r m) (hm : m ≤ 1000) (h1 : r ≤ 1) (q1 : 1 ≤ q) (q2 : q ≤ 1000) : Ev (fun k => zbt.f k (q : Int) (dig 18446744073709551616 r.num.toNat) (dig 18446744073709551616 r.den)) (((sliceV q r : Nat) : Int), 0) := by
 have bq : Bd ((q : Nat) : Rat) 1 := Bd.nat (by rw [Nat.pow_one]; omega) (by omega)
 have b1 : Bd ((1 : Nat) : Rat) 1 := Bd.nat (by rw [Nat.pow_one]; omega) (by omega)
 have bm := hr.mul bq
 have hc : ¬ cmpR r ((1 : Nat) : Rat) > 0 := by
  rw [cmp_pos, one_nat]
  exact Rat.not_lt.2 h1
 have hf := nFloor (m := m + 1) (r * ((q : Nat) : Rat)).den_pos bm.2.1 bm.2.2 (by omega)
 rw [mul_nat_floor hr.1] at hf
 have hfq := floor_le_q hr.1 h1 q
 have hs := nSmall (r.num.toNat * q / r.den)
 rw [if_pos (by omega)] at hs
 refine Ev.plain (right_in q1 q2) (Ev.pos rfl (Ev.bind (qGood hr (by omega)) (Ev.pos rfl (Ev.bind (F := fun k => zbr.f k 1) (int_nat 1 (by omega)) (Ev.bind (qCmp hr b1 (by omega)) (Ev.neg hc (Ev.bind (int_nat q (by omega)) (Ev.bind (qMul hr bq (by omega)) (Ev.bind hf (Ev.plain hs ?_))))))))))
 have e : mx 1 ((r.num.toNat * q / r.den : Nat) : Int) = ((sliceV q r : Nat) : Int) := by
  unfold mx sliceV
  split <;> omega
 rw [e]
 exact Ev.const _
theorem sawake : Ev (fun k => zax.f k) true := Ev.mono (K := 40) (fun k => zax.mono k) (by kernel_rfl)
def lims (r : Rat) : S28 := ⟨dig 18446744073709551616 r.num.toNat, dig 18446744073709551616 r.den⟩
theorem nAll_l0 {m q : Nat} (hm : m ≤ 1000) (q1 : 1 ≤ q) (q2 : q ≤ 1000) (rs : List Rat) (hl : rs.length ≤ 1000000) (h : ∀ r ∈ rs, Bd r m ∧ r ≤ 1) : ∀ (d i : Nat), i + d = rs.length →
  Ev (fun k => za8.l0 k (q : Int) ((rs.take i).map fun r => ((sliceV q r : Nat) : Int)) (rs.map lims) (rs.length : Int) (i : Int)) (rs.map fun r => ((sliceV q r : Nat) : Int), 0)
 | 0, i, hd => by
  refine Ev.step (fun _ => za8.l0.eq_2 ..) (Ev.neg (by omega) ?_)
  rw [List.take_of_length_le (by omega)]
  exact Ev.const _
 | d + 1, i, hd => by
  have hi : i < rs.length := by omega
  obtain ⟨hb, h1⟩ := h rs[i] (List.getElem_mem hi)
  have e : rd_T28 (rs.map lims) (i : Int) = lims rs[i] := by
   unfold rd_T28
   rw [Int.toNat_natCast, List.getD_eq_getElem?_getD, List.getElem?_map, List.getElem?_eq_getElem hi]
   rfl
  have w1 := Lib.hid (wadd1 i (by omega))
  have ih := nAll_l0 hm q1 q2 rs hl h d (i + 1) (by omega)
  have ht : rs.take (i + 1) = rs.take i ++ [rs[i]] := by rw [List.take_succ_eq_append_getElem hi]
  rw [ht, List.map_append] at ih
  refine Ev.step (fun _ => za8.l0.eq_2 ..) (Ev.pos (by omega) (Ev.pos (by omega) (Ev.pos (by rw [List.length_map]; omega) ?_)))
  rw [e]
  refine Ev.bind (qSlice hb hm h1 q1 q2) (Ev.pos rfl (Ev.pos (by rw [List.length_map, List.length_take]; omega) ?_))
  rw [w1.out]
  exact ih
theorem nAll {m q : Nat} (hm : m ≤ 1000) (q1 : 1 ≤ q) (q2 : q ≤ 1000) (rs : List Rat) (hl : rs.length ≤ 1000000) (h : ∀ r ∈ rs, Bd r m ∧ r ≤ 1) : Ev (fun k => za8.f k (q : Int) (rs.map lims)) (rs.map fun r => ((sliceV q r : Nat) : Int), 0) := by
 have h0 := nAll_l0 hm q1 q2 rs hl h rs.length 0 (by omega)
 refine Ev.plain (right_in q1 q2) (Ev.pos rfl ?_)
 rw [List.length_map]
 exact h0
def sumN (l : List Nat) : Nat := l.foldr (· + ·) 0
theorem sumN_cons (x : Nat) (l : List Nat) : sumN (x :: l) = x + sumN l := rfl
theorem sumN_append (a b : List Nat) : sumN (a ++ b) = sumN a + sumN b := by
 induction a with
 | nil => simp [sumN]
 | cons x a ih =>
  rw [List.cons_append, sumN_cons, sumN_cons, ih]
  omega
theorem nSum_l0 (l : List Nat) (hl : l.length ≤ 1000000) (hs : sumN l ≤ 1000000000) : ∀ (d i : Nat), i + d = l.length → Ev (fun k => zbz.l0 k ((sumN (l.take i) : Nat) : Int) (l.map fun x : Nat => (x : Int)) (l.length : Int) (i : Int)) ((sumN l : Nat) : Int)
 | 0, i, hd => by
  refine Ev.step (fun _ => zbz.l0.eq_2 ..) (Ev.neg (by omega) ?_)
  rw [List.take_of_length_le (by omega)]
  exact Ev.const _
 | d + 1, i, hd => by
  have hi : i < l.length := by omega
  have e : rd (l.map fun x : Nat => (x : Int)) (i : Int) = ((l[i] : Nat) : Int) := by
   rw [rd_nat, List.getD_eq_getElem?_getD, List.getElem?_map, List.getElem?_eq_getElem hi]
   rfl
  have ht : l.take (i + 1) = l.take i ++ [l[i]] := by rw [List.take_succ_eq_append_getElem hi]
  have hsum : sumN (l.take i) + l[i] = sumN (l.take (i + 1)) := by
   rw [ht, sumN_append]
   simp [sumN]
  have hle : sumN (l.take (i + 1)) ≤ sumN l := by
   have := sumN_append (l.take (i + 1)) (l.drop (i + 1))
   rw [List.take_append_drop] at this
   omega
  have ih := nSum_l0 l hl hs d (i + 1) (by omega)
  have w1 := Lib.hid (wadd1 i (by omega))
  have w2 := Lib.hid (wadd (sumN (l.take i)) l[i] (by omega))
  refine Ev.step (fun _ => zbz.l0.eq_2 ..) (Ev.pos (by omega) (Ev.pos (by omega) (Ev.pos (by rw [List.length_map]; omega) ?_)))
  rw [e, w2.out, w1.out, hsum]
  exact ih
theorem nSum (l : List Nat) (hl : l.length ≤ 1000000) (hs : sumN l ≤ 1000000000) : Ev (fun k => zbz.f k (l.map fun x : Nat => (x : Int))) ((sumN l : Nat) : Int) := by
 have := nSum_l0 l hl hs l.length 0 (by omega)
 refine Ev.congr (fun k => ?_) this
 unfold zbz.f
 rw [List.length_map]
 rfl
theorem slice_mk {x y q : Nat} (hy : 0 < y) : sliceV q (mkRat (x : Int) y) = max 1 (x * q / y) := by
 unfold sliceV
 rw [← mul_nat_floor (mkRat_nonneg x y) q]
 have e : mkRat (x : Int) y * ((q : Nat) : Rat) = mkRat ((x * q : Nat) : Int) y := by
  have h1 : ((q : Nat) : Rat) = mkRat (q : Int) 1 := by
   rw [Rat.mkRat_eq_div, Rat.intCast_natCast, one_nat]
   grind
  rw [h1, Rat.mkRat_mul_mkRat, Int.natCast_mul, Nat.mul_one]
 rw [e, div_low hy]
theorem floors (S q : Nat) (hS : 0 < S) : ∀ xs : List Nat, S * sumN (xs.map fun x => x * q / S) ≤ q * sumN xs ∧ q * sumN xs + xs.length ≤ S * (sumN (xs.map fun x => x * q / S) + xs.length) ∧
  sumN (xs.map fun x => x * q / S) ≤ sumN (xs.map fun x => max 1 (x * q / S)) ∧ sumN (xs.map fun x => max 1 (x * q / S)) ≤ sumN (xs.map fun x => x * q / S) + xs.length
 | [] => by simp [sumN]
 | x :: xs => by
  obtain ⟨h1, h2, h3, h4⟩ := floors S q hS xs
  have hdm := Nat.div_add_mod (x * q) S
  have hlt := Nat.mod_lt (x * q) hS
  simp only [List.map_cons, sumN_cons, List.length_cons]
  generalize sumN (xs.map fun x => x * q / S) = F at *
  generalize sumN (xs.map fun x => max 1 (x * q / S)) = G at *
  generalize x * q / S = f at *
  generalize sumN xs = X at *
  have e1 : S * (f + F) = S * f + S * F := Nat.mul_add ..
  have e2 : q * (x + X) = x * q + q * X := by rw [Nat.mul_add, Nat.mul_comm q x]
  have e3 : S * (f + F + (xs.length + 1)) = S * f + S + S * (F + xs.length) := by
   rw [show f + F + (xs.length + 1) = f + 1 + (F + xs.length) by omega, Nat.mul_add, Nat.mul_add, Nat.mul_one]
  rw [e1, e2, e3]
  omega
theorem sums_l1 (ps : List Nat) (q S : Nat) (hl : ps.length ≤ 12) (hne : 0 < ps.length) (hp : ∀ p ∈ ps, p < 256) (hS : S = sumN (ps.map (1 + ·))) (q1 : 1 ≤ q) (q2 : q ≤ 1000) (hSb : S ≤ 10000) :
  ∀ (d i : Nat), i + d = ps.length → Ev (fun k => zab.l1 k (ps.map fun x : Nat => (x : Int)) (q : Int) (S : Int) ((ps.take i).map fun p => lims (mkRat ((1 + p : Nat) : Int) S)) (ps.map fun x : Nat => (x : Int)) (ps.length : Int) (i : Int)) true
 | 0, i, hd => by
  have hS0 : 0 < S := by
   rw [hS]
   cases ps with
   | nil => simp at hne
   | cons p ps =>
    rw [List.map_cons, sumN_cons]
    omega
  have hall : ∀ (l : List Nat) (p : Nat), p ∈ l → 1 + p ≤ sumN (l.map (1 + ·)) := by
   intro l
   induction l with
   | nil => intro p h; cases h
   | cons a l ih =>
    intro p h
    rw [List.map_cons, sumN_cons]
    rcases List.mem_cons.1 h with rfl | h
    ·
     omega
    ·
     have := ih p h
     omega
  have hb : ∀ r ∈ ps.map (fun p => mkRat ((1 + p : Nat) : Int) S), Bd r 1 ∧ r ≤ 1 := by
   intro r hr
   obtain ⟨p, hpm, rfl⟩ := List.mem_map.1 hr
   have h1 := hp p hpm
   have h2 := hall ps p hpm
   rw [← hS] at h2
   refine ⟨Bd.mk hS0 (by rw [Nat.pow_one]; omega) (by rw [Nat.pow_one]; omega), ?_⟩
   have hy0 : (0 : Rat) < ((S : Nat) : Rat) := Rat.natCast_pos.2 hS0
   have hxy : ((1 + p : Nat) : Rat) ≤ ((S : Nat) : Rat) := Rat.natCast_le_natCast.2 h2
   rw [Rat.mkRat_eq_div, Rat.intCast_natCast]
   refine Rat.le_of_mul_le_mul_right (c := ((S : Nat) : Rat)) ?_ hy0
   rw [Rat.div_mul_cancel (Rat.ne_of_gt hy0), Rat.one_mul]
   exact hxy
  have ha := nAll (m := 1) (by omega) q1 q2 (ps.map (fun p => mkRat ((1 + p : Nat) : Int) S)) (by rw [List.length_map]; omega) hb
  have e1 : (ps.map (fun p => mkRat ((1 + p : Nat) : Int) S)).map lims = ps.map fun p => lims (mkRat ((1 + p : Nat) : Int) S) := by
   rw [List.map_map]
   rfl
  have e2 : (ps.map (fun p => mkRat ((1 + p : Nat) : Int) S)).map (fun r => ((sliceV q r : Nat) : Int)) = (ps.map fun p => max 1 ((1 + p) * q / S)).map fun x : Nat => (x : Int) := by
   rw [List.map_map, List.map_map]
   refine List.map_congr_left fun p _ => ?_
   show ((sliceV q (mkRat ((1 + p : Nat) : Int) S) : Nat) : Int) = _
   rw [slice_mk hS0]
   rfl
  rw [e1, e2] at ha
  obtain ⟨f1, f2, f3, f4⟩ := floors S q hS0 (ps.map (1 + ·))
  have e3 : (ps.map (1 + ·)).map (fun x => max 1 (x * q / S)) = ps.map fun p => max 1 ((1 + p) * q / S) := by
   rw [List.map_map]
   rfl
  rw [e3] at f3 f4
  rw [← hS] at f1 f2
  rw [List.length_map] at f2 f4
  generalize sumN ((ps.map (1 + ·)).map (fun x => x * q / S)) = F at f1 f2 f3 f4
  have hF : F ≤ q := by
   rw [Nat.mul_comm q S] at f1
   exact Nat.le_of_mul_le_mul_left f1 hS0
  have hG : q < F + ps.length := by
   rw [Nat.mul_comm q S] at f2
   exact Nat.lt_of_mul_lt_mul_left (a := S) (by omega)
  have hsum := nSum (ps.map fun p => max 1 ((1 + p) * q / S)) (by rw [List.length_map]; omega) (by omega)
  generalize hT : sumN (ps.map fun p => max 1 ((1 + p) * q / S)) = T at f3 f4 hsum
  have w1 := Lib.hid (wadd q ps.length (by omega))
  have w2 : RowKit.Hid (wrap64 ((q : Int) - (ps.length : Int)) = (q : Int) - (ps.length : Int)) := Lib.hid (w64s (by omega) (by omega))
  refine Ev.step (fun _ => zab.l1.eq_2 ..) (Ev.neg (by omega) ?_)
  rw [List.take_of_length_le (by omega)]
  refine Ev.bind ha (Ev.bind hsum (Ev.pos rfl (Ev.pos (by simp only [List.length_map]) ?_)))
  rw [List.length_map, w1.out, w2.out]
  refine Ev.pos (by omega) ?_
  rw [decide_eq_true (show (T : Int) > (q : Int) - (ps.length : Int) by omega)]
  exact Ev.const _
 | d + 1, i, hd => by
  have hi : i < ps.length := by omega
  have hS0 : 0 < S := by
   rw [hS]
   cases ps with
   | nil => simp at hne
   | cons p ps =>
    rw [List.map_cons, sumN_cons]
    omega
  have hp1 := hp ps[i] (List.getElem_mem hi)
  have e : rd (ps.map fun x : Nat => (x : Int)) (i : Int) = ((ps[i] : Nat) : Int) := by
   rw [rd_nat, List.getD_eq_getElem?_getD, List.getElem?_map, List.getElem?_eq_getElem hi]
   rfl
  have ht : ps.take (i + 1) = ps.take i ++ [ps[i]] := by rw [List.take_succ_eq_append_getElem hi]
  have ih := sums_l1 ps q S hl hne hp hS q1 q2 hSb d (i + 1) (by omega)
  rw [ht, List.map_append] at ih
  have w1 := Lib.hid (wadd1 i (by omega))
  have o1 : Ev (fun k => zb0.f k (IntKind.u64.wrap (wrap64 (1 + wrap64 ((ps[i] : Nat) : Int))))) (dig 18446744073709551616 (1 + ps[i])) := by
   rw [wid _ (by omega), w64s (by omega) (by omega), u64s (by omega) (by omega), show (1 : Int) + ((ps[i] : Nat) : Int) = ((1 + ps[i] : Nat) : Int) by omega]
   exact nOf _ (by omega)
  have o2 : Ev (fun k => zb0.f k (IntKind.u64.wrap (S : Int))) (dig 18446744073709551616 S) := by
   rw [u64s (by omega) (by omega)]
   exact nOf _ (by omega)
  refine Ev.step (fun _ => zab.l1.eq_2 ..) (Ev.pos (by omega) (Ev.pos (by omega) (Ev.pos (by rw [List.length_map]; omega) ?_)))
  rw [e]
  refine Ev.bind o1 (Ev.bind o2 (Ev.bind (qOf (m := 1) hS0 (by rw [Nat.pow_one]; omega) (by rw [Nat.pow_one]; omega) (by omega)) (Ev.pos (by rw [List.length_map, List.length_take]; omega) ?_)))
  rw [w1.out]
  exact ih
theorem sums_l0 (ps : List Nat) (q : Nat) (hl : ps.length ≤ 12) (hne : 0 < ps.length) (hp : ∀ p ∈ ps, p < 256) (q1 : 1 ≤ q) (q2 : q ≤ 1000) (hSb : sumN (ps.map (1 + ·)) ≤ 10000) :
  ∀ (d i : Nat), i + d = ps.length → Ev (fun k => zab.l0 k (ps.map fun x : Nat => (x : Int)) (q : Int) ((sumN ((ps.take i).map (1 + ·)) : Nat) : Int) (ps.map fun x : Nat => (x : Int)) (ps.length : Int) (i : Int)) true
 | 0, i, hd => by
  have h := sums_l1 ps q _ hl hne hp rfl q1 q2 hSb ps.length 0 (by omega)
  refine Ev.step (fun _ => zab.l0.eq_2 ..) (Ev.neg (by omega) ?_)
  rw [List.take_of_length_le (by omega), List.length_map]
  exact h
 | d + 1, i, hd => by
  have hi : i < ps.length := by omega
  have hp1 := hp ps[i] (List.getElem_mem hi)
  have e : rd (ps.map fun x : Nat => (x : Int)) (i : Int) = ((ps[i] : Nat) : Int) := by
   rw [rd_nat, List.getD_eq_getElem?_getD, List.getElem?_map, List.getElem?_eq_getElem hi]
   rfl
  have ht : ps.take (i + 1) = ps.take i ++ [ps[i]] := by rw [List.take_succ_eq_append_getElem hi]
  have hsum : sumN ((ps.take (i + 1)).map (1 + ·)) = sumN ((ps.take i).map (1 + ·)) + (1 + ps[i]) := by
   rw [ht, List.map_append, sumN_append]
   simp [sumN]
  have hle : sumN ((ps.take (i + 1)).map (1 + ·)) ≤ sumN (ps.map (1 + ·)) := by
   have h1 := sumN_append ((ps.take (i + 1)).map (1 + ·)) ((ps.drop (i + 1)).map (1 + ·))
   rw [← List.map_append, List.take_append_drop] at h1
   omega
  have ih := sums_l0 ps q hl hne hp q1 q2 hSb d (i + 1) (by omega)
  have w1 := Lib.hid (wadd1 i (by omega))
  have w3 : RowKit.Hid (wrap64 (((sumN ((ps.take i).map (1 + ·)) : Nat) : Int) + wrap64 (1 + wrap64 ((ps[i] : Nat) : Int))) = ((sumN ((ps.take (i + 1)).map (1 + ·)) : Nat) : Int)) := Lib.hid (by
   rw [wid _ (by omega), w64s (x := 1 + ((ps[i] : Nat) : Int)) (by omega) (by omega), w64s (by omega) (by omega), hsum]
   omega)
  refine Ev.step (fun _ => zab.l0.eq_2 ..) (Ev.pos (by omega) (Ev.pos (by omega) (Ev.pos (by rw [List.length_map]; omega) ?_)))
  rw [e, w3.out, w1.out]
  exact ih
theorem lit_nat {k : IntKind} {b : Nat} (hk : k.min = 0 ∧ k.max < b) {l : List Int} (h : ∀ x ∈ l, (Lit.int k x).wf = true) : ∃ ps : List Nat, l = ps.map (fun x : Nat => (x : Int)) ∧ ∀ p ∈ ps, p < b := by
 induction l with
 | nil => exact ⟨[], rfl, by simp⟩
 | cons x l ih =>
  obtain ⟨ps, e, hb⟩ := ih fun y hy => h y (by simp [hy])
  have h1 : k.min ≤ x ∧ x ≤ k.max := by simpa [Lit.wf] using h x (by simp)
  refine ⟨x.toNat :: ps, by rw [List.map_cons, ← e, Int.toNat_of_nonneg (by omega)], fun p hp => ?_⟩
  rcases List.mem_cons.1 hp with rfl | hp
  ·
   omega
  ·
   exact hb p hp
theorem sumN_bound (ps : List Nat) (hp : ∀ p ∈ ps, p < 256) : sumN (ps.map (1 + ·)) ≤ 256 * ps.length := by
 induction ps with
 | nil => simp [sumN]
 | cons p ps ih =>
  have h1 := ih fun x hx => hp x (by simp [hx])
  have h2 := hp p (by simp)
  rw [List.map_cons, sumN_cons, List.length_cons]
  omega
theorem lSliceSums : zab.Pure := by
 intro a l ha _ _ hw
 refine Ev.get ?_
 have ha' : 0 ≤ a ∧ a < 65536 := by
  have h1 : IntKind.u16.min ≤ a ∧ a ≤ IntKind.u16.max := by simpa [Lit.wf] using ha
  have h2 : IntKind.u16.min = 0 := by decide
  have h3 : IntKind.u16.max = 65535 := by decide
  omega
 obtain ⟨n, rfl⟩ := Int.eq_ofNat_of_zero_le ha'.1
 obtain ⟨ps, rfl, hp⟩ := lit_nat (k := .u8) (b := 256) (by decide) hw
 have off : Ev (fun k => zab.j0 k (n : Int) (ps.map fun x : Nat => (x : Int)) true) true := Ev.step (fun _ => zab.j0.eq_2 ..) (Ev.pos rfl (Ev.bind sawake (Ev.const _)))
 refine Ev.bind (F := fun k => zax.f k) sawake (Ev.pos rfl ?_)
 rw [List.length_map]
 by_cases h0 : (ps.length : Int) = 0
 ·
  exact Ev.pos h0 off
 ·
  refine Ev.neg h0 ?_
  by_cases h12 : (ps.length : Int) > 12
  ·
   rw [decide_eq_true h12]
   exact off
  ·
   rw [decide_eq_false h12]
   have hb := sumN_bound ps hp
   have hq : wrap64 (1 + Int.tmod (wrap64 (n : Int)) 1000) = ((1 + n % 1000 : Nat) : Int) := by
    rw [wid n (by omega), Int.tmod_eq_emod_of_nonneg (by omega), w64s (by omega) (by omega)]
    omega
   have h := sums_l0 ps (1 + n % 1000) (by omega) (by omega) hp (by omega) (by omega) (by omega) ps.length 0 (by omega)
   refine Ev.step (fun _ => zab.j0.eq_2 ..) (Ev.neg (by simp) ?_)
   rw [hq, List.length_map]
   exact h
end Go.Proofs.YtfjkamhcabckeaaDoor.P
end
section
namespace Go.Proofs.YtfjkamhcabckeaaDoorW.PrintWords
open Go.ChangeShapes Go.WideShapes
theorem sized_ints {H : Type} {enc : TypeId × Value → H} {P : Program} {W : World} {base : Nat} {spare : Nat → Bool} {held : Bool} {t e : TypeId} {k : IntKind} {a : Option Addr} {len cap : Nat} {d : DataW H} {ps : List MemPlace} {ts : List TypeId} {ds : List (DataW H)} {j : Nat}
  (hsz : (DataW.weightsEach P ts ds).all (· ≤ reachBytes) = true) (ht : ts[j]? = some t) (hd : ds[j]? = some d) (hu : P.underlying t = some (.slice e)) (he : P.underlying e = some (.int k)) (hc : P.cellsOf e = 1) {B : Nat} (hB : P.bytesOf e = B)
  (h : DataW.Trod enc P W base spare held t (.slice a len cap) d ps) : len * B ≤ 140737488351232 := by
 obtain ⟨fuel, hf⟩ := h
 rcases open_ints hu he hc hf with ⟨hcs, _⟩ | ⟨x, l, c, zs, hcs, _, hl, _, hz, hx, _, _⟩
 ·
  simp [Value.cells] at hcs
  obtain ⟨rfl, rfl, rfl⟩ := hcs
  simp
 ·
  simp [Value.cells] at hcs
  obtain ⟨rfl, rfl, rfl⟩ := hcs
  obtain ⟨hx, _⟩ := Prod.mk.inj hx
  subst hx
  have z := sized_slice hsz ht hd hu
  rw [hB] at z
  have hl2 : len ≤ zs.length := by
   rw [hz]
   split
   ·
    exact hl
   ·
    exact Nat.le_refl _
  have h1 : (lits (H := H) k (zs.take len)).length + (lits (H := H) k (zs.drop len)).length = zs.length := by
   simp [lits]
   omega
  rw [h1] at z
  exact Nat.le_trans (Nat.mul_le_mul_right _ hl2) z
end Go.Proofs.YtfjkamhcabckeaaDoorW.PrintWords
end
