-- Written by a program of this session (wip/tools/shake.py) out of its own texts and of the kit's printed ones; not trusted: Lean checks it.
import Derived.Test.YtfjkamhcabckeaaDoorZRatioOf7
section
namespace Go.Proofs.YtfjkamhcabckeaaDoor.P
open Go.RowKit Go.Proofs.YtfjkamhcabckeaaDoorW.PrintWords Go.Proofs.YtfjkamhcabckeaaDoorW.PrintLast Go.Proofs.YtfjkamhcabckeaaDoorW.PrintMore
attribute [local go_sem] max2_int min2_int max_two min_two max_three min_three max_four min_four
set_option linter.unusedVariables false
set_option linter.unusedSimpArgs false
theorem rtrim_l0 (l : List Int) (hl : l.length < 1000000000) : ∀ n : Nat, n ≤ l.length → Ev (fun k => roundelref02_trim.l0 k l (n : Int)) (strip (l.take n))
  | 0, h => by
    refine Ev.step (G := fun _ => some []) (fun k => ?_) (Ev.const _)
    rw [roundelref02_trim.l0, if_neg (by omega), if_pos (by omega), if_pos (by omega)]
    rfl
  | n + 1, h => by
    have e : wrap64 (((n + 1 : Nat) : Int) - 1) = n := by rw [w64s (by omega) (by omega)]; omega
    by_cases hz : l.getD n 0 = 0
    · refine Ev.step (G := fun k => roundelref02_trim.l0 k l (n : Int)) (fun k => ?_) ?_
      · rw [roundelref02_trim.l0, if_pos (by omega), e, if_pos (by omega), if_pos (by omega), rd_nat, if_pos hz]
      · rw [take_snoc l n (by omega), hz, strip_snoc0]
        exact rtrim_l0 l hl n (by omega)
    · refine Ev.step (G := fun _ => some (l.take (n + 1))) (fun k => ?_) ?_
      · rw [roundelref02_trim.l0, if_pos (by omega), e, if_pos (by omega), if_pos (by omega), rd_nat, if_neg hz, if_pos (by omega), if_pos (by omega)]
        rfl
      · have hs : strip (l.take (n + 1)) = l.take (n + 1) := by rw [take_snoc l n (by omega), strip_snoc _ _ hz]
        rw [hs]
        exact Ev.const _
theorem rtrim (l : List Int) (hl : l.length < 1000000000) : Ev (fun k => roundelref02_trim.f k l) (strip l) := by
  have := rtrim_l0 l hl l.length (Nat.le_refl _)
  rw [List.take_length] at this
  exact this
theorem rtrim_dig (l : List Int) (hl : l.length < 1000000000) (h : Dig 10000 l) : Ev (fun k => roundelref02_trim.f k l) (dig 10000 (val 10000 l)) := by
  rw [← strip_dig (by omega) l h]
  exact rtrim l hl
theorem rOf_l0 : ∀ (m n : Nat) (out : List Int), n < 10000 ^ m → n < 9223372036854775808 → out.length + m < 1000000000 → Ev (fun k => roundelref02_Of.l0 k (n : Int) out) (out ++ dig 10000 n)
  | 0, n, out, h, h2, hl => by
    have : n = 0 := by simpa using h
    subst this
    refine Ev.step (G := fun _ => some out) (fun k => ?_) ?_
    · rw [roundelref02_Of.l0, if_neg (by omega)]
    · rw [dig_zero, List.append_nil]
      exact Ev.const _
  | m + 1, n, out, h, h2, hl => by
    by_cases hn : n = 0
    · subst hn
      refine Ev.step (G := fun _ => some out) (fun k => ?_) ?_
      · rw [roundelref02_Of.l0, if_neg (by omega)]
      · rw [dig_zero, List.append_nil]
        exact Ev.const _
    · have e1 : wrap64 (Int.tdiv (n : Int) 10000) = ((n / 10000 : Nat) : Int) := by
        rw [Int.tdiv_eq_ediv_of_nonneg (by omega), w64s (by omega) (by omega)]
        omega
      have e2 : Int.tmod (n : Int) 10000 = ((n % 10000 : Nat) : Int) := by
        rw [Int.tmod_eq_emod_of_nonneg (by omega)]
        omega
      refine Ev.step (G := fun k => roundelref02_Of.l0 k ((n / 10000 : Nat) : Int) (out ++ [((n % 10000 : Nat) : Int)])) (fun k => ?_) ?_
      · rw [roundelref02_Of.l0, if_pos (by omega), if_pos (by omega), e1, e2]
      · have ih := rOf_l0 m (n / 10000) (out ++ [((n % 10000 : Nat) : Int)]) (by rw [Nat.pow_succ] at h; omega) (by omega) (by rw [List.length_append, List.length_singleton]; omega)
        rw [dig_pos (by omega) hn]
        rw [List.append_assoc] at ih
        exact ih
theorem rOf (n : Nat) (h : n < 9223372036854775808) : Ev (fun k => roundelref02_Of.f k (n : Int)) (dig 10000 n) := by
  have := rOf_l0 5 n [] (by omega) h (by simp)
  exact this
theorem rat (l : List Int) (i : Nat) : roundelref02_at.f l (i : Int) = some (l.getD i 0) := by
  unfold roundelref02_at.f
  by_cases h : i < l.length
  · rw [if_pos (by omega), if_pos (by omega), rd_nat]
  · rw [if_neg (by omega), List.getD_eq_getElem?_getD, List.getElem?_eq_none (by omega)]
    rfl
theorem rCmp_l0 (a b : List Int) (ha : Dig 10000 a) (hb : Dig 10000 b) (hl : a.length = b.length) (hs : a.length < 1000000000) : ∀ i : Nat, i ≤ a.length → V 10000 a i = V 10000 b i → Ev (fun k => roundelref02_Cmp.l0 k a b ((i : Int) - 1)) (sgn (val 10000 a) (val 10000 b))
  | 0, hi, hv => by
    refine Ev.step (G := fun _ => some 0) (fun k => ?_) ?_
    · rw [roundelref02_Cmp.l0, if_neg (by omega)]
    · rw [V_zero, V_zero] at hv
      rw [sgn, if_pos hv]
      exact Ev.const _
  | i + 1, hi, hv => by
    have e0 : ((i + 1 : Nat) : Int) - 1 = (i : Int) := by omega
    have ha1 := ha.get (show 0 < 10000 by omega) i
    have hb1 := hb.get (show 0 < 10000 by omega) i
    have hva := V_step 10000 a i
    have hvb := V_step 10000 b i
    rw [e0]
    rcases Int.lt_trichotomy (a.getD i 0) (b.getD i 0) with h | h | h
    · have hlt : val 10000 a < val 10000 b := V_lt (by omega) ha hb i (by omega)
      refine Ev.step (G := fun _ => some (-1)) (fun k => ?_) ?_
      · rw [roundelref02_Cmp.l0, if_pos (by omega), if_pos (by omega), if_pos (by omega), if_pos (by omega), rd_nat, rd_nat, if_pos h]
      · rw [sgn, if_neg (by omega), if_pos hlt]
        exact Ev.const _
    · refine Ev.step (G := fun k => roundelref02_Cmp.l0 k a b ((i : Int) - 1)) (fun k => ?_) (rCmp_l0 a b ha hb hl hs i (by omega) (by omega))
      rw [roundelref02_Cmp.l0, if_pos (by omega), if_pos (by omega), if_pos (by omega), if_pos (by omega), rd_nat, rd_nat, if_neg (by omega), if_neg (by omega), w64s (by omega) (by omega)]
    · have hlt : val 10000 b < val 10000 a := V_lt (by omega) hb ha i (by omega)
      refine Ev.step (G := fun _ => some 1) (fun k => ?_) ?_
      · rw [roundelref02_Cmp.l0, if_pos (by omega), if_pos (by omega), if_pos (by omega), if_pos (by omega), rd_nat, rd_nat, if_neg (by omega), if_pos h]
      · rw [sgn, if_neg (by omega), if_neg (by omega)]
        exact Ev.const _
theorem rCmp' (a b : List Int) (ha : Dig 10000 a) (hb : Dig 10000 b) (ga : Good a) (gb : Good b) (hs : a.length < 1000000000) (hs' : b.length < 1000000000) : Ev (fun k => roundelref02_Cmp.f k a b) (sgn (val 10000 a) (val 10000 b)) := by
  by_cases hl : a.length = b.length
  · refine Ev.congr (fun k => ?_) (rCmp_l0 a b ha hb hl hs a.length (Nat.le_refl _) (by rw [V_end _ (Nat.le_refl _), V_end _ (by omega)]))
    rw [roundelref02_Cmp.f, if_pos (by omega), w64s (by omega) (by omega)]
  · by_cases h2 : a.length < b.length
    · have hlt := len_lt (by omega) ha hb gb h2
      refine Ev.congr (G := fun _ => some (-1)) (fun k => ?_) ?_
      · rw [roundelref02_Cmp.f, if_neg (by omega), if_pos (by omega)]
      · rw [sgn, if_neg (by omega), if_pos hlt]
        exact Ev.const _
    · have hlt := len_lt (by omega) hb ha ga (by omega)
      refine Ev.congr (G := fun _ => some 1) (fun k => ?_) ?_
      · rw [roundelref02_Cmp.f, if_neg (by omega), if_neg (by omega)]
      · rw [sgn, if_neg (by omega), if_neg (by omega)]
        exact Ev.const _
def Lo (n : Nat) : Prop := (dig 10000 n).length ≤ 100000
theorem rCmp (x y : Nat) (hx : Lo x) (hy : Lo y) : Ev (fun k => roundelref02_Cmp.f k (dig 10000 x) (dig 10000 y)) (sgn x y) := by
  have := rCmp' (dig 10000 x) (dig 10000 y) (Dig_dig (by omega) x) (Dig_dig (by omega) y) (dig_last (by omega) x) (dig_last (by omega) y) (by unfold Lo at hx; omega) (by unfold Lo at hy; omega)
  rwa [val_dig (by omega), val_dig (by omega)] at this
theorem add_digit (x y c va vb : Nat) (hne : x + 10000 * va + (y + 10000 * vb) + c ≠ 0) : dig 10000 (x + 10000 * va + (y + 10000 * vb) + c) = (((x + y + c) % 10000 : Nat) : Int) :: dig 10000 (va + vb + (x + y + c) / 10000) := by
  have e : x + 10000 * va + (y + 10000 * vb) + c = (x + y + c) + 10000 * (va + vb) := by omega
  rw [dig_pos (by omega) hne, e, Nat.add_mul_mod_self_left, Nat.add_mul_div_left _ _ (by omega), Nat.add_comm ((x + y + c) / 10000)]
theorem add_wraps (x y c : Nat) (hx : x < 10000) (hy : y < 10000) (hc : c ≤ 1) : wrap64 (wrap64 ((x : Int) + y) + c) = ((x + y + c : Nat) : Int) ∧ Int.tmod ((x + y + c : Nat) : Int) 10000 = (((x + y + c) % 10000 : Nat) : Int) ∧ wrap64 (Int.tdiv ((x + y + c : Nat) : Int) 10000) = (((x + y + c) / 10000 : Nat) : Int) ∧ (x + y + c) / 10000 ≤ 1 := by
  refine ⟨?_, ?_, ?_, by omega⟩
  · rw [w64s (x := (x : Int) + y) (by omega) (by omega), w64s (by omega) (by omega)]
    omega
  · rw [Int.tmod_eq_emod_of_nonneg (by omega)]
    omega
  · rw [Int.tdiv_eq_ediv_of_nonneg (by omega), w64s (by omega) (by omega)]
    omega
theorem rAdd_end (a b : List Int) (i c : Nat) (out : List Int) (h1 : ¬ i < a.length) (h2 : ¬ i < b.length) (h3 : ¬ 0 < c) :
    Ev (fun k => roundelref02_Add.l0 k a b out (c : Int) (i : Int)) (out ++ dig 10000 (V 10000 a i + V 10000 b i + c)) := by
  refine Ev.step (G := fun k => roundelref02_Add.j1 k a b out (c : Int) (i : Int) false) (fun k => ?_) ?_
  · rw [roundelref02_Add.l0, if_neg (by omega), if_neg (by omega), decide_eq_false (by omega)]
  · refine Ev.step (G := fun _ => some out) (fun k => ?_) ?_
    · rw [roundelref02_Add.j1, if_neg (by simp)]
    · rw [V_end _ (by omega), V_end _ (by omega), show c = 0 by omega, dig_zero, List.append_nil]
      exact Ev.const _
theorem rAdd_l0 (a b : List Int) (ha : Dig 10000 a) (hb : Dig 10000 b) (ga : Good a) (gb : Good b) (hs : a.length < 1000000) (hs' : b.length < 1000000) : ∀ (m i c : Nat) (out : List Int), a.length + 1 ≤ i + m → b.length + 1 ≤ i + m → (i ≤ a.length ∨ i ≤ b.length ∨ c = 0) → c ≤ 1 → i ≤ 1000001 → out.length = i →
    Ev (fun k => roundelref02_Add.l0 k a b out (c : Int) (i : Int)) (out ++ dig 10000 (V 10000 a i + V 10000 b i + c)) := by
  intro m
  induction m with
  | zero =>
    intro i c out hm hm2 hm3 hc hi ho
    exact rAdd_end a b i c out (by omega) (by omega) (by omega)
  | succ m ih =>
    intro i c out hm hm2 hm3 hc hi ho
    by_cases hgo : i < a.length ∨ i < b.length ∨ 0 < c
    · have hi2 : i ≤ 1000000 := by
        clear ih
        rcases hgo with h | h | h <;> rcases hm3 with g | g | g <;> omega
      have ha1 := ha.get (show 0 < 10000 by omega) i
      have hb1 := hb.get (show 0 < 10000 by omega) i
      have hva := V_step 10000 a i
      have hvb := V_step 10000 b i
      obtain ⟨x, hx⟩ := Int.eq_ofNat_of_zero_le ha1.1
      obtain ⟨y, hy⟩ := Int.eq_ofNat_of_zero_le hb1.1
      rw [hx] at hva ha1
      rw [hy] at hvb hb1
      rw [Int.toNat_natCast] at hva hvb
      have hxe : a.length ≤ i → x = 0 := fun h => by
        rw [List.getD_eq_getElem?_getD, List.getElem?_eq_none h] at hx
        exact (Int.ofNat_inj.1 hx).symm
      have hye : b.length ≤ i → y = 0 := fun h => by
        rw [List.getD_eq_getElem?_getD, List.getElem?_eq_none h] at hy
        exact (Int.ofNat_inj.1 hy).symm
      obtain ⟨e1, e2, e3, e5⟩ := add_wraps x y c (by omega) (by omega) hc
      have e4 : wrap64 ((i : Int) + 1) = ((i + 1 : Nat) : Int) := by rw [w64s (by omega) (by omega)]; omega
      have hpos : V 10000 a i + V 10000 b i + c ≠ 0 := pos3 (hgo.imp (V_pos (by decide) ha ga i) (Or.imp (V_pos (by decide) hb gb i) id))
      have ed := add_digit x y c (V 10000 a (i + 1)) (V 10000 b (i + 1)) (by rw [← hva, ← hvb]; exact hpos)
      rw [← hva, ← hvb] at ed
      clear hva hvb hpos
      have E := Lib.hid ed
      have E1 := Lib.hid e1
      have E2 := Lib.hid e2
      have E3 := Lib.hid e3
      have E4 := Lib.hid e4
      clear ed e1 e2 e3 e4
      have h3 : i + 1 ≤ a.length ∨ i + 1 ≤ b.length ∨ (x + y + c) / 10000 = 0 := by
        by_cases h1 : i + 1 ≤ a.length
        · exact .inl h1
        · by_cases h2 : i + 1 ≤ b.length
          · exact .inr (.inl h2)
          · right; right
            rw [hxe (Nat.le_of_lt_succ (Nat.lt_of_not_le h1)), hye (Nat.le_of_lt_succ (Nat.lt_of_not_le h2))]
            clear hxe hye hgo hm3
            omega
      clear hxe hye hm3
      have hgo := Lib.hid hgo
      refine Ev.step (G := fun k => roundelref02_Add.j1 k a b out (c : Int) (i : Int) true) (fun k => ?_) ?_
      · rw [roundelref02_Add.l0]
        by_cases h1 : i < a.length
        · rw [if_pos (by omega)]
        · rw [if_neg (by omega)]
          by_cases h2 : i < b.length
          · rw [if_pos (by omega)]
          · rw [if_neg (by omega), decide_eq_true (by rcases hgo.out with h | h | h <;> omega)]
      · refine Ev.step (G := fun k => roundelref02_Add.l0 k a b (out ++ [(((x + y + c) % 10000 : Nat) : Int)]) (((x + y + c) / 10000 : Nat) : Int) ((i + 1 : Nat) : Int)) (fun k => ?_) ?_
        · rw [roundelref02_Add.j1, if_pos rfl, rat, rat, hx, hy]
          simp only [Option.bind_some]
          rw [if_pos (by omega), E1.out, E2.out, E3.out, E4.out]
        · have ih2 := ih (i + 1) ((x + y + c) / 10000) (out ++ [(((x + y + c) % 10000 : Nat) : Int)]) (by omega) (by omega) h3 e5 (by omega) (by rw [List.length_append, ho]; rfl)
          rw [List.append_assoc] at ih2
          rw [E.out]
          exact ih2
    · exact rAdd_end a b i c out (by omega) (by omega) (by omega)
theorem rAdd (x y : Nat) (hx : Lo x) (hy : Lo y) : Ev (fun k => roundelref02_Add.f k (dig 10000 x) (dig 10000 y)) (dig 10000 (x + y)) := by
  unfold Lo at hx hy
  have := rAdd_l0 (dig 10000 x) (dig 10000 y) (Dig_dig (by omega) x) (Dig_dig (by omega) y) (dig_last (by omega) x) (dig_last (by omega) y) (by omega) (by omega) 1000000 0 0 [] (by omega) (by omega) (by omega) (by omega) (by omega) rfl
  rw [V_zero, V_zero, val_dig (by omega), val_dig (by omega)] at this
  exact this
theorem mul_digit (o x y c : Nat) (ho : o < 10000) (hx : x < 10000) (hy : y < 10000) (hc : c < 10000) : x * y ≤ 99980001 ∧ wrap64 (wrap64 ((o : Int) + wrap64 ((x : Int) * (y : Int))) + (c : Int)) = ((o + x * y + c : Nat) : Int) ∧ Int.tmod ((o + x * y + c : Nat) : Int) 10000 = (((o + x * y + c) % 10000 : Nat) : Int) ∧ wrap64 (Int.tdiv ((o + x * y + c : Nat) : Int) 10000) = (((o + x * y + c) / 10000 : Nat) : Int) ∧ (o + x * y + c) / 10000 < 10000 := by
  have h : x * y ≤ 9999 * 9999 := Nat.mul_le_mul (by omega) (by omega)
  have e : (x : Int) * (y : Int) = ((x * y : Nat) : Int) := by simp
  rw [e]
  refine ⟨by omega, ?_, ?_, ?_, by omega⟩
  · rw [w64s (x := ((x * y : Nat) : Int)) (by omega) (by omega), w64s (x := (o : Int) + ((x * y : Nat) : Int)) (by omega) (by omega), w64s (by omega) (by omega)]
    omega
  · rw [Int.tmod_eq_emod_of_nonneg (by omega)]
    omega
  · rw [Int.tdiv_eq_ediv_of_nonneg (by omega), w64s (by omega) (by omega)]
    omega
set_option maxHeartbeats 1000000 in
theorem rMul_l1 (a b : List Int) (ha : Dig 10000 a) (hb : Dig 10000 b) (hs : a.length < 1000000) (hs' : b.length < 1000000) (i : Nat) (hi : i < a.length) : ∀ (m j c : Nat) (out : List Int), j + m = b.length → c < 10000 → Dig 10000 out → out.length = a.length + b.length →
    ∃ (out' : List Int) (c' : Nat), Dig 10000 out' ∧ out'.length = a.length + b.length ∧ c' < 10000 ∧ (∀ p, i + b.length ≤ p → out'.getD p 0 = out.getD p 0) ∧
      val 10000 out' + 10000 ^ (i + b.length) * c' = val 10000 out + 10000 ^ (i + j) * c + 10000 ^ (i + j) * ((a.getD i 0).toNat * V 10000 b j) ∧
      ∀ r, Ev (fun k => roundelref02_Mul.l1 k a b out' (i : Int) (c' : Int) (a.length : Int) (i : Int) (b.length : Int) (b.length : Int)) r → Ev (fun k => roundelref02_Mul.l1 k a b out (i : Int) (c : Int) (a.length : Int) (i : Int) (b.length : Int) (j : Int)) r := by
  intro m
  induction m with
  | zero =>
    intro j c out hj hc hd hl
    obtain rfl : j = b.length := by omega
    refine ⟨out, c, hd, hl, hc, fun _ _ => rfl, ?_, fun r h => h⟩
    rw [V_end _ (Nat.le_refl _)]
    simp
  | succ m ih =>
    intro j c out hj hc hd hl
    have hx := ha.get (show 0 < 10000 by decide) i
    have hy := hb.get (show 0 < 10000 by decide) j
    have ho := hd.get (show 0 < 10000 by decide) (i + j)
    have hv := V_step 10000 b j
    obtain ⟨x, hx'⟩ := Int.eq_ofNat_of_zero_le hx.1
    obtain ⟨y, hy'⟩ := Int.eq_ofNat_of_zero_le hy.1
    obtain ⟨o, ho'⟩ := Int.eq_ofNat_of_zero_le ho.1
    rw [hx'] at hx ⊢
    rw [hy'] at hy hv
    rw [ho'] at ho
    rw [Int.toNat_natCast] at hv ⊢
    obtain ⟨b1, e1, e2, e3, e5⟩ := mul_digit o x y c (by omega) (by omega) (by omega) hc
    have E1 := Lib.hid e1
    have E2 := Lib.hid e2
    have E3 := Lib.hid e3
    clear e1 e2 e3
    have hset := val_set 10000 out (i + j) (((o + x * y + c) % 10000 : Nat) : Int) (by omega)
    rw [ho', Int.toNat_natCast, Int.toNat_natCast] at hset
    obtain ⟨out', c', h1, h2, h3, h4, h5, h6⟩ := ih (j + 1) ((o + x * y + c) / 10000) (out.set (i + j) (((o + x * y + c) % 10000 : Nat) : Int)) (by omega) e5 (dig_set hd _ (by omega) (by omega)) (by rw [List.length_set]; exact hl)
    have EJ := Lib.hid (wadd i j (by omega))
    have EK := Lib.hid (wadd1 j (by omega))
    refine ⟨out', c', h1, h2, h3, fun p hp => ?_, ?_, fun r hr => ?_⟩
    · rw [h4 p hp, getD_set_ne (by omega)]
    · rw [h5, hx', Int.toNat_natCast, show i + (j + 1) = i + j + 1 by omega, Nat.pow_succ]
      exact mul_val _ _ o x y c _ _ _ _ _ _ hset hv (by omega)
    · refine Ev.step (fun k => ?_) (h6 r hr)
      rw [roundelref02_Mul.l1, if_pos (by omega), EJ.out, if_pos (by omega), if_pos (by omega), if_pos (by omega), if_pos (by omega), if_pos (by omega), if_pos (by omega), rd_nat, rd_nat, rd_nat, hx', hy', ho', E1.out, E2.out, E3.out, EK.out, Int.toNat_natCast]
set_option maxHeartbeats 1000000 in
theorem rMul_l0 (a b : List Int) (ha : Dig 10000 a) (hb : Dig 10000 b) (hs : a.length < 1000000) (hs' : b.length < 1000000) : ∀ (m i : Nat) (out : List Int), i + m = a.length → Dig 10000 out → out.length = a.length + b.length → (∀ p, i + b.length ≤ p → out.getD p 0 = 0) →
    Ev (fun k => roundelref02_Mul.l0 k a b out (a.length : Int) (i : Int)) (dig 10000 (val 10000 out + 10000 ^ i * (V 10000 a i * val 10000 b))) := by
  intro m
  induction m with
  | zero =>
    intro i out hi hd hl hz
    refine Ev.step (G := fun k => (roundelref02_trim.f k out).bind fun t190 => some t190) (fun k => ?_) ?_
    · rw [roundelref02_Mul.l0, if_neg (by omega)]
    · rw [V_end _ (by omega), Nat.zero_mul, Nat.mul_zero, Nat.add_zero]
      exact Ev.bind (rtrim_dig out (by omega) hd) (Ev.const _)
  | succ m ih =>
    intro i out hi hd hl hz
    obtain ⟨out', c', h1, h2, h3, h4, h5, h6⟩ := rMul_l1 a b ha hb hs hs' i (by omega) b.length 0 0 out (by omega) (by omega) hd hl
    have hz' := (h4 (i + b.length) (Nat.le_refl _)).trans (hz _ (Nat.le_refl _))
    have hset := val_set 10000 out' (i + b.length) (c' : Int) (by omega)
    rw [hz', Int.toNat_natCast] at hset
    have EI := Lib.hid (wadd i b.length (by omega))
    have EI1 := Lib.hid (wadd1 i (by omega))
    have EC := Lib.hid (show wrap64 (0 + (c' : Int)) = (c' : Int) by rw [Int.zero_add]; exact wid c' (by omega))
    have ih2 := ih (i + 1) (out'.set (i + b.length) (c' : Int)) (by omega) (dig_set h1 _ (by omega) (by omega)) (by rw [List.length_set]; exact h2) (fun p hp => by
      rw [getD_set_ne (by omega), h4 p (by omega), hz p (by omega)])
    have hva := V_step 10000 a i
    have hval : val 10000 out + 10000 ^ i * (V 10000 a i * val 10000 b) = val 10000 (out'.set (i + b.length) (c' : Int)) + 10000 ^ (i + 1) * (V 10000 a (i + 1) * val 10000 b) := by
      rw [hva, Nat.add_mul, Nat.mul_add, Nat.pow_succ, Nat.mul_assoc 10000, ← Nat.mul_assoc (10000 ^ i) 10000]
      rw [V_zero, Nat.add_zero, Nat.mul_zero, Nat.add_zero] at h5
      simp only [Int.toNat_zero, Nat.mul_zero, Nat.add_zero] at hset
      omega
    rw [hval]
    refine Ev.step (G := fun k => roundelref02_Mul.l1 k a b out (i : Int) 0 (a.length : Int) (i : Int) (b.length : Int) 0) (fun k => ?_) (h6 _ ?_)
    · rw [roundelref02_Mul.l0, if_pos (by omega)]
    · refine Ev.step (fun k => ?_) ih2
      rw [roundelref02_Mul.l1, if_neg (by omega), EI.out, if_pos (by omega), if_pos (by omega), rd_nat, hz', EC.out, EI1.out, Int.toNat_natCast]
theorem rMul (x y : Nat) (hx : Lo x) (hy : Lo y) : Ev (fun k => roundelref02_Mul.f k (dig 10000 x) (dig 10000 y)) (dig 10000 (x * y)) := by
  unfold Lo at hx hy
  have dx := Dig_dig (B := 10000) (by omega) x
  have dy := Dig_dig (B := 10000) (by omega) y
  have vx := val_dig (B := 10000) (by omega) x
  have vy := val_dig (B := 10000) (by omega) y
  generalize dig 10000 x = a at *
  generalize dig 10000 y = b at *
  have h := rMul_l0 a b dx dy (by omega) (by omega) a.length 0 (List.replicate (a.length + b.length) 0) (by omega) (Dig.rep (by omega) _) (by simp) (fun p _ => by
    rw [List.getD_eq_getElem?_getD, List.getElem?_replicate]
    split <;> rfl)
  rw [V_zero, val_replicate, vx, vy, Nat.pow_zero, Nat.one_mul, Nat.zero_add] at h
  refine Ev.congr (fun k => ?_) h
  rw [roundelref02_Mul.f, wadd a.length b.length (by omega)]
  rw [if_pos (by omega), Int.toNat_natCast, if_pos (by omega)]
  rfl
theorem Lo_lt {n m : Nat} (h : n < 18446744073709551616 ^ m) (hm : m ≤ 20000) : Lo n := by
  have h2 : 18446744073709551616 ^ m ≤ (10000 ^ 5) ^ m := Nat.pow_le_pow_left (by decide) m
  rw [← Nat.pow_mul] at h2
  have := dig_length (B := 10000) (by decide) (5 * m) n (Nat.lt_of_lt_of_le h h2)
  unfold Lo
  omega
theorem limb_wraps (p : Nat) (hp : p < 18446744073709551616) : IntKind.u64.wrap (Int.tdiv (p : Int) 65536) = ((p / 65536 : Nat) : Int) ∧ wrap64 (Int.tmod (p : Int) 65536) = ((p % 65536 : Nat) : Int) := by
  constructor
  · rw [Int.tdiv_eq_ediv_of_nonneg (by omega), u64s (by omega) (by omega)]
    omega
  · rw [Int.tmod_eq_emod_of_nonneg (by omega), w64s (by omega) (by omega)]
    omega
theorem rLimbs_l2 (l : List Int) (i : Int) (kk : Nat) (hk : kk ≤ 3) (n : Nat) (r : List Int) (h0 : Lo n) : ∀ (m p j : Nat), j + m = kk → p < 18446744073709551616 → Lo (n * 65536) → Ev (fun k => roundelref02_Limbs.l1 k l (dig 10000 (n * 65536 + (p / 65536 ^ m) % 65536)) i (wrap64 ((kk : Int) - 1))) r →
    Ev (fun k => roundelref02_Limbs.l2 k l (dig 10000 n) i (kk : Int) (p : Int) (kk : Int) (j : Int)) r := by
  intro m
  induction m with
  | zero =>
    intro p j hj hp h1 h
    obtain ⟨w1, w2⟩ := limb_wraps p hp
    have W2 := Lib.hid w2
    clear w1 w2
    have hs : Lo (p % 65536) := Lo_lt (m := 1) (by omega) (by omega)
    have h65 : Ev (fun k => roundelref02_Of.f k 65536) (dig 10000 65536) := rOf 65536 (by omega)
    refine Ev.step (G := fun k => (roundelref02_Of.f k 65536).bind fun t209 => (roundelref02_Mul.f k (dig 10000 n) t209).bind fun t212 => (roundelref02_Of.f k ((p % 65536 : Nat) : Int)).bind fun t215 => (roundelref02_Add.f k t212 t215).bind fun t218 => roundelref02_Limbs.l1 k l t218 i (wrap64 ((kk : Int) - 1))) (fun k => ?_) ?_
    · rw [roundelref02_Limbs.l2, if_neg (by omega), W2.out]
    · refine Ev.bind h65 (Ev.bind (rMul n 65536 h0 (Lo_lt (m := 1) (by omega) (by omega))) (Ev.bind (rOf (p % 65536) (by omega)) (Ev.bind (rAdd (n * 65536) (p % 65536) h1 hs) ?_)))
      rw [Nat.pow_zero, Nat.div_one] at h
      exact h
  | succ m ih =>
    intro p j hj hp h1 h
    obtain ⟨w1, w2⟩ := limb_wraps p hp
    have W1 := Lib.hid w1
    clear w1 w2
    have WA := Lib.hid (wadd1 j (by omega))
    refine Ev.step (fun k => ?_) (ih (p / 65536) (j + 1) (by omega) (by omega) h1 (by rw [show p / 65536 / 65536 ^ m = p / 65536 ^ (m + 1) by rw [Nat.div_div_eq_div_mul, Nat.pow_succ, Nat.mul_comm]]; exact h))
    rw [roundelref02_Limbs.l2, if_pos (by omega), W1.out, WA.out]
theorem rLimbs_l1 (l : List Int) (i x : Nat) (hi : i < l.length) (hx : l.getD i 0 = (x : Int)) (hx1 : x < 18446744073709551616) (kk : Nat) (hk : kk ≤ 3) (n n' : Nat) (hn : n' = n * 65536 + (x / 65536 ^ kk) % 65536) (h0 : Lo n) (h1 : Lo (n * 65536)) (r : List Int)
    (h : Ev (fun k => roundelref02_Limbs.l1 k l (dig 10000 n') (i : Int) (wrap64 ((kk : Int) - 1))) r) : Ev (fun k => roundelref02_Limbs.l1 k l (dig 10000 n) (i : Int) (kk : Int)) r := by
  subst hn
  refine Ev.step (fun k => ?_) (rLimbs_l2 l (i : Int) kk hk n r h0 kk x 0 (by omega) hx1 h1 h)
  rw [roundelref02_Limbs.l1, if_pos (by omega), if_pos (by omega), if_pos (by omega), rd_nat, hx]
  rfl
theorem rLimbs_l0 (l : List Int) (hd : Dig 18446744073709551616 l) (hl : l.length ≤ 10000) : ∀ i : Nat, i ≤ l.length → Ev (fun k => roundelref02_Limbs.l0 k l (dig 10000 (V 18446744073709551616 l i)) ((i : Int) - 1)) (dig 10000 (val 18446744073709551616 l)) := by
  intro i
  induction i with
  | zero =>
    intro _
    refine Ev.step (G := fun _ => some (dig 10000 (V 18446744073709551616 l 0))) (fun k => ?_) (Ev.const _)
    rw [roundelref02_Limbs.l0, if_neg (by omega)]
  | succ i ih =>
    intro hi
    have hg := hd.get (show 0 < 18446744073709551616 by decide) i
    obtain ⟨x, hx⟩ := Int.eq_ofNat_of_zero_le hg.1
    rw [hx] at hg
    have hx1 : x < 18446744073709551616 := by omega
    have hv := V_step 18446744073709551616 l i
    rw [hx, Int.toNat_natCast] at hv
    have hb := V_bound (show 0 < 18446744073709551616 by decide) hd i
    have hlo : ∀ m, m ≤ V 18446744073709551616 l i → Lo m := fun m hm => Lo_lt (Nat.lt_of_le_of_lt hm hb) (by omega)
    clear hb
    generalize V 18446744073709551616 l i = v at *
    generalize V 18446744073709551616 l (i + 1) = n at *
    have e0 : ((i + 1 : Nat) : Int) - 1 = (i : Int) := by omega
    rw [e0]
    have ih2 := ih (by omega)
    refine Ev.step (G := fun k => roundelref02_Limbs.l1 k l (dig 10000 n) (i : Int) 3) (fun k => ?_) ?_
    · rw [roundelref02_Limbs.l0, if_pos (by omega)]
    · refine rLimbs_l1 l i x (by omega) hx hx1 3 (by omega) n (n * 65536 + x / 281474976710656) (by omega) (hlo _ (by omega)) (hlo _ (by omega)) _ ?_
      rw [show wrap64 ((3 : Nat) - 1) = ((2 : Nat) : Int) from w64s (by omega) (by omega)]
      refine rLimbs_l1 l i x (by omega) hx hx1 2 (by omega) _ (n * 4294967296 + x / 4294967296) (by omega) (hlo _ (by omega)) (hlo _ (by omega)) _ ?_
      rw [show wrap64 ((2 : Nat) - 1) = ((1 : Nat) : Int) from w64s (by omega) (by omega)]
      refine rLimbs_l1 l i x (by omega) hx hx1 1 (by omega) _ (n * 281474976710656 + x / 65536) (by omega) (hlo _ (by omega)) (hlo _ (by omega)) _ ?_
      rw [show wrap64 ((1 : Nat) - 1) = ((0 : Nat) : Int) from w64s (by omega) (by omega)]
      refine rLimbs_l1 l i x (by omega) hx hx1 0 (by omega) _ v (by omega) (hlo _ (by omega)) (hlo _ (by omega)) _ ?_
      refine Ev.step (fun k => ?_) ih2
      rw [show wrap64 ((0 : Nat) - 1) = -1 from w64s (by omega) (by omega), roundelref02_Limbs.l1, if_neg (by omega), w64s (by omega) (by omega)]
theorem rLimbs (l : List Int) (hd : Dig 18446744073709551616 l) (hl : l.length ≤ 10000) : Ev (fun k => roundelref02_Limbs.f k l) (dig 10000 (val 18446744073709551616 l)) := by
  have h := rLimbs_l0 l hd hl l.length (Nat.le_refl _)
  rw [V_end _ (Nat.le_refl _), dig_zero] at h
  refine Ev.congr (fun k => ?_) h
  rw [roundelref02_Limbs.f, w64s (by omega) (by omega)]
theorem nIs (n : Nat) (hl : (dig 18446744073709551616 n).length ≤ 10000) : Ev (fun k => roundellaw02_Is.f k (dig 18446744073709551616 n) (dig 10000 n)) true := by
  have hL := rLimbs (dig 18446744073709551616 n) (Dig_dig (by decide) n) hl
  rw [val_dig (by decide)] at hL
  have hlo : Lo n := Lo_lt (m := (dig 18446744073709551616 n).length) (by
    have := val_lt _ (Dig_dig (B := 18446744073709551616) (by decide) n)
    rwa [val_dig (by decide)] at this) (by omega)
  refine Ev.congr (G := fun k => (roundelref02_Limbs.f k (dig 18446744073709551616 n)).bind fun t226 => (roundelref02_Cmp.f k t226 (dig 10000 n)).bind fun t229 => some (t229 == 0)) (fun k => ?_) ?_
  · rw [roundellaw02_Is.f, rGood _ (by omega), goodB_dig]
    rfl
  · refine Ev.bind hL (Ev.bind (rCmp n n hlo hlo) ?_)
    rw [sgn, if_pos rfl]
    exact Ev.const _
theorem rsub_digit (x y bo va vb : Nat) (hx : x < 10000) (hy : y < 10000) (hbo : bo ≤ 1) (h : y + 10000 * vb + bo ≤ x + 10000 * va) :
    ∃ d bo' : Nat, d < 10000 ∧ bo' ≤ 1 ∧ d + y + bo = x + 10000 * bo' ∧ vb + bo' ≤ va ∧
      ((wrap64 (wrap64 ((x : Int) - (y : Int)) - (bo : Int)) < 0 ∧ bo' = 1 ∧ wrap64 (wrap64 (wrap64 ((x : Int) - (y : Int)) - (bo : Int)) + 10000) = (d : Int)) ∨ (¬ wrap64 (wrap64 ((x : Int) - (y : Int)) - (bo : Int)) < 0 ∧ bo' = 0 ∧ wrap64 (wrap64 ((x : Int) - (y : Int)) - (bo : Int)) = (d : Int))) := by
  rw [w64s (x := (x : Int) - (y : Int)) (by omega) (by omega), w64s (x := (x : Int) - (y : Int) - (bo : Int)) (by omega) (by omega)]
  by_cases hlt : x < y + bo
  · refine ⟨x + 10000 - y - bo, 1, by omega, by omega, by omega, by omega, .inl ⟨by omega, rfl, ?_⟩⟩
    rw [w64s (by omega) (by omega)]
    omega
  · exact ⟨x - y - bo, 0, by omega, by omega, by omega, by omega, .inr ⟨by omega, rfl, by omega⟩⟩
theorem rSub_l0 (a b : List Int) (ha : Dig 10000 a) (hb : Dig 10000 b) (hs : a.length < 1000000) (hs' : b.length ≤ a.length) (T : Nat) : ∀ (m i bo : Nat) (out : List Int), i + m = a.length → bo ≤ 1 → out.length = i → Dig 10000 out →
    V 10000 b i + bo ≤ V 10000 a i → val 10000 out + 10000 ^ i * V 10000 a i = T + 10000 ^ i * (V 10000 b i + bo) →
    Ev (fun k => roundelref02_Sub.l0 k a b out (bo : Int) (a.length : Int) (i : Int)) (dig 10000 T) := by
  intro m
  induction m with
  | zero =>
    intro i bo out hi hbo ho hd hle hT
    refine Ev.step (G := fun k => (roundelref02_trim.f k out).bind fun t335 => some t335) (fun k => ?_) ?_
    · rw [roundelref02_Sub.l0, if_neg (by omega)]
    · have h := rtrim_dig out (by omega) hd
      rw [V_end _ (show a.length ≤ i by omega)] at hT hle
      have h0 : V 10000 b i + bo = 0 := by omega
      rw [h0, Nat.mul_zero, Nat.add_zero, Nat.add_zero] at hT
      rw [hT] at h
      exact Ev.bind h (Ev.const _)
  | succ m ih =>
    intro i bo out hi hbo ho hd hle hT
    have ha1 := ha.get (show 0 < 10000 by decide) i
    have hb1 := hb.get (show 0 < 10000 by decide) i
    have hva := V_step 10000 a i
    have hvb := V_step 10000 b i
    obtain ⟨x, hx⟩ := Int.eq_ofNat_of_zero_le ha1.1
    obtain ⟨y, hy⟩ := Int.eq_ofNat_of_zero_le hb1.1
    rw [hx] at hva ha1
    rw [hy] at hvb hb1
    rw [Int.toNat_natCast] at hva hvb
    rw [hva, hvb] at hle hT
    obtain ⟨d, bo', h1, h2, h3, h4, h5⟩ := rsub_digit x y bo _ _ (by omega) (by omega) hbo hle
    have hv := less_val _ _ _ _ _ _ _ _ _ _ _ hT h3
    rw [← Nat.pow_succ] at hv
    have hval : val 10000 (out ++ [(d : Int)]) = val 10000 out + 10000 ^ i * d := by
      rw [val_append, ho]
      simp [val]
    rw [← hval] at hv
    have H5 := Lib.hid h5
    have ih2 := ih (i + 1) bo' (out ++ [(d : Int)]) (by clear h5; omega) h2 (by rw [List.length_append, ho]; rfl) (hd.app (Dig.mk (by clear h5; omega) (by clear h5; omega) (Dig.nil _))) h4 hv
    clear h5 hv hval hT hle hva hvb h3 h4
    have H2 := Lib.hid ih2
    have WA := Lib.hid (wadd1 i (by omega))
    clear ih2
    refine Ev.step (fun k => ?_) H2.out
    rw [roundelref02_Sub.l0, if_pos (by omega), if_pos (by omega), if_pos (by omega), rat, Option.bind_some, rd_nat, hx, hy]
    rcases H5.out with ⟨c1, c2, c3⟩ | ⟨c1, c2, c3⟩
    · rw [if_pos c1, c3, c2]
      clear c1 c3
      rw [if_pos (by omega), WA.out]
      rfl
    · rw [if_neg c1, c3, c2]
      clear c1 c3
      rw [if_pos (by omega), WA.out]
      rfl
theorem rSub (x y : Nat) (hx : Lo x) (hy : y ≤ x) : Ev (fun k => roundelref02_Sub.f k (dig 10000 x) (dig 10000 y)) (dig 10000 (x - y)) := by
  have hl := dig_mono (B := 10000) (by decide) hy
  unfold Lo at hx
  have dx := Dig_dig (B := 10000) (by decide) x
  have dy := Dig_dig (B := 10000) (by decide) y
  have vx := val_dig (B := 10000) (by decide) x
  have vy := val_dig (B := 10000) (by decide) y
  generalize dig 10000 x = a at *
  generalize dig 10000 y = b at *
  have h := rSub_l0 a b dx dy (by omega) hl (x - y) a.length 0 0 [] (by omega) (by omega) rfl (Dig.nil _) (by rw [V_zero, V_zero, vx, vy]; omega) (by rw [V_zero, V_zero, vx, vy]; simp [val]; omega)
  exact h
theorem Is_lt {x m : Nat} (hx : x < 18446744073709551616 ^ m) (h : m ≤ 10000) : Ev (fun k => roundellaw02_Is.f k (dig 18446744073709551616 x) (dig 10000 x)) true := nIs x (Nat.le_trans (dig_length (by decide) m x hx) h)
theorem limbs_dig {x m : Nat} (hx : x < 18446744073709551616 ^ m) (h : m ≤ 10000) : Ev (fun k => roundelref02_Limbs.f k (dig 18446744073709551616 x)) (dig 10000 x) := by
  have := rLimbs (dig 18446744073709551616 x) (Dig_dig (by decide) x) (Nat.le_trans (dig_length (by decide) m x hx) h)
  rwa [val_dig (by decide)] at this
end Go.Proofs.YtfjkamhcabckeaaDoor.P
end
section
namespace Go.Proofs.YtfjkamhcabckeaaDoor.P
open Go.RowKit Go.Proofs.YtfjkamhcabckeaaDoorW.PrintWords Go.Proofs.YtfjkamhcabckeaaDoorW.PrintLast Go.Proofs.YtfjkamhcabckeaaDoorW.PrintMore
attribute [local go_sem] max2_int min2_int max_two min_two max_three min_three max_four min_four
set_option linter.unusedVariables false
set_option linter.unusedSimpArgs false
theorem mid_wraps (low high : Nat) (h : low < high) (hh : high < 10000) : wrap64 (Int.tdiv (wrap64 ((wrap64 ((low : Int) + (high : Int))) + 1)) 2) = (((low + high + 1) / 2 : Nat) : Int) := by
  rw [w64s (x := (low : Int) + (high : Int)) (by omega) (by omega), w64s (x := (low : Int) + (high : Int) + 1) (by omega) (by omega), Int.tdiv_eq_ediv_of_nonneg (by omega), w64s (by omega) (by omega)]
  omega
theorem rDiv_l1 (a : List Int) (y L : Nat) (hy : 0 < y) (hyl : Lo y) (hLl : Lo L) (hd : L / y < 10000) (hmul : ∀ m, m < 10000 → Lo (y * m)) (out : List Int) (i : Nat) (r : List Int × List Int) : ∀ (n low high : Nat), high - low ≤ n → low ≤ L / y → L / y ≤ high → high < 10000 →
    Ev (fun k => roundelref02_Div.l1 k a (dig 10000 y) out (dig 10000 L) (i : Int) ((L / y : Nat) : Int) ((L / y : Nat) : Int)) r →
    Ev (fun k => roundelref02_Div.l1 k a (dig 10000 y) out (dig 10000 L) (i : Int) (low : Int) (high : Int)) r := by
  intro n
  induction n with
  | zero =>
    intro low high hn h1 h2 h3 h
    rw [show low = L / y by omega, show high = L / y by omega]
    exact h
  | succ n ih =>
    intro low high hn h1 h2 h3 h
    by_cases hlt : low < high
    · have WM := Lib.hid (mid_wraps low high hlt h3)
      have hm1 : low < (low + high + 1) / 2 := by omega
      have hm2 : (low + high + 1) / 2 ≤ high := by omega
      have hcmp : (low + high + 1) / 2 ≤ L / y ↔ y * ((low + high + 1) / 2) ≤ L := by rw [Nat.le_div_iff_mul_le hy, Nat.mul_comm]
      generalize (low + high + 1) / 2 = m at *
      have WS := Lib.hid (wsub1 m (by omega) (by omega))
      have c := rCmp (y * m) L (hmul m (by omega)) hLl
      refine Ev.step (G := fun k => (roundelref02_Of.f k (m : Int)).bind fun t541 => (roundelref02_Mul.f k (dig 10000 y) t541).bind fun t544 => (roundelref02_Cmp.f k t544 (dig 10000 L)).bind fun t547 => if t547 ≤ 0 then roundelref02_Div.l1 k a (dig 10000 y) out (dig 10000 L) (i : Int) (m : Int) (high : Int) else roundelref02_Div.l1 k a (dig 10000 y) out (dig 10000 L) (i : Int) (low : Int) ((m - 1 : Nat) : Int)) (fun k => ?_) (Ev.bind (rOf m (by omega)) (Ev.bind (rMul y m hyl (Lo_lt (m := 1) (by omega) (by omega))) (Ev.bind c ?_)))
      · rw [roundelref02_Div.l1, if_pos (by omega), WM.out, WS.out]
      · by_cases hle : y * m ≤ L
        · have hs : sgn (y * m) L ≤ 0 := by
            unfold sgn
            split
            · omega
            · rw [if_pos (by omega)]
              omega
          exact Ev.pos hs (ih m high (by omega) (hcmp.2 hle) h2 h3 h)
        · have hs : ¬ sgn (y * m) L ≤ 0 := by
            rw [sgn_gt (by omega)]
            omega
          refine Ev.neg hs (ih low (m - 1) (by omega) h1 ?_ (by omega) h)
          have := mt hcmp.1 hle
          omega
    · rw [show low = L / y by omega, show high = L / y by omega]
      exact h
theorem rdiv_val (Q y X ai l d l' Vn Vi B : Nat) (h : Q * y + X * B * l = X * B * Vn) (hV : Vi = ai + B * Vn) (hl : d * y + l' = ai + B * l) : (Q + X * d) * y + X * l' = X * Vi := by
  have h1 : X * (d * y + l') = X * (ai + B * l) := by rw [hl]
  rw [hV, Nat.add_mul, Nat.mul_assoc]
  rw [Nat.mul_assoc, Nat.mul_assoc] at h
  simp only [Nat.mul_add] at h1 ⊢
  omega
theorem rDiv_l0 (a : List Int) (ha : Dig 10000 a) (hs : a.length ≤ 50000) (y : Nat) (hy : 0 < y) (hyl : Lo y) (hmul : ∀ m, m < y * 10000 → Lo m) : ∀ (m l : Nat) (out : List Int), m ≤ a.length → l < y → out.length = a.length → Dig 10000 out → (∀ p, p < m → out.getD p 0 = 0) →
    val 10000 out * y + 10000 ^ m * l = 10000 ^ m * V 10000 a m →
    Ev (fun k => roundelref02_Div.l0 k a (dig 10000 y) out (dig 10000 l) ((m : Int) - 1)) (dig 10000 (val 10000 a / y), dig 10000 (val 10000 a % y)) := by
  intro m
  induction m with
  | zero =>
    intro l out _ hl ho hd hz hv
    refine Ev.step (G := fun k => (roundelref02_trim.f k out).bind fun t518 => some (t518, dig 10000 l)) (fun k => ?_) ?_
    · rw [roundelref02_Div.l0, if_neg (by omega)]
    · have h := rtrim_dig out (by omega) hd
      rw [Nat.pow_zero, Nat.one_mul, Nat.one_mul, V_zero] at hv
      have e1 : val 10000 a / y = val 10000 out := by
        rw [← hv, Nat.add_comm, Nat.add_mul_div_right _ _ hy, Nat.div_eq_of_lt hl, Nat.zero_add]
      have e2 : val 10000 a % y = l := by
        rw [← hv, Nat.add_comm, Nat.add_mul_mod_self_right, Nat.mod_eq_of_lt hl]
      rw [e1, e2]
      exact Ev.bind h (Ev.const _)
  | succ i ih =>
    intro l out hm hl ho hd hz hv
    have hg := ha.get (show 0 < 10000 by decide) i
    obtain ⟨x, hx⟩ := Int.eq_ofNat_of_zero_le hg.1
    rw [hx] at hg
    have hva := V_step 10000 a i
    rw [hx, Int.toNat_natCast] at hva
    have hLlt : x + 10000 * l < y * 10000 := by omega
    have hdl : (x + 10000 * l) / y < 10000 := by
      rw [Nat.div_lt_iff_lt_mul hy]
      omega
    have hLo := hmul _ hLlt
    have hll := hmul l (by omega)
    have hll2 := hll
    unfold Lo at hll2
    have htr := rtrim_dig ((x : Int) :: dig 10000 l) (by rw [List.length_cons]; omega) (Dig.mk (by omega) (by omega) (Dig_dig (by decide) l))
    rw [val, val_dig (by decide), Int.toNat_natCast] at htr
    have hdm := Nat.div_add_mod (x + 10000 * l) y
    have hml := Nat.mod_lt (x + 10000 * l) hy
    have hmy : ∀ m, m < 10000 → Lo (y * m) := fun m hm => hmul _ (Nat.mul_lt_mul_of_pos_left hm hy)
    have hl1 := rDiv_l1 a y (x + 10000 * l) hy hyl hLo hdl hmy out i (dig 10000 (val 10000 a / y), dig 10000 (val 10000 a % y)) 9999 0 9999 (by omega) (Nat.zero_le _) (by omega) (by omega)
    generalize (x + 10000 * l) / y = q at *
    generalize (x + 10000 * l) % y = s at *
    have hset := val_set 10000 out i (q : Int) (by omega)
    rw [hz i (by omega), Int.toNat_natCast, Int.toNat_zero, Nat.mul_zero, Nat.add_zero] at hset
    rw [Nat.pow_succ] at hv
    have hnew := rdiv_val _ _ _ x l q s _ _ _ hv hva (by rw [Nat.mul_comm]; exact hdm)
    rw [← hset] at hnew
    have hle : y * q ≤ x + 10000 * l := by omega
    have hsub := rSub (x + 10000 * l) (y * q) hLo hle
    rw [show x + 10000 * l - y * q = s by omega] at hsub
    have ih2 := ih s (out.set i (q : Int)) (by omega) hml (by rw [List.length_set]; exact ho) (dig_set hd _ (by omega) (by omega)) (fun p hp => by rw [getD_set_ne (by omega)]; exact hz p (by omega)) hnew
    have E3 := Lib.hid (show wrap64 ((i : Int) - 1) = (i : Int) - 1 from w64s (by omega) (by omega))
    have e0 : ((i + 1 : Nat) : Int) - 1 = (i : Int) := by omega
    rw [e0]
    clear hset hnew hdm hva hv
    refine Ev.step (G := fun k => (roundelref02_trim.f k ((x : Int) :: dig 10000 l)).bind fun t528 => roundelref02_Div.l1 k a (dig 10000 y) out t528 (i : Int) 0 9999) (fun k => ?_) (Ev.bind htr ?_)
    · rw [roundelref02_Div.l0, if_pos (by omega), if_pos (by omega), if_pos (by omega), Option.bind_some, rd_nat, hx]
      show (if ([(x : Int)] : List Int).length + (dig 10000 l).length < 17592186044416 then _ else _) = _
      rw [if_pos (by rw [List.length_singleton]; omega)]
      rfl
    · refine hl1 ?_
      have hof := rOf q (by omega)
      have hmu := rMul y q hyl (Lo_lt (m := 1) (by omega) (by omega))
      refine Ev.step (G := fun k => (roundelref02_Of.f k (q : Int)).bind fun t532 => (roundelref02_Mul.f k (dig 10000 y) t532).bind fun t535 => (roundelref02_Sub.f k (dig 10000 (x + 10000 * l)) t535).bind fun t538 => roundelref02_Div.l0 k a (dig 10000 y) (out.set i (q : Int)) t538 ((i : Int) - 1)) (fun k => ?_) (Ev.bind hof (Ev.bind hmu (Ev.bind hsub ih2)))
      rw [roundelref02_Div.l1, if_neg (by omega), if_pos (by omega), if_pos (by omega), E3.out, Int.toNat_natCast]
theorem rDiv (x y : Nat) (hy : 0 < y) (hx : (dig 10000 x).length ≤ 50000) (hyl : Lo y) (hmul : ∀ m, m < y * 10000 → Lo m) : Ev (fun k => roundelref02_Div.f k (dig 10000 x) (dig 10000 y)) (dig 10000 (x / y), dig 10000 (x % y)) := by
  have dx := Dig_dig (B := 10000) (by decide) x
  have vx := val_dig (B := 10000) (by decide) x
  generalize dig 10000 x = a at *
  have h := rDiv_l0 a dx hx y hy hyl hmul a.length 0 (List.replicate a.length 0) (Nat.le_refl _) hy (by simp) (Dig.rep (by decide) _) (fun p _ => by
    rw [List.getD_eq_getElem?_getD, List.getElem?_replicate]
    split <;> rfl) (by rw [val_replicate, V_end _ (Nat.le_refl _)]; simp)
  rw [vx, dig_zero] at h
  refine Ev.congr (fun k => ?_) h
  rw [roundelref02_Div.f, if_pos (by omega), Int.toNat_natCast, if_pos (by omega), w64s (by omega) (by omega)]
theorem rGcd_l0 (M : Nat) (hM : ∀ m, m < M * 10000 → (dig 10000 m).length ≤ 50000) : ∀ (y x : Nat), x ≤ M → y ≤ M → Ev (fun k => roundelref02_Gcd.l0 k (dig 10000 x) (dig 10000 y)) (dig 10000 (Nat.gcd x y)) := by
  intro y
  induction y using Nat.strongRecOn with
  | ind y ih =>
    intro x hx hyl
    by_cases hy : y = 0
    · subst hy
      refine Ev.step (G := fun _ => some (dig 10000 x)) (fun k => ?_) ?_
      · rw [dig_zero, roundelref02_Gcd.l0, if_neg (by simp)]
      · rw [Nat.gcd_zero_right]
        exact Ev.const _
    · have hpos : 0 < y := by omega
      have hne := dig_ne (B := 10000) (by decide) hy
      have hl0 : 0 < (dig 10000 y).length := List.length_pos_iff.2 hne
      have hmod := Nat.mod_lt x hpos
      have ih2 := ih (x % y) hmod y hyl (by omega)
      have hg : Nat.gcd x y = Nat.gcd y (x % y) := by rw [Nat.gcd_comm x y, Nat.gcd_rec y x, Nat.gcd_comm]
      have hlo : ∀ m, m < M * 10000 → Lo m := fun m hm => by
        have := hM m hm
        unfold Lo
        omega
      have hdv := rDiv x y hpos (hM x (by omega)) (hlo y (by omega)) (fun m hm => hlo m (Nat.lt_of_lt_of_le hm (Nat.mul_le_mul_right _ hyl)))
      refine Ev.step (G := fun k => (roundelref02_Div.f k (dig 10000 x) (dig 10000 y)).bind fun bt548 => roundelref02_Gcd.l0 k (dig 10000 y) bt548.2) (fun k => ?_) (Ev.bind hdv ?_)
      · rw [roundelref02_Gcd.l0, if_pos (by omega)]
      · rw [hg]
        exact ih2
theorem Lo5 {n m : Nat} (h : n < 18446744073709551616 ^ m) : (dig 10000 n).length ≤ 5 * m := by
  have h2 : 18446744073709551616 ^ m ≤ (10000 ^ 5) ^ m := Nat.pow_le_pow_left (by decide) m
  rw [← Nat.pow_mul] at h2
  exact dig_length (B := 10000) (by decide) (5 * m) n (Nat.lt_of_lt_of_le h h2)
end Go.Proofs.YtfjkamhcabckeaaDoor.P
end
section
namespace Go.Proofs.YtfjkamhcabckeaaDoor.P
open Go.RowKit Go.Proofs.YtfjkamhcabckeaaDoorW.PrintWords Go.Proofs.YtfjkamhcabckeaaDoorW.PrintLast Go.Proofs.YtfjkamhcabckeaaDoorW.PrintMore
attribute [local go_sem] max2_int min2_int max_two min_two max_three min_three max_four min_four
set_option linter.unusedVariables false
set_option linter.unusedSimpArgs false
theorem gcdLt {x y M : Nat} (hx : x < M) (hy : y < M) : Nat.gcd x y < M := by
  by_cases h : x = 0
  · subst h
    rw [Nat.gcd_zero_left]
    exact hy
  · exact Nat.lt_of_le_of_lt (Nat.gcd_le_left y (by omega)) hx
theorem gcdPos {x y : Nat} (hy : 0 < y) : 0 < Nat.gcd x y := Nat.gcd_pos_of_pos_right x hy
theorem gcdOne {x y : Nat} (hy : 0 < y) : Nat.gcd (x / Nat.gcd x y) (y / Nat.gcd x y) = 1 := by
  rw [Nat.gcd_div (Nat.gcd_dvd_left x y) (Nat.gcd_dvd_right x y), Nat.div_self (gcdPos hy)]
theorem divLt {x y M : Nat} (hx : x < M) : x / y < M := Nat.lt_of_le_of_lt (Nat.div_le_self _ _) hx
theorem divPos {x y : Nat} (hy : 0 < y) : 0 < y / Nat.gcd x y := Nat.div_pos (Nat.le_of_dvd hy (Nat.gcd_dvd_right x y)) (gcdPos hy)
theorem ne_len {B n : Nat} (hB : 1 < B) (h : 0 < n) : 0 < (dig B n).length := List.length_pos_iff.2 (dig_ne hB (by omega))
theorem nOne : Ev (fun k => ratio_one.f k) (dig 18446744073709551616 1) := Ev.bind (F := fun k => nat_Of.f k 1) (nOf 1 (by omega)) (Ev.const _)
theorem nLowest {x y m : Nat} (hy : 0 < y) (hx : x < 18446744073709551616 ^ m) (hyl : y < 18446744073709551616 ^ m) (hm : m ≤ 100000) : Ev (fun k => ratio_lowest.f k (dig 18446744073709551616 x) (dig 18446744073709551616 y)) (dig 18446744073709551616 (x / Nat.gcd x y), dig 18446744073709551616 (y / Nat.gcd x y)) := by
  have hg := gcdLt hx hyl
  exact Ev.bind (nGcd x y (Le_lt hx hm) (Le_lt hyl hm)) (Ev.bind (nDivMod x _ (gcdPos hy) (Le_lt hx hm) (Le_lt hg hm)) (Ev.bind (nDivMod y _ (gcdPos hy) (Le_lt hyl hm) (Le_lt hg hm)) (Ev.const _)))
theorem nRof {x y m : Nat} (hy : 0 < y) (hx : x < 18446744073709551616 ^ m) (hyl : y < 18446744073709551616 ^ m) (hm : m ≤ 100000) : Ev (fun k => ratio_Of.f k (dig 18446744073709551616 x) (dig 18446744073709551616 y)) (dig 18446744073709551616 (x / Nat.gcd x y), dig 18446744073709551616 (y / Nat.gcd x y), 0) := by
  have := ne_len (B := 18446744073709551616) (by decide) hy
  exact Ev.neg (by omega) (Ev.bind (nLowest hy hx hyl hm) (Ev.const _))
theorem nRof0 (l : List Int) : Ev (fun k => ratio_Of.f k l []) (([] : List Int), ([] : List Int), 16) := Ev.pos (by simp) (Ev.const _)
theorem nFloor {x y m : Nat} (hy : 0 < y) (hx : x < 18446744073709551616 ^ m) (hyl : y < 18446744073709551616 ^ m) (hm : m ≤ 100000) : Ev (fun k => ratio_Ratio_Floor.f k (dig 18446744073709551616 x) (dig 18446744073709551616 y)) (dig 18446744073709551616 (x / y)) :=
  Ev.bind (nDivMod x y hy (Le_lt hx hm) (Le_lt hyl hm)) (Ev.const _)
theorem sgn_zero {x y : Nat} : sgn x y = 0 ↔ x = y := by
  unfold sgn
  constructor
  · intro h
    by_cases e : x = y
    · exact e
    · rw [if_neg e] at h
      split at h <;> simp at h
  · intro h
    rw [if_pos h]
theorem nRGood {x y m : Nat} (hx : x < 18446744073709551616 ^ m) (hy : y < 18446744073709551616 ^ m) (hm : m ≤ 100000) (hpos : 0 < y) : Ev (fun k => ratio_Ratio_Good.f k (dig 18446744073709551616 x) (dig 18446744073709551616 y)) (decide (Nat.gcd x y = 1)) := by
  have hl := ne_len (B := 18446744073709551616) (by decide) hpos
  have l1 : (dig 18446744073709551616 x).length ≤ m := dig_length (by decide) m x hx
  have l2 : (dig 18446744073709551616 y).length ≤ m := dig_length (by decide) m y hy
  have g1 := nGood (dig 18446744073709551616 x) (by omega)
  have g2 := nGood (dig 18446744073709551616 y) (by omega)
  rw [goodB_dig] at g1 g2
  refine Ev.plain g1 (Ev.pos rfl (Ev.plain g2 (Ev.pos rfl (Ev.pos (by omega) (Ev.bind (nGcd x y (Le_lt hx hm) (Le_lt hy hm)) (Ev.bind nOne (Ev.plain (nCmp _ 1) ?_)))))))
  have : (sgn (Nat.gcd x y) 1 == 0) = decide (Nat.gcd x y = 1) := by
    by_cases e : Nat.gcd x y = 1
    · rw [decide_eq_true e, beq_iff_eq, sgn_zero]
      exact e
    · rw [decide_eq_false e, beq_eq_false_iff_ne]
      intro h
      exact e (sgn_zero.1 h)
  rw [this]
  exact Ev.const _
theorem nRGoodLow {x y m : Nat} (hy : 0 < y) (hx : x < 18446744073709551616 ^ m) (hyl : y < 18446744073709551616 ^ m) (hm : m ≤ 100000) : Ev (fun k => ratio_Ratio_Good.f k (dig 18446744073709551616 (x / Nat.gcd x y)) (dig 18446744073709551616 (y / Nat.gcd x y))) true := by
  have := nRGood (divLt (y := Nat.gcd x y) hx) (divLt (y := Nat.gcd x y) hyl) hm (divPos hy)
  rw [decide_eq_true (gcdOne hy)] at this
  exact this
theorem mx0 (n : Int) : mx n 0 = ((n.toNat : Nat) : Int) := by
  unfold mx
  omega
theorem nRint (n : Int) (h : n < 9223372036854775808) : Ev (fun k => ratio_Int.f k n) (dig 18446744073709551616 n.toNat, dig 18446744073709551616 1) := by
  have h1 : IntKind.u64.wrap (mx n 0) = ((n.toNat : Nat) : Int) := by rw [mx0, u64s (by omega) (by omega)]
  have h2 : Ev (fun k => nat_Of.f k (IntKind.u64.wrap (mx n 0))) (dig 18446744073709551616 n.toNat) := by
    rw [h1]
    exact nOf _ (by omega)
  exact Ev.bind h2 (Ev.bind nOne (Ev.const _))
theorem rDivW {x y m : Nat} (hy : 0 < y) (hx : x < 18446744073709551616 ^ m) (hyl : y < 18446744073709551616 ^ m) (hm : m ≤ 5000) : Ev (fun k => roundelref02_Div.f k (dig 10000 x) (dig 10000 y)) (dig 10000 (x / y), dig 10000 (x % y)) :=
  rDiv x y hy (Nat.le_trans (Lo5 hx) (by omega)) (Lo_lt hyl (by omega)) (fun n hn => Lo_lt (m := m + 1) (Nat.lt_of_lt_of_le hn (by
    rw [Nat.pow_succ]
    exact Nat.mul_le_mul (Nat.le_of_lt hyl) (by omega))) (by omega))
theorem rGcdW {x y m : Nat} (hx : x < 18446744073709551616 ^ m) (hyl : y < 18446744073709551616 ^ m) (hm : m ≤ 5000) : Ev (fun k => roundelref02_Gcd.f k (dig 10000 x) (dig 10000 y)) (dig 10000 (Nat.gcd x y)) :=
  rGcd_l0 (18446744073709551616 ^ m) (fun n hn => Nat.le_trans (Lo5 (m := m + 1) (Nat.lt_of_lt_of_le hn (by
    rw [Nat.pow_succ]
    exact Nat.mul_le_mul (Nat.le_refl _) (by omega)))) (by omega)) y x (Nat.le_of_lt hx) (Nat.le_of_lt hyl)
theorem rRof {x y m : Nat} (hy : 0 < y) (hx : x < 18446744073709551616 ^ m) (hyl : y < 18446744073709551616 ^ m) (hm : m ≤ 5000) : Ev (fun k => roundelref03_Of.f k (dig 10000 x) (dig 10000 y)) (dig 10000 (x / Nat.gcd x y), dig 10000 (y / Nat.gcd x y)) := by
  have hg := gcdLt hx hyl
  exact Ev.bind (rGcdW hx hyl hm) (Ev.bind (rDivW (gcdPos hy) hx hg hm) (Ev.bind (rDivW (gcdPos hy) hyl hg hm) (Ev.const _)))
theorem rFloor3 {x y m : Nat} (hy : 0 < y) (hx : x < 18446744073709551616 ^ m) (hyl : y < 18446744073709551616 ^ m) (hm : m ≤ 5000) : Ev (fun k => roundelref03_Floor.f k (dig 10000 x) (dig 10000 y)) (dig 10000 (x / y)) :=
  Ev.bind (rDivW hy hx hyl hm) (Ev.const _)
theorem rRint (n : Int) (h : n < 9223372036854775808) : Ev (fun k => roundelref03_Int.f k n) (dig 10000 n.toNat, dig 10000 1) := by
  have h2 : Ev (fun k => roundelref02_Of.f k (mx n 0)) (dig 10000 n.toNat) := by
    rw [mx0]
    exact rOf _ (by omega)
  exact Ev.bind h2 (Ev.bind (rOf 1 (by omega)) (Ev.const _))
theorem nRIs {x y m : Nat} (hx : x < 18446744073709551616 ^ m) (hy : y < 18446744073709551616 ^ m) (hm : m ≤ 10000) : Ev (fun k => roundellaw03_Is.f k (dig 18446744073709551616 x) (dig 18446744073709551616 y) (dig 10000 x) (dig 10000 y)) true :=
  Ev.bind (Is_lt hx hm) (Ev.pos rfl (Ev.bind (Is_lt hy hm) (Ev.const _)))
theorem rawake : Ev (fun k => roundellaw03_awake.f k) true := Ev.mono (K := 12) (fun k => roundellaw03_awake.mono k) (by kernel_rfl)
end Go.Proofs.YtfjkamhcabckeaaDoor.P
end
section
namespace Go.Proofs.YtfjkamhcabckeaaDoor.P
open Go.RowKit Go.Proofs.YtfjkamhcabckeaaDoorW.PrintWords Go.Proofs.YtfjkamhcabckeaaDoorW.PrintLast Go.Proofs.YtfjkamhcabckeaaDoorW.PrintMore
attribute [local go_sem] max2_int min2_int max_two min_two max_three min_three max_four min_four
set_option linter.unusedVariables false
set_option linter.unusedSimpArgs false
theorem good_val {a : List Int} {m : Nat} (da : Dig 18446744073709551616 a) (hg : goodB a = true) (hl : a.length ≤ m) : val 18446744073709551616 a < 18446744073709551616 ^ m ∧ a = dig 18446744073709551616 (val 18446744073709551616 a) :=
  ⟨W_le (val_lt a da) hl, good_dig (by decide) da ((goodB_iff a).1 hg)⟩
theorem app_nil_lt (l : List Int) (h : l.length ≤ 100000) : ([] : List Int).length + l.length < 17592186044416 := by
  simp
  omega
theorem made_good (a b : List Int) (da : Dig 18446744073709551616 a) (db : Dig 18446744073709551616 b) (ha : goodB a = true) (hb : goodB b = true) (h1 : a.length ≤ 4) (h2 : b.length ≤ 4) (h3 : b.length ≠ 0) :
    ∃ x y, x < 18446744073709551616 ^ 4 ∧ y < 18446744073709551616 ^ 4 ∧ 0 < y ∧ a = dig 18446744073709551616 x ∧ b = dig 18446744073709551616 y ∧ Ev (fun k => roundellaw03_made.f k a b) (dig 18446744073709551616 (x / Nat.gcd x y), dig 18446744073709551616 (y / Nat.gcd x y), dig 10000 (x / Nat.gcd x y), dig 10000 (y / Nat.gcd x y), true) := by
  have g1 := rGood a (by omega)
  have g2 := rGood b (by omega)
  rw [ha] at g1
  rw [hb] at g2
  obtain ⟨hx, ea⟩ := good_val (m := 4) da ha h1
  obtain ⟨hy, eb⟩ := good_val (m := 4) db hb h2
  generalize val 18446744073709551616 a = x at hx ea
  generalize val 18446744073709551616 b = y at hy eb
  have l1 := app_nil_lt a (by omega)
  have l2 := app_nil_lt b (by omega)
  have hpos : 0 < y := by
    rcases Nat.eq_zero_or_pos y with h0 | h0
    · subst h0
      rw [eb, dig_zero] at h3
      exact absurd rfl h3
    · exact h0
  refine ⟨x, y, hx, hy, hpos, ea, eb, Ev.neg (by omega) (Ev.neg (by omega) (Ev.neg (by omega) (Ev.plain g1 (Ev.pos rfl (Ev.plain g2 ?_)))))⟩
  refine Ev.step (fun _ => roundellaw03_made.j0.eq_2 ..) (Ev.neg (by simp) (Ev.plain rfl (Ev.pos l1 (Ev.plain rfl (Ev.pos l2 ?_)))))
  rw [List.nil_append, List.nil_append, ea, eb]
  exact Ev.bind (nRof hpos hx hy (by omega)) (Ev.bind (limbs_dig hx (by omega)) (Ev.bind (limbs_dig hy (by omega)) (Ev.bind (rRof hpos hx hy (by omega)) (Ev.const _))))
theorem lit_i64 {x : Int} (h : (Lit.int .i64 x).wf = true) : -9223372036854775808 ≤ x ∧ x < 9223372036854775808 := by
  have h1 : IntKind.i64.min ≤ x ∧ x ≤ IntKind.i64.max := by simpa [Lit.wf] using h
  have h2 : IntKind.i64.min = -9223372036854775808 := by decide
  have h3 : IntKind.i64.max = 9223372036854775807 := by decide
  omega
end Go.Proofs.YtfjkamhcabckeaaDoor.P
end
section
namespace Go.Proofs.YtfjkamhcabckeaaDoor.P
open Go.RowKit Go.Proofs.YtfjkamhcabckeaaDoorW.PrintWords Go.Proofs.YtfjkamhcabckeaaDoorW.PrintLast Go.Proofs.YtfjkamhcabckeaaDoorW.PrintMore
attribute [local go_sem] max2_int min2_int max_two min_two max_three min_three max_four min_four
set_option linter.unusedVariables false
set_option linter.unusedSimpArgs false
theorem lRatioOf (a b : List Int) (n : Int) (da : Dig 18446744073709551616 a) (db : Dig 18446744073709551616 b) (hn : n < 9223372036854775808) : ∃ k, roundellaw03_RatioOf.f k a b n = some true := by
  refine Ev.get ?_
  have off : Ev (fun k => roundellaw03_RatioOf.j0 k n true a b) true := Ev.step (fun _ => roundellaw03_RatioOf.j0.eq_2 ..) (Ev.pos rfl (Ev.bind rawake (Ev.const _)))
  refine Ev.bind (F := fun k => roundellaw03_awake.f k) rawake (Ev.pos rfl ?_)
  by_cases h1 : (a.length : Int) > 4
  · exact Ev.pos h1 off
  · refine Ev.neg h1 ?_
    by_cases h2 : (b.length : Int) > 4
    · exact Ev.pos h2 off
    · refine Ev.neg h2 ?_
      have g1 := rGood a (by omega)
      have g2 := rGood b (by omega)
      refine Ev.plain g1 ?_
      cases ha : goodB a with
      | false => exact Ev.neg (by simp) off
      | true =>
        refine Ev.pos rfl (Ev.plain g2 ?_)
        cases hb : goodB b with
        | false => exact off
        | true =>
          have hN : n.toNat < 18446744073709551616 ^ 1 := by
            rw [Nat.pow_one]
            omega
          have gi := nRGood (x := n.toNat) (y := 1) (m := 1) hN (by rw [Nat.pow_one]; omega) (by omega) (by omega)
          rw [decide_eq_true (Nat.gcd_one_right _)] at gi
          have l1 := app_nil_lt a (by omega)
          refine Ev.step (fun _ => roundellaw03_RatioOf.j0.eq_2 ..) (Ev.neg (by simp) (Ev.bind (nRint n hn) (Ev.bind (rRint n hn) (Ev.bind (nRIs hN (by rw [Nat.pow_one]; omega) (by omega)) (Ev.pos rfl (Ev.bind (nRint n hn) (Ev.bind gi ?_)))))))
          refine Ev.step (fun _ => roundellaw03_RatioOf.j1.eq_2 ..) (Ev.neg (by simp) ?_)
          by_cases h0 : (b.length : Int) = 0
          · refine Ev.pos h0 (Ev.plain rfl (Ev.pos l1 (Ev.bind (nRof0 _) (Ev.pos rfl (Ev.pos rfl (Ev.const _))))))
          · obtain ⟨x, y, hx, hy, hpos, ea, eb, hm⟩ := made_good a b da db ha hb (by omega) (by omega) (by omega)
            have q1 := divLt (y := Nat.gcd x y) hx
            have q2 := divLt (y := Nat.gcd x y) hy
            have q3 := divPos (x := x) hpos
            refine Ev.neg h0 (Ev.bind hm (Ev.pos rfl (Ev.bind (nRIs q1 q2 (by omega)) (Ev.pos rfl (Ev.bind (nRGoodLow hpos hx hy (by omega)) (Ev.pos rfl (Ev.bind (nFloor q3 q1 q2 (by omega)) (Ev.bind (rFloor3 q3 q1 q2 (by omega)) (Ev.bind (Is_lt (divLt q1) (by omega)) (Ev.const _))))))))))
theorem cRatioOf (a2 : Int) (h2 : (Lit.int .i64 a2).wf = true) (a0 a1 : Option Addr) (len0 cap0 len1 cap1 : Nat) (z0 z1 : List Int) (w : World) (w0 : (a0 = none ∧ len0 = 0 ∧ cap0 = 0 ∧ z0 = []) ∨ ∃ x, a0 = some x ∧ len0 ≤ cap0 ∧ cap0 ≤ maxLen ∧ z0.length = cap0 ∧ (∀ i, i < z0.length → w.cell? (x.add i) = some (.int .u64 (z0.getD i 0))) ∧ ∀ n ∈ z0, (Lit.int .u64 n).wf = true)
    (w1 : (a1 = none ∧ len1 = 0 ∧ cap1 = 0 ∧ z1 = []) ∨ ∃ x, a1 = some x ∧ len1 ≤ cap1 ∧ cap1 ≤ maxLen ∧ z1.length = cap1 ∧ (∀ i, i < z1.length → w.cell? (x.add i) = some (.int .u64 (z1.getD i 0))) ∧ ∀ n ∈ z1, (Lit.int .u64 n).wf = true) (hG : Glob w) :
    Calls Tryd.prog 4 #[.agg #[.slice a0 len0 cap0, .slice a1 len1 cap1], .int .i64 a2] w fun e w' => e = .returned (.bool true) ∧ Below w.heap.size w w' := by
  obtain ⟨l0, rfl, hr0, hm0, hw0, hc0⟩ := ReadsInt.ofRowC w0
  obtain ⟨l1, rfl, hr1, hm1, hw1, hc1⟩ := ReadsInt.ofRowC w1
  obtain ⟨k, h⟩ := lRatioOf l0 l1 a2 (dig_lit hw0) (dig_lit hw1) (lit_i64 h2).2
  exact (roundellaw03_RatioOf.calls k _ _ l0 _ _ l1 a2 true w (Kd.C_of_reads (d := (0 : Int)) (h1 := fun _ => rfl) hr0) hc0 (Kd.C_of_reads (d := (0 : Int)) (h1 := fun _ => rfl) hr1) hc1 hG h).mono fun e w' ⟨he, hd⟩ => ⟨he, hd⟩
end Go.Proofs.YtfjkamhcabckeaaDoor.P
end
