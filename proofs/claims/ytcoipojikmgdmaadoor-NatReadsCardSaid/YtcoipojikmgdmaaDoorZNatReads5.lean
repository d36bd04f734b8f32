-- Written by a program of this session (wip/tools/shake.py) out of its own texts and of the kit's printed ones; not trusted: Lean checks it.
import Derived.Test.YtcoipojikmgdmaaDoorZNatReads4
section
namespace Go.Proofs.YtcoipojikmgdmaaDoor.P
open Go.RowKit Go.Proofs.YtcoipojikmgdmaaDoorW.PrintWords Go.Proofs.YtcoipojikmgdmaaDoorW.PrintLast Go.Proofs.YtcoipojikmgdmaaDoorW.PrintMore
attribute [local go_sem] max2_int min2_int max_two min_two max_three min_three max_four min_four
set_option linter.unusedVariables false
set_option linter.unusedSimpArgs false
theorem rtrim_l0 (l : List Int) (hl : l.length < 1000000000) : ∀ n : Nat, n ≤ l.length → Ev (fun k => roundelref02_trim.l0 k l (n : Int)) (strip (l.take n))
  | 0, h => by
    refine Ev.step (G := fun _ => some []) (fun k => ?_) (Ev.const _)
    rw [roundelref02_trim.l0, if_neg (by omega), if_pos (by omega), if_pos (by omega)]
    rfl
  | n + 1, h => by
    have e : wrap64 (((n + 1 : Nat) : Int) - 1) = n := by rw [w64s (by omega) (by omega)]; omega
    by_cases hz : l.getD n 0 = 0
    · refine Ev.step (G := fun k => roundelref02_trim.l0 k l (n : Int)) (fun k => ?_) ?_
      · rw [roundelref02_trim.l0, if_pos (by omega), e, if_pos (by omega), if_pos (by omega), rd_nat, if_pos hz]
      · rw [take_snoc l n (by omega), hz, strip_snoc0]
        exact rtrim_l0 l hl n (by omega)
    · refine Ev.step (G := fun _ => some (l.take (n + 1))) (fun k => ?_) ?_
      · rw [roundelref02_trim.l0, if_pos (by omega), e, if_pos (by omega), if_pos (by omega), rd_nat, if_neg hz, if_pos (by omega), if_pos (by omega)]
        rfl
      · have hs : strip (l.take (n + 1)) = l.take (n + 1) := by rw [take_snoc l n (by omega), strip_snoc _ _ hz]
        rw [hs]
        exact Ev.const _
theorem rtrim (l : List Int) (hl : l.length < 1000000000) : Ev (fun k => roundelref02_trim.f k l) (strip l) := by
  have := rtrim_l0 l hl l.length (Nat.le_refl _)
  rw [List.take_length] at this
  exact this
theorem rtrim_dig (l : List Int) (hl : l.length < 1000000000) (h : Dig 10000 l) : Ev (fun k => roundelref02_trim.f k l) (dig 10000 (val 10000 l)) := by
  rw [← strip_dig (by omega) l h]
  exact rtrim l hl
theorem rOf_l0 : ∀ (m n : Nat) (out : List Int), n < 10000 ^ m → n < 9223372036854775808 → out.length + m < 1000000000 → Ev (fun k => roundelref02_Of.l0 k (n : Int) out) (out ++ dig 10000 n)
  | 0, n, out, h, h2, hl => by
    have : n = 0 := by simpa using h
    subst this
    refine Ev.step (G := fun _ => some out) (fun k => ?_) ?_
    · rw [roundelref02_Of.l0, if_neg (by omega)]
    · rw [dig_zero, List.append_nil]
      exact Ev.const _
  | m + 1, n, out, h, h2, hl => by
    by_cases hn : n = 0
    · subst hn
      refine Ev.step (G := fun _ => some out) (fun k => ?_) ?_
      · rw [roundelref02_Of.l0, if_neg (by omega)]
      · rw [dig_zero, List.append_nil]
        exact Ev.const _
    · have e1 : wrap64 (Int.tdiv (n : Int) 10000) = ((n / 10000 : Nat) : Int) := by
        rw [Int.tdiv_eq_ediv_of_nonneg (by omega), w64s (by omega) (by omega)]
        omega
      have e2 : Int.tmod (n : Int) 10000 = ((n % 10000 : Nat) : Int) := by
        rw [Int.tmod_eq_emod_of_nonneg (by omega)]
        omega
      refine Ev.step (G := fun k => roundelref02_Of.l0 k ((n / 10000 : Nat) : Int) (out ++ [((n % 10000 : Nat) : Int)])) (fun k => ?_) ?_
      · rw [roundelref02_Of.l0, if_pos (by omega), if_pos (by omega), e1, e2]
      · have ih := rOf_l0 m (n / 10000) (out ++ [((n % 10000 : Nat) : Int)]) (by rw [Nat.pow_succ] at h; omega) (by omega) (by rw [List.length_append, List.length_singleton]; omega)
        rw [dig_pos (by omega) hn]
        rw [List.append_assoc] at ih
        exact ih
theorem rOf (n : Nat) (h : n < 9223372036854775808) : Ev (fun k => roundelref02_Of.f k (n : Int)) (dig 10000 n) := by
  have := rOf_l0 5 n [] (by omega) h (by simp)
  exact this
theorem rat (l : List Int) (i : Nat) : roundelref02_at.f l (i : Int) = some (l.getD i 0) := by
  unfold roundelref02_at.f
  by_cases h : i < l.length
  · rw [if_pos (by omega), if_pos (by omega), rd_nat]
  · rw [if_neg (by omega), List.getD_eq_getElem?_getD, List.getElem?_eq_none (by omega)]
    rfl
theorem rCmp_l0 (a b : List Int) (ha : Dig 10000 a) (hb : Dig 10000 b) (hl : a.length = b.length) (hs : a.length < 1000000000) : ∀ i : Nat, i ≤ a.length → V 10000 a i = V 10000 b i → Ev (fun k => roundelref02_Cmp.l0 k a b ((i : Int) - 1)) (sgn (val 10000 a) (val 10000 b))
  | 0, hi, hv => by
    refine Ev.step (G := fun _ => some 0) (fun k => ?_) ?_
    · rw [roundelref02_Cmp.l0, if_neg (by omega)]
    · rw [V_zero, V_zero] at hv
      rw [sgn, if_pos hv]
      exact Ev.const _
  | i + 1, hi, hv => by
    have e0 : ((i + 1 : Nat) : Int) - 1 = (i : Int) := by omega
    have ha1 := ha.get (show 0 < 10000 by omega) i
    have hb1 := hb.get (show 0 < 10000 by omega) i
    have hva := V_step 10000 a i
    have hvb := V_step 10000 b i
    rw [e0]
    rcases Int.lt_trichotomy (a.getD i 0) (b.getD i 0) with h | h | h
    · have hlt : val 10000 a < val 10000 b := V_lt (by omega) ha hb i (by omega)
      refine Ev.step (G := fun _ => some (-1)) (fun k => ?_) ?_
      · rw [roundelref02_Cmp.l0, if_pos (by omega), if_pos (by omega), if_pos (by omega), if_pos (by omega), rd_nat, rd_nat, if_pos h]
      · rw [sgn, if_neg (by omega), if_pos hlt]
        exact Ev.const _
    · refine Ev.step (G := fun k => roundelref02_Cmp.l0 k a b ((i : Int) - 1)) (fun k => ?_) (rCmp_l0 a b ha hb hl hs i (by omega) (by omega))
      rw [roundelref02_Cmp.l0, if_pos (by omega), if_pos (by omega), if_pos (by omega), if_pos (by omega), rd_nat, rd_nat, if_neg (by omega), if_neg (by omega), w64s (by omega) (by omega)]
    · have hlt : val 10000 b < val 10000 a := V_lt (by omega) hb ha i (by omega)
      refine Ev.step (G := fun _ => some 1) (fun k => ?_) ?_
      · rw [roundelref02_Cmp.l0, if_pos (by omega), if_pos (by omega), if_pos (by omega), if_pos (by omega), rd_nat, rd_nat, if_neg (by omega), if_pos h]
      · rw [sgn, if_neg (by omega), if_neg (by omega)]
        exact Ev.const _
theorem rCmp' (a b : List Int) (ha : Dig 10000 a) (hb : Dig 10000 b) (ga : Good a) (gb : Good b) (hs : a.length < 1000000000) (hs' : b.length < 1000000000) : Ev (fun k => roundelref02_Cmp.f k a b) (sgn (val 10000 a) (val 10000 b)) := by
  by_cases hl : a.length = b.length
  · refine Ev.congr (fun k => ?_) (rCmp_l0 a b ha hb hl hs a.length (Nat.le_refl _) (by rw [V_end _ (Nat.le_refl _), V_end _ (by omega)]))
    rw [roundelref02_Cmp.f, if_pos (by omega), w64s (by omega) (by omega)]
  · by_cases h2 : a.length < b.length
    · have hlt := len_lt (by omega) ha hb gb h2
      refine Ev.congr (G := fun _ => some (-1)) (fun k => ?_) ?_
      · rw [roundelref02_Cmp.f, if_neg (by omega), if_pos (by omega)]
      · rw [sgn, if_neg (by omega), if_pos hlt]
        exact Ev.const _
    · have hlt := len_lt (by omega) hb ha ga (by omega)
      refine Ev.congr (G := fun _ => some 1) (fun k => ?_) ?_
      · rw [roundelref02_Cmp.f, if_neg (by omega), if_neg (by omega)]
      · rw [sgn, if_neg (by omega), if_neg (by omega)]
        exact Ev.const _
def Lo (n : Nat) : Prop := (dig 10000 n).length ≤ 100000
theorem rCmp (x y : Nat) (hx : Lo x) (hy : Lo y) : Ev (fun k => roundelref02_Cmp.f k (dig 10000 x) (dig 10000 y)) (sgn x y) := by
  have := rCmp' (dig 10000 x) (dig 10000 y) (Dig_dig (by omega) x) (Dig_dig (by omega) y) (dig_last (by omega) x) (dig_last (by omega) y) (by unfold Lo at hx; omega) (by unfold Lo at hy; omega)
  rwa [val_dig (by omega), val_dig (by omega)] at this
theorem add_digit (x y c va vb : Nat) (hne : x + 10000 * va + (y + 10000 * vb) + c ≠ 0) : dig 10000 (x + 10000 * va + (y + 10000 * vb) + c) = (((x + y + c) % 10000 : Nat) : Int) :: dig 10000 (va + vb + (x + y + c) / 10000) := by
  have e : x + 10000 * va + (y + 10000 * vb) + c = (x + y + c) + 10000 * (va + vb) := by omega
  rw [dig_pos (by omega) hne, e, Nat.add_mul_mod_self_left, Nat.add_mul_div_left _ _ (by omega), Nat.add_comm ((x + y + c) / 10000)]
theorem add_wraps (x y c : Nat) (hx : x < 10000) (hy : y < 10000) (hc : c ≤ 1) : wrap64 (wrap64 ((x : Int) + y) + c) = ((x + y + c : Nat) : Int) ∧ Int.tmod ((x + y + c : Nat) : Int) 10000 = (((x + y + c) % 10000 : Nat) : Int) ∧ wrap64 (Int.tdiv ((x + y + c : Nat) : Int) 10000) = (((x + y + c) / 10000 : Nat) : Int) ∧ (x + y + c) / 10000 ≤ 1 := by
  refine ⟨?_, ?_, ?_, by omega⟩
  · rw [w64s (x := (x : Int) + y) (by omega) (by omega), w64s (by omega) (by omega)]
    omega
  · rw [Int.tmod_eq_emod_of_nonneg (by omega)]
    omega
  · rw [Int.tdiv_eq_ediv_of_nonneg (by omega), w64s (by omega) (by omega)]
    omega
theorem rAdd_end (a b : List Int) (i c : Nat) (out : List Int) (h1 : ¬ i < a.length) (h2 : ¬ i < b.length) (h3 : ¬ 0 < c) :
    Ev (fun k => roundelref02_Add.l0 k a b out (c : Int) (i : Int)) (out ++ dig 10000 (V 10000 a i + V 10000 b i + c)) := by
  refine Ev.step (G := fun k => roundelref02_Add.j1 k a b out (c : Int) (i : Int) false) (fun k => ?_) ?_
  · rw [roundelref02_Add.l0, if_neg (by omega), if_neg (by omega), decide_eq_false (by omega)]
  · refine Ev.step (G := fun _ => some out) (fun k => ?_) ?_
    · rw [roundelref02_Add.j1, if_neg (by simp)]
    · rw [V_end _ (by omega), V_end _ (by omega), show c = 0 by omega, dig_zero, List.append_nil]
      exact Ev.const _
theorem rAdd_l0 (a b : List Int) (ha : Dig 10000 a) (hb : Dig 10000 b) (ga : Good a) (gb : Good b) (hs : a.length < 1000000) (hs' : b.length < 1000000) : ∀ (m i c : Nat) (out : List Int), a.length + 1 ≤ i + m → b.length + 1 ≤ i + m → (i ≤ a.length ∨ i ≤ b.length ∨ c = 0) → c ≤ 1 → i ≤ 1000001 → out.length = i →
    Ev (fun k => roundelref02_Add.l0 k a b out (c : Int) (i : Int)) (out ++ dig 10000 (V 10000 a i + V 10000 b i + c)) := by
  intro m
  induction m with
  | zero =>
    intro i c out hm hm2 hm3 hc hi ho
    exact rAdd_end a b i c out (by omega) (by omega) (by omega)
  | succ m ih =>
    intro i c out hm hm2 hm3 hc hi ho
    by_cases hgo : i < a.length ∨ i < b.length ∨ 0 < c
    · have hi2 : i ≤ 1000000 := by
        clear ih
        rcases hgo with h | h | h <;> rcases hm3 with g | g | g <;> omega
      have ha1 := ha.get (show 0 < 10000 by omega) i
      have hb1 := hb.get (show 0 < 10000 by omega) i
      have hva := V_step 10000 a i
      have hvb := V_step 10000 b i
      obtain ⟨x, hx⟩ := Int.eq_ofNat_of_zero_le ha1.1
      obtain ⟨y, hy⟩ := Int.eq_ofNat_of_zero_le hb1.1
      rw [hx] at hva ha1
      rw [hy] at hvb hb1
      rw [Int.toNat_natCast] at hva hvb
      have hxe : a.length ≤ i → x = 0 := fun h => by
        rw [List.getD_eq_getElem?_getD, List.getElem?_eq_none h] at hx
        exact (Int.ofNat_inj.1 hx).symm
      have hye : b.length ≤ i → y = 0 := fun h => by
        rw [List.getD_eq_getElem?_getD, List.getElem?_eq_none h] at hy
        exact (Int.ofNat_inj.1 hy).symm
      obtain ⟨e1, e2, e3, e5⟩ := add_wraps x y c (by omega) (by omega) hc
      have e4 : wrap64 ((i : Int) + 1) = ((i + 1 : Nat) : Int) := by rw [w64s (by omega) (by omega)]; omega
      have hpos : V 10000 a i + V 10000 b i + c ≠ 0 := pos3 (hgo.imp (V_pos (by decide) ha ga i) (Or.imp (V_pos (by decide) hb gb i) id))
      have ed := add_digit x y c (V 10000 a (i + 1)) (V 10000 b (i + 1)) (by rw [← hva, ← hvb]; exact hpos)
      rw [← hva, ← hvb] at ed
      clear hva hvb hpos
      have E := Lib.hid ed
      have E1 := Lib.hid e1
      have E2 := Lib.hid e2
      have E3 := Lib.hid e3
      have E4 := Lib.hid e4
      clear ed e1 e2 e3 e4
      have h3 : i + 1 ≤ a.length ∨ i + 1 ≤ b.length ∨ (x + y + c) / 10000 = 0 := by
        by_cases h1 : i + 1 ≤ a.length
        · exact .inl h1
        · by_cases h2 : i + 1 ≤ b.length
          · exact .inr (.inl h2)
          · right; right
            rw [hxe (Nat.le_of_lt_succ (Nat.lt_of_not_le h1)), hye (Nat.le_of_lt_succ (Nat.lt_of_not_le h2))]
            clear hxe hye hgo hm3
            omega
      clear hxe hye hm3
      have hgo := Lib.hid hgo
      refine Ev.step (G := fun k => roundelref02_Add.j1 k a b out (c : Int) (i : Int) true) (fun k => ?_) ?_
      · rw [roundelref02_Add.l0]
        by_cases h1 : i < a.length
        · rw [if_pos (by omega)]
        · rw [if_neg (by omega)]
          by_cases h2 : i < b.length
          · rw [if_pos (by omega)]
          · rw [if_neg (by omega), decide_eq_true (by rcases hgo.out with h | h | h <;> omega)]
      · refine Ev.step (G := fun k => roundelref02_Add.l0 k a b (out ++ [(((x + y + c) % 10000 : Nat) : Int)]) (((x + y + c) / 10000 : Nat) : Int) ((i + 1 : Nat) : Int)) (fun k => ?_) ?_
        · rw [roundelref02_Add.j1, if_pos rfl, rat, rat, hx, hy]
          simp only [Option.bind_some]
          rw [if_pos (by omega), E1.out, E2.out, E3.out, E4.out]
        · have ih2 := ih (i + 1) ((x + y + c) / 10000) (out ++ [(((x + y + c) % 10000 : Nat) : Int)]) (by omega) (by omega) h3 e5 (by omega) (by rw [List.length_append, ho]; rfl)
          rw [List.append_assoc] at ih2
          rw [E.out]
          exact ih2
    · exact rAdd_end a b i c out (by omega) (by omega) (by omega)
theorem rAdd (x y : Nat) (hx : Lo x) (hy : Lo y) : Ev (fun k => roundelref02_Add.f k (dig 10000 x) (dig 10000 y)) (dig 10000 (x + y)) := by
  unfold Lo at hx hy
  have := rAdd_l0 (dig 10000 x) (dig 10000 y) (Dig_dig (by omega) x) (Dig_dig (by omega) y) (dig_last (by omega) x) (dig_last (by omega) y) (by omega) (by omega) 1000000 0 0 [] (by omega) (by omega) (by omega) (by omega) (by omega) rfl
  rw [V_zero, V_zero, val_dig (by omega), val_dig (by omega)] at this
  exact this
theorem mul_digit (o x y c : Nat) (ho : o < 10000) (hx : x < 10000) (hy : y < 10000) (hc : c < 10000) : x * y ≤ 99980001 ∧ wrap64 (wrap64 ((o : Int) + wrap64 ((x : Int) * (y : Int))) + (c : Int)) = ((o + x * y + c : Nat) : Int) ∧ Int.tmod ((o + x * y + c : Nat) : Int) 10000 = (((o + x * y + c) % 10000 : Nat) : Int) ∧ wrap64 (Int.tdiv ((o + x * y + c : Nat) : Int) 10000) = (((o + x * y + c) / 10000 : Nat) : Int) ∧ (o + x * y + c) / 10000 < 10000 := by
  have h : x * y ≤ 9999 * 9999 := Nat.mul_le_mul (by omega) (by omega)
  have e : (x : Int) * (y : Int) = ((x * y : Nat) : Int) := by simp
  rw [e]
  refine ⟨by omega, ?_, ?_, ?_, by omega⟩
  · rw [w64s (x := ((x * y : Nat) : Int)) (by omega) (by omega), w64s (x := (o : Int) + ((x * y : Nat) : Int)) (by omega) (by omega), w64s (by omega) (by omega)]
    omega
  · rw [Int.tmod_eq_emod_of_nonneg (by omega)]
    omega
  · rw [Int.tdiv_eq_ediv_of_nonneg (by omega), w64s (by omega) (by omega)]
    omega
set_option maxHeartbeats 1000000 in
theorem rMul_l1 (a b : List Int) (ha : Dig 10000 a) (hb : Dig 10000 b) (hs : a.length < 1000000) (hs' : b.length < 1000000) (i : Nat) (hi : i < a.length) : ∀ (m j c : Nat) (out : List Int), j + m = b.length → c < 10000 → Dig 10000 out → out.length = a.length + b.length →
    ∃ (out' : List Int) (c' : Nat), Dig 10000 out' ∧ out'.length = a.length + b.length ∧ c' < 10000 ∧ (∀ p, i + b.length ≤ p → out'.getD p 0 = out.getD p 0) ∧
      val 10000 out' + 10000 ^ (i + b.length) * c' = val 10000 out + 10000 ^ (i + j) * c + 10000 ^ (i + j) * ((a.getD i 0).toNat * V 10000 b j) ∧
      ∀ r, Ev (fun k => roundelref02_Mul.l1 k a b out' (i : Int) (c' : Int) (a.length : Int) (i : Int) (b.length : Int) (b.length : Int)) r → Ev (fun k => roundelref02_Mul.l1 k a b out (i : Int) (c : Int) (a.length : Int) (i : Int) (b.length : Int) (j : Int)) r := by
  intro m
  induction m with
  | zero =>
    intro j c out hj hc hd hl
    obtain rfl : j = b.length := by omega
    refine ⟨out, c, hd, hl, hc, fun _ _ => rfl, ?_, fun r h => h⟩
    rw [V_end _ (Nat.le_refl _)]
    simp
  | succ m ih =>
    intro j c out hj hc hd hl
    have hx := ha.get (show 0 < 10000 by decide) i
    have hy := hb.get (show 0 < 10000 by decide) j
    have ho := hd.get (show 0 < 10000 by decide) (i + j)
    have hv := V_step 10000 b j
    obtain ⟨x, hx'⟩ := Int.eq_ofNat_of_zero_le hx.1
    obtain ⟨y, hy'⟩ := Int.eq_ofNat_of_zero_le hy.1
    obtain ⟨o, ho'⟩ := Int.eq_ofNat_of_zero_le ho.1
    rw [hx'] at hx ⊢
    rw [hy'] at hy hv
    rw [ho'] at ho
    rw [Int.toNat_natCast] at hv ⊢
    obtain ⟨b1, e1, e2, e3, e5⟩ := mul_digit o x y c (by omega) (by omega) (by omega) hc
    have E1 := Lib.hid e1
    have E2 := Lib.hid e2
    have E3 := Lib.hid e3
    clear e1 e2 e3
    have hset := val_set 10000 out (i + j) (((o + x * y + c) % 10000 : Nat) : Int) (by omega)
    rw [ho', Int.toNat_natCast, Int.toNat_natCast] at hset
    obtain ⟨out', c', h1, h2, h3, h4, h5, h6⟩ := ih (j + 1) ((o + x * y + c) / 10000) (out.set (i + j) (((o + x * y + c) % 10000 : Nat) : Int)) (by omega) e5 (dig_set hd _ (by omega) (by omega)) (by rw [List.length_set]; exact hl)
    have EJ := Lib.hid (wadd i j (by omega))
    have EK := Lib.hid (wadd1 j (by omega))
    refine ⟨out', c', h1, h2, h3, fun p hp => ?_, ?_, fun r hr => ?_⟩
    · rw [h4 p hp, getD_set_ne (by omega)]
    · rw [h5, hx', Int.toNat_natCast, show i + (j + 1) = i + j + 1 by omega, Nat.pow_succ]
      exact mul_val _ _ o x y c _ _ _ _ _ _ hset hv (by omega)
    · refine Ev.step (fun k => ?_) (h6 r hr)
      rw [roundelref02_Mul.l1, if_pos (by omega), EJ.out, if_pos (by omega), if_pos (by omega), if_pos (by omega), if_pos (by omega), if_pos (by omega), if_pos (by omega), rd_nat, rd_nat, rd_nat, hx', hy', ho', E1.out, E2.out, E3.out, EK.out, Int.toNat_natCast]
set_option maxHeartbeats 1000000 in
theorem rMul_l0 (a b : List Int) (ha : Dig 10000 a) (hb : Dig 10000 b) (hs : a.length < 1000000) (hs' : b.length < 1000000) : ∀ (m i : Nat) (out : List Int), i + m = a.length → Dig 10000 out → out.length = a.length + b.length → (∀ p, i + b.length ≤ p → out.getD p 0 = 0) →
    Ev (fun k => roundelref02_Mul.l0 k a b out (a.length : Int) (i : Int)) (dig 10000 (val 10000 out + 10000 ^ i * (V 10000 a i * val 10000 b))) := by
  intro m
  induction m with
  | zero =>
    intro i out hi hd hl hz
    refine Ev.step (G := fun k => (roundelref02_trim.f k out).bind fun t190 => some t190) (fun k => ?_) ?_
    · rw [roundelref02_Mul.l0, if_neg (by omega)]
    · rw [V_end _ (by omega), Nat.zero_mul, Nat.mul_zero, Nat.add_zero]
      exact Ev.bind (rtrim_dig out (by omega) hd) (Ev.const _)
  | succ m ih =>
    intro i out hi hd hl hz
    obtain ⟨out', c', h1, h2, h3, h4, h5, h6⟩ := rMul_l1 a b ha hb hs hs' i (by omega) b.length 0 0 out (by omega) (by omega) hd hl
    have hz' := (h4 (i + b.length) (Nat.le_refl _)).trans (hz _ (Nat.le_refl _))
    have hset := val_set 10000 out' (i + b.length) (c' : Int) (by omega)
    rw [hz', Int.toNat_natCast] at hset
    have EI := Lib.hid (wadd i b.length (by omega))
    have EI1 := Lib.hid (wadd1 i (by omega))
    have EC := Lib.hid (show wrap64 (0 + (c' : Int)) = (c' : Int) by rw [Int.zero_add]; exact wid c' (by omega))
    have ih2 := ih (i + 1) (out'.set (i + b.length) (c' : Int)) (by omega) (dig_set h1 _ (by omega) (by omega)) (by rw [List.length_set]; exact h2) (fun p hp => by
      rw [getD_set_ne (by omega), h4 p (by omega), hz p (by omega)])
    have hva := V_step 10000 a i
    have hval : val 10000 out + 10000 ^ i * (V 10000 a i * val 10000 b) = val 10000 (out'.set (i + b.length) (c' : Int)) + 10000 ^ (i + 1) * (V 10000 a (i + 1) * val 10000 b) := by
      rw [hva, Nat.add_mul, Nat.mul_add, Nat.pow_succ, Nat.mul_assoc 10000, ← Nat.mul_assoc (10000 ^ i) 10000]
      rw [V_zero, Nat.add_zero, Nat.mul_zero, Nat.add_zero] at h5
      simp only [Int.toNat_zero, Nat.mul_zero, Nat.add_zero] at hset
      omega
    rw [hval]
    refine Ev.step (G := fun k => roundelref02_Mul.l1 k a b out (i : Int) 0 (a.length : Int) (i : Int) (b.length : Int) 0) (fun k => ?_) (h6 _ ?_)
    · rw [roundelref02_Mul.l0, if_pos (by omega)]
    · refine Ev.step (fun k => ?_) ih2
      rw [roundelref02_Mul.l1, if_neg (by omega), EI.out, if_pos (by omega), if_pos (by omega), rd_nat, hz', EC.out, EI1.out, Int.toNat_natCast]
theorem rMul (x y : Nat) (hx : Lo x) (hy : Lo y) : Ev (fun k => roundelref02_Mul.f k (dig 10000 x) (dig 10000 y)) (dig 10000 (x * y)) := by
  unfold Lo at hx hy
  have dx := Dig_dig (B := 10000) (by omega) x
  have dy := Dig_dig (B := 10000) (by omega) y
  have vx := val_dig (B := 10000) (by omega) x
  have vy := val_dig (B := 10000) (by omega) y
  generalize dig 10000 x = a at *
  generalize dig 10000 y = b at *
  have h := rMul_l0 a b dx dy (by omega) (by omega) a.length 0 (List.replicate (a.length + b.length) 0) (by omega) (Dig.rep (by omega) _) (by simp) (fun p _ => by
    rw [List.getD_eq_getElem?_getD, List.getElem?_replicate]
    split <;> rfl)
  rw [V_zero, val_replicate, vx, vy, Nat.pow_zero, Nat.one_mul, Nat.zero_add] at h
  refine Ev.congr (fun k => ?_) h
  rw [roundelref02_Mul.f, wadd a.length b.length (by omega)]
  rw [if_pos (by omega), Int.toNat_natCast, if_pos (by omega)]
  rfl
theorem Lo_lt {n m : Nat} (h : n < 18446744073709551616 ^ m) (hm : m ≤ 20000) : Lo n := by
  have h2 : 18446744073709551616 ^ m ≤ (10000 ^ 5) ^ m := Nat.pow_le_pow_left (by decide) m
  rw [← Nat.pow_mul] at h2
  have := dig_length (B := 10000) (by decide) (5 * m) n (Nat.lt_of_lt_of_le h h2)
  unfold Lo
  omega
theorem limb_wraps (p : Nat) (hp : p < 18446744073709551616) : IntKind.u64.wrap (Int.tdiv (p : Int) 65536) = ((p / 65536 : Nat) : Int) ∧ wrap64 (Int.tmod (p : Int) 65536) = ((p % 65536 : Nat) : Int) := by
  constructor
  · rw [Int.tdiv_eq_ediv_of_nonneg (by omega), u64s (by omega) (by omega)]
    omega
  · rw [Int.tmod_eq_emod_of_nonneg (by omega), w64s (by omega) (by omega)]
    omega
theorem rLimbs_l2 (l : List Int) (i : Int) (kk : Nat) (hk : kk ≤ 3) (n : Nat) (r : List Int) (h0 : Lo n) : ∀ (m p j : Nat), j + m = kk → p < 18446744073709551616 → Lo (n * 65536) → Ev (fun k => roundelref02_Limbs.l1 k l (dig 10000 (n * 65536 + (p / 65536 ^ m) % 65536)) i (wrap64 ((kk : Int) - 1))) r →
    Ev (fun k => roundelref02_Limbs.l2 k l (dig 10000 n) i (kk : Int) (p : Int) (kk : Int) (j : Int)) r := by
  intro m
  induction m with
  | zero =>
    intro p j hj hp h1 h
    obtain ⟨w1, w2⟩ := limb_wraps p hp
    have W2 := Lib.hid w2
    clear w1 w2
    have hs : Lo (p % 65536) := Lo_lt (m := 1) (by omega) (by omega)
    have h65 : Ev (fun k => roundelref02_Of.f k 65536) (dig 10000 65536) := rOf 65536 (by omega)
    refine Ev.step (G := fun k => (roundelref02_Of.f k 65536).bind fun t209 => (roundelref02_Mul.f k (dig 10000 n) t209).bind fun t212 => (roundelref02_Of.f k ((p % 65536 : Nat) : Int)).bind fun t215 => (roundelref02_Add.f k t212 t215).bind fun t218 => roundelref02_Limbs.l1 k l t218 i (wrap64 ((kk : Int) - 1))) (fun k => ?_) ?_
    · rw [roundelref02_Limbs.l2, if_neg (by omega), W2.out]
    · refine Ev.bind h65 (Ev.bind (rMul n 65536 h0 (Lo_lt (m := 1) (by omega) (by omega))) (Ev.bind (rOf (p % 65536) (by omega)) (Ev.bind (rAdd (n * 65536) (p % 65536) h1 hs) ?_)))
      rw [Nat.pow_zero, Nat.div_one] at h
      exact h
  | succ m ih =>
    intro p j hj hp h1 h
    obtain ⟨w1, w2⟩ := limb_wraps p hp
    have W1 := Lib.hid w1
    clear w1 w2
    have WA := Lib.hid (wadd1 j (by omega))
    refine Ev.step (fun k => ?_) (ih (p / 65536) (j + 1) (by omega) (by omega) h1 (by rw [show p / 65536 / 65536 ^ m = p / 65536 ^ (m + 1) by rw [Nat.div_div_eq_div_mul, Nat.pow_succ, Nat.mul_comm]]; exact h))
    rw [roundelref02_Limbs.l2, if_pos (by omega), W1.out, WA.out]
theorem rLimbs_l1 (l : List Int) (i x : Nat) (hi : i < l.length) (hx : l.getD i 0 = (x : Int)) (hx1 : x < 18446744073709551616) (kk : Nat) (hk : kk ≤ 3) (n n' : Nat) (hn : n' = n * 65536 + (x / 65536 ^ kk) % 65536) (h0 : Lo n) (h1 : Lo (n * 65536)) (r : List Int)
    (h : Ev (fun k => roundelref02_Limbs.l1 k l (dig 10000 n') (i : Int) (wrap64 ((kk : Int) - 1))) r) : Ev (fun k => roundelref02_Limbs.l1 k l (dig 10000 n) (i : Int) (kk : Int)) r := by
  subst hn
  refine Ev.step (fun k => ?_) (rLimbs_l2 l (i : Int) kk hk n r h0 kk x 0 (by omega) hx1 h1 h)
  rw [roundelref02_Limbs.l1, if_pos (by omega), if_pos (by omega), if_pos (by omega), rd_nat, hx]
  rfl
theorem rLimbs_l0 (l : List Int) (hd : Dig 18446744073709551616 l) (hl : l.length ≤ 10000) : ∀ i : Nat, i ≤ l.length → Ev (fun k => roundelref02_Limbs.l0 k l (dig 10000 (V 18446744073709551616 l i)) ((i : Int) - 1)) (dig 10000 (val 18446744073709551616 l)) := by
  intro i
  induction i with
  | zero =>
    intro _
    refine Ev.step (G := fun _ => some (dig 10000 (V 18446744073709551616 l 0))) (fun k => ?_) (Ev.const _)
    rw [roundelref02_Limbs.l0, if_neg (by omega)]
  | succ i ih =>
    intro hi
    have hg := hd.get (show 0 < 18446744073709551616 by decide) i
    obtain ⟨x, hx⟩ := Int.eq_ofNat_of_zero_le hg.1
    rw [hx] at hg
    have hx1 : x < 18446744073709551616 := by omega
    have hv := V_step 18446744073709551616 l i
    rw [hx, Int.toNat_natCast] at hv
    have hb := V_bound (show 0 < 18446744073709551616 by decide) hd i
    have hlo : ∀ m, m ≤ V 18446744073709551616 l i → Lo m := fun m hm => Lo_lt (Nat.lt_of_le_of_lt hm hb) (by omega)
    clear hb
    generalize V 18446744073709551616 l i = v at *
    generalize V 18446744073709551616 l (i + 1) = n at *
    have e0 : ((i + 1 : Nat) : Int) - 1 = (i : Int) := by omega
    rw [e0]
    have ih2 := ih (by omega)
    refine Ev.step (G := fun k => roundelref02_Limbs.l1 k l (dig 10000 n) (i : Int) 3) (fun k => ?_) ?_
    · rw [roundelref02_Limbs.l0, if_pos (by omega)]
    · refine rLimbs_l1 l i x (by omega) hx hx1 3 (by omega) n (n * 65536 + x / 281474976710656) (by omega) (hlo _ (by omega)) (hlo _ (by omega)) _ ?_
      rw [show wrap64 ((3 : Nat) - 1) = ((2 : Nat) : Int) from w64s (by omega) (by omega)]
      refine rLimbs_l1 l i x (by omega) hx hx1 2 (by omega) _ (n * 4294967296 + x / 4294967296) (by omega) (hlo _ (by omega)) (hlo _ (by omega)) _ ?_
      rw [show wrap64 ((2 : Nat) - 1) = ((1 : Nat) : Int) from w64s (by omega) (by omega)]
      refine rLimbs_l1 l i x (by omega) hx hx1 1 (by omega) _ (n * 281474976710656 + x / 65536) (by omega) (hlo _ (by omega)) (hlo _ (by omega)) _ ?_
      rw [show wrap64 ((1 : Nat) - 1) = ((0 : Nat) : Int) from w64s (by omega) (by omega)]
      refine rLimbs_l1 l i x (by omega) hx hx1 0 (by omega) _ v (by omega) (hlo _ (by omega)) (hlo _ (by omega)) _ ?_
      refine Ev.step (fun k => ?_) ih2
      rw [show wrap64 ((0 : Nat) - 1) = -1 from w64s (by omega) (by omega), roundelref02_Limbs.l1, if_neg (by omega), w64s (by omega) (by omega)]
theorem rLimbs (l : List Int) (hd : Dig 18446744073709551616 l) (hl : l.length ≤ 10000) : Ev (fun k => roundelref02_Limbs.f k l) (dig 10000 (val 18446744073709551616 l)) := by
  have h := rLimbs_l0 l hd hl l.length (Nat.le_refl _)
  rw [V_end _ (Nat.le_refl _), dig_zero] at h
  refine Ev.congr (fun k => ?_) h
  rw [roundelref02_Limbs.f, w64s (by omega) (by omega)]
theorem nIs (n : Nat) (hl : (dig 18446744073709551616 n).length ≤ 10000) : Ev (fun k => roundellaw02_Is.f k (dig 18446744073709551616 n) (dig 10000 n)) true := by
  have hL := rLimbs (dig 18446744073709551616 n) (Dig_dig (by decide) n) hl
  rw [val_dig (by decide)] at hL
  have hlo : Lo n := Lo_lt (m := (dig 18446744073709551616 n).length) (by
    have := val_lt _ (Dig_dig (B := 18446744073709551616) (by decide) n)
    rwa [val_dig (by decide)] at this) (by omega)
  refine Ev.congr (G := fun k => (roundelref02_Limbs.f k (dig 18446744073709551616 n)).bind fun t226 => (roundelref02_Cmp.f k t226 (dig 10000 n)).bind fun t229 => some (t229 == 0)) (fun k => ?_) ?_
  · rw [roundellaw02_Is.f, rGood _ (by omega), goodB_dig]
    rfl
  · refine Ev.bind hL (Ev.bind (rCmp n n hlo hlo) ?_)
    rw [sgn, if_pos rfl]
    exact Ev.const _
theorem Is_lt {x m : Nat} (hx : x < 18446744073709551616 ^ m) (h : m ≤ 10000) : Ev (fun k => roundellaw02_Is.f k (dig 18446744073709551616 x) (dig 10000 x)) true := nIs x (Nat.le_trans (dig_length (by decide) m x hx) h)
end Go.Proofs.YtcoipojikmgdmaaDoor.P
end
section
namespace Go.Proofs.YtcoipojikmgdmaaDoor.P
open Go.RowKit Go.Proofs.YtcoipojikmgdmaaDoorW.PrintWords Go.Proofs.YtcoipojikmgdmaaDoorW.PrintLast Go.Proofs.YtcoipojikmgdmaaDoorW.PrintMore
attribute [local go_sem] max2_int min2_int max_two min_two max_three min_three max_four min_four
set_option linter.unusedVariables false
set_option linter.unusedSimpArgs false
theorem rev_ind {α : Type} {P : List α → Prop} (h0 : P []) (hs : ∀ l b, P l → P (l ++ [b])) (l : List α) : P l := by
  rw [← List.reverse_reverse l]
  induction l.reverse with
  | nil => exact h0
  | cons b l ih => rw [List.reverse_cons]; exact hs _ _ ih
def readD (l : List UInt8) : Nat := l.foldl (fun n b => n * 10 + (b.toNat - 48)) 0
theorem readD_snoc (l : List UInt8) (b : UInt8) : readD (l ++ [b]) = readD l * 10 + (b.toNat - 48) := by simp [readD]
def isD (b : UInt8) : Prop := 48 ≤ b.toNat ∧ b.toNat ≤ 57
theorem readD_lt (l : List UInt8) : (∀ b ∈ l, isD b) → readD l < 10 ^ l.length := by
  refine rev_ind (P := fun l => (∀ b ∈ l, isD b) → readD l < 10 ^ l.length) (by simp [readD]) (fun l b ih => ?_) l
  · intro h
    have h1 := ih fun x hx => h x (by simp [hx])
    have h2 := h b (by simp)
    unfold isD at h2
    rw [readD_snoc]; simp only [List.length_append, List.length_singleton, Nat.pow_succ]; omega
def stepV (v : Nat) (b : UInt8) : Nat := v * 10 + (b.toNat - 48)
theorem stepV_lt {v m : Nat} (b : UInt8) (hb : b.toNat ≤ 57) (h : v < 18446744073709551616 ^ m) : v * 10 < 18446744073709551616 ^ (m + 1) ∧ stepV v b < 18446744073709551616 ^ (m + 1) := by
  unfold stepV
  rw [Nat.pow_succ]
  generalize 18446744073709551616 ^ m = X at *
  omega
theorem bt_list (s : ByteArray) (i : Nat) (h : i < s.size) : bt s (i : Int) = ((s.data.toList[i]'(by simpa using h)).toNat : Int) := by
  rw [bt_lit s i h]
  congr 2
theorem digB_iff (b : UInt8) : digB b = true ↔ 48 ≤ b.toNat ∧ b.toNat ≤ 57 := by simp [digB]
theorem all_drop {l : List UInt8} (h : l.all digB = true) (b : UInt8) (hb : b ∈ l) : isD b := (digB_iff b).1 (List.all_eq_true.1 h b hb)
theorem nReadF (s : ByteArray) (hs : s.size ≤ 5000) (hd : s.data.toList.all digB = true) : ∀ (n pos v : Nat), pos + n = s.size → v < 18446744073709551616 ^ pos →
    Ev (fun k => readF k s n pos (dig 18446744073709551616 v)) (dig 18446744073709551616 ((s.data.toList.drop pos).foldl stepV v))
  | 0, pos, v, hp, hv => by
    refine Ev.congr (G := fun _ => some (dig 18446744073709551616 v)) (fun k => rfl) ?_
    rw [List.drop_eq_nil_of_le (by simp; omega)]
    exact Ev.const _
  | n + 1, pos, v, hp, hv => by
    have hlt : pos < s.data.toList.length := by simp; omega
    have hb := all_drop hd (s.data.toList[pos]) (List.getElem_mem hlt)
    unfold isD at hb
    have e : bt s (pos : Int) - 48 = ((s.data.toList[pos].toNat - 48 : Nat) : Int) := by
      rw [bt_list s pos (by omega)]
      omega
    obtain ⟨h1, h2⟩ := stepV_lt (m := pos) (s.data.toList[pos]) hb.2 hv
    have ih := nReadF s hs hd n (pos + 1) (stepV v (s.data.toList[pos])) (by omega) h2
    have o10 : Ev (fun k => nat_Of.f k 10) (dig 18446744073709551616 10) := nOf 10 (by omega)
    have oc : Ev (fun k => nat_Of.f k (bt s (pos : Int) - 48)) (dig 18446744073709551616 (s.data.toList[pos].toNat - 48)) := by
      rw [e]
      exact nOf _ (by omega)
    have l10 : Le 10 100000 := Le_lt (m := 1) (by decide) (by decide)
    have lc : Le (s.data.toList[pos].toNat - 48) 100000 := Le_lt (m := 1) (by omega) (by decide)
    refine Ev.congr (G := fun k => (nat_Of.f k 10).bind fun t => (nat_Mul.f k (dig 18446744073709551616 v) t).bind fun m => (nat_Of.f k (bt s pos - 48)).bind fun c => (nat_Add.f k m c).bind fun o => readF k s n (pos + 1) o) (fun k => rfl) ?_
    refine Ev.bind o10 (Ev.bind (nMul v 10 (Le_lt hv (by omega)) l10) (Ev.bind oc (Ev.bind (nAdd (v * 10) _ (Le_lt h1 (by omega)) lc) ?_)))
    rw [List.drop_eq_getElem_cons hlt, List.foldl_cons]
    exact ih
theorem nRead (s : ByteArray) (hs : s.size ≤ 5000) : Ev (fun k => nat_Read.f k s) (if textB s = true then (dig 18446744073709551616 (readD s.data.toList), 0) else (([] : List Int), 17)) := by
  by_cases h : textB s = true
  · rw [if_pos h]
    have hd : s.data.toList.all digB = true := by
      unfold textB at h
      simp only [Bool.and_eq_true] at h
      exact h.2
    have := nReadF s hs hd s.size 0 0 (by omega) (by simp)
    rw [List.drop_zero, dig_zero] at this
    refine Ev.congr (G := fun k => (readF k s s.size 0 []).bind fun o => some (o, 0)) (fun k => ?_) (Ev.bind this (Ev.const _))
    unfold nat_Read.f
    rw [if_pos h]
  · rw [if_neg h]
    refine Ev.congr (G := fun _ => some (([] : List Int), 17)) (fun k => ?_) (Ev.const _)
    unfold nat_Read.f
    rw [if_neg h]
theorem rRead_bad (s : ByteArray) (v : List Int) (n : Int) (i : Nat) (hi : i < s.size) (hn : (i : Int) < n) (hb : digB (s.data.toList[i]'(by simpa using hi)) = false) : Ev (fun k => roundelref02_Read.l0 k s v n (i : Int)) (([] : List Int), false) := by
  have hbt := bt_list s i hi
  have h0 : (0 : Int) ≤ (i : Int) := by omega
  have h1 : (i : Int) < (s.size : Int) := by omega
  have hb2 : ¬ (48 ≤ (s.data.toList[i]'(by simpa using hi)).toNat ∧ (s.data.toList[i]'(by simpa using hi)).toNat ≤ 57) := fun h => by
    rw [(digB_iff _).2 h] at hb
    cases hb
  refine Ev.step (G := fun k => roundelref02_Read.j2 k s v (i : Int) n (i : Int) true) (fun k => ?_) (Ev.step (fun _ => roundelref02_Read.j2.eq_2 ..) (Ev.pos rfl (Ev.const _)))
  rw [roundelref02_Read.l0, if_pos hn, if_pos h0, if_pos h1]
  by_cases hlt : bt s (i : Int) < 48
  · rw [if_pos hlt]
  · rw [if_neg hlt]
    have : decide (bt s (i : Int) > 57) = true := decide_eq_true (by omega)
    rw [this]
theorem rRead_l0 (s : ByteArray) (hs : s.size ≤ 5000) : ∀ (m i v : Nat), i + m = s.size → v < 18446744073709551616 ^ i →
    Ev (fun k => roundelref02_Read.l0 k s (dig 10000 v) (s.size : Int) (i : Int)) (if (s.data.toList.drop i).all digB = true then (dig 10000 ((s.data.toList.drop i).foldl stepV v), true) else (([] : List Int), false))
  | 0, i, v, hp, hv => by
    rw [List.drop_eq_nil_of_le (by simp; omega), if_pos (by rfl)]
    refine Ev.step (G := fun _ => some (dig 10000 v, true)) (fun k => ?_) (Ev.const _)
    rw [roundelref02_Read.l0, if_neg (by omega)]
  | m + 1, i, v, hp, hv => by
    have hi : i < s.size := by omega
    have hlt : i < s.data.toList.length := by simp; omega
    rw [List.drop_eq_getElem_cons hlt, List.all_cons]
    by_cases hb : digB (s.data.toList[i]) = true
    · rw [hb, Bool.true_and, List.foldl_cons]
      have hbn := (digB_iff _).1 hb
      have hbt := bt_list s i hi
      obtain ⟨h1, h2⟩ := stepV_lt (m := i) (s.data.toList[i]) hbn.2 hv
      have ih := rRead_l0 s hs m (i + 1) (stepV v (s.data.toList[i])) (by omega) h2
      have e : (bt s (i : Int) - 48) % 256 = ((s.data.toList[i].toNat - 48 : Nat) : Int) := by
        rw [hbt]
        omega
      have o10 : Ev (fun k => roundelref02_Of.f k 10) (dig 10000 10) := rOf 10 (by omega)
      have oc : Ev (fun k => roundelref02_Of.f k ((bt s (i : Int) - 48) % 256)) (dig 10000 (s.data.toList[i].toNat - 48)) := by
        rw [e]
        exact rOf _ (by omega)
      have l10 : Lo 10 := Lo_lt (m := 1) (by decide) (by decide)
      have lc : Lo (s.data.toList[i].toNat - 48) := Lo_lt (m := 1) (by omega) (by decide)
      have h0 : (0 : Int) ≤ (i : Int) := by omega
      have h1' : (i : Int) < (s.size : Int) := by omega
      refine Ev.step (G := fun k => roundelref02_Read.j2 k s (dig 10000 v) (i : Int) (s.size : Int) (i : Int) false) (fun k => ?_) ?_
      · rw [roundelref02_Read.l0, if_pos h1', if_pos h0, if_pos h1', if_neg (by omega)]
        have : decide (bt s (i : Int) > 57) = false := decide_eq_false (by omega)
        rw [this]
      · refine Ev.step (fun _ => roundelref02_Read.j2.eq_2 ..) (Ev.neg (by simp) (Ev.bind o10 (Ev.bind (rMul v 10 (Lo_lt hv (by omega)) l10) (Ev.pos h0 (Ev.pos h1' (Ev.bind oc (Ev.bind (rAdd (v * 10) _ (Lo_lt h1 (by omega)) lc) ?_)))))))
        rw [wadd1 i (by omega)]
        exact ih
    · have hb' : digB (s.data.toList[i]) = false := by simpa using hb
      rw [hb', Bool.false_and, if_neg (by simp)]
      exact rRead_bad s _ _ i hi (by omega) hb'
theorem rRead (s : ByteArray) (hs : s.size ≤ 5000) : Ev (fun k => roundelref02_Read.f k s) (if textB s = true then (dig 10000 (readD s.data.toList), true) else (([] : List Int), false)) := by
  have off : Ev (fun k => roundelref02_Read.j0 k s true) (([] : List Int), false) := Ev.step (fun _ => roundelref02_Read.j0.eq_2 ..) (Ev.pos rfl (Ev.const _))
  have on : Ev (fun k => roundelref02_Read.j0 k s false) (if s.data.toList.all digB = true then (dig 10000 (readD s.data.toList), true) else (([] : List Int), false)) := by
    have h := rRead_l0 s hs s.size 0 0 (by omega) (by simp)
    rw [List.drop_zero, dig_zero] at h
    exact Ev.step (fun _ => roundelref02_Read.j0.eq_2 ..) (Ev.neg (by simp) h)
  have hl : s.data.toList.length = s.size := by simp
  by_cases h0 : s.size = 0
  · have e : s.toList = [] := by
      rw [Lib.toList_data]
      exact List.eq_nil_of_length_eq_zero (by omega)
    have ht : textB s = false := by
      unfold textB
      rw [h0]
      rfl
    rw [ht, if_neg (by simp)]
    refine Ev.congr (fun k => ?_) off
    rw [roundelref02_Read.f, if_pos e]
  · have e : s.toList ≠ [] := by
      rw [Lib.toList_data]
      intro h
      rw [h] at hl
      simp at hl
      omega
    have hp : 0 < (s.size : Int) := by omega
    have d1 : decide (0 < s.size) = true := decide_eq_true (by omega)
    by_cases hz : bt s 0 = 48
    · by_cases h1 : 1 < s.size
      · have ht : textB s = false := by
          unfold textB
          rw [d1, decide_eq_true hz, decide_eq_true h1]
          rfl
        rw [ht, if_neg (by simp)]
        refine Ev.congr (fun k => ?_) off
        rw [roundelref02_Read.f, if_neg e, if_pos hp, if_pos hz, decide_eq_true (show (s.size : Int) > 1 by omega)]
      · have ht : textB s = s.data.toList.all digB := by
          unfold textB
          rw [d1, decide_eq_true hz, decide_eq_false h1]
          rfl
        rw [ht]
        refine Ev.congr (fun k => ?_) on
        rw [roundelref02_Read.f, if_neg e, if_pos hp, if_pos hz, decide_eq_false (show ¬ (s.size : Int) > 1 by omega)]
    · have ht : textB s = s.data.toList.all digB := by
        unfold textB
        rw [d1, decide_eq_false hz]
        rfl
      rw [ht]
      refine Ev.congr (fun k => ?_) on
      rw [roundelref02_Read.f, if_neg e, if_pos hp, if_neg hz]
end Go.Proofs.YtcoipojikmgdmaaDoor.P
end
section
namespace Go.Proofs.YtcoipojikmgdmaaDoor.P
open Go.RowKit Go.Proofs.YtcoipojikmgdmaaDoorW.PrintWords Go.Proofs.YtcoipojikmgdmaaDoorW.PrintLast Go.Proofs.YtcoipojikmgdmaaDoorW.PrintMore
attribute [local go_sem] max2_int min2_int max_two min_two max_three min_three max_four min_four
set_option linter.unusedVariables false
set_option linter.unusedSimpArgs false
theorem readD_lt2 (s : ByteArray) (h : textB s = true) : readD s.data.toList < 18446744073709551616 ^ s.size := by
  have hd : s.data.toList.all digB = true := by
    unfold textB at h
    simp only [Bool.and_eq_true] at h
    exact h.2
  have h1 := readD_lt s.data.toList (fun b hb => all_drop hd b hb)
  rw [show s.data.toList.length = s.size by simp] at h1
  exact Nat.lt_of_lt_of_le h1 (Nat.pow_le_pow_left (by decide) _)
theorem lNatReads : roundellaw02_NatReads.Pure := by
  intro s _
  refine Ev.get ?_
  refine Ev.bind (F := fun k => roundellaw02_awake.f k) nawake (Ev.pos rfl ?_)
  by_cases hb : (s.size : Int) > 120
  · rw [decide_eq_true hb]
    exact Ev.step (fun _ => roundellaw02_NatReads.j0.eq_2 ..) (Ev.pos rfl (Ev.bind nawake (Ev.const _)))
  · rw [decide_eq_false hb]
    have h1 := nRead s (by omega)
    have h2 := rRead s (by omega)
    refine Ev.step (fun _ => roundellaw02_NatReads.j0.eq_2 ..) (Ev.neg (by simp) ?_)
    by_cases h : textB s = true
    · rw [if_pos h] at h1 h2
      exact Ev.bind h1 (Ev.bind h2 (Ev.pos rfl (Ev.pos rfl (Ev.bind (Is_lt (readD_lt2 s h) (by omega)) (Ev.const _)))))
    · rw [if_neg h] at h1 h2
      exact Ev.bind h1 (Ev.bind h2 (Ev.neg (by simp) (Ev.pos rfl (Ev.const _))))
end Go.Proofs.YtcoipojikmgdmaaDoor.P
end
