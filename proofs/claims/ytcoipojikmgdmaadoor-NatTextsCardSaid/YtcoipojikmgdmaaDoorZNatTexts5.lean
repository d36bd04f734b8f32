-- Written by a program of this session (wip/tools/shake.py) out of its own texts and of the kit's printed ones; not trusted: Lean checks it.
import Derived.Test.YtcoipojikmgdmaaDoorZNatTexts4
section
namespace Go.Proofs.YtcoipojikmgdmaaDoor.P
open Go.RowKit Go.Proofs.YtcoipojikmgdmaaDoorW.PrintWords Go.Proofs.YtcoipojikmgdmaaDoorW.PrintLast Go.Proofs.YtcoipojikmgdmaaDoorW.PrintMore
attribute [local go_sem] max2_int min2_int max_two min_two max_three min_three max_four min_four
set_option linter.unusedVariables false
set_option linter.unusedSimpArgs false
theorem rtrim_l0 (l : List Int) (hl : l.length < 1000000000) : ∀ n : Nat, n ≤ l.length → Ev (fun k => roundelref02_trim.l0 k l (n : Int)) (strip (l.take n))
  | 0, h => by
    refine Ev.step (G := fun _ => some []) (fun k => ?_) (Ev.const _)
    rw [roundelref02_trim.l0, if_neg (by omega), if_pos (by omega), if_pos (by omega)]
    rfl
  | n + 1, h => by
    have e : wrap64 (((n + 1 : Nat) : Int) - 1) = n := by rw [w64s (by omega) (by omega)]; omega
    by_cases hz : l.getD n 0 = 0
    · refine Ev.step (G := fun k => roundelref02_trim.l0 k l (n : Int)) (fun k => ?_) ?_
      · rw [roundelref02_trim.l0, if_pos (by omega), e, if_pos (by omega), if_pos (by omega), rd_nat, if_pos hz]
      · rw [take_snoc l n (by omega), hz, strip_snoc0]
        exact rtrim_l0 l hl n (by omega)
    · refine Ev.step (G := fun _ => some (l.take (n + 1))) (fun k => ?_) ?_
      · rw [roundelref02_trim.l0, if_pos (by omega), e, if_pos (by omega), if_pos (by omega), rd_nat, if_neg hz, if_pos (by omega), if_pos (by omega)]
        rfl
      · have hs : strip (l.take (n + 1)) = l.take (n + 1) := by rw [take_snoc l n (by omega), strip_snoc _ _ hz]
        rw [hs]
        exact Ev.const _
theorem rtrim (l : List Int) (hl : l.length < 1000000000) : Ev (fun k => roundelref02_trim.f k l) (strip l) := by
  have := rtrim_l0 l hl l.length (Nat.le_refl _)
  rw [List.take_length] at this
  exact this
theorem rtrim_dig (l : List Int) (hl : l.length < 1000000000) (h : Dig 10000 l) : Ev (fun k => roundelref02_trim.f k l) (dig 10000 (val 10000 l)) := by
  rw [← strip_dig (by omega) l h]
  exact rtrim l hl
theorem rOf_l0 : ∀ (m n : Nat) (out : List Int), n < 10000 ^ m → n < 9223372036854775808 → out.length + m < 1000000000 → Ev (fun k => roundelref02_Of.l0 k (n : Int) out) (out ++ dig 10000 n)
  | 0, n, out, h, h2, hl => by
    have : n = 0 := by simpa using h
    subst this
    refine Ev.step (G := fun _ => some out) (fun k => ?_) ?_
    · rw [roundelref02_Of.l0, if_neg (by omega)]
    · rw [dig_zero, List.append_nil]
      exact Ev.const _
  | m + 1, n, out, h, h2, hl => by
    by_cases hn : n = 0
    · subst hn
      refine Ev.step (G := fun _ => some out) (fun k => ?_) ?_
      · rw [roundelref02_Of.l0, if_neg (by omega)]
      · rw [dig_zero, List.append_nil]
        exact Ev.const _
    · have e1 : wrap64 (Int.tdiv (n : Int) 10000) = ((n / 10000 : Nat) : Int) := by
        rw [Int.tdiv_eq_ediv_of_nonneg (by omega), w64s (by omega) (by omega)]
        omega
      have e2 : Int.tmod (n : Int) 10000 = ((n % 10000 : Nat) : Int) := by
        rw [Int.tmod_eq_emod_of_nonneg (by omega)]
        omega
      refine Ev.step (G := fun k => roundelref02_Of.l0 k ((n / 10000 : Nat) : Int) (out ++ [((n % 10000 : Nat) : Int)])) (fun k => ?_) ?_
      · rw [roundelref02_Of.l0, if_pos (by omega), if_pos (by omega), e1, e2]
      · have ih := rOf_l0 m (n / 10000) (out ++ [((n % 10000 : Nat) : Int)]) (by rw [Nat.pow_succ] at h; omega) (by omega) (by rw [List.length_append, List.length_singleton]; omega)
        rw [dig_pos (by omega) hn]
        rw [List.append_assoc] at ih
        exact ih
theorem rOf (n : Nat) (h : n < 9223372036854775808) : Ev (fun k => roundelref02_Of.f k (n : Int)) (dig 10000 n) := by
  have := rOf_l0 5 n [] (by omega) h (by simp)
  exact this
theorem rat (l : List Int) (i : Nat) : roundelref02_at.f l (i : Int) = some (l.getD i 0) := by
  unfold roundelref02_at.f
  by_cases h : i < l.length
  · rw [if_pos (by omega), if_pos (by omega), rd_nat]
  · rw [if_neg (by omega), List.getD_eq_getElem?_getD, List.getElem?_eq_none (by omega)]
    rfl
def Lo (n : Nat) : Prop := (dig 10000 n).length ≤ 100000
theorem add_digit (x y c va vb : Nat) (hne : x + 10000 * va + (y + 10000 * vb) + c ≠ 0) : dig 10000 (x + 10000 * va + (y + 10000 * vb) + c) = (((x + y + c) % 10000 : Nat) : Int) :: dig 10000 (va + vb + (x + y + c) / 10000) := by
  have e : x + 10000 * va + (y + 10000 * vb) + c = (x + y + c) + 10000 * (va + vb) := by omega
  rw [dig_pos (by omega) hne, e, Nat.add_mul_mod_self_left, Nat.add_mul_div_left _ _ (by omega), Nat.add_comm ((x + y + c) / 10000)]
theorem add_wraps (x y c : Nat) (hx : x < 10000) (hy : y < 10000) (hc : c ≤ 1) : wrap64 (wrap64 ((x : Int) + y) + c) = ((x + y + c : Nat) : Int) ∧ Int.tmod ((x + y + c : Nat) : Int) 10000 = (((x + y + c) % 10000 : Nat) : Int) ∧ wrap64 (Int.tdiv ((x + y + c : Nat) : Int) 10000) = (((x + y + c) / 10000 : Nat) : Int) ∧ (x + y + c) / 10000 ≤ 1 := by
  refine ⟨?_, ?_, ?_, by omega⟩
  · rw [w64s (x := (x : Int) + y) (by omega) (by omega), w64s (by omega) (by omega)]
    omega
  · rw [Int.tmod_eq_emod_of_nonneg (by omega)]
    omega
  · rw [Int.tdiv_eq_ediv_of_nonneg (by omega), w64s (by omega) (by omega)]
    omega
theorem rAdd_end (a b : List Int) (i c : Nat) (out : List Int) (h1 : ¬ i < a.length) (h2 : ¬ i < b.length) (h3 : ¬ 0 < c) :
    Ev (fun k => roundelref02_Add.l0 k a b out (c : Int) (i : Int)) (out ++ dig 10000 (V 10000 a i + V 10000 b i + c)) := by
  refine Ev.step (G := fun k => roundelref02_Add.j1 k a b out (c : Int) (i : Int) false) (fun k => ?_) ?_
  · rw [roundelref02_Add.l0, if_neg (by omega), if_neg (by omega), decide_eq_false (by omega)]
  · refine Ev.step (G := fun _ => some out) (fun k => ?_) ?_
    · rw [roundelref02_Add.j1, if_neg (by simp)]
    · rw [V_end _ (by omega), V_end _ (by omega), show c = 0 by omega, dig_zero, List.append_nil]
      exact Ev.const _
theorem rAdd_l0 (a b : List Int) (ha : Dig 10000 a) (hb : Dig 10000 b) (ga : Good a) (gb : Good b) (hs : a.length < 1000000) (hs' : b.length < 1000000) : ∀ (m i c : Nat) (out : List Int), a.length + 1 ≤ i + m → b.length + 1 ≤ i + m → (i ≤ a.length ∨ i ≤ b.length ∨ c = 0) → c ≤ 1 → i ≤ 1000001 → out.length = i →
    Ev (fun k => roundelref02_Add.l0 k a b out (c : Int) (i : Int)) (out ++ dig 10000 (V 10000 a i + V 10000 b i + c)) := by
  intro m
  induction m with
  | zero =>
    intro i c out hm hm2 hm3 hc hi ho
    exact rAdd_end a b i c out (by omega) (by omega) (by omega)
  | succ m ih =>
    intro i c out hm hm2 hm3 hc hi ho
    by_cases hgo : i < a.length ∨ i < b.length ∨ 0 < c
    · have hi2 : i ≤ 1000000 := by
        clear ih
        rcases hgo with h | h | h <;> rcases hm3 with g | g | g <;> omega
      have ha1 := ha.get (show 0 < 10000 by omega) i
      have hb1 := hb.get (show 0 < 10000 by omega) i
      have hva := V_step 10000 a i
      have hvb := V_step 10000 b i
      obtain ⟨x, hx⟩ := Int.eq_ofNat_of_zero_le ha1.1
      obtain ⟨y, hy⟩ := Int.eq_ofNat_of_zero_le hb1.1
      rw [hx] at hva ha1
      rw [hy] at hvb hb1
      rw [Int.toNat_natCast] at hva hvb
      have hxe : a.length ≤ i → x = 0 := fun h => by
        rw [List.getD_eq_getElem?_getD, List.getElem?_eq_none h] at hx
        exact (Int.ofNat_inj.1 hx).symm
      have hye : b.length ≤ i → y = 0 := fun h => by
        rw [List.getD_eq_getElem?_getD, List.getElem?_eq_none h] at hy
        exact (Int.ofNat_inj.1 hy).symm
      obtain ⟨e1, e2, e3, e5⟩ := add_wraps x y c (by omega) (by omega) hc
      have e4 : wrap64 ((i : Int) + 1) = ((i + 1 : Nat) : Int) := by rw [w64s (by omega) (by omega)]; omega
      have hpos : V 10000 a i + V 10000 b i + c ≠ 0 := pos3 (hgo.imp (V_pos (by decide) ha ga i) (Or.imp (V_pos (by decide) hb gb i) id))
      have ed := add_digit x y c (V 10000 a (i + 1)) (V 10000 b (i + 1)) (by rw [← hva, ← hvb]; exact hpos)
      rw [← hva, ← hvb] at ed
      clear hva hvb hpos
      have E := Lib.hid ed
      have E1 := Lib.hid e1
      have E2 := Lib.hid e2
      have E3 := Lib.hid e3
      have E4 := Lib.hid e4
      clear ed e1 e2 e3 e4
      have h3 : i + 1 ≤ a.length ∨ i + 1 ≤ b.length ∨ (x + y + c) / 10000 = 0 := by
        by_cases h1 : i + 1 ≤ a.length
        · exact .inl h1
        · by_cases h2 : i + 1 ≤ b.length
          · exact .inr (.inl h2)
          · right; right
            rw [hxe (Nat.le_of_lt_succ (Nat.lt_of_not_le h1)), hye (Nat.le_of_lt_succ (Nat.lt_of_not_le h2))]
            clear hxe hye hgo hm3
            omega
      clear hxe hye hm3
      have hgo := Lib.hid hgo
      refine Ev.step (G := fun k => roundelref02_Add.j1 k a b out (c : Int) (i : Int) true) (fun k => ?_) ?_
      · rw [roundelref02_Add.l0]
        by_cases h1 : i < a.length
        · rw [if_pos (by omega)]
        · rw [if_neg (by omega)]
          by_cases h2 : i < b.length
          · rw [if_pos (by omega)]
          · rw [if_neg (by omega), decide_eq_true (by rcases hgo.out with h | h | h <;> omega)]
      · refine Ev.step (G := fun k => roundelref02_Add.l0 k a b (out ++ [(((x + y + c) % 10000 : Nat) : Int)]) (((x + y + c) / 10000 : Nat) : Int) ((i + 1 : Nat) : Int)) (fun k => ?_) ?_
        · rw [roundelref02_Add.j1, if_pos rfl, rat, rat, hx, hy]
          simp only [Option.bind_some]
          rw [if_pos (by omega), E1.out, E2.out, E3.out, E4.out]
        · have ih2 := ih (i + 1) ((x + y + c) / 10000) (out ++ [(((x + y + c) % 10000 : Nat) : Int)]) (by omega) (by omega) h3 e5 (by omega) (by rw [List.length_append, ho]; rfl)
          rw [List.append_assoc] at ih2
          rw [E.out]
          exact ih2
    · exact rAdd_end a b i c out (by omega) (by omega) (by omega)
theorem rAdd (x y : Nat) (hx : Lo x) (hy : Lo y) : Ev (fun k => roundelref02_Add.f k (dig 10000 x) (dig 10000 y)) (dig 10000 (x + y)) := by
  unfold Lo at hx hy
  have := rAdd_l0 (dig 10000 x) (dig 10000 y) (Dig_dig (by omega) x) (Dig_dig (by omega) y) (dig_last (by omega) x) (dig_last (by omega) y) (by omega) (by omega) 1000000 0 0 [] (by omega) (by omega) (by omega) (by omega) (by omega) rfl
  rw [V_zero, V_zero, val_dig (by omega), val_dig (by omega)] at this
  exact this
theorem mul_digit (o x y c : Nat) (ho : o < 10000) (hx : x < 10000) (hy : y < 10000) (hc : c < 10000) : x * y ≤ 99980001 ∧ wrap64 (wrap64 ((o : Int) + wrap64 ((x : Int) * (y : Int))) + (c : Int)) = ((o + x * y + c : Nat) : Int) ∧ Int.tmod ((o + x * y + c : Nat) : Int) 10000 = (((o + x * y + c) % 10000 : Nat) : Int) ∧ wrap64 (Int.tdiv ((o + x * y + c : Nat) : Int) 10000) = (((o + x * y + c) / 10000 : Nat) : Int) ∧ (o + x * y + c) / 10000 < 10000 := by
  have h : x * y ≤ 9999 * 9999 := Nat.mul_le_mul (by omega) (by omega)
  have e : (x : Int) * (y : Int) = ((x * y : Nat) : Int) := by simp
  rw [e]
  refine ⟨by omega, ?_, ?_, ?_, by omega⟩
  · rw [w64s (x := ((x * y : Nat) : Int)) (by omega) (by omega), w64s (x := (o : Int) + ((x * y : Nat) : Int)) (by omega) (by omega), w64s (by omega) (by omega)]
    omega
  · rw [Int.tmod_eq_emod_of_nonneg (by omega)]
    omega
  · rw [Int.tdiv_eq_ediv_of_nonneg (by omega), w64s (by omega) (by omega)]
    omega
set_option maxHeartbeats 1000000 in
theorem rMul_l1 (a b : List Int) (ha : Dig 10000 a) (hb : Dig 10000 b) (hs : a.length < 1000000) (hs' : b.length < 1000000) (i : Nat) (hi : i < a.length) : ∀ (m j c : Nat) (out : List Int), j + m = b.length → c < 10000 → Dig 10000 out → out.length = a.length + b.length →
    ∃ (out' : List Int) (c' : Nat), Dig 10000 out' ∧ out'.length = a.length + b.length ∧ c' < 10000 ∧ (∀ p, i + b.length ≤ p → out'.getD p 0 = out.getD p 0) ∧
      val 10000 out' + 10000 ^ (i + b.length) * c' = val 10000 out + 10000 ^ (i + j) * c + 10000 ^ (i + j) * ((a.getD i 0).toNat * V 10000 b j) ∧
      ∀ r, Ev (fun k => roundelref02_Mul.l1 k a b out' (i : Int) (c' : Int) (a.length : Int) (i : Int) (b.length : Int) (b.length : Int)) r → Ev (fun k => roundelref02_Mul.l1 k a b out (i : Int) (c : Int) (a.length : Int) (i : Int) (b.length : Int) (j : Int)) r := by
  intro m
  induction m with
  | zero =>
    intro j c out hj hc hd hl
    obtain rfl : j = b.length := by omega
    refine ⟨out, c, hd, hl, hc, fun _ _ => rfl, ?_, fun r h => h⟩
    rw [V_end _ (Nat.le_refl _)]
    simp
  | succ m ih =>
    intro j c out hj hc hd hl
    have hx := ha.get (show 0 < 10000 by decide) i
    have hy := hb.get (show 0 < 10000 by decide) j
    have ho := hd.get (show 0 < 10000 by decide) (i + j)
    have hv := V_step 10000 b j
    obtain ⟨x, hx'⟩ := Int.eq_ofNat_of_zero_le hx.1
    obtain ⟨y, hy'⟩ := Int.eq_ofNat_of_zero_le hy.1
    obtain ⟨o, ho'⟩ := Int.eq_ofNat_of_zero_le ho.1
    rw [hx'] at hx ⊢
    rw [hy'] at hy hv
    rw [ho'] at ho
    rw [Int.toNat_natCast] at hv ⊢
    obtain ⟨b1, e1, e2, e3, e5⟩ := mul_digit o x y c (by omega) (by omega) (by omega) hc
    have E1 := Lib.hid e1
    have E2 := Lib.hid e2
    have E3 := Lib.hid e3
    clear e1 e2 e3
    have hset := val_set 10000 out (i + j) (((o + x * y + c) % 10000 : Nat) : Int) (by omega)
    rw [ho', Int.toNat_natCast, Int.toNat_natCast] at hset
    obtain ⟨out', c', h1, h2, h3, h4, h5, h6⟩ := ih (j + 1) ((o + x * y + c) / 10000) (out.set (i + j) (((o + x * y + c) % 10000 : Nat) : Int)) (by omega) e5 (dig_set hd _ (by omega) (by omega)) (by rw [List.length_set]; exact hl)
    have EJ := Lib.hid (wadd i j (by omega))
    have EK := Lib.hid (wadd1 j (by omega))
    refine ⟨out', c', h1, h2, h3, fun p hp => ?_, ?_, fun r hr => ?_⟩
    · rw [h4 p hp, getD_set_ne (by omega)]
    · rw [h5, hx', Int.toNat_natCast, show i + (j + 1) = i + j + 1 by omega, Nat.pow_succ]
      exact mul_val _ _ o x y c _ _ _ _ _ _ hset hv (by omega)
    · refine Ev.step (fun k => ?_) (h6 r hr)
      rw [roundelref02_Mul.l1, if_pos (by omega), EJ.out, if_pos (by omega), if_pos (by omega), if_pos (by omega), if_pos (by omega), if_pos (by omega), if_pos (by omega), rd_nat, rd_nat, rd_nat, hx', hy', ho', E1.out, E2.out, E3.out, EK.out, Int.toNat_natCast]
set_option maxHeartbeats 1000000 in
theorem rMul_l0 (a b : List Int) (ha : Dig 10000 a) (hb : Dig 10000 b) (hs : a.length < 1000000) (hs' : b.length < 1000000) : ∀ (m i : Nat) (out : List Int), i + m = a.length → Dig 10000 out → out.length = a.length + b.length → (∀ p, i + b.length ≤ p → out.getD p 0 = 0) →
    Ev (fun k => roundelref02_Mul.l0 k a b out (a.length : Int) (i : Int)) (dig 10000 (val 10000 out + 10000 ^ i * (V 10000 a i * val 10000 b))) := by
  intro m
  induction m with
  | zero =>
    intro i out hi hd hl hz
    refine Ev.step (G := fun k => (roundelref02_trim.f k out).bind fun t190 => some t190) (fun k => ?_) ?_
    · rw [roundelref02_Mul.l0, if_neg (by omega)]
    · rw [V_end _ (by omega), Nat.zero_mul, Nat.mul_zero, Nat.add_zero]
      exact Ev.bind (rtrim_dig out (by omega) hd) (Ev.const _)
  | succ m ih =>
    intro i out hi hd hl hz
    obtain ⟨out', c', h1, h2, h3, h4, h5, h6⟩ := rMul_l1 a b ha hb hs hs' i (by omega) b.length 0 0 out (by omega) (by omega) hd hl
    have hz' := (h4 (i + b.length) (Nat.le_refl _)).trans (hz _ (Nat.le_refl _))
    have hset := val_set 10000 out' (i + b.length) (c' : Int) (by omega)
    rw [hz', Int.toNat_natCast] at hset
    have EI := Lib.hid (wadd i b.length (by omega))
    have EI1 := Lib.hid (wadd1 i (by omega))
    have EC := Lib.hid (show wrap64 (0 + (c' : Int)) = (c' : Int) by rw [Int.zero_add]; exact wid c' (by omega))
    have ih2 := ih (i + 1) (out'.set (i + b.length) (c' : Int)) (by omega) (dig_set h1 _ (by omega) (by omega)) (by rw [List.length_set]; exact h2) (fun p hp => by
      rw [getD_set_ne (by omega), h4 p (by omega), hz p (by omega)])
    have hva := V_step 10000 a i
    have hval : val 10000 out + 10000 ^ i * (V 10000 a i * val 10000 b) = val 10000 (out'.set (i + b.length) (c' : Int)) + 10000 ^ (i + 1) * (V 10000 a (i + 1) * val 10000 b) := by
      rw [hva, Nat.add_mul, Nat.mul_add, Nat.pow_succ, Nat.mul_assoc 10000, ← Nat.mul_assoc (10000 ^ i) 10000]
      rw [V_zero, Nat.add_zero, Nat.mul_zero, Nat.add_zero] at h5
      simp only [Int.toNat_zero, Nat.mul_zero, Nat.add_zero] at hset
      omega
    rw [hval]
    refine Ev.step (G := fun k => roundelref02_Mul.l1 k a b out (i : Int) 0 (a.length : Int) (i : Int) (b.length : Int) 0) (fun k => ?_) (h6 _ ?_)
    · rw [roundelref02_Mul.l0, if_pos (by omega)]
    · refine Ev.step (fun k => ?_) ih2
      rw [roundelref02_Mul.l1, if_neg (by omega), EI.out, if_pos (by omega), if_pos (by omega), rd_nat, hz', EC.out, EI1.out, Int.toNat_natCast]
theorem rMul (x y : Nat) (hx : Lo x) (hy : Lo y) : Ev (fun k => roundelref02_Mul.f k (dig 10000 x) (dig 10000 y)) (dig 10000 (x * y)) := by
  unfold Lo at hx hy
  have dx := Dig_dig (B := 10000) (by omega) x
  have dy := Dig_dig (B := 10000) (by omega) y
  have vx := val_dig (B := 10000) (by omega) x
  have vy := val_dig (B := 10000) (by omega) y
  generalize dig 10000 x = a at *
  generalize dig 10000 y = b at *
  have h := rMul_l0 a b dx dy (by omega) (by omega) a.length 0 (List.replicate (a.length + b.length) 0) (by omega) (Dig.rep (by omega) _) (by simp) (fun p _ => by
    rw [List.getD_eq_getElem?_getD, List.getElem?_replicate]
    split <;> rfl)
  rw [V_zero, val_replicate, vx, vy, Nat.pow_zero, Nat.one_mul, Nat.zero_add] at h
  refine Ev.congr (fun k => ?_) h
  rw [roundelref02_Mul.f, wadd a.length b.length (by omega)]
  rw [if_pos (by omega), Int.toNat_natCast, if_pos (by omega)]
  rfl
theorem Lo_lt {n m : Nat} (h : n < 18446744073709551616 ^ m) (hm : m ≤ 20000) : Lo n := by
  have h2 : 18446744073709551616 ^ m ≤ (10000 ^ 5) ^ m := Nat.pow_le_pow_left (by decide) m
  rw [← Nat.pow_mul] at h2
  have := dig_length (B := 10000) (by decide) (5 * m) n (Nat.lt_of_lt_of_le h h2)
  unfold Lo
  omega
theorem limb_wraps (p : Nat) (hp : p < 18446744073709551616) : IntKind.u64.wrap (Int.tdiv (p : Int) 65536) = ((p / 65536 : Nat) : Int) ∧ wrap64 (Int.tmod (p : Int) 65536) = ((p % 65536 : Nat) : Int) := by
  constructor
  · rw [Int.tdiv_eq_ediv_of_nonneg (by omega), u64s (by omega) (by omega)]
    omega
  · rw [Int.tmod_eq_emod_of_nonneg (by omega), w64s (by omega) (by omega)]
    omega
theorem rLimbs_l2 (l : List Int) (i : Int) (kk : Nat) (hk : kk ≤ 3) (n : Nat) (r : List Int) (h0 : Lo n) : ∀ (m p j : Nat), j + m = kk → p < 18446744073709551616 → Lo (n * 65536) → Ev (fun k => roundelref02_Limbs.l1 k l (dig 10000 (n * 65536 + (p / 65536 ^ m) % 65536)) i (wrap64 ((kk : Int) - 1))) r →
    Ev (fun k => roundelref02_Limbs.l2 k l (dig 10000 n) i (kk : Int) (p : Int) (kk : Int) (j : Int)) r := by
  intro m
  induction m with
  | zero =>
    intro p j hj hp h1 h
    obtain ⟨w1, w2⟩ := limb_wraps p hp
    have W2 := Lib.hid w2
    clear w1 w2
    have hs : Lo (p % 65536) := Lo_lt (m := 1) (by omega) (by omega)
    have h65 : Ev (fun k => roundelref02_Of.f k 65536) (dig 10000 65536) := rOf 65536 (by omega)
    refine Ev.step (G := fun k => (roundelref02_Of.f k 65536).bind fun t209 => (roundelref02_Mul.f k (dig 10000 n) t209).bind fun t212 => (roundelref02_Of.f k ((p % 65536 : Nat) : Int)).bind fun t215 => (roundelref02_Add.f k t212 t215).bind fun t218 => roundelref02_Limbs.l1 k l t218 i (wrap64 ((kk : Int) - 1))) (fun k => ?_) ?_
    · rw [roundelref02_Limbs.l2, if_neg (by omega), W2.out]
    · refine Ev.bind h65 (Ev.bind (rMul n 65536 h0 (Lo_lt (m := 1) (by omega) (by omega))) (Ev.bind (rOf (p % 65536) (by omega)) (Ev.bind (rAdd (n * 65536) (p % 65536) h1 hs) ?_)))
      rw [Nat.pow_zero, Nat.div_one] at h
      exact h
  | succ m ih =>
    intro p j hj hp h1 h
    obtain ⟨w1, w2⟩ := limb_wraps p hp
    have W1 := Lib.hid w1
    clear w1 w2
    have WA := Lib.hid (wadd1 j (by omega))
    refine Ev.step (fun k => ?_) (ih (p / 65536) (j + 1) (by omega) (by omega) h1 (by rw [show p / 65536 / 65536 ^ m = p / 65536 ^ (m + 1) by rw [Nat.div_div_eq_div_mul, Nat.pow_succ, Nat.mul_comm]]; exact h))
    rw [roundelref02_Limbs.l2, if_pos (by omega), W1.out, WA.out]
theorem rLimbs_l1 (l : List Int) (i x : Nat) (hi : i < l.length) (hx : l.getD i 0 = (x : Int)) (hx1 : x < 18446744073709551616) (kk : Nat) (hk : kk ≤ 3) (n n' : Nat) (hn : n' = n * 65536 + (x / 65536 ^ kk) % 65536) (h0 : Lo n) (h1 : Lo (n * 65536)) (r : List Int)
    (h : Ev (fun k => roundelref02_Limbs.l1 k l (dig 10000 n') (i : Int) (wrap64 ((kk : Int) - 1))) r) : Ev (fun k => roundelref02_Limbs.l1 k l (dig 10000 n) (i : Int) (kk : Int)) r := by
  subst hn
  refine Ev.step (fun k => ?_) (rLimbs_l2 l (i : Int) kk hk n r h0 kk x 0 (by omega) hx1 h1 h)
  rw [roundelref02_Limbs.l1, if_pos (by omega), if_pos (by omega), if_pos (by omega), rd_nat, hx]
  rfl
theorem rLimbs_l0 (l : List Int) (hd : Dig 18446744073709551616 l) (hl : l.length ≤ 10000) : ∀ i : Nat, i ≤ l.length → Ev (fun k => roundelref02_Limbs.l0 k l (dig 10000 (V 18446744073709551616 l i)) ((i : Int) - 1)) (dig 10000 (val 18446744073709551616 l)) := by
  intro i
  induction i with
  | zero =>
    intro _
    refine Ev.step (G := fun _ => some (dig 10000 (V 18446744073709551616 l 0))) (fun k => ?_) (Ev.const _)
    rw [roundelref02_Limbs.l0, if_neg (by omega)]
  | succ i ih =>
    intro hi
    have hg := hd.get (show 0 < 18446744073709551616 by decide) i
    obtain ⟨x, hx⟩ := Int.eq_ofNat_of_zero_le hg.1
    rw [hx] at hg
    have hx1 : x < 18446744073709551616 := by omega
    have hv := V_step 18446744073709551616 l i
    rw [hx, Int.toNat_natCast] at hv
    have hb := V_bound (show 0 < 18446744073709551616 by decide) hd i
    have hlo : ∀ m, m ≤ V 18446744073709551616 l i → Lo m := fun m hm => Lo_lt (Nat.lt_of_le_of_lt hm hb) (by omega)
    clear hb
    generalize V 18446744073709551616 l i = v at *
    generalize V 18446744073709551616 l (i + 1) = n at *
    have e0 : ((i + 1 : Nat) : Int) - 1 = (i : Int) := by omega
    rw [e0]
    have ih2 := ih (by omega)
    refine Ev.step (G := fun k => roundelref02_Limbs.l1 k l (dig 10000 n) (i : Int) 3) (fun k => ?_) ?_
    · rw [roundelref02_Limbs.l0, if_pos (by omega)]
    · refine rLimbs_l1 l i x (by omega) hx hx1 3 (by omega) n (n * 65536 + x / 281474976710656) (by omega) (hlo _ (by omega)) (hlo _ (by omega)) _ ?_
      rw [show wrap64 ((3 : Nat) - 1) = ((2 : Nat) : Int) from w64s (by omega) (by omega)]
      refine rLimbs_l1 l i x (by omega) hx hx1 2 (by omega) _ (n * 4294967296 + x / 4294967296) (by omega) (hlo _ (by omega)) (hlo _ (by omega)) _ ?_
      rw [show wrap64 ((2 : Nat) - 1) = ((1 : Nat) : Int) from w64s (by omega) (by omega)]
      refine rLimbs_l1 l i x (by omega) hx hx1 1 (by omega) _ (n * 281474976710656 + x / 65536) (by omega) (hlo _ (by omega)) (hlo _ (by omega)) _ ?_
      rw [show wrap64 ((1 : Nat) - 1) = ((0 : Nat) : Int) from w64s (by omega) (by omega)]
      refine rLimbs_l1 l i x (by omega) hx hx1 0 (by omega) _ v (by omega) (hlo _ (by omega)) (hlo _ (by omega)) _ ?_
      refine Ev.step (fun k => ?_) ih2
      rw [show wrap64 ((0 : Nat) - 1) = -1 from w64s (by omega) (by omega), roundelref02_Limbs.l1, if_neg (by omega), w64s (by omega) (by omega)]
theorem rLimbs (l : List Int) (hd : Dig 18446744073709551616 l) (hl : l.length ≤ 10000) : Ev (fun k => roundelref02_Limbs.f k l) (dig 10000 (val 18446744073709551616 l)) := by
  have h := rLimbs_l0 l hd hl l.length (Nat.le_refl _)
  rw [V_end _ (Nat.le_refl _), dig_zero] at h
  refine Ev.congr (fun k => ?_) h
  rw [roundelref02_Limbs.f, w64s (by omega) (by omega)]
theorem limbs_dig {x m : Nat} (hx : x < 18446744073709551616 ^ m) (h : m ≤ 10000) : Ev (fun k => roundelref02_Limbs.f k (dig 18446744073709551616 x)) (dig 10000 x) := by
  have := rLimbs (dig 18446744073709551616 x) (Dig_dig (by decide) x) (Nat.le_trans (dig_length (by decide) m x hx) h)
  rwa [val_dig (by decide)] at this
end Go.Proofs.YtcoipojikmgdmaaDoor.P
end
section
namespace Go.Proofs.YtcoipojikmgdmaaDoor.P
open Go.RowKit Go.Proofs.YtcoipojikmgdmaaDoorW.PrintWords Go.Proofs.YtcoipojikmgdmaaDoorW.PrintLast Go.Proofs.YtcoipojikmgdmaaDoorW.PrintMore
attribute [local go_sem] max2_int min2_int max_two min_two max_three min_three max_four min_four
set_option linter.unusedVariables false
set_option linter.unusedSimpArgs false
def padD : Nat → Nat → List UInt8
  | 0, _ => []
  | k + 1, r => padD k (r / 10) ++ [UInt8.ofNat (48 + r % 10)]
theorem padD_length : ∀ k r, (padD k r).length = k
  | 0, _ => rfl
  | k + 1, r => by simp [padD, padD_length k]
theorem decD_app : ∀ (k q r : Nat), 0 < q → r < 10 ^ k → Lib.decDigits (q * 10 ^ k + r) = Lib.decDigits q ++ padD k r
  | 0, q, r, _, h => by
    have : r = 0 := by simpa using h
    subst this; simp [padD]
  | k + 1, q, r, h0, h => by
    have hp : 1 ≤ q * 10 ^ (k + 1) := Nat.mul_pos h0 (Nat.pow_pos (by omega))
    have hp2 : 10 ≤ q * 10 ^ (k + 1) := by rw [Nat.pow_succ, ← Nat.mul_assoc]; have := Nat.mul_pos h0 (Nat.pow_pos (n := k) (show 0 < 10 by omega)); omega
    rw [Lib.decDigits, dif_neg (by omega)]
    have e1 : (q * 10 ^ (k + 1) + r) / 10 = q * 10 ^ k + r / 10 := by
      rw [Nat.pow_succ, ← Nat.mul_assoc]; omega
    have e2 : (q * 10 ^ (k + 1) + r) % 10 = r % 10 := by
      rw [Nat.pow_succ, ← Nat.mul_assoc]; omega
    rw [e1, e2, decD_app k q (r / 10) h0 (by rw [Nat.pow_succ] at h; omega)]
    simp [padD]
theorem padD_small : ∀ (k r : Nat), 0 < k → r < 10 ^ k → padD k r = List.replicate (k - (Lib.decDigits r).length) 48 ++ Lib.decDigits r
  | 0, _, h, _ => by omega
  | k + 1, r, _, h => by
    by_cases hr : r < 10
    · rw [Lib.decDigits, dif_pos hr]
      have : ∀ k, padD k 0 = List.replicate k 48 := by
        intro k
        induction k with
        | zero => rfl
        | succ k ih => simp only [padD, Nat.zero_div, ih, List.replicate_succ']; rfl
      simp [padD, Nat.div_eq_of_lt hr, this, Nat.mod_eq_of_lt hr]
    · rw [Lib.decDigits, dif_neg hr, padD, padD_small k (r / 10) (by
        rcases Nat.eq_zero_or_pos k with rfl | h2
        · simp at h; omega
        · exact h2) (by rw [Nat.pow_succ] at h; omega)]
      simp
theorem padD_add : ∀ (b a r : Nat), padD (a + b) r = padD a (r / 10 ^ b) ++ padD b r
  | 0, a, r => by simp [padD]
  | b + 1, a, r => by
    rw [show a + (b + 1) = (a + b) + 1 by omega, padD, padD_add b a (r / 10), padD, List.append_assoc, Nat.div_div_eq_div_mul, Nat.pow_succ, Nat.mul_comm 10]
def stripZ : List UInt8 → List UInt8
  | [] => []
  | b :: l => if b = 48 then stripZ l else b :: l
theorem stripZ_rep (l : List UInt8) : ∀ n, stripZ (List.replicate n 48 ++ l) = stripZ l
  | 0 => rfl
  | n + 1 => by rw [List.replicate_succ, List.cons_append, stripZ, if_pos rfl, stripZ_rep l n]
theorem ofNat_ne (d : Nat) (h0 : 0 < d) (h : d < 10) : UInt8.ofNat (48 + d) ≠ 48 := by
  intro e
  have := congrArg UInt8.toNat e
  simp at this
  omega
theorem decD_head (u : Nat) : 0 < u → ∃ b l, Lib.decDigits u = b :: l ∧ b ≠ 48 := by
  induction u using Nat.strongRecOn with
  | _ u ih =>
    intro h
    by_cases hu : u < 10
    · exact ⟨_, [], by rw [Lib.decDigits, dif_pos hu], ofNat_ne u h hu⟩
    · obtain ⟨b, l, e, hb⟩ := ih (u / 10) (by omega) (by omega)
      exact ⟨b, l ++ [UInt8.ofNat (48 + u % 10)], by rw [Lib.decDigits, dif_neg hu, e]; rfl, hb⟩
theorem strip_dec (u : Nat) (h : 0 < u) : stripZ (Lib.decDigits u) = Lib.decDigits u := by
  obtain ⟨b, l, e, hb⟩ := decD_head u h
  rw [e, stripZ, if_neg hb]
theorem strip_pad (k u : Nat) (hk : 0 < k) (h0 : 0 < u) (h : u < 10 ^ k) : stripZ (padD k u) = Lib.decDigits u := by
  rw [padD_small k u hk h, stripZ_rep, strip_dec u h0]
def readD (l : List UInt8) : Nat := l.foldl (fun n b => n * 10 + (b.toNat - 48)) 0
theorem readD_snoc (l : List UInt8) (b : UInt8) : readD (l ++ [b]) = readD l * 10 + (b.toNat - 48) := by simp [readD]
theorem readD_dec (u : Nat) : readD (Lib.decDigits u) = u := by
  induction u using Nat.strongRecOn with
  | _ u ih =>
    by_cases hu : u < 10
    · rw [Lib.decDigits, dif_pos hu]; simp [readD]; omega
    · rw [Lib.decDigits, dif_neg hu, readD_snoc, ih (u / 10) (by omega)]; simp; omega
def isD (b : UInt8) : Prop := 48 ≤ b.toNat ∧ b.toNat ≤ 57
theorem dec_isD (u : Nat) : ∀ b ∈ Lib.decDigits u, isD b := by
  induction u using Nat.strongRecOn with
  | _ u ih =>
    intro b hb
    by_cases hu : u < 10
    · rw [Lib.decDigits, dif_pos hu] at hb; simp at hb; subst hb; unfold isD; simp; omega
    · rw [Lib.decDigits, dif_neg hu] at hb
      rcases List.mem_append.1 hb with h | h
      · exact ih (u / 10) (by omega) b h
      · simp at h; subst h; unfold isD; simp; omega
def decT (n : Nat) : ByteArray := ⟨(Lib.decDigits n).toArray⟩
theorem decT_list (n : Nat) : (decT n).data.toList = Lib.decDigits n := by simp [decT]
theorem decT_size (n : Nat) : (decT n).size = (Lib.decDigits n).length := by simp [decT, ByteArray.size]
theorem ba_ext {a b : ByteArray} (h : a.data.toList = b.data.toList) : a = b := by
  obtain ⟨⟨a⟩⟩ := a
  obtain ⟨⟨b⟩⟩ := b
  simp at h
  rw [h]
theorem ba_eta (a : ByteArray) : (⟨a.data.toList.toArray⟩ : ByteArray) = a := ba_ext (by simp)
theorem rev_l0 (l : List ByteArray) (hl : l.length < 1000000000) : ∀ (m i : Nat) (s : List ByteArray), 2 * i + m = l.length → s.length = l.length →
    (∀ p : Nat, p < l.length → s.getD p ByteArray.empty = if p < i ∨ i + m ≤ p then l.getD (l.length - 1 - p) ByteArray.empty else l.getD p ByteArray.empty) →
    Ev (fun k => slices_Reverse_string_string.l0 k s (i : Int) ((i : Int) + (m : Int) - 1)) l.reverse := by
  intro m
  induction m using Nat.strongRecOn with
  | ind m ih =>
    intro i s hm hs h
    by_cases h2 : 2 ≤ m
    · obtain ⟨j, rfl⟩ : ∃ j, m = j + 2 := ⟨m - 2, by omega⟩
      have e1 : ((i : Int) + ((j + 2 : Nat) : Int) - 1).toNat = i + j + 1 := by omega
      refine Ev.step (G := fun k => slices_Reverse_string_string.l0 k ((s.set i (s.getD (i + j + 1) ByteArray.empty)).set (i + j + 1) (s.getD i ByteArray.empty)) ((i + 1 : Nat) : Int) (((i + 1 : Nat) : Int) + (j : Int) - 1)) (fun k => ?_) (ih j (by omega) (i + 1) _ (by omega) (by simp [hs]) (fun p hp => ?_))
      · rw [slices_Reverse_string_string.l0, if_pos (by omega), if_pos (by omega), if_pos (by omega), if_pos (by omega), if_pos (by omega), w64s (by omega) (by omega), w64s (by omega) (by omega)]
        simp only [rdOf, e1, Int.toNat_natCast]
        rw [show ((i : Int) + 1) = ((i + 1 : Nat) : Int) by omega, show ((i : Int) + ((j + 2 : Nat) : Int) - 1 - 1) = (((i + 1 : Nat) : Int) + (j : Int) - 1) by omega]
      · have key : ((s.set i (s.getD (i + j + 1) ByteArray.empty)).set (i + j + 1) (s.getD i ByteArray.empty)).getD p ByteArray.empty = if p = i + j + 1 then s.getD i ByteArray.empty else if p = i then s.getD (i + j + 1) ByteArray.empty else s.getD p ByteArray.empty := by
          rw [List.getD_eq_getElem?_getD, List.getElem?_set]
          by_cases hp1 : i + j + 1 = p
          · have hl1 : i + j + 1 < (s.set i (s.getD (i + j + 1) ByteArray.empty)).length := by
              rw [List.length_set]
              omega
            subst hp1
            rw [if_pos rfl, if_pos hl1, if_pos rfl]
            rfl
          · rw [if_neg hp1, if_neg (fun h => hp1 h.symm), List.getElem?_set]
            by_cases hp2 : i = p
            · subst hp2
              rw [if_pos rfl, if_pos (show i < s.length by omega), if_pos rfl]
              rfl
            · rw [if_neg hp2, if_neg (fun h => hp2 h.symm), List.getD_eq_getElem?_getD]
        rw [key]
        by_cases hp1 : p = i + j + 1
        · subst hp1
          rw [if_pos rfl, if_pos (by omega), h i (by omega), if_neg (by omega)]
          congr 1
          omega
        · rw [if_neg hp1]
          by_cases hp2 : p = i
          · subst hp2
            rw [if_pos rfl, if_pos (by omega), h _ (by omega), if_neg (by omega)]
            congr 1
            omega
          · rw [if_neg hp2, h p hp]
            by_cases hp3 : p < i ∨ i + (j + 2) ≤ p
            · rw [if_pos hp3, if_pos (by omega)]
            · rw [if_neg hp3, if_neg (by omega)]
    · refine Ev.step (G := fun _ => some s) (fun k => ?_) ?_
      · rw [slices_Reverse_string_string.l0, if_neg (by omega)]
      · have e : s = l.reverse := by
          apply List.ext_getElem (by simp [hs])
          intro p h1 h2'
          have hp : p < l.length := by omega
          have := h p hp
          rw [List.getD_eq_getElem?_getD, List.getElem?_eq_getElem h1] at this
          simp only [Option.getD_some] at this
          rw [this, List.getElem_reverse]
          by_cases hc : p < i ∨ i + m ≤ p
          · rw [if_pos hc, List.getD_eq_getElem?_getD, List.getElem?_eq_getElem (by omega)]
            rfl
          · rw [if_neg hc, List.getD_eq_getElem?_getD, List.getElem?_eq_getElem hp]
            have : l.length - 1 - p = p := by omega
            simp only [Option.getD_some, this]
        rw [e]
        exact Ev.const _
theorem sRev (l : List ByteArray) (hl : l.length < 1000000000) : Ev (fun k => slices_Reverse_string_string.f k l) l.reverse := by
  have h := rev_l0 l hl l.length 0 l (by omega) rfl (fun p hp => by rw [if_neg (by omega)])
  refine Ev.congr (fun k => ?_) h
  unfold slices_Reverse_string_string.f
  rw [w64s (by omega) (by omega)]
  simp
theorem inter_nil {α : Type} : ∀ xs : List (List α), ([] : List α).intercalate xs = xs.flatten
  | [] => rfl
  | [x] => by simp [List.intercalate]
  | x :: y :: xs => by
    have h := inter_nil (y :: xs)
    simp [List.intercalate] at h ⊢
    exact h
def catB (l : List ByteArray) : ByteArray := ⟨(l.map (·.data.toList)).flatten.toArray⟩
theorem sJoin0 (l : List ByteArray) (h1 : l.length ≤ 140737488355328) (h2 : (l.map (·.data.toList)).flatten.length ≤ 140737488355328) : strings_Join.f l (⟨#[]⟩ : ByteArray) = some (catB l) := by
  unfold strings_Join.f
  have e : Lib.join (l.map (·.data.toList)) (⟨#[]⟩ : ByteArray).data.toList = (l.map (·.data.toList)).flatten := inter_nil _
  rw [if_pos h1, e, if_pos h2]
  rfl
theorem repL (b : UInt8) : ∀ n, Lib.repeatL [b] n = List.replicate n b
  | 0 => rfl
  | n + 1 => by rw [Lib.repeatL, repL b n, List.replicate_succ]; rfl
theorem shortP_val (d : Nat) (hd : 0 < d) : ∀ (l : List Int), Dig 18446744073709551616 l → ∃ (r : Nat), (shortP d l.reverse 0).2 = (r : Int) ∧ r < d ∧ Dig 18446744073709551616 (shortP d l.reverse 0).1 ∧ val 18446744073709551616 (shortP d l.reverse 0).1 * d + r = val 18446744073709551616 l
  | [], _ => ⟨0, rfl, hd, by intro x hx; simp [shortP] at hx, by simp [shortP, val]⟩
  | x :: l, h => by
    obtain ⟨⟨hx0, hx1⟩, hl⟩ := h.cons
    obtain ⟨r, e, hr, hD, hv⟩ := shortP_val d hd l hl
    obtain ⟨x, rfl⟩ := Int.eq_ofNat_of_zero_le hx0
    have ex : ((r : Int) * 18446744073709551616 + (x : Int)) = ((r * 18446744073709551616 + x : Nat) : Int) := by omega
    have q1 : ((r * 18446744073709551616 + x : Nat) : Int) / (d : Int) = (((r * 18446744073709551616 + x) / d : Nat) : Int) := (Int.natCast_ediv _ _).symm
    have q2 : ((r * 18446744073709551616 + x : Nat) : Int) % (d : Int) = (((r * 18446744073709551616 + x) % d : Nat) : Int) := (Int.natCast_emod _ _).symm
    rw [List.reverse_cons, shortP_snoc, e, ex, q1, q2]
    have hq : (r * 18446744073709551616 + x) / d < 18446744073709551616 := by
      rw [Nat.div_lt_iff_lt_mul hd]
      have : (r + 1) * 18446744073709551616 ≤ d * 18446744073709551616 := Nat.mul_le_mul_right _ hr
      omega
    have hdm := Nat.div_add_mod (r * 18446744073709551616 + x) d
    refine ⟨(r * 18446744073709551616 + x) % d, rfl, Nat.mod_lt _ hd, Dig.mk (Int.natCast_nonneg _) (Int.ofNat_lt.2 hq) hD, ?_⟩
    simp only [val]
    rw [Int.toNat_natCast]
    generalize (r * 18446744073709551616 + x) / d = q at *
    generalize (r * 18446744073709551616 + x) % d = m at *
    generalize val 18446744073709551616 (shortP (↑d) l.reverse 0).fst = v at *
    rw [Int.toNat_natCast, ← hv, Nat.add_mul, Nat.mul_add, Nat.mul_assoc, Nat.mul_comm q d]
    omega
theorem nShort (x d : Nat) (hd : 0 < d) (hd1 : d < 18446744073709551616) (hx : Le x 100000) : Ev (fun k => nat_Nat_short.f k (dig 18446744073709551616 x) (d : Int)) (dig 18446744073709551616 (x / d), ((x % d : Nat) : Int)) := by
  have hD := Dig_dig (B := 18446744073709551616) (by decide) x
  obtain ⟨r, e, hr, hDo, hv⟩ := shortP_val d hd _ hD
  rw [val_dig (by decide)] at hv
  have e1 : val 18446744073709551616 (shortP d (dig 18446744073709551616 x).reverse 0).1 = x / d := by
    generalize val 18446744073709551616 (shortP d (dig 18446744073709551616 x).reverse 0).1 = q at hv
    subst hv
    rw [Nat.mul_comm, Nat.mul_add_div hd, Nat.div_eq_of_lt hr]
    rfl
  have e2 : r = x % d := by
    generalize val 18446744073709551616 (shortP d (dig 18446744073709551616 x).reverse 0).1 = q at hv
    subst hv
    rw [Nat.mul_comm, Nat.mul_add_mod, Nat.mod_eq_of_lt hr]
  have hlen : (shortP d (dig 18446744073709551616 x).reverse 0).1.length = (dig 18446744073709551616 x).length := by rw [shortP_length, List.length_reverse]
  unfold Le at hx
  have ht := ntrim _ (by rw [hlen]; omega) hDo
  rw [e1] at ht
  have hl : limbs64 (dig 18446744073709551616 x) = true := List.all_eq_true.2 fun y hy => by
    have := hD y hy
    simp
    omega
  refine Ev.congr (G := fun k => (nat_trim.f k (shortP d (dig 18446744073709551616 x).reverse 0).1).bind fun t => some (t, ((x % d : Nat) : Int))) (fun k => ?_) (Ev.bind ht (Ev.const _))
  unfold nat_Nat_short.f
  rw [if_pos ⟨by omega, by omega, hl, by omega⟩, e, e2]
theorem decD_len18 (x : Nat) (h : x / 1000000000000000000 ≠ 0) : (Lib.decDigits x).length = (Lib.decDigits (x / 1000000000000000000)).length + 18 := by
  have := decD_app 18 (x / 1000000000000000000) (x % 1000000000000000000) (by omega) (Nat.mod_lt _ (by decide))
  rw [show x / 1000000000000000000 * 10 ^ 18 + x % 1000000000000000000 = x by omega] at this
  rw [this, List.length_append, padD_length]
theorem nText_l0 : ∀ (x : Nat) (ps : List ByteArray), Le x 100000 → (∀ p ∈ ps, p.size = 18) → (Lib.decDigits x).length + 18 * ps.length ≤ 100000000 →
    Ev (fun k => nat_Text.l0 k (dig 18446744073709551616 x) ps) ⟨(Lib.decDigits x ++ (ps.reverse.map (·.data.toList)).flatten).toArray⟩ := by
  intro x
  induction x using Nat.strongRecOn with
  | ind x ih =>
    intro ps hx hp hb
    have hs := nShort x 1000000000000000000 (by decide) (by decide) hx
    have hf : strconv_FormatUint_55.f ((x % 1000000000000000000 : Nat) : Int) 10 = some (decT (x % 1000000000000000000)) := by
      unfold strconv_FormatUint_55.f
      rw [if_pos rfl, if_pos (by omega), if_pos (by omega)]
      rfl
    have hcount : ∀ qs : List ByteArray, (∀ p ∈ qs, p.size = 18) → (qs.map (·.data.toList)).flatten.length = 18 * qs.length := by
      intro qs
      induction qs with
      | nil => intro _; rfl
      | cons q qs ih2 =>
        intro h
        have h1 := h q (by simp)
        have h2 := ih2 fun p hp => h p (by simp [hp])
        have h3 : q.data.size = 18 := h1
        simp only [List.map_cons, List.flatten_cons, List.length_append, h2, List.length_cons, Array.length_toList]
        omega
    by_cases hq : x / 1000000000000000000 = 0
    · have hxs : x % 1000000000000000000 = x := by omega
      refine Ev.step (fun k => nat_Text.l0.eq_2 ..) (Ev.bind hs (Ev.plain hf ?_))
      rw [hxs, hq, dig_zero]
      refine Ev.pos (by simp) (Ev.pos (by omega) ?_)
      refine Ev.bind (sRev _ (by simp; omega)) ?_
      have hc := hcount ps.reverse (fun p h => hp p (by simpa using h))
      have ej := sJoin0 (ps ++ [decT x]).reverse (by simp; omega) (by
        rw [List.reverse_append]
        simp only [List.reverse_cons, List.reverse_nil, List.nil_append, List.singleton_append, List.map_cons, List.flatten_cons, List.length_append, hc, decT_list, List.length_reverse]
        omega)
      refine Ev.plain ej ?_
      have e : catB (ps ++ [decT x]).reverse = ⟨(Lib.decDigits x ++ (ps.reverse.map (·.data.toList)).flatten).toArray⟩ := by
        unfold catB
        rw [List.reverse_append]
        simp [decT]
      rw [e]
      exact Ev.const _
    · have hl18 := decD_len18 x hq
      have hlen : (Lib.decDigits (x % 1000000000000000000)).length ≤ 18 ∧ 1 ≤ (Lib.decDigits (x % 1000000000000000000)).length := by
        have h1 := padD_small 18 (x % 1000000000000000000) (by decide) (Nat.mod_lt _ (by decide))
        have h2 := congrArg List.length h1
        rw [padD_length, List.length_append, List.length_replicate] at h2
        have := Lib.nDigits_pos (x % 1000000000000000000)
        rw [Lib.decDigits_length] at h2 ⊢
        omega
      have hd1 := dig_ne (B := 18446744073709551616) (by decide) hq
      have hd2 : 0 < (dig 18446744073709551616 (x / 1000000000000000000)).length := List.length_pos_iff.2 hd1
      have hw : wrap64 (18 - ((decT (x % 1000000000000000000)).size : Int)) = ((18 - (Lib.decDigits (x % 1000000000000000000)).length : Nat) : Int) := by
        rw [decT_size, w64s (by omega) (by omega)]
        omega
      have hr : strings_Repeat.f (⟨#[48]⟩ : ByteArray) (wrap64 (18 - ((decT (x % 1000000000000000000)).size : Int))) = some ⟨(List.replicate (18 - (Lib.decDigits (x % 1000000000000000000)).length) 48).toArray⟩ := by
        rw [hw]
        unfold strings_Repeat.f
        rw [if_pos (by omega), if_pos (by omega), Int.toNat_natCast, if_pos (by show 1 * _ ≤ _; omega)]
        rw [show (⟨#[48]⟩ : ByteArray).data.toList = [48] from rfl, repL]
      have hpart : ((⟨(List.replicate (18 - (Lib.decDigits (x % 1000000000000000000)).length) 48).toArray⟩ : ByteArray) ++ decT (x % 1000000000000000000)) = ⟨(padD 18 (x % 1000000000000000000)).toArray⟩ := by
        rw [padD_small 18 _ (by decide) (Nat.mod_lt _ (by decide))]
        apply ba_ext
        simp [decT]
      have hih := ih (x / 1000000000000000000) (by omega) (ps ++ [(⟨(padD 18 (x % 1000000000000000000)).toArray⟩ : ByteArray)]) (Nat.le_trans (dig_mono (by decide) (Nat.div_le_self _ _)) hx) (fun p h => by
        rcases List.mem_append.1 h with h | h
        · exact hp p h
        · simp at h
          subst h
          simp [ByteArray.size, padD_length]) (by simp only [List.length_append, List.length_singleton]; omega)
      refine Ev.step (fun k => nat_Text.l0.eq_2 ..) (Ev.bind hs (Ev.plain hf (Ev.neg (by simp only; omega) ?_)))
      refine Ev.plain hr ?_
      refine Ev.pos (by rw [decT_size]; simp [ByteArray.size]; omega) (Ev.pos (by omega) ?_)
      rw [hpart]
      have e : (Lib.decDigits (x / 1000000000000000000) ++ ((ps ++ [(⟨(padD 18 (x % 1000000000000000000)).toArray⟩ : ByteArray)]).reverse.map (·.data.toList)).flatten) = Lib.decDigits x ++ (ps.reverse.map (·.data.toList)).flatten := by
        have := decD_app 18 (x / 1000000000000000000) (x % 1000000000000000000) (by omega) (Nat.mod_lt _ (by decide))
        rw [show x / 1000000000000000000 * 10 ^ 18 + x % 1000000000000000000 = x by omega] at this
        rw [this]
        simp
      rw [e] at hih
      exact hih
theorem dec_lt {x m : Nat} (hx : x < 18446744073709551616 ^ m) : (Lib.decDigits x).length ≤ 20 * m + 1 := by
  rw [Lib.decDigits_length]
  rcases Nat.lt_or_ge (20 * m + 1) (Lib.nDigits x) with h | h
  · have h1 : 10 ^ (Lib.nDigits x - 1) ≤ x := by
      have hn := Lib.nDigits_pos x
      rcases Nat.lt_or_ge x (10 ^ (Lib.nDigits x - 1)) with h2 | h2
      · exfalso
        have : ∀ (k : Nat) (u : Nat), u < 10 ^ k → Lib.nDigits u ≤ max 1 k := by
          intro k
          induction k with
          | zero => intro u hu; have : u = 0 := by simpa using hu
                    subst this; rw [Lib.nDigits_small (by decide)]; omega
          | succ k ih =>
            intro u hu
            by_cases hu2 : u < 10
            · rw [Lib.nDigits_small hu2]; omega
            · rw [Lib.nDigits_big hu2]
              have := ih (u / 10) (by rw [Nat.pow_succ] at hu; omega)
              have hk : k ≠ 0 := by rintro rfl; simp at hu; omega
              omega
        have := this _ _ h2
        omega
      · exact h2
    have h2 : 18446744073709551616 ^ m ≤ 10 ^ (20 * m) := by
      rw [Nat.pow_mul]
      exact Nat.pow_le_pow_left (by decide) m
    have h3 : 10 ^ (20 * m) ≤ 10 ^ (Lib.nDigits x - 1) := Nat.pow_le_pow_right (by decide) (by omega)
    omega
  · exact h
theorem nText {x m : Nat} (hx : x < 18446744073709551616 ^ m) (hm : m ≤ 100000) : Ev (fun k => nat_Text.f k (dig 18446744073709551616 x)) (decT x) := by
  have h := nText_l0 x [] (Le_lt hx hm) (by simp) (by have := dec_lt hx; simp; omega)
  simp only [List.reverse_nil, List.map_nil, List.flatten_nil, List.append_nil] at h
  exact h
theorem dig10 (d : Nat) (h : d < 10) : (⟨#[48, 49, 50, 51, 52, 53, 54, 55, 56, 57]⟩ : ByteArray).extract d (d + 1) = ⟨#[UInt8.ofNat (48 + d)]⟩ := by
  have : ∀ i : Fin 10, (⟨#[48, 49, 50, 51, 52, 53, 54, 55, 56, 57]⟩ : ByteArray).extract i.val (i.val + 1) = ⟨#[UInt8.ofNat (48 + i.val)]⟩ := by decide +kernel
  exact this ⟨d, h⟩
theorem ba_cons (b : UInt8) (s : ByteArray) : ((⟨#[b]⟩ : ByteArray) ++ s).data.toList = b :: s.data.toList := by simp
theorem rText_step (k : Nat) (l : List Int) (n : Int) (i q j : Nat) (s : ByteArray) (hq : q < 10000) (hj : j < 4) (hs : s.size < 2000000000) :
    roundelref02_Text.l1 (k + 1) l s (q : Int) n (i : Int) (j : Int) = roundelref02_Text.l1 k l ((⟨#[UInt8.ofNat (48 + q % 10)]⟩ : ByteArray) ++ s) ((q / 10 : Nat) : Int) n (i : Int) ((j + 1 : Nat) : Int) := by
  have e1 : Int.tmod (q : Int) 10 = ((q % 10 : Nat) : Int) := by
    rw [Int.tmod_eq_emod_of_nonneg (by omega)]
    omega
  have e2 : wrap64 (Int.tdiv (q : Int) 10) = ((q / 10 : Nat) : Int) := by
    rw [Int.tdiv_eq_ediv_of_nonneg (by omega), w64s (by omega) (by omega)]
    omega
  have e3 : wrap64 (((q % 10 : Nat) : Int) + 1) = ((q % 10 + 1 : Nat) : Int) := by
    rw [w64s (by omega) (by omega)]
    omega
  have hc : (⟨#[UInt8.ofNat (48 + q % 10)]⟩ : ByteArray).size + s.size ≤ 9223372036854775807 := by
    have h1 : (⟨#[UInt8.ofNat (48 + q % 10)]⟩ : ByteArray).size = 1 := rfl
    rw [h1]
    omega
  have h10 := dig10 (q % 10) (Nat.mod_lt _ (by decide))
  have hlt : (j : Int) < 4 := by omega
  have h0 : (0 : Int) ≤ ((q % 10 : Nat) : Int) := Int.natCast_nonneg _
  have h1 : ((q % 10 : Nat) : Int) ≤ ((q % 10 + 1 : Nat) : Int) := by omega
  have h2 : ((q % 10 + 1 : Nat) : Int) ≤ 10 := by omega
  have h4 : wrap64 ((j : Int) + 1) = ((j + 1 : Nat) : Int) := wadd1 j (by omega)
  rw [roundelref02_Text.l1.eq_2]
  rw [if_pos hlt]
  rw [e1, e2, e3, if_pos h0, if_pos h1, if_pos h2, Int.toNat_natCast, Int.toNat_natCast, h10, if_pos hc, h4]
theorem rText_l1 (l : List Int) (n : Int) (i d : Nat) (hd : d < 10000) (s0 : ByteArray) (hs : s0.size < 1000000000) (r : ByteArray) :
    ∀ (m j : Nat) (s : ByteArray), j + m = 4 → s.data.toList = padD j (d % 10 ^ j) ++ s0.data.toList →
    Ev (fun k => roundelref02_Text.l0 k l ⟨(padD 4 d ++ s0.data.toList).toArray⟩ n (wrap64 ((i : Int) + 1))) r →
    Ev (fun k => roundelref02_Text.l1 k l s ((d / 10 ^ j : Nat) : Int) n (i : Int) (j : Int)) r
  | 0, j, s, hm, h, hr => by
    obtain rfl : j = 4 := by omega
    refine Ev.step (G := fun k => roundelref02_Text.l0 k l s n (wrap64 ((i : Int) + 1))) (fun k => ?_) ?_
    · rw [roundelref02_Text.l1, if_neg (by omega)]
    · have e : s = ⟨(padD 4 d ++ s0.data.toList).toArray⟩ := by
        apply ba_ext
        rw [h, show d % 10 ^ 4 = d by omega]
      rw [e]
      exact hr
  | m + 1, j, s, hm, h, hr => by
    have hj : j < 4 := by omega
    have hp : 0 < 10 ^ j := Nat.pow_pos (by decide)
    have hq : d / 10 ^ j ≤ d := Nat.div_le_self _ _
    have hsz : s.size = j + s0.size := by
      have := congrArg List.length h
      rw [List.length_append, padD_length] at this
      simp only [Array.length_toList] at this
      exact this
    have ih := rText_l1 l n i d hd s0 hs r m (j + 1) ((⟨#[UInt8.ofNat (48 + d / 10 ^ j % 10)]⟩ : ByteArray) ++ s) (by omega) (by
      rw [ba_cons, h, ← List.cons_append]
      congr 1
      rw [show j + 1 = 1 + j by omega, padD_add]
      have h1 : d % 10 ^ (1 + j) / 10 ^ j = d / 10 ^ j % 10 := by
        rw [Nat.pow_add, Nat.mul_comm, Nat.mod_mul_right_div_self]
      have h2 : ∀ k n, padD k (n % 10 ^ k) = padD k n := by
        intro k
        induction k with
        | zero => intro n; rfl
        | succ k ih =>
          intro n
          rw [padD, padD, ← ih (n / 10), ← ih (n % 10 ^ (k + 1) / 10)]
          have a1 : n % 10 ^ (k + 1) / 10 % 10 ^ k = n / 10 % 10 ^ k := by
            rw [Nat.pow_succ, Nat.mul_comm, Nat.mod_mul_right_div_self, Nat.mod_mod]
          have a2 : n % 10 ^ (k + 1) % 10 = n % 10 := by
            rw [Nat.pow_succ, Nat.mul_comm, Nat.mod_mul_right_mod]
          rw [a1, a2]
      have h3 : padD j (d % 10 ^ (1 + j)) = padD j d := by
        rw [← h2 j (d % 10 ^ (1 + j)), show d % 10 ^ (1 + j) % 10 ^ j = d % 10 ^ j by rw [Nat.pow_add, Nat.mul_comm, Nat.mod_mul_right_mod], h2]
      rw [h1, h2 j d, h3]
      simp [padD]) hr
    refine Ev.step (fun k => rText_step k l n i (d / 10 ^ j) j s (by omega) (by omega) (by omega)) ?_
    rw [Nat.pow_succ, ← Nat.div_div_eq_div_mul] at ih
    exact ih
theorem rText_l2 : ∀ (l : List UInt8), stripZ l ≠ [] → l.length < 1000000000 → Ev (fun k => roundelref02_Text.l2 k ⟨l.toArray⟩) ⟨(stripZ l).toArray⟩
  | [], h, _ => absurd rfl h
  | b :: l, h, hl => by
    have hb : bt (⟨(b :: l).toArray⟩ : ByteArray) 0 = (b.toNat : Int) := by
      rw [← bt_at _ _ (show (0 : Int).toNat < (⟨(b :: l).toArray⟩ : ByteArray).size by simp [ByteArray.size])]
      rfl
    have hs : ((⟨(b :: l).toArray⟩ : ByteArray).size : Int) = (l.length : Int) + 1 := by simp [ByteArray.size]
    simp only [List.length_cons] at hl
    by_cases hz : b = 48
    · subst hz
      rw [stripZ, if_pos rfl] at h ⊢
      have ih := rText_l2 l h (by omega)
      refine Ev.step (G := fun k => roundelref02_Text.l2 k ⟨l.toArray⟩) (fun k => ?_) ih
      rw [roundelref02_Text.l2, hs, if_pos (by omega), hb, if_pos (by decide), if_pos (by omega)]
      congr 1
      apply ba_ext
      simp [ByteArray.size]
    · rw [stripZ, if_neg hz]
      refine Ev.step (G := fun k => some ⟨(b :: l).toArray⟩) (fun k => ?_) (Ev.const _)
      rw [roundelref02_Text.l2, hs, if_pos (by omega), hb, if_neg (fun e => hz (by
        apply UInt8.toNat_inj.1
        have : b.toNat = 48 := by omega
        rw [this]
        rfl))]
theorem rText_l0 (x : Nat) (l : List Int) (hl : l = dig 10000 x) (hx : x ≠ 0) (hs : l.length < 1000000) : ∀ (m i : Nat) (s : ByteArray), i + m = l.length → s.data.toList = padD (4 * i) (val 10000 (l.take i)) →
    Ev (fun k => roundelref02_Text.l0 k l s (l.length : Int) (i : Int)) (decT x)
  | 0, i, s, hm, h => by
    have hi : i = l.length := by omega
    subst hi
    refine Ev.step (G := fun k => roundelref02_Text.l2 k s) (fun k => ?_) ?_
    · rw [roundelref02_Text.l0, if_neg (by omega)]
    · rw [List.take_length, hl, val_dig (by decide)] at h
      have hlt := val_lt (B := 10000) l (by rw [hl]; exact Dig_dig (by decide) _)
      rw [hl, val_dig (by decide)] at hlt
      have hne := dig_ne (B := 10000) (by decide) hx
      have hpos : 0 < (dig 10000 x).length := List.length_pos_iff.2 hne
      have e10 : (10000 : Nat) ^ (dig 10000 x).length = 10 ^ (4 * (dig 10000 x).length) := by rw [Nat.pow_mul]
      have hst := strip_pad (4 * (dig 10000 x).length) x (by omega) (by omega) (by rw [← e10]; exact hlt)
      have hne2 : stripZ s.data.toList ≠ [] := by
        rw [h, hst]
        obtain ⟨b, t, e, _⟩ := decD_head x (by omega)
        rw [e]
        simp
      have hlen : s.data.toList.length < 1000000000 := by
        rw [h, padD_length]
        rw [hl] at hs
        omega
      have := rText_l2 s.data.toList hne2 hlen
      rw [ba_eta, h, hst] at this
      exact this
  | m + 1, i, s, hm, h => by
    have hd : Dig 10000 l := by rw [hl]; exact Dig_dig (by decide) _
    obtain ⟨h0, h1⟩ := hd.get (by decide) i
    obtain ⟨d, hdd⟩ := Int.eq_ofNat_of_zero_le h0
    have hsz : s.size = 4 * i := by
      have := congrArg List.length h
      rw [padD_length] at this
      simp only [Array.length_toList] at this
      exact this
    have ih := rText_l0 x l hl hx hs m (i + 1) ⟨(padD 4 d ++ s.data.toList).toArray⟩ (by omega) (by
      simp only
      rw [h, take_snoc l i (by omega), val_append, hdd]
      have hlt := val_lt (B := 10000) (l.take i) (fun x hx => hd x (List.mem_of_mem_take hx))
      rw [List.length_take, Nat.min_eq_left (by omega)] at hlt ⊢
      have e10 : (10000 : Nat) ^ i = 10 ^ (4 * i) := by rw [Nat.pow_mul]
      rw [e10] at hlt ⊢
      have hv : val 10000 [((d : Nat) : Int)] = d := by simp [val]
      rw [hv, show 4 * (i + 1) = 4 + 4 * i by omega, padD_add, Nat.add_mul_div_left _ _ (Nat.pow_pos (by decide)), Nat.div_eq_of_lt hlt, Nat.zero_add]
      congr 1
      have a2 : ∀ k a b, padD k (a + 10 ^ k * b) = padD k a := by
        intro k
        induction k with
        | zero => intro a b; rfl
        | succ k ih =>
          intro a b
          have e : 10 ^ (k + 1) * b = 10 * (10 ^ k * b) := by rw [Nat.pow_succ, Nat.mul_comm (10 ^ k), Nat.mul_assoc]
          rw [padD, padD, e, Nat.add_mul_div_left _ _ (by decide), ih, Nat.add_mul_mod_self_left]
      rw [a2])
    have h4 := rText_l1 l (l.length : Int) i d (by omega) s (by omega) (decT x) 4 0 s (by omega) (by simp [padD]) (by
      rw [wadd1 i (by omega)]
      exact ih)
    refine Ev.step (fun k => ?_) h4
    rw [roundelref02_Text.l0, if_pos (by omega), if_pos (by omega), if_pos (by omega), rd_nat, hdd]
    simp
theorem rText (x : Nat) (hs : (dig 10000 x).length < 1000000) : Ev (fun k => roundelref02_Text.f k (dig 10000 x)) (decT x) := by
  by_cases hx : x = 0
  · subst hx
    refine Ev.congr (G := fun _ => some (decT 0)) (fun k => ?_) (Ev.const _)
    rw [dig_zero, roundelref02_Text.f, if_pos (by simp)]
    have : decT 0 = ⟨#[48]⟩ := by
      apply ba_ext
      rw [decT_list, Lib.decDigits_one (by decide)]
      rfl
    rw [this]
  · have hne := dig_ne (B := 10000) (by decide) hx
    have hpos : 0 < (dig 10000 x).length := List.length_pos_iff.2 hne
    refine Ev.congr (fun k => ?_) (rText_l0 x (dig 10000 x) rfl hx hs (dig 10000 x).length 0 (⟨#[]⟩ : ByteArray) (by omega) (by simp [padD]))
    rw [roundelref02_Text.f, if_neg (by omega)]
    rfl
def stepV (v : Nat) (b : UInt8) : Nat := v * 10 + (b.toNat - 48)
theorem stepV_lt {v m : Nat} (b : UInt8) (hb : b.toNat ≤ 57) (h : v < 18446744073709551616 ^ m) : v * 10 < 18446744073709551616 ^ (m + 1) ∧ stepV v b < 18446744073709551616 ^ (m + 1) := by
  unfold stepV
  rw [Nat.pow_succ]
  generalize 18446744073709551616 ^ m = X at *
  omega
theorem bt_list (s : ByteArray) (i : Nat) (h : i < s.size) : bt s (i : Int) = ((s.data.toList[i]'(by simpa using h)).toNat : Int) := by
  rw [bt_lit s i h]
  congr 2
theorem digB_iff (b : UInt8) : digB b = true ↔ 48 ≤ b.toNat ∧ b.toNat ≤ 57 := by simp [digB]
theorem all_drop {l : List UInt8} (h : l.all digB = true) (b : UInt8) (hb : b ∈ l) : isD b := (digB_iff b).1 (List.all_eq_true.1 h b hb)
theorem nReadF (s : ByteArray) (hs : s.size ≤ 5000) (hd : s.data.toList.all digB = true) : ∀ (n pos v : Nat), pos + n = s.size → v < 18446744073709551616 ^ pos →
    Ev (fun k => readF k s n pos (dig 18446744073709551616 v)) (dig 18446744073709551616 ((s.data.toList.drop pos).foldl stepV v))
  | 0, pos, v, hp, hv => by
    refine Ev.congr (G := fun _ => some (dig 18446744073709551616 v)) (fun k => rfl) ?_
    rw [List.drop_eq_nil_of_le (by simp; omega)]
    exact Ev.const _
  | n + 1, pos, v, hp, hv => by
    have hlt : pos < s.data.toList.length := by simp; omega
    have hb := all_drop hd (s.data.toList[pos]) (List.getElem_mem hlt)
    unfold isD at hb
    have e : bt s (pos : Int) - 48 = ((s.data.toList[pos].toNat - 48 : Nat) : Int) := by
      rw [bt_list s pos (by omega)]
      omega
    obtain ⟨h1, h2⟩ := stepV_lt (m := pos) (s.data.toList[pos]) hb.2 hv
    have ih := nReadF s hs hd n (pos + 1) (stepV v (s.data.toList[pos])) (by omega) h2
    have o10 : Ev (fun k => nat_Of.f k 10) (dig 18446744073709551616 10) := nOf 10 (by omega)
    have oc : Ev (fun k => nat_Of.f k (bt s (pos : Int) - 48)) (dig 18446744073709551616 (s.data.toList[pos].toNat - 48)) := by
      rw [e]
      exact nOf _ (by omega)
    have l10 : Le 10 100000 := Le_lt (m := 1) (by decide) (by decide)
    have lc : Le (s.data.toList[pos].toNat - 48) 100000 := Le_lt (m := 1) (by omega) (by decide)
    refine Ev.congr (G := fun k => (nat_Of.f k 10).bind fun t => (nat_Mul.f k (dig 18446744073709551616 v) t).bind fun m => (nat_Of.f k (bt s pos - 48)).bind fun c => (nat_Add.f k m c).bind fun o => readF k s n (pos + 1) o) (fun k => rfl) ?_
    refine Ev.bind o10 (Ev.bind (nMul v 10 (Le_lt hv (by omega)) l10) (Ev.bind oc (Ev.bind (nAdd (v * 10) _ (Le_lt h1 (by omega)) lc) ?_)))
    rw [List.drop_eq_getElem_cons hlt, List.foldl_cons]
    exact ih
theorem nRead (s : ByteArray) (hs : s.size ≤ 5000) : Ev (fun k => nat_Read.f k s) (if textB s = true then (dig 18446744073709551616 (readD s.data.toList), 0) else (([] : List Int), 17)) := by
  by_cases h : textB s = true
  · rw [if_pos h]
    have hd : s.data.toList.all digB = true := by
      unfold textB at h
      simp only [Bool.and_eq_true] at h
      exact h.2
    have := nReadF s hs hd s.size 0 0 (by omega) (by simp)
    rw [List.drop_zero, dig_zero] at this
    refine Ev.congr (G := fun k => (readF k s s.size 0 []).bind fun o => some (o, 0)) (fun k => ?_) (Ev.bind this (Ev.const _))
    unfold nat_Read.f
    rw [if_pos h]
  · rw [if_neg h]
    refine Ev.congr (G := fun _ => some (([] : List Int), 17)) (fun k => ?_) (Ev.const _)
    unfold nat_Read.f
    rw [if_neg h]
theorem textB_dec (n : Nat) : textB (decT n) = true := by
  have hs := decT_size n
  have hn := Lib.nDigits_pos n
  rw [Lib.decDigits_length] at hs
  have ha : (decT n).data.toList.all digB = true := by
    rw [decT_list]
    exact List.all_eq_true.2 fun b hb => (digB_iff b).2 (dec_isD n b hb)
  unfold textB
  rw [ha, decide_eq_true (show 0 < (decT n).size by omega)]
  by_cases h : n < 10
  · rw [Lib.nDigits_small h] at hs
    rw [decide_eq_false (show ¬ 1 < (decT n).size by omega)]
    simp
  · obtain ⟨b, l, e, hb⟩ := decD_head n (by omega)
    have h0 : ¬ bt (decT n) 0 = 48 := by
      intro h48
      have := bt_list (decT n) 0 (by omega)
      simp only [decT_list, e] at this
      have h2 : bt (decT n) ((0 : Nat) : Int) = bt (decT n) 0 := rfl
      rw [h2, h48] at this
      apply hb
      apply UInt8.toNat_inj.1
      have h3 : b.toNat = 48 := by simp at this; omega
      rw [h3]
      rfl
    rw [decide_eq_false h0]
    rfl
theorem nRead_dec {x m : Nat} (hx : x < 18446744073709551616 ^ m) (hm : m ≤ 200) : Ev (fun k => nat_Read.f k (decT x)) (dig 18446744073709551616 x, 0) := by
  have h := nRead (decT x) (by rw [decT_size]; have := dec_lt hx; omega)
  rw [textB_dec, if_pos rfl, decT_list, readD_dec] at h
  exact h
end Go.Proofs.YtcoipojikmgdmaaDoor.P
end
section
namespace Go.Proofs.YtcoipojikmgdmaaDoor.P
open Go.RowKit Go.Proofs.YtcoipojikmgdmaaDoorW.PrintWords Go.Proofs.YtcoipojikmgdmaaDoorW.PrintLast Go.Proofs.YtcoipojikmgdmaaDoorW.PrintMore
attribute [local go_sem] max2_int min2_int max_two min_two max_three min_three max_four min_four
set_option linter.unusedVariables false
set_option linter.unusedSimpArgs false
theorem Lo5 {n m : Nat} (h : n < 18446744073709551616 ^ m) : (dig 10000 n).length ≤ 5 * m := by
  have h2 : 18446744073709551616 ^ m ≤ (10000 ^ 5) ^ m := Nat.pow_le_pow_left (by decide) m
  rw [← Nat.pow_mul] at h2
  exact dig_length (B := 10000) (by decide) (5 * m) n (Nat.lt_of_lt_of_le h h2)
end Go.Proofs.YtcoipojikmgdmaaDoor.P
end
section
namespace Go.Proofs.YtcoipojikmgdmaaDoor.P
open Go.RowKit Go.Proofs.YtcoipojikmgdmaaDoorW.PrintWords Go.Proofs.YtcoipojikmgdmaaDoorW.PrintLast Go.Proofs.YtcoipojikmgdmaaDoorW.PrintMore
attribute [local go_sem] max2_int min2_int max_two min_two max_three min_three max_four min_four
set_option linter.unusedVariables false
set_option linter.unusedSimpArgs false
theorem lsame_l0 (l : List Int) (hl : l.length < 1000000000) : ∀ (m i : Nat), i + m = l.length → Ev (fun k => roundellaw02_same.l0 k l l (l.length : Int) (i : Int)) true := by
  intro m
  induction m with
  | zero =>
    intro i hi
    refine Ev.step (G := fun _ => some true) (fun k => ?_) (Ev.const _)
    rw [roundellaw02_same.l0, if_neg (by omega)]
  | succ m ih =>
    intro i hi
    have EI := Lib.hid (wadd1 i (by omega))
    refine Ev.step (fun k => ?_) (ih (i + 1) (by omega))
    rw [roundellaw02_same.l0, if_pos (by omega), if_pos (by omega), if_pos (by omega), if_pos (by omega), if_pos rfl, EI.out]
theorem lsame (l : List Int) (hl : l.length < 1000000000) : Ev (fun k => roundellaw02_same.f k l l) true := by
  refine Ev.congr (fun k => ?_) (lsame_l0 l hl l.length 0 (by omega))
  rw [roundellaw02_same.f, if_pos rfl]
  rfl
end Go.Proofs.YtcoipojikmgdmaaDoor.P
end
section
namespace Go.Proofs.YtcoipojikmgdmaaDoor.P
open Go.RowKit Go.Proofs.YtcoipojikmgdmaaDoorW.PrintWords Go.Proofs.YtcoipojikmgdmaaDoorW.PrintLast Go.Proofs.YtcoipojikmgdmaaDoorW.PrintMore
attribute [local go_sem] max2_int min2_int max_two min_two max_three min_three max_four min_four
set_option linter.unusedVariables false
set_option linter.unusedSimpArgs false
theorem few_one (a : List Int) (da : Dig 18446744073709551616 a) : roundellaw02_few.f a ([] : List Int) = some false ∨ (roundellaw02_few.f a ([] : List Int) = some true ∧ ∃ x, x < 18446744073709551616 ^ 12 ∧ a = dig 18446744073709551616 x ∧ a.length ≤ 12) := by
  rcases few_cases a [] da (Dig.nil _) with h | ⟨h, x, y, hx, hy, e1, e2, hl, hl2⟩
  · exact Or.inl h
  · exact Or.inr ⟨h, x, hx, e1, hl⟩
theorem dig_single (x : Nat) (h0 : x ≠ 0) (h : x < 18446744073709551616) : dig 18446744073709551616 x = [(x : Int)] := by
  rw [dig_pos (by decide) h0, Nat.div_eq_of_lt h, dig_zero, Nat.mod_eq_of_lt h]
theorem dig_two (x : Nat) (h : 18446744073709551616 ≤ x) : 2 ≤ (dig 18446744073709551616 x).length := by
  have h1 : x / 18446744073709551616 ≠ 0 := by omega
  rw [dig_pos (by decide) (by omega), dig_pos (by decide) h1]
  simp
theorem nSmall (x : Nat) : nat_Small.f (dig 18446744073709551616 x) = some (if x ≤ 4611686018427387904 then ((x : Int), true) else (0, false)) := by
  have hat := nAt (dig 18446744073709551616 x) 0
  have h00 : ((0 : Nat) : Int) = 0 := rfl
  rw [h00] at hat
  unfold nat_Small.f
  by_cases h1 : x < 18446744073709551616
  · have hx : (dig 18446744073709551616 x).getD 0 0 = (x : Int) ∧ (dig 18446744073709551616 x).length ≤ 1 := by
      by_cases h0 : x = 0
      · subst h0
        rw [dig_zero]
        exact ⟨rfl, by simp⟩
      · rw [dig_single x h0 h1]
        exact ⟨rfl, by simp⟩
    rw [hx.1] at hat
    rw [if_neg (by omega), hat, Option.bind_some, Option.bind_some]
    by_cases hs : x ≤ 4611686018427387904
    · rw [if_neg (by omega), if_pos hs, w64s (by omega) (by omega)]
    · rw [if_pos (by omega), if_neg hs]
  · have := dig_two x (by omega)
    rw [if_pos (by omega), if_neg (by omega)]
theorem lNatTexts : roundellaw02_NatTexts.Pure := by
  intro a ha1 ha2 da
  refine Ev.get ?_
  refine Ev.bind (F := fun k => roundellaw02_awake.f k) nawake (Ev.pos rfl ?_)
  rcases few_one a (dig_lit da) with h | ⟨h, x, hx, rfl, hl⟩
  · refine Ev.plain h ?_
    exact Ev.step (fun _ => roundellaw02_NatTexts.j0.eq_2 ..) (Ev.pos rfl (Ev.bind nawake (Ev.const _)))
  · refine Ev.plain h (Ev.step (fun _ => roundellaw02_NatTexts.j0.eq_2 ..) (Ev.neg (by simp) ?_))
    have tail : Ev (fun k => roundellaw02_NatTexts.j2 k (dig 18446744073709551616 x) (decT x) (dig 18446744073709551616 x) 0 false) true :=
      Ev.step (fun _ => roundellaw02_NatTexts.j2.eq_2 ..) (Ev.neg (by simp) (Ev.bind (limbs_dig hx (by omega)) (Ev.bind (rText x (by have := Lo5 hx; omega)) (Ev.pos rfl (Ev.pos rfl (Ev.bind (lsame _ (by omega)) (Ev.const _)))))))
    refine Ev.plain (copied_eq _ (by omega)) (Ev.bind (nText hx (by omega)) (Ev.bind (nRead_dec hx (by omega)) (Ev.plain (copied_eq _ (by omega)) (Ev.plain (nSmall x) ?_))))
    by_cases h0 : x = 0
    · subst h0
      rw [dig_zero] at tail ⊢
      refine Ev.pos (by simp) (Ev.step (fun _ => roundellaw02_NatTexts.j1.eq_2 ..) (Ev.neg (by decide) (Ev.pos (by decide) (Ev.neg (by decide) (Ev.pos (by decide) ?_)))))
      exact tail
    · by_cases h1 : x < 18446744073709551616
      · have hd := dig_single x h0 h1
        rw [hd] at tail ⊢
        refine Ev.neg (by simp) (Ev.pos (by simp) (Ev.pos (by simp) ?_))
        have er : rd [(x : Int)] 0 = (x : Int) := by
          have := rd_nat [(x : Int)] 0
          exact this
        rw [er]
        by_cases hs : x ≤ 4611686018427387904
        · rw [if_pos hs, decide_eq_true (show (x : Int) ≤ 4611686018427387904 by omega)]
          refine Ev.step (fun _ => roundellaw02_NatTexts.j1.eq_2 ..) (Ev.neg (by simp) (Ev.pos rfl (Ev.pos (by simp) (Ev.pos (by simp) (Ev.pos (by rw [er, w64s (by omega) (by omega)]) (Ev.neg (by simp) ?_))))))
          exact tail
        · rw [if_neg hs, decide_eq_false (show ¬ (x : Int) ≤ 4611686018427387904 by omega)]
          refine Ev.step (fun _ => roundellaw02_NatTexts.j1.eq_2 ..) (Ev.neg (by simp) (Ev.neg (by simp) (Ev.pos rfl ?_)))
          exact tail
      · have hl2 := dig_two x (by omega)
        refine Ev.neg (by omega) (Ev.neg (by omega) ?_)
        rw [if_neg (by omega)]
        refine Ev.step (fun _ => roundellaw02_NatTexts.j1.eq_2 ..) (Ev.neg (by simp) (Ev.neg (by simp) (Ev.pos rfl ?_)))
        exact tail
end Go.Proofs.YtcoipojikmgdmaaDoor.P
end
section
namespace Go.Proofs.YtcoipojikmgdmaaDoorW.PrintWords
open Go.ChangeShapes Go.WideShapes
theorem sized_ints {H : Type} {enc : TypeId × Value → H} {P : Program} {W : World} {base : Nat} {spare : Nat → Bool} {held : Bool} {t e : TypeId} {k : IntKind} {a : Option Addr} {len cap : Nat} {d : DataW H} {ps : List MemPlace} {ts : List TypeId} {ds : List (DataW H)} {j : Nat}
    (hsz : (DataW.weightsEach P ts ds).all (· ≤ reachBytes) = true) (ht : ts[j]? = some t) (hd : ds[j]? = some d) (hu : P.underlying t = some (.slice e)) (he : P.underlying e = some (.int k)) (hc : P.cellsOf e = 1) {B : Nat} (hB : P.bytesOf e = B)
    (h : DataW.Trod enc P W base spare held t (.slice a len cap) d ps) : len * B ≤ 140737488351232 := by
  obtain ⟨fuel, hf⟩ := h
  rcases open_ints hu he hc hf with ⟨hcs, _⟩ | ⟨x, l, c, zs, hcs, _, hl, _, hz, hx, _, _⟩
  · simp [Value.cells] at hcs
    obtain ⟨rfl, rfl, rfl⟩ := hcs
    simp
  · simp [Value.cells] at hcs
    obtain ⟨rfl, rfl, rfl⟩ := hcs
    obtain ⟨hx, _⟩ := Prod.mk.inj hx
    subst hx
    have z := sized_slice hsz ht hd hu
    rw [hB] at z
    have hl2 : len ≤ zs.length := by
      rw [hz]
      split
      · exact hl
      · exact Nat.le_refl _
    have h1 : (lits (H := H) k (zs.take len)).length + (lits (H := H) k (zs.drop len)).length = zs.length := by
      simp [lits]
      omega
    rw [h1] at z
    exact Nat.le_trans (Nat.mul_le_mul_right _ hl2) z
end Go.Proofs.YtcoipojikmgdmaaDoorW.PrintWords
end
