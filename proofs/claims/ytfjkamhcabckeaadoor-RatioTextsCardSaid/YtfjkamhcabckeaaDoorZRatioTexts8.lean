-- Written by a program of this session (wip/tools/shake.py) out of its own texts and of the kit's printed ones; not trusted: Lean checks it.
import Derived.Test.YtfjkamhcabckeaaDoorZRatioTexts7
set_option maxHeartbeats 8000000
set_option maxRecDepth 100000
set_option linter.unusedVariables false
set_option linter.unusedSimpArgs false
section
namespace Go.Proofs.YtfjkamhcabckeaaDoor.P
open Go.RowKit Go.Proofs.YtfjkamhcabckeaaDoorW.PrintWords Go.Proofs.YtfjkamhcabckeaaDoorW.PrintLast Go.Proofs.YtfjkamhcabckeaaDoorW.PrintMore
attribute [local go_sem] max2_int min2_int max_two min_two zc8 zc9 max_four min_four
theorem rtrim_l0 (l : List Int) (hl : l.length < 1000000000) : ∀ n : Nat, n ≤ l.length → Ev (fun k => zas.l0 k l (n : Int)) (strip (l.take n))
 | 0, h => by
  refine Ev.step (G := fun _ => some []) (fun k => ?_) (Ev.const _)
  rw [zas.l0, if_neg (by omega), if_pos (by omega), if_pos (by omega)]
  rfl
 | n + 1, h => by
  have e : wrap64 (((n + 1 : Nat) : Int) - 1) = n := by rw [w64s (by omega) (by omega)]; omega
  by_cases hz : l.getD n 0 = 0
  ·
   refine Ev.step (G := fun k => zas.l0 k l (n : Int)) (fun k => ?_) ?_
   ·
    rw [zas.l0, if_pos (by omega), e, if_pos (by omega), if_pos (by omega), rd_nat, if_pos hz]
   ·
    rw [take_snoc l n (by omega), hz, strip_snoc0]
    exact rtrim_l0 l hl n (by omega)
  ·
   refine Ev.step (G := fun _ => some (l.take (n + 1))) (fun k => ?_) ?_
   ·
    rw [zas.l0, if_pos (by omega), e, if_pos (by omega), if_pos (by omega), rd_nat, if_neg hz, if_pos (by omega), if_pos (by omega)]
    rfl
   ·
    have hs : strip (l.take (n + 1)) = l.take (n + 1) := by rw [take_snoc l n (by omega), strip_snoc _ _ hz]
    rw [hs]
    exact Ev.const _
theorem rtrim (l : List Int) (hl : l.length < 1000000000) : Ev (fun k => zas.f k l) (strip l) := by
 have := rtrim_l0 l hl l.length (Nat.le_refl _)
 rw [List.take_length] at this
 exact this
theorem rtrim_dig (l : List Int) (hl : l.length < 1000000000) (h : Dig 10000 l) : Ev (fun k => zas.f k l) (dig 10000 (val 10000 l)) := by
 rw [← strip_dig (by omega) l h]
 exact rtrim l hl
theorem rOf_l0 : ∀ (m n : Nat) (out : List Int), n < 10000 ^ m → n < 9223372036854775808 → out.length + m < 1000000000 → Ev (fun k => zay.l0 k (n : Int) out) (out ++ dig 10000 n)
 | 0, n, out, h, h2, hl => by
  have : n = 0 := by simpa using h
  subst this
  refine Ev.step (G := fun _ => some out) (fun k => ?_) ?_
  ·
   rw [zay.l0, if_neg (by omega)]
  ·
   rw [zcg, List.append_nil]
   exact Ev.const _
 | m + 1, n, out, h, h2, hl => by
  by_cases hn : n = 0
  ·
   subst hn
   refine Ev.step (G := fun _ => some out) (fun k => ?_) ?_
   ·
    rw [zay.l0, if_neg (by omega)]
   ·
    rw [zcg, List.append_nil]
    exact Ev.const _
  ·
   have e1 : wrap64 (Int.tdiv (n : Int) 10000) = ((n / 10000 : Nat) : Int) := by
    rw [Int.tdiv_eq_ediv_of_nonneg (by omega), w64s (by omega) (by omega)]
    omega
   have e2 : Int.tmod (n : Int) 10000 = ((n % 10000 : Nat) : Int) := by
    rw [Int.tmod_eq_emod_of_nonneg (by omega)]
    omega
   refine Ev.step (G := fun k => zay.l0 k ((n / 10000 : Nat) : Int) (out ++ [((n % 10000 : Nat) : Int)])) (fun k => ?_) ?_
   ·
    rw [zay.l0, if_pos (by omega), if_pos (by omega), e1, e2]
   ·
    have ih := rOf_l0 m (n / 10000) (out ++ [((n % 10000 : Nat) : Int)]) (by rw [Nat.pow_succ] at h; omega) (by omega) (by rw [List.length_append, List.length_singleton]; omega)
    rw [dig_pos (by omega) hn]
    rw [List.append_assoc] at ih
    exact ih
theorem rOf (n : Nat) (h : n < 9223372036854775808) : Ev (fun k => zay.f k (n : Int)) (dig 10000 n) := by
 have := rOf_l0 5 n [] (by omega) h (by simp)
 exact this
theorem rat (l : List Int) (i : Nat) : zbt.f l (i : Int) = some (l.getD i 0) := by
 unfold zbt.f
 by_cases h : i < l.length
 ·
  rw [if_pos (by omega), if_pos (by omega), rd_nat]
 ·
  rw [if_neg (by omega), List.getD_eq_getElem?_getD, List.getElem?_eq_none (by omega)]
  rfl
theorem rCmp_l0 (a b : List Int) (ha : Dig 10000 a) (hb : Dig 10000 b) (hl : a.length = b.length) (hs : a.length < 1000000000) : ∀ i : Nat, i ≤ a.length → V 10000 a i = V 10000 b i → Ev (fun k => zaz.l0 k a b ((i : Int) - 1)) (sgn (val 10000 a) (val 10000 b))
 | 0, hi, hv => by
  refine Ev.step (G := fun _ => some 0) (fun k => ?_) ?_
  ·
   rw [zaz.l0, if_neg (by omega)]
  ·
   rw [zdc, zdc] at hv
   rw [sgn, if_pos hv]
   exact Ev.const _
 | i + 1, hi, hv => by
  have e0 : ((i + 1 : Nat) : Int) - 1 = (i : Int) := by omega
  have ha1 := ha.get (show 0 < 10000 by omega) i
  have hb1 := hb.get (show 0 < 10000 by omega) i
  have hva := zcz 10000 a i
  have hvb := zcz 10000 b i
  rw [e0]
  rcases Int.lt_trichotomy (a.getD i 0) (b.getD i 0) with h | h | h
  ·
   have hlt : val 10000 a < val 10000 b := V_lt (by omega) ha hb i (by omega)
   refine Ev.step (G := fun _ => some (-1)) (fun k => ?_) ?_
   ·
    rw [zaz.l0, if_pos (by omega), if_pos (by omega), if_pos (by omega), if_pos (by omega), rd_nat, rd_nat, if_pos h]
   ·
    rw [sgn, if_neg (by omega), if_pos hlt]
    exact Ev.const _
  ·
   refine Ev.step (G := fun k => zaz.l0 k a b ((i : Int) - 1)) (fun k => ?_) (rCmp_l0 a b ha hb hl hs i (by omega) (by omega))
   rw [zaz.l0, if_pos (by omega), if_pos (by omega), if_pos (by omega), if_pos (by omega), rd_nat, rd_nat, if_neg (by omega), if_neg (by omega), w64s (by omega) (by omega)]
  ·
   have hlt : val 10000 b < val 10000 a := V_lt (by omega) hb ha i (by omega)
   refine Ev.step (G := fun _ => some 1) (fun k => ?_) ?_
   ·
    rw [zaz.l0, if_pos (by omega), if_pos (by omega), if_pos (by omega), if_pos (by omega), rd_nat, rd_nat, if_neg (by omega), if_pos h]
   ·
    rw [sgn, if_neg (by omega), if_neg (by omega)]
    exact Ev.const _
theorem rCmp' (a b : List Int) (ha : Dig 10000 a) (hb : Dig 10000 b) (ga : Good a) (gb : Good b) (hs : a.length < 1000000000) (hs' : b.length < 1000000000) : Ev (fun k => zaz.f k a b) (sgn (val 10000 a) (val 10000 b)) := by
 by_cases hl : a.length = b.length
 ·
  refine Ev.congr (fun k => ?_) (rCmp_l0 a b ha hb hl hs a.length (Nat.le_refl _) (by rw [V_end _ (Nat.le_refl _), V_end _ (by omega)]))
  rw [zaz.f, if_pos (by omega), w64s (by omega) (by omega)]
 ·
  by_cases h2 : a.length < b.length
  ·
   have hlt := len_lt (by omega) ha hb gb h2
   refine Ev.congr (G := fun _ => some (-1)) (fun k => ?_) ?_
   ·
    rw [zaz.f, if_neg (by omega), if_pos (by omega)]
   ·
    rw [sgn, if_neg (by omega), if_pos hlt]
    exact Ev.const _
  ·
   have hlt := len_lt (by omega) hb ha ga (by omega)
   refine Ev.congr (G := fun _ => some 1) (fun k => ?_) ?_
   ·
    rw [zaz.f, if_neg (by omega), if_neg (by omega)]
   ·
    rw [sgn, if_neg (by omega), if_neg (by omega)]
    exact Ev.const _
def Lo (n : Nat) : Prop := (dig 10000 n).length ≤ 100000
theorem rCmp (x y : Nat) (hx : Lo x) (hy : Lo y) : Ev (fun k => zaz.f k (dig 10000 x) (dig 10000 y)) (sgn x y) := by
 have := rCmp' (dig 10000 x) (dig 10000 y) (zcl (by omega) x) (zcl (by omega) y) (dig_last (by omega) x) (dig_last (by omega) y) (by unfold Lo at hx; omega) (by unfold Lo at hy; omega)
 rwa [zck (by omega), zck (by omega)] at this
theorem add_digit (x y c va vb : Nat) (hne : x + 10000 * va + (y + 10000 * vb) + c ≠ 0) : dig 10000 (x + 10000 * va + (y + 10000 * vb) + c) = (((x + y + c) % 10000 : Nat) : Int) :: dig 10000 (va + vb + (x + y + c) / 10000) := by
 have e : x + 10000 * va + (y + 10000 * vb) + c = (x + y + c) + 10000 * (va + vb) := by omega
 rw [dig_pos (by omega) hne, e, Nat.add_mul_mod_self_left, Nat.add_mul_div_left _ _ (by omega), Nat.add_comm ((x + y + c) / 10000)]
theorem add_wraps (x y c : Nat) (hx : x < 10000) (hy : y < 10000) (hc : c ≤ 1) : wrap64 (wrap64 ((x : Int) + y) + c) = ((x + y + c : Nat) : Int) ∧ Int.tmod ((x + y + c : Nat) : Int) 10000 = (((x + y + c) % 10000 : Nat) : Int) ∧ wrap64 (Int.tdiv ((x + y + c : Nat) : Int) 10000) = (((x + y + c) / 10000 : Nat) : Int) ∧ (x + y + c) / 10000 ≤ 1 := by
 refine ⟨?_, ?_, ?_, by omega⟩
 ·
  rw [w64s (x := (x : Int) + y) (by omega) (by omega), w64s (by omega) (by omega)]
  omega
 ·
  rw [Int.tmod_eq_emod_of_nonneg (by omega)]
  omega
 ·
  rw [Int.tdiv_eq_ediv_of_nonneg (by omega), w64s (by omega) (by omega)]
  omega
theorem rAdd_end (a b : List Int) (i c : Nat) (out : List Int) (h1 : ¬ i < a.length) (h2 : ¬ i < b.length) (h3 : ¬ 0 < c) :
  Ev (fun k => za0.l0 k a b out (c : Int) (i : Int)) (out ++ dig 10000 (V 10000 a i + V 10000 b i + c)) := by
 refine Ev.step (G := fun k => za0.j1 k a b out (c : Int) (i : Int) false) (fun k => ?_) ?_
 ·
  rw [za0.l0, if_neg (by omega), if_neg (by omega), decide_eq_false (by omega)]
 ·
  refine Ev.step (G := fun _ => some out) (fun k => ?_) ?_
  ·
   rw [za0.j1, if_neg (by simp)]
  ·
   rw [V_end _ (by omega), V_end _ (by omega), show c = 0 by omega, zcg, List.append_nil]
   exact Ev.const _
theorem rAdd_l0 (a b : List Int) (ha : Dig 10000 a) (hb : Dig 10000 b) (ga : Good a) (gb : Good b) (hs : a.length < 1000000) (hs' : b.length < 1000000) : ∀ (m i c : Nat) (out : List Int), a.length + 1 ≤ i + m → b.length + 1 ≤ i + m → (i ≤ a.length ∨ i ≤ b.length ∨ c = 0) → c ≤ 1 → i ≤ 1000001 → out.length = i →
  Ev (fun k => za0.l0 k a b out (c : Int) (i : Int)) (out ++ dig 10000 (V 10000 a i + V 10000 b i + c)) := by
 intro m
 induction m with
 | zero =>
  intro i c out hm hm2 hm3 hc hi ho
  exact rAdd_end a b i c out (by omega) (by omega) (by omega)
 | succ m ih =>
  intro i c out hm hm2 hm3 hc hi ho
  by_cases hgo : i < a.length ∨ i < b.length ∨ 0 < c
  ·
   have hi2 : i ≤ 1000000 := by
    clear ih
    rcases hgo with h | h | h <;> rcases hm3 with g | g | g <;> omega
   have ha1 := ha.get (show 0 < 10000 by omega) i
   have hb1 := hb.get (show 0 < 10000 by omega) i
   have hva := zcz 10000 a i
   have hvb := zcz 10000 b i
   obtain ⟨x, hx⟩ := Int.eq_ofNat_of_zero_le ha1.1
   obtain ⟨y, hy⟩ := Int.eq_ofNat_of_zero_le hb1.1
   rw [hx] at hva ha1
   rw [hy] at hvb hb1
   rw [Int.toNat_natCast] at hva hvb
   have hxe : a.length ≤ i → x = 0 := fun h => by
    rw [List.getD_eq_getElem?_getD, List.getElem?_eq_none h] at hx
    exact (Int.ofNat_inj.1 hx).symm
   have hye : b.length ≤ i → y = 0 := fun h => by
    rw [List.getD_eq_getElem?_getD, List.getElem?_eq_none h] at hy
    exact (Int.ofNat_inj.1 hy).symm
   obtain ⟨e1, e2, e3, e5⟩ := add_wraps x y c (by omega) (by omega) hc
   have e4 : wrap64 ((i : Int) + 1) = ((i + 1 : Nat) : Int) := by rw [w64s (by omega) (by omega)]; omega
   have hpos : V 10000 a i + V 10000 b i + c ≠ 0 := pos3 (hgo.imp (V_pos (by decide) ha ga i) (Or.imp (V_pos (by decide) hb gb i) id))
   have ed := add_digit x y c (V 10000 a (i + 1)) (V 10000 b (i + 1)) (by rw [← hva, ← hvb]; exact hpos)
   rw [← hva, ← hvb] at ed
   clear hva hvb hpos
   have E := Lib.hid ed
   have E1 := Lib.hid e1
   have E2 := Lib.hid e2
   have E3 := Lib.hid e3
   have E4 := Lib.hid e4
   clear ed e1 e2 e3 e4
   have h3 : i + 1 ≤ a.length ∨ i + 1 ≤ b.length ∨ (x + y + c) / 10000 = 0 := by
    by_cases h1 : i + 1 ≤ a.length
    ·
     exact .inl h1
    ·
     by_cases h2 : i + 1 ≤ b.length
     ·
      exact .inr (.inl h2)
     ·
      right; right
      rw [hxe (Nat.le_of_lt_succ (Nat.lt_of_not_le h1)), hye (Nat.le_of_lt_succ (Nat.lt_of_not_le h2))]
      clear hxe hye hgo hm3
      omega
   clear hxe hye hm3
   have hgo := Lib.hid hgo
   refine Ev.step (G := fun k => za0.j1 k a b out (c : Int) (i : Int) true) (fun k => ?_) ?_
   ·
    rw [za0.l0]
    by_cases h1 : i < a.length
    ·
     rw [if_pos (by omega)]
    ·
     rw [if_neg (by omega)]
     by_cases h2 : i < b.length
     ·
      rw [if_pos (by omega)]
     ·
      rw [if_neg (by omega), decide_eq_true (by rcases hgo.out with h | h | h <;> omega)]
   ·
    refine Ev.step (G := fun k => za0.l0 k a b (out ++ [(((x + y + c) % 10000 : Nat) : Int)]) (((x + y + c) / 10000 : Nat) : Int) ((i + 1 : Nat) : Int)) (fun k => ?_) ?_
    ·
     rw [za0.j1, if_pos rfl, rat, rat, hx, hy]
     simp only [Option.bind_some]
     rw [if_pos (by omega), E1.out, E2.out, E3.out, E4.out]
    ·
     have ih2 := ih (i + 1) ((x + y + c) / 10000) (out ++ [(((x + y + c) % 10000 : Nat) : Int)]) (by omega) (by omega) h3 e5 (by omega) (by rw [List.length_append, ho]; rfl)
     rw [List.append_assoc] at ih2
     rw [E.out]
     exact ih2
  ·
   exact rAdd_end a b i c out (by omega) (by omega) (by omega)
theorem rAdd (x y : Nat) (hx : Lo x) (hy : Lo y) : Ev (fun k => za0.f k (dig 10000 x) (dig 10000 y)) (dig 10000 (x + y)) := by
 unfold Lo at hx hy
 have := rAdd_l0 (dig 10000 x) (dig 10000 y) (zcl (by omega) x) (zcl (by omega) y) (dig_last (by omega) x) (dig_last (by omega) y) (by omega) (by omega) 1000000 0 0 [] (by omega) (by omega) (by omega) (by omega) (by omega) rfl
 rw [zdc, zdc, zck (by omega), zck (by omega)] at this
 exact this
theorem mul_digit (o x y c : Nat) (ho : o < 10000) (hx : x < 10000) (hy : y < 10000) (hc : c < 10000) : x * y ≤ 99980001 ∧ wrap64 (wrap64 ((o : Int) + wrap64 ((x : Int) * (y : Int))) + (c : Int)) = ((o + x * y + c : Nat) : Int) ∧ Int.tmod ((o + x * y + c : Nat) : Int) 10000 = (((o + x * y + c) % 10000 : Nat) : Int) ∧ wrap64 (Int.tdiv ((o + x * y + c : Nat) : Int) 10000) = (((o + x * y + c) / 10000 : Nat) : Int) ∧ (o + x * y + c) / 10000 < 10000 := by
 have h : x * y ≤ 9999 * 9999 := Nat.mul_le_mul (by omega) (by omega)
 have e : (x : Int) * (y : Int) = ((x * y : Nat) : Int) := by simp
 rw [e]
 refine ⟨by omega, ?_, ?_, ?_, by omega⟩
 ·
  rw [w64s (x := ((x * y : Nat) : Int)) (by omega) (by omega), w64s (x := (o : Int) + ((x * y : Nat) : Int)) (by omega) (by omega), w64s (by omega) (by omega)]
  omega
 ·
  rw [Int.tmod_eq_emod_of_nonneg (by omega)]
  omega
 ·
  rw [Int.tdiv_eq_ediv_of_nonneg (by omega), w64s (by omega) (by omega)]
  omega
theorem rMul_l1 (a b : List Int) (ha : Dig 10000 a) (hb : Dig 10000 b) (hs : a.length < 1000000) (hs' : b.length < 1000000) (i : Nat) (hi : i < a.length) : ∀ (m j c : Nat) (out : List Int), j + m = b.length → c < 10000 → Dig 10000 out → out.length = a.length + b.length →
  ∃ (out' : List Int) (c' : Nat), Dig 10000 out' ∧ out'.length = a.length + b.length ∧ c' < 10000 ∧ (∀ p, i + b.length ≤ p → out'.getD p 0 = out.getD p 0) ∧
   val 10000 out' + 10000 ^ (i + b.length) * c' = val 10000 out + 10000 ^ (i + j) * c + 10000 ^ (i + j) * ((a.getD i 0).toNat * V 10000 b j) ∧
   ∀ r, Ev (fun k => zan.l1 k a b out' (i : Int) (c' : Int) (a.length : Int) (i : Int) (b.length : Int) (b.length : Int)) r → Ev (fun k => zan.l1 k a b out (i : Int) (c : Int) (a.length : Int) (i : Int) (b.length : Int) (j : Int)) r := by
 intro m
 induction m with
 | zero =>
  intro j c out hj hc hd hl
  obtain rfl : j = b.length := by omega
  refine ⟨out, c, hd, hl, hc, fun _ _ => rfl, ?_, fun r h => h⟩
  rw [V_end _ (Nat.le_refl _)]
  simp
 | succ m ih =>
  intro j c out hj hc hd hl
  have hx := ha.get (show 0 < 10000 by decide) i
  have hy := hb.get (show 0 < 10000 by decide) j
  have ho := hd.get (show 0 < 10000 by decide) (i + j)
  have hv := zcz 10000 b j
  obtain ⟨x, hx'⟩ := Int.eq_ofNat_of_zero_le hx.1
  obtain ⟨y, hy'⟩ := Int.eq_ofNat_of_zero_le hy.1
  obtain ⟨o, ho'⟩ := Int.eq_ofNat_of_zero_le ho.1
  rw [hx'] at hx ⊢
  rw [hy'] at hy hv
  rw [ho'] at ho
  rw [Int.toNat_natCast] at hv ⊢
  obtain ⟨b1, e1, e2, e3, e5⟩ := mul_digit o x y c (by omega) (by omega) (by omega) hc
  have E1 := Lib.hid e1
  have E2 := Lib.hid e2
  have E3 := Lib.hid e3
  clear e1 e2 e3
  have hset := val_set 10000 out (i + j) (((o + x * y + c) % 10000 : Nat) : Int) (by omega)
  rw [ho', Int.toNat_natCast, Int.toNat_natCast] at hset
  obtain ⟨out', c', h1, h2, h3, h4, h5, h6⟩ := ih (j + 1) ((o + x * y + c) / 10000) (out.set (i + j) (((o + x * y + c) % 10000 : Nat) : Int)) (by omega) e5 (dig_set hd _ (by omega) (by omega)) (by rw [List.length_set]; exact hl)
  have EJ := Lib.hid (wadd i j (by omega))
  have EK := Lib.hid (wadd1 j (by omega))
  refine ⟨out', c', h1, h2, h3, fun p hp => ?_, ?_, fun r hr => ?_⟩
  ·
   rw [h4 p hp, getD_set_ne (by omega)]
  ·
   rw [h5, hx', Int.toNat_natCast, show i + (j + 1) = i + j + 1 by omega, Nat.pow_succ]
   exact mul_val _ _ o x y c _ _ _ _ _ _ hset hv (by omega)
  ·
   refine Ev.step (fun k => ?_) (h6 r hr)
   rw [zan.l1, if_pos (by omega), EJ.out, if_pos (by omega), if_pos (by omega), if_pos (by omega), if_pos (by omega), if_pos (by omega), if_pos (by omega), rd_nat, rd_nat, rd_nat, hx', hy', ho', E1.out, E2.out, E3.out, EK.out, Int.toNat_natCast]
theorem rMul_l0 (a b : List Int) (ha : Dig 10000 a) (hb : Dig 10000 b) (hs : a.length < 1000000) (hs' : b.length < 1000000) : ∀ (m i : Nat) (out : List Int), i + m = a.length → Dig 10000 out → out.length = a.length + b.length → (∀ p, i + b.length ≤ p → out.getD p 0 = 0) →
  Ev (fun k => zan.l0 k a b out (a.length : Int) (i : Int)) (dig 10000 (val 10000 out + 10000 ^ i * (V 10000 a i * val 10000 b))) := by
 intro m
 induction m with
 | zero =>
  intro i out hi hd hl hz
  refine Ev.step (G := fun k => (zas.f k out).bind fun t190 => some t190) (fun k => ?_) ?_
  ·
   rw [zan.l0, if_neg (by omega)]
  ·
   rw [V_end _ (by omega), Nat.zero_mul, Nat.mul_zero, Nat.add_zero]
   exact Ev.bind (rtrim_dig out (by omega) hd) (Ev.const _)
 | succ m ih =>
  intro i out hi hd hl hz
  obtain ⟨out', c', h1, h2, h3, h4, h5, h6⟩ := rMul_l1 a b ha hb hs hs' i (by omega) b.length 0 0 out (by omega) (by omega) hd hl
  have hz' := (h4 (i + b.length) (Nat.le_refl _)).trans (hz _ (Nat.le_refl _))
  have hset := val_set 10000 out' (i + b.length) (c' : Int) (by omega)
  rw [hz', Int.toNat_natCast] at hset
  have EI := Lib.hid (wadd i b.length (by omega))
  have EI1 := Lib.hid (wadd1 i (by omega))
  have EC := Lib.hid (show wrap64 (0 + (c' : Int)) = (c' : Int) by rw [Int.zero_add]; exact wid c' (by omega))
  have ih2 := ih (i + 1) (out'.set (i + b.length) (c' : Int)) (by omega) (dig_set h1 _ (by omega) (by omega)) (by rw [List.length_set]; exact h2) (fun p hp => by
   rw [getD_set_ne (by omega), h4 p (by omega), hz p (by omega)])
  have hva := zcz 10000 a i
  have hval : val 10000 out + 10000 ^ i * (V 10000 a i * val 10000 b) = val 10000 (out'.set (i + b.length) (c' : Int)) + 10000 ^ (i + 1) * (V 10000 a (i + 1) * val 10000 b) := by
   rw [hva, Nat.add_mul, Nat.mul_add, Nat.pow_succ, Nat.mul_assoc 10000, ← Nat.mul_assoc (10000 ^ i) 10000]
   rw [zdc, Nat.add_zero, Nat.mul_zero, Nat.add_zero] at h5
   simp only [Int.toNat_zero, Nat.mul_zero, Nat.add_zero] at hset
   omega
  rw [hval]
  refine Ev.step (G := fun k => zan.l1 k a b out (i : Int) 0 (a.length : Int) (i : Int) (b.length : Int) 0) (fun k => ?_) (h6 _ ?_)
  ·
   rw [zan.l0, if_pos (by omega)]
  ·
   refine Ev.step (fun k => ?_) ih2
   rw [zan.l1, if_neg (by omega), EI.out, if_pos (by omega), if_pos (by omega), rd_nat, hz', EC.out, EI1.out, Int.toNat_natCast]
theorem rMul (x y : Nat) (hx : Lo x) (hy : Lo y) : Ev (fun k => zan.f k (dig 10000 x) (dig 10000 y)) (dig 10000 (x * y)) := by
 unfold Lo at hx hy
 have dx := zcl (B := 10000) (by omega) x
 have dy := zcl (B := 10000) (by omega) y
 have vx := zck (B := 10000) (by omega) x
 have vy := zck (B := 10000) (by omega) y
 generalize dig 10000 x = a at *
 generalize dig 10000 y = b at *
 have h := rMul_l0 a b dx dy (by omega) (by omega) a.length 0 (List.replicate (a.length + b.length) 0) (by omega) (Dig.rep (by omega) _) (by simp) (fun p _ => by
  rw [List.getD_eq_getElem?_getD, List.getElem?_replicate]
  split <;> rfl)
 rw [zdc, zcp, vx, vy, Nat.pow_zero, Nat.one_mul, Nat.zero_add] at h
 refine Ev.congr (fun k => ?_) h
 rw [zan.f, wadd a.length b.length (by omega)]
 rw [if_pos (by omega), Int.toNat_natCast, if_pos (by omega)]
 rfl
theorem Lo_lt {n m : Nat} (h : n < 18446744073709551616 ^ m) (hm : m ≤ 20000) : Lo n := by
 have h2 : 18446744073709551616 ^ m ≤ (10000 ^ 5) ^ m := Nat.pow_le_pow_left (by decide) m
 rw [← Nat.pow_mul] at h2
 have := dig_length (B := 10000) (by decide) (5 * m) n (Nat.lt_of_lt_of_le h h2)
 unfold Lo
 omega
theorem limb_wraps (p : Nat) (hp : p < 18446744073709551616) : IntKind.u64.wrap (Int.tdiv (p : Int) 65536) = ((p / 65536 : Nat) : Int) ∧ wrap64 (Int.tmod (p : Int) 65536) = ((p % 65536 : Nat) : Int) := by
 constructor
 ·
  rw [Int.tdiv_eq_ediv_of_nonneg (by omega), u64s (by omega) (by omega)]
  omega
 ·
  rw [Int.tmod_eq_emod_of_nonneg (by omega), w64s (by omega) (by omega)]
  omega
theorem rLimbs_l2 (l : List Int) (i : Int) (kk : Nat) (hk : kk ≤ 3) (n : Nat) (r : List Int) (h0 : Lo n) : ∀ (m p j : Nat), j + m = kk → p < 18446744073709551616 → Lo (n * 65536) → Ev (fun k => zaf.l1 k l (dig 10000 (n * 65536 + (p / 65536 ^ m) % 65536)) i (wrap64 ((kk : Int) - 1))) r →
  Ev (fun k => zaf.l2 k l (dig 10000 n) i (kk : Int) (p : Int) (kk : Int) (j : Int)) r := by
 intro m
 induction m with
 | zero =>
  intro p j hj hp h1 h
  obtain ⟨w1, w2⟩ := limb_wraps p hp
  have W2 := Lib.hid w2
  clear w1 w2
  have hs : Lo (p % 65536) := Lo_lt (m := 1) (by omega) (by omega)
  have h65 : Ev (fun k => zay.f k 65536) (dig 10000 65536) := rOf 65536 (by omega)
  refine Ev.step (G := fun k => (zay.f k 65536).bind fun t209 => (zan.f k (dig 10000 n) t209).bind fun t212 => (zay.f k ((p % 65536 : Nat) : Int)).bind fun t215 => (za0.f k t212 t215).bind fun t218 => zaf.l1 k l t218 i (wrap64 ((kk : Int) - 1))) (fun k => ?_) ?_
  ·
   rw [zaf.l2, if_neg (by omega), W2.out]
  ·
   refine Ev.bind h65 (Ev.bind (rMul n 65536 h0 (Lo_lt (m := 1) (by omega) (by omega))) (Ev.bind (rOf (p % 65536) (by omega)) (Ev.bind (rAdd (n * 65536) (p % 65536) h1 hs) ?_)))
   rw [Nat.pow_zero, Nat.div_one] at h
   exact h
 | succ m ih =>
  intro p j hj hp h1 h
  obtain ⟨w1, w2⟩ := limb_wraps p hp
  have W1 := Lib.hid w1
  clear w1 w2
  have WA := Lib.hid (wadd1 j (by omega))
  refine Ev.step (fun k => ?_) (ih (p / 65536) (j + 1) (by omega) (by omega) h1 (by rw [show p / 65536 / 65536 ^ m = p / 65536 ^ (m + 1) by rw [Nat.div_div_eq_div_mul, Nat.pow_succ, Nat.mul_comm]]; exact h))
  rw [zaf.l2, if_pos (by omega), W1.out, WA.out]
theorem rLimbs_l1 (l : List Int) (i x : Nat) (hi : i < l.length) (hx : l.getD i 0 = (x : Int)) (hx1 : x < 18446744073709551616) (kk : Nat) (hk : kk ≤ 3) (n n' : Nat) (hn : n' = n * 65536 + (x / 65536 ^ kk) % 65536) (h0 : Lo n) (h1 : Lo (n * 65536)) (r : List Int)
  (h : Ev (fun k => zaf.l1 k l (dig 10000 n') (i : Int) (wrap64 ((kk : Int) - 1))) r) : Ev (fun k => zaf.l1 k l (dig 10000 n) (i : Int) (kk : Int)) r := by
 subst hn
 refine Ev.step (fun k => ?_) (rLimbs_l2 l (i : Int) kk hk n r h0 kk x 0 (by omega) hx1 h1 h)
 rw [zaf.l1, if_pos (by omega), if_pos (by omega), if_pos (by omega), rd_nat, hx]
 rfl
theorem rLimbs_l0 (l : List Int) (hd : Dig 18446744073709551616 l) (hl : l.length ≤ 10000) : ∀ i : Nat, i ≤ l.length → Ev (fun k => zaf.l0 k l (dig 10000 (V 18446744073709551616 l i)) ((i : Int) - 1)) (dig 10000 (val 18446744073709551616 l)) := by
 intro i
 induction i with
 | zero =>
  intro _
  refine Ev.step (G := fun _ => some (dig 10000 (V 18446744073709551616 l 0))) (fun k => ?_) (Ev.const _)
  rw [zaf.l0, if_neg (by omega)]
 | succ i ih =>
  intro hi
  have hg := hd.get (show 0 < 18446744073709551616 by decide) i
  obtain ⟨x, hx⟩ := Int.eq_ofNat_of_zero_le hg.1
  rw [hx] at hg
  have hx1 : x < 18446744073709551616 := by omega
  have hv := zcz 18446744073709551616 l i
  rw [hx, Int.toNat_natCast] at hv
  have hb := V_bound (show 0 < 18446744073709551616 by decide) hd i
  have hlo : ∀ m, m ≤ V 18446744073709551616 l i → Lo m := fun m hm => Lo_lt (Nat.lt_of_le_of_lt hm hb) (by omega)
  clear hb
  generalize V 18446744073709551616 l i = v at *
  generalize V 18446744073709551616 l (i + 1) = n at *
  have e0 : ((i + 1 : Nat) : Int) - 1 = (i : Int) := by omega
  rw [e0]
  have ih2 := ih (by omega)
  refine Ev.step (G := fun k => zaf.l1 k l (dig 10000 n) (i : Int) 3) (fun k => ?_) ?_
  ·
   rw [zaf.l0, if_pos (by omega)]
  ·
   refine rLimbs_l1 l i x (by omega) hx hx1 3 (by omega) n (n * 65536 + x / 281474976710656) (by omega) (hlo _ (by omega)) (hlo _ (by omega)) _ ?_
   rw [show wrap64 ((3 : Nat) - 1) = ((2 : Nat) : Int) from w64s (by omega) (by omega)]
   refine rLimbs_l1 l i x (by omega) hx hx1 2 (by omega) _ (n * 4294967296 + x / 4294967296) (by omega) (hlo _ (by omega)) (hlo _ (by omega)) _ ?_
   rw [show wrap64 ((2 : Nat) - 1) = ((1 : Nat) : Int) from w64s (by omega) (by omega)]
   refine rLimbs_l1 l i x (by omega) hx hx1 1 (by omega) _ (n * 281474976710656 + x / 65536) (by omega) (hlo _ (by omega)) (hlo _ (by omega)) _ ?_
   rw [show wrap64 ((1 : Nat) - 1) = ((0 : Nat) : Int) from w64s (by omega) (by omega)]
   refine rLimbs_l1 l i x (by omega) hx hx1 0 (by omega) _ v (by omega) (hlo _ (by omega)) (hlo _ (by omega)) _ ?_
   refine Ev.step (fun k => ?_) ih2
   rw [show wrap64 ((0 : Nat) - 1) = -1 from w64s (by omega) (by omega), zaf.l1, if_neg (by omega), w64s (by omega) (by omega)]
theorem rLimbs (l : List Int) (hd : Dig 18446744073709551616 l) (hl : l.length ≤ 10000) : Ev (fun k => zaf.f k l) (dig 10000 (val 18446744073709551616 l)) := by
 have h := rLimbs_l0 l hd hl l.length (Nat.le_refl _)
 rw [V_end _ (Nat.le_refl _), zcg] at h
 refine Ev.congr (fun k => ?_) h
 rw [zaf.f, w64s (by omega) (by omega)]
theorem nIs (n : Nat) (hl : (dig 18446744073709551616 n).length ≤ 10000) : Ev (fun k => zb6.f k (dig 18446744073709551616 n) (dig 10000 n)) true := by
 have hL := rLimbs (dig 18446744073709551616 n) (zcl (by decide) n) hl
 rw [zck (by decide)] at hL
 have hlo : Lo n := Lo_lt (m := (dig 18446744073709551616 n).length) (by
  have := val_lt _ (zcl (B := 18446744073709551616) (by decide) n)
  rwa [zck (by decide)] at this) (by omega)
 refine Ev.congr (G := fun k => (zaf.f k (dig 18446744073709551616 n)).bind fun t226 => (zaz.f k t226 (dig 10000 n)).bind fun t229 => some (t229 == 0)) (fun k => ?_) ?_
 ·
  rw [zb6.f, rGood _ (by omega), goodB_dig]
  rfl
 ·
  refine Ev.bind hL (Ev.bind (rCmp n n hlo hlo) ?_)
  rw [sgn, if_pos rfl]
  exact Ev.const _
theorem rsub_digit (x y bo va vb : Nat) (hx : x < 10000) (hy : y < 10000) (hbo : bo ≤ 1) (h : y + 10000 * vb + bo ≤ x + 10000 * va) :
  ∃ d bo' : Nat, d < 10000 ∧ bo' ≤ 1 ∧ d + y + bo = x + 10000 * bo' ∧ vb + bo' ≤ va ∧
   ((wrap64 (wrap64 ((x : Int) - (y : Int)) - (bo : Int)) < 0 ∧ bo' = 1 ∧ wrap64 (wrap64 (wrap64 ((x : Int) - (y : Int)) - (bo : Int)) + 10000) = (d : Int)) ∨ (¬ wrap64 (wrap64 ((x : Int) - (y : Int)) - (bo : Int)) < 0 ∧ bo' = 0 ∧ wrap64 (wrap64 ((x : Int) - (y : Int)) - (bo : Int)) = (d : Int))) := by
 rw [w64s (x := (x : Int) - (y : Int)) (by omega) (by omega), w64s (x := (x : Int) - (y : Int) - (bo : Int)) (by omega) (by omega)]
 by_cases hlt : x < y + bo
 ·
  refine ⟨x + 10000 - y - bo, 1, by omega, by omega, by omega, by omega, .inl ⟨by omega, rfl, ?_⟩⟩
  rw [w64s (by omega) (by omega)]
  omega
 ·
  exact ⟨x - y - bo, 0, by omega, by omega, by omega, by omega, .inr ⟨by omega, rfl, by omega⟩⟩
theorem rSub_l0 (a b : List Int) (ha : Dig 10000 a) (hb : Dig 10000 b) (hs : a.length < 1000000) (hs' : b.length ≤ a.length) (T : Nat) : ∀ (m i bo : Nat) (out : List Int), i + m = a.length → bo ≤ 1 → out.length = i → Dig 10000 out →
  V 10000 b i + bo ≤ V 10000 a i → val 10000 out + 10000 ^ i * V 10000 a i = T + 10000 ^ i * (V 10000 b i + bo) →
  Ev (fun k => za6.l0 k a b out (bo : Int) (a.length : Int) (i : Int)) (dig 10000 T) := by
 intro m
 induction m with
 | zero =>
  intro i bo out hi hbo ho hd hle hT
  refine Ev.step (G := fun k => (zas.f k out).bind fun t335 => some t335) (fun k => ?_) ?_
  ·
   rw [za6.l0, if_neg (by omega)]
  ·
   have h := rtrim_dig out (by omega) hd
   rw [V_end _ (show a.length ≤ i by omega)] at hT hle
   have h0 : V 10000 b i + bo = 0 := by omega
   rw [h0, Nat.mul_zero, Nat.add_zero, Nat.add_zero] at hT
   rw [hT] at h
   exact Ev.bind h (Ev.const _)
 | succ m ih =>
  intro i bo out hi hbo ho hd hle hT
  have ha1 := ha.get (show 0 < 10000 by decide) i
  have hb1 := hb.get (show 0 < 10000 by decide) i
  have hva := zcz 10000 a i
  have hvb := zcz 10000 b i
  obtain ⟨x, hx⟩ := Int.eq_ofNat_of_zero_le ha1.1
  obtain ⟨y, hy⟩ := Int.eq_ofNat_of_zero_le hb1.1
  rw [hx] at hva ha1
  rw [hy] at hvb hb1
  rw [Int.toNat_natCast] at hva hvb
  rw [hva, hvb] at hle hT
  obtain ⟨d, bo', h1, h2, h3, h4, h5⟩ := rsub_digit x y bo _ _ (by omega) (by omega) hbo hle
  have hv := less_val _ _ _ _ _ _ _ _ _ _ _ hT h3
  rw [← Nat.pow_succ] at hv
  have hval : val 10000 (out ++ [(d : Int)]) = val 10000 out + 10000 ^ i * d := by
   rw [val_append, ho]
   simp [val]
  rw [← hval] at hv
  have H5 := Lib.hid h5
  have ih2 := ih (i + 1) bo' (out ++ [(d : Int)]) (by clear h5; omega) h2 (by rw [List.length_append, ho]; rfl) (hd.app (Dig.mk (by clear h5; omega) (by clear h5; omega) (Dig.nil _))) h4 hv
  clear h5 hv hval hT hle hva hvb h3 h4
  have H2 := Lib.hid ih2
  have WA := Lib.hid (wadd1 i (by omega))
  clear ih2
  refine Ev.step (fun k => ?_) H2.out
  rw [za6.l0, if_pos (by omega), if_pos (by omega), if_pos (by omega), rat, Option.bind_some, rd_nat, hx, hy]
  rcases H5.out with ⟨c1, c2, c3⟩ | ⟨c1, c2, c3⟩
  ·
   rw [if_pos c1, c3, c2]
   clear c1 c3
   rw [if_pos (by omega), WA.out]
   rfl
  ·
   rw [if_neg c1, c3, c2]
   clear c1 c3
   rw [if_pos (by omega), WA.out]
   rfl
theorem rSub (x y : Nat) (hx : Lo x) (hy : y ≤ x) : Ev (fun k => za6.f k (dig 10000 x) (dig 10000 y)) (dig 10000 (x - y)) := by
 have hl := dig_mono (B := 10000) (by decide) hy
 unfold Lo at hx
 have dx := zcl (B := 10000) (by decide) x
 have dy := zcl (B := 10000) (by decide) y
 have vx := zck (B := 10000) (by decide) x
 have vy := zck (B := 10000) (by decide) y
 generalize dig 10000 x = a at *
 generalize dig 10000 y = b at *
 have h := rSub_l0 a b dx dy (by omega) hl (x - y) a.length 0 0 [] (by omega) (by omega) rfl (Dig.nil _) (by rw [zdc, zdc, vx, vy]; omega) (by rw [zdc, zdc, vx, vy]; simp [val]; omega)
 exact h
theorem Is_lt {x m : Nat} (hx : x < 18446744073709551616 ^ m) (h : m ≤ 10000) : Ev (fun k => zb6.f k (dig 18446744073709551616 x) (dig 10000 x)) true := nIs x (Nat.le_trans (dig_length (by decide) m x hx) h)
theorem limbs_dig {x m : Nat} (hx : x < 18446744073709551616 ^ m) (h : m ≤ 10000) : Ev (fun k => zaf.f k (dig 18446744073709551616 x)) (dig 10000 x) := by
 have := rLimbs (dig 18446744073709551616 x) (zcl (by decide) x) (Nat.le_trans (dig_length (by decide) m x hx) h)
 rwa [zck (by decide)] at this
theorem mid_wraps (low high : Nat) (h : low < high) (hh : high < 10000) : wrap64 (Int.tdiv (wrap64 ((wrap64 ((low : Int) + (high : Int))) + 1)) 2) = (((low + high + 1) / 2 : Nat) : Int) := by
 rw [w64s (x := (low : Int) + (high : Int)) (by omega) (by omega), w64s (x := (low : Int) + (high : Int) + 1) (by omega) (by omega), Int.tdiv_eq_ediv_of_nonneg (by omega), w64s (by omega) (by omega)]
 omega
theorem rDiv_l1 (a : List Int) (y L : Nat) (hy : 0 < y) (hyl : Lo y) (hLl : Lo L) (hd : L / y < 10000) (hmul : ∀ m, m < 10000 → Lo (y * m)) (out : List Int) (i : Nat) (r : List Int × List Int) : ∀ (n low high : Nat), high - low ≤ n → low ≤ L / y → L / y ≤ high → high < 10000 →
  Ev (fun k => zam.l1 k a (dig 10000 y) out (dig 10000 L) (i : Int) ((L / y : Nat) : Int) ((L / y : Nat) : Int)) r →
  Ev (fun k => zam.l1 k a (dig 10000 y) out (dig 10000 L) (i : Int) (low : Int) (high : Int)) r := by
 intro n
 induction n with
 | zero =>
  intro low high hn h1 h2 h3 h
  rw [show low = L / y by omega, show high = L / y by omega]
  exact h
 | succ n ih =>
  intro low high hn h1 h2 h3 h
  by_cases hlt : low < high
  ·
   have WM := Lib.hid (mid_wraps low high hlt h3)
   have hm1 : low < (low + high + 1) / 2 := by omega
   have hm2 : (low + high + 1) / 2 ≤ high := by omega
   have hcmp : (low + high + 1) / 2 ≤ L / y ↔ y * ((low + high + 1) / 2) ≤ L := by rw [Nat.le_div_iff_mul_le hy, Nat.mul_comm]
   generalize (low + high + 1) / 2 = m at *
   have WS := Lib.hid (wsub1 m (by omega) (by omega))
   have c := rCmp (y * m) L (hmul m (by omega)) hLl
   refine Ev.step (G := fun k => (zay.f k (m : Int)).bind fun t541 => (zan.f k (dig 10000 y) t541).bind fun t544 => (zaz.f k t544 (dig 10000 L)).bind fun t547 => if t547 ≤ 0 then zam.l1 k a (dig 10000 y) out (dig 10000 L) (i : Int) (m : Int) (high : Int) else zam.l1 k a (dig 10000 y) out (dig 10000 L) (i : Int) (low : Int) ((m - 1 : Nat) : Int)) (fun k => ?_) (Ev.bind (rOf m (by omega)) (Ev.bind (rMul y m hyl (Lo_lt (m := 1) (by omega) (by omega))) (Ev.bind c ?_)))
   ·
    rw [zam.l1, if_pos (by omega), WM.out, WS.out]
   ·
    by_cases hle : y * m ≤ L
    ·
     have hs : sgn (y * m) L ≤ 0 := by
      unfold sgn
      split
      ·
       omega
      ·
       rw [if_pos (by omega)]
       omega
     exact Ev.pos hs (ih m high (by omega) (hcmp.2 hle) h2 h3 h)
    ·
     have hs : ¬ sgn (y * m) L ≤ 0 := by
      rw [sgn_gt (by omega)]
      omega
     refine Ev.neg hs (ih low (m - 1) (by omega) h1 ?_ (by omega) h)
     have := mt hcmp.1 hle
     omega
  ·
   rw [show low = L / y by omega, show high = L / y by omega]
   exact h
theorem rdiv_val (Q y X ai l d l' Vn Vi B : Nat) (h : Q * y + X * B * l = X * B * Vn) (hV : Vi = ai + B * Vn) (hl : d * y + l' = ai + B * l) : (Q + X * d) * y + X * l' = X * Vi := by
 have h1 : X * (d * y + l') = X * (ai + B * l) := by rw [hl]
 rw [hV, Nat.add_mul, Nat.mul_assoc]
 rw [Nat.mul_assoc, Nat.mul_assoc] at h
 simp only [Nat.mul_add] at h1 ⊢
 omega
theorem rDiv_l0 (a : List Int) (ha : Dig 10000 a) (hs : a.length ≤ 50000) (y : Nat) (hy : 0 < y) (hyl : Lo y) (hmul : ∀ m, m < y * 10000 → Lo m) : ∀ (m l : Nat) (out : List Int), m ≤ a.length → l < y → out.length = a.length → Dig 10000 out → (∀ p, p < m → out.getD p 0 = 0) →
  val 10000 out * y + 10000 ^ m * l = 10000 ^ m * V 10000 a m →
  Ev (fun k => zam.l0 k a (dig 10000 y) out (dig 10000 l) ((m : Int) - 1)) (dig 10000 (val 10000 a / y), dig 10000 (val 10000 a % y)) := by
 intro m
 induction m with
 | zero =>
  intro l out _ hl ho hd hz hv
  refine Ev.step (G := fun k => (zas.f k out).bind fun t518 => some (t518, dig 10000 l)) (fun k => ?_) ?_
  ·
   rw [zam.l0, if_neg (by omega)]
  ·
   have h := rtrim_dig out (by omega) hd
   rw [Nat.pow_zero, Nat.one_mul, Nat.one_mul, zdc] at hv
   have e1 : val 10000 a / y = val 10000 out := by
    rw [← hv, Nat.add_comm, Nat.add_mul_div_right _ _ hy, Nat.div_eq_of_lt hl, Nat.zero_add]
   have e2 : val 10000 a % y = l := by
    rw [← hv, Nat.add_comm, Nat.add_mul_mod_self_right, Nat.mod_eq_of_lt hl]
   rw [e1, e2]
   exact Ev.bind h (Ev.const _)
 | succ i ih =>
  intro l out hm hl ho hd hz hv
  have hg := ha.get (show 0 < 10000 by decide) i
  obtain ⟨x, hx⟩ := Int.eq_ofNat_of_zero_le hg.1
  rw [hx] at hg
  have hva := zcz 10000 a i
  rw [hx, Int.toNat_natCast] at hva
  have hLlt : x + 10000 * l < y * 10000 := by omega
  have hdl : (x + 10000 * l) / y < 10000 := by
   rw [Nat.div_lt_iff_lt_mul hy]
   omega
  have hLo := hmul _ hLlt
  have hll := hmul l (by omega)
  have hll2 := hll
  unfold Lo at hll2
  have htr := rtrim_dig ((x : Int) :: dig 10000 l) (by rw [List.length_cons]; omega) (Dig.mk (by omega) (by omega) (zcl (by decide) l))
  rw [val, zck (by decide), Int.toNat_natCast] at htr
  have hdm := Nat.div_add_mod (x + 10000 * l) y
  have hml := Nat.mod_lt (x + 10000 * l) hy
  have hmy : ∀ m, m < 10000 → Lo (y * m) := fun m hm => hmul _ (Nat.mul_lt_mul_of_pos_left hm hy)
  have hl1 := rDiv_l1 a y (x + 10000 * l) hy hyl hLo hdl hmy out i (dig 10000 (val 10000 a / y), dig 10000 (val 10000 a % y)) 9999 0 9999 (by omega) (Nat.zero_le _) (by omega) (by omega)
  generalize (x + 10000 * l) / y = q at *
  generalize (x + 10000 * l) % y = s at *
  have hset := val_set 10000 out i (q : Int) (by omega)
  rw [hz i (by omega), Int.toNat_natCast, Int.toNat_zero, Nat.mul_zero, Nat.add_zero] at hset
  rw [Nat.pow_succ] at hv
  have hnew := rdiv_val _ _ _ x l q s _ _ _ hv hva (by rw [Nat.mul_comm]; exact hdm)
  rw [← hset] at hnew
  have hle : y * q ≤ x + 10000 * l := by omega
  have hsub := rSub (x + 10000 * l) (y * q) hLo hle
  rw [show x + 10000 * l - y * q = s by omega] at hsub
  have ih2 := ih s (out.set i (q : Int)) (by omega) hml (by rw [List.length_set]; exact ho) (dig_set hd _ (by omega) (by omega)) (fun p hp => by rw [getD_set_ne (by omega)]; exact hz p (by omega)) hnew
  have E3 := Lib.hid (show wrap64 ((i : Int) - 1) = (i : Int) - 1 from w64s (by omega) (by omega))
  have e0 : ((i + 1 : Nat) : Int) - 1 = (i : Int) := by omega
  rw [e0]
  clear hset hnew hdm hva hv
  refine Ev.step (G := fun k => (zas.f k ((x : Int) :: dig 10000 l)).bind fun t528 => zam.l1 k a (dig 10000 y) out t528 (i : Int) 0 9999) (fun k => ?_) (Ev.bind htr ?_)
  ·
   rw [zam.l0, if_pos (by omega), if_pos (by omega), if_pos (by omega), Option.bind_some, rd_nat, hx]
   show (if ([(x : Int)] : List Int).length + (dig 10000 l).length < 17592186044416 then _ else _) = _
   rw [if_pos (by rw [List.length_singleton]; omega)]
   rfl
  ·
   refine hl1 ?_
   have hof := rOf q (by omega)
   have hmu := rMul y q hyl (Lo_lt (m := 1) (by omega) (by omega))
   refine Ev.step (G := fun k => (zay.f k (q : Int)).bind fun t532 => (zan.f k (dig 10000 y) t532).bind fun t535 => (za6.f k (dig 10000 (x + 10000 * l)) t535).bind fun t538 => zam.l0 k a (dig 10000 y) (out.set i (q : Int)) t538 ((i : Int) - 1)) (fun k => ?_) (Ev.bind hof (Ev.bind hmu (Ev.bind hsub ih2)))
   rw [zam.l1, if_neg (by omega), if_pos (by omega), if_pos (by omega), E3.out, Int.toNat_natCast]
theorem rDiv (x y : Nat) (hy : 0 < y) (hx : (dig 10000 x).length ≤ 50000) (hyl : Lo y) (hmul : ∀ m, m < y * 10000 → Lo m) : Ev (fun k => zam.f k (dig 10000 x) (dig 10000 y)) (dig 10000 (x / y), dig 10000 (x % y)) := by
 have dx := zcl (B := 10000) (by decide) x
 have vx := zck (B := 10000) (by decide) x
 generalize dig 10000 x = a at *
 have h := rDiv_l0 a dx hx y hy hyl hmul a.length 0 (List.replicate a.length 0) (Nat.le_refl _) hy (by simp) (Dig.rep (by decide) _) (fun p _ => by
  rw [List.getD_eq_getElem?_getD, List.getElem?_replicate]
  split <;> rfl) (by rw [zcp, V_end _ (Nat.le_refl _)]; simp)
 rw [vx, zcg] at h
 refine Ev.congr (fun k => ?_) h
 rw [zam.f, if_pos (by omega), Int.toNat_natCast, if_pos (by omega), w64s (by omega) (by omega)]
theorem rGcd_l0 (M : Nat) (hM : ∀ m, m < M * 10000 → (dig 10000 m).length ≤ 50000) : ∀ (y x : Nat), x ≤ M → y ≤ M → Ev (fun k => zbb.l0 k (dig 10000 x) (dig 10000 y)) (dig 10000 (Nat.gcd x y)) := by
 intro y
 induction y using Nat.strongRecOn with
 | ind y ih =>
  intro x hx hyl
  by_cases hy : y = 0
  ·
   subst hy
   refine Ev.step (G := fun _ => some (dig 10000 x)) (fun k => ?_) ?_
   ·
    rw [zcg, zbb.l0, if_neg (by simp)]
   ·
    rw [Nat.gcd_zero_right]
    exact Ev.const _
  ·
   have hpos : 0 < y := by omega
   have hne := dig_ne (B := 10000) (by decide) hy
   have hl0 : 0 < (dig 10000 y).length := List.length_pos_iff.2 hne
   have hmod := Nat.mod_lt x hpos
   have ih2 := ih (x % y) hmod y hyl (by omega)
   have hg : Nat.gcd x y = Nat.gcd y (x % y) := by rw [Nat.gcd_comm x y, Nat.gcd_rec y x, Nat.gcd_comm]
   have hlo : ∀ m, m < M * 10000 → Lo m := fun m hm => by
    have := hM m hm
    unfold Lo
    omega
   have hdv := rDiv x y hpos (hM x (by omega)) (hlo y (by omega)) (fun m hm => hlo m (Nat.lt_of_lt_of_le hm (Nat.mul_le_mul_right _ hyl)))
   refine Ev.step (G := fun k => (zam.f k (dig 10000 x) (dig 10000 y)).bind fun bt548 => zbb.l0 k (dig 10000 y) bt548.2) (fun k => ?_) (Ev.bind hdv ?_)
   ·
    rw [zbb.l0, if_pos (by omega)]
   ·
    rw [hg]
    exact ih2
theorem Lo5 {n m : Nat} (h : n < 18446744073709551616 ^ m) : (dig 10000 n).length ≤ 5 * m := by
 have h2 : 18446744073709551616 ^ m ≤ (10000 ^ 5) ^ m := Nat.pow_le_pow_left (by decide) m
 rw [← Nat.pow_mul] at h2
 exact dig_length (B := 10000) (by decide) (5 * m) n (Nat.lt_of_lt_of_le h h2)
theorem rev_ind {α : Type} {P : List α → Prop} (h0 : P []) (hs : ∀ l b, P l → P (l ++ [b])) (l : List α) : P l := by
 rw [← List.reverse_reverse l]
 induction l.reverse with
 | nil => exact h0
 | cons b l ih => rw [List.reverse_cons]; exact hs _ _ ih
def padD : Nat → Nat → List UInt8
 | 0, _ => []
 | k + 1, r => padD k (r / 10) ++ [UInt8.ofNat (48 + r % 10)]
theorem zdb : ∀ k r, (padD k r).length = k
 | 0, _ => rfl
 | k + 1, r => by simp [padD, zdb k]
theorem decD_app : ∀ (k q r : Nat), 0 < q → r < 10 ^ k → Lib.decDigits (q * 10 ^ k + r) = Lib.decDigits q ++ padD k r
 | 0, q, r, _, h => by
  have : r = 0 := by simpa using h
  subst this; simp [padD]
 | k + 1, q, r, h0, h => by
  have hp : 1 ≤ q * 10 ^ (k + 1) := Nat.mul_pos h0 (Nat.pow_pos (by omega))
  have hp2 : 10 ≤ q * 10 ^ (k + 1) := by rw [Nat.pow_succ, ← Nat.mul_assoc]; have := Nat.mul_pos h0 (Nat.pow_pos (n := k) (show 0 < 10 by omega)); omega
  rw [Lib.decDigits, dif_neg (by omega)]
  have e1 : (q * 10 ^ (k + 1) + r) / 10 = q * 10 ^ k + r / 10 := by
   rw [Nat.pow_succ, ← Nat.mul_assoc]; omega
  have e2 : (q * 10 ^ (k + 1) + r) % 10 = r % 10 := by
   rw [Nat.pow_succ, ← Nat.mul_assoc]; omega
  rw [e1, e2, decD_app k q (r / 10) h0 (by rw [Nat.pow_succ] at h; omega)]
  simp [padD]
theorem padD_small : ∀ (k r : Nat), 0 < k → r < 10 ^ k → padD k r = List.replicate (k - (Lib.decDigits r).length) 48 ++ Lib.decDigits r
 | 0, _, h, _ => by omega
 | k + 1, r, _, h => by
  by_cases hr : r < 10
  ·
   rw [Lib.decDigits, dif_pos hr]
   have : ∀ k, padD k 0 = List.replicate k 48 := by
    intro k
    induction k with
    | zero => rfl
    | succ k ih => simp only [padD, Nat.zero_div, ih, List.replicate_succ']; rfl
   simp [padD, Nat.div_eq_of_lt hr, this, Nat.mod_eq_of_lt hr]
  ·
   rw [Lib.decDigits, dif_neg hr, padD, padD_small k (r / 10) (by
    rcases Nat.eq_zero_or_pos k with rfl | h2
    ·
     simp at h; omega
    ·
     exact h2) (by rw [Nat.pow_succ] at h; omega)]
   simp
theorem padD_add : ∀ (b a r : Nat), padD (a + b) r = padD a (r / 10 ^ b) ++ padD b r
 | 0, a, r => by simp [padD]
 | b + 1, a, r => by
  rw [show a + (b + 1) = (a + b) + 1 by omega, padD, padD_add b a (r / 10), padD, List.append_assoc, Nat.div_div_eq_div_mul, Nat.pow_succ, Nat.mul_comm 10]
def stripZ : List UInt8 → List UInt8
 | [] => []
 | b :: l => if b = 48 then stripZ l else b :: l
theorem stripZ_rep (l : List UInt8) : ∀ n, stripZ (List.replicate n 48 ++ l) = stripZ l
 | 0 => rfl
 | n + 1 => by rw [List.replicate_succ, List.cons_append, stripZ, if_pos rfl, stripZ_rep l n]
theorem ofNat_ne (d : Nat) (h0 : 0 < d) (h : d < 10) : UInt8.ofNat (48 + d) ≠ 48 := by
 intro e
 have := congrArg UInt8.toNat e
 simp at this
 omega
theorem decD_head (u : Nat) : 0 < u → ∃ b l, Lib.decDigits u = b :: l ∧ b ≠ 48 := by
 induction u using Nat.strongRecOn with
 | _ u ih =>
  intro h
  by_cases hu : u < 10
  ·
   exact ⟨_, [], by rw [Lib.decDigits, dif_pos hu], ofNat_ne u h hu⟩
  ·
   obtain ⟨b, l, e, hb⟩ := ih (u / 10) (by omega) (by omega)
   exact ⟨b, l ++ [UInt8.ofNat (48 + u % 10)], by rw [Lib.decDigits, dif_neg hu, e]; rfl, hb⟩
theorem strip_dec (u : Nat) (h : 0 < u) : stripZ (Lib.decDigits u) = Lib.decDigits u := by
 obtain ⟨b, l, e, hb⟩ := decD_head u h
 rw [e, stripZ, if_neg hb]
theorem strip_pad (k u : Nat) (hk : 0 < k) (h0 : 0 < u) (h : u < 10 ^ k) : stripZ (padD k u) = Lib.decDigits u := by
 rw [padD_small k u hk h, stripZ_rep, strip_dec u h0]
def readD (l : List UInt8) : Nat := l.foldl (fun n b => n * 10 + (b.toNat - 48)) 0
theorem readD_snoc (l : List UInt8) (b : UInt8) : readD (l ++ [b]) = readD l * 10 + (b.toNat - 48) := by simp [readD]
theorem readD_dec (u : Nat) : readD (Lib.decDigits u) = u := by
 induction u using Nat.strongRecOn with
 | _ u ih =>
  by_cases hu : u < 10
  ·
   rw [Lib.decDigits, dif_pos hu]; simp [readD]; omega
  ·
   rw [Lib.decDigits, dif_neg hu, readD_snoc, ih (u / 10) (by omega)]; simp; omega
def isD (b : UInt8) : Prop := 48 ≤ b.toNat ∧ b.toNat ≤ 57
theorem dec_isD (u : Nat) : ∀ b ∈ Lib.decDigits u, isD b := by
 induction u using Nat.strongRecOn with
 | _ u ih =>
  intro b hb
  by_cases hu : u < 10
  ·
   rw [Lib.decDigits, dif_pos hu] at hb; simp at hb; subst hb; unfold isD; simp; omega
  ·
   rw [Lib.decDigits, dif_neg hu] at hb
   rcases List.mem_append.1 hb with h | h
   ·
    exact ih (u / 10) (by omega) b h
   ·
    simp at h; subst h; unfold isD; simp; omega
theorem readD_lt (l : List UInt8) : (∀ b ∈ l, isD b) → readD l < 10 ^ l.length := by
 refine rev_ind (P := fun l => (∀ b ∈ l, isD b) → readD l < 10 ^ l.length) (by simp [readD]) (fun l b ih => ?_) l
 ·
  intro h
  have h1 := ih fun x hx => h x (by simp [hx])
  have h2 := h b (by simp)
  unfold isD at h2
  rw [readD_snoc]; simp only [List.length_append, List.length_singleton, Nat.pow_succ]; omega
def decT (n : Nat) : ByteArray := ⟨(Lib.decDigits n).toArray⟩
theorem zc3 (n : Nat) : (decT n).data.toList = Lib.decDigits n := by simp [decT]
theorem decT_size (n : Nat) : (decT n).size = (Lib.decDigits n).length := by simp [decT, ByteArray.size]
theorem ba_ext {a b : ByteArray} (h : a.data.toList = b.data.toList) : a = b := by
 obtain ⟨⟨a⟩⟩ := a
 obtain ⟨⟨b⟩⟩ := b
 simp at h
 rw [h]
theorem ba_eta (a : ByteArray) : (⟨a.data.toList.toArray⟩ : ByteArray) = a := ba_ext (by simp)
theorem rev_l0 (l : List ByteArray) (hl : l.length < 1000000000) : ∀ (m i : Nat) (s : List ByteArray), 2 * i + m = l.length → s.length = l.length →
  (∀ p : Nat, p < l.length → s.getD p ByteArray.empty = if p < i ∨ i + m ≤ p then l.getD (l.length - 1 - p) ByteArray.empty else l.getD p ByteArray.empty) →
  Ev (fun k => zaa.l0 k s (i : Int) ((i : Int) + (m : Int) - 1)) l.reverse := by
 intro m
 induction m using Nat.strongRecOn with
 | ind m ih =>
  intro i s hm hs h
  by_cases h2 : 2 ≤ m
  ·
   obtain ⟨j, rfl⟩ : ∃ j, m = j + 2 := ⟨m - 2, by omega⟩
   have e1 : ((i : Int) + ((j + 2 : Nat) : Int) - 1).toNat = i + j + 1 := by omega
   refine Ev.step (G := fun k => zaa.l0 k ((s.set i (s.getD (i + j + 1) ByteArray.empty)).set (i + j + 1) (s.getD i ByteArray.empty)) ((i + 1 : Nat) : Int) (((i + 1 : Nat) : Int) + (j : Int) - 1)) (fun k => ?_) (ih j (by omega) (i + 1) _ (by omega) (by simp [hs]) (fun p hp => ?_))
   ·
    rw [zaa.l0, if_pos (by omega), if_pos (by omega), if_pos (by omega), if_pos (by omega), if_pos (by omega), w64s (by omega) (by omega), w64s (by omega) (by omega)]
    simp only [rdOf, e1, Int.toNat_natCast]
    rw [show ((i : Int) + 1) = ((i + 1 : Nat) : Int) by omega, show ((i : Int) + ((j + 2 : Nat) : Int) - 1 - 1) = (((i + 1 : Nat) : Int) + (j : Int) - 1) by omega]
   ·
    have key : ((s.set i (s.getD (i + j + 1) ByteArray.empty)).set (i + j + 1) (s.getD i ByteArray.empty)).getD p ByteArray.empty = if p = i + j + 1 then s.getD i ByteArray.empty else if p = i then s.getD (i + j + 1) ByteArray.empty else s.getD p ByteArray.empty := by
     rw [List.getD_eq_getElem?_getD, List.getElem?_set]
     by_cases hp1 : i + j + 1 = p
     ·
      have hl1 : i + j + 1 < (s.set i (s.getD (i + j + 1) ByteArray.empty)).length := by
       rw [List.length_set]
       omega
      subst hp1
      rw [if_pos rfl, if_pos hl1, if_pos rfl]
      rfl
     ·
      rw [if_neg hp1, if_neg (fun h => hp1 h.symm), List.getElem?_set]
      by_cases hp2 : i = p
      ·
       subst hp2
       rw [if_pos rfl, if_pos (show i < s.length by omega), if_pos rfl]
       rfl
      ·
       rw [if_neg hp2, if_neg (fun h => hp2 h.symm), List.getD_eq_getElem?_getD]
    rw [key]
    by_cases hp1 : p = i + j + 1
    ·
     subst hp1
     rw [if_pos rfl, if_pos (by omega), h i (by omega), if_neg (by omega)]
     congr 1
     omega
    ·
     rw [if_neg hp1]
     by_cases hp2 : p = i
     ·
      subst hp2
      rw [if_pos rfl, if_pos (by omega), h _ (by omega), if_neg (by omega)]
      congr 1
      omega
     ·
      rw [if_neg hp2, h p hp]
      by_cases hp3 : p < i ∨ i + (j + 2) ≤ p
      ·
       rw [if_pos hp3, if_pos (by omega)]
      ·
       rw [if_neg hp3, if_neg (by omega)]
  ·
   refine Ev.step (G := fun _ => some s) (fun k => ?_) ?_
   ·
    rw [zaa.l0, if_neg (by omega)]
   ·
    have e : s = l.reverse := by
     apply List.ext_getElem (by simp [hs])
     intro p h1 h2'
     have hp : p < l.length := by omega
     have := h p hp
     rw [List.getD_eq_getElem?_getD, List.getElem?_eq_getElem h1] at this
     simp only [Option.getD_some] at this
     rw [this, List.getElem_reverse]
     by_cases hc : p < i ∨ i + m ≤ p
     ·
      rw [if_pos hc, List.getD_eq_getElem?_getD, List.getElem?_eq_getElem (by omega)]
      rfl
     ·
      rw [if_neg hc, List.getD_eq_getElem?_getD, List.getElem?_eq_getElem hp]
      have : l.length - 1 - p = p := by omega
      simp only [Option.getD_some, this]
    rw [e]
    exact Ev.const _
theorem sRev (l : List ByteArray) (hl : l.length < 1000000000) : Ev (fun k => zaa.f k l) l.reverse := by
 have h := rev_l0 l hl l.length 0 l (by omega) rfl (fun p hp => by rw [if_neg (by omega)])
 refine Ev.congr (fun k => ?_) h
 unfold zaa.f
 rw [w64s (by omega) (by omega)]
 simp
theorem inter_nil {α : Type} : ∀ xs : List (List α), ([] : List α).intercalate xs = xs.flatten
 | [] => rfl
 | [x] => by simp [List.intercalate]
 | x :: y :: xs => by
  have h := inter_nil (y :: xs)
  simp [List.intercalate] at h ⊢
  exact h
def catB (l : List ByteArray) : ByteArray := ⟨(l.map (·.data.toList)).flatten.toArray⟩
theorem sJoin0 (l : List ByteArray) (h1 : l.length ≤ 140737488355328) (h2 : (l.map (·.data.toList)).flatten.length ≤ 140737488355328) : strings_Join.f l (⟨#[]⟩ : ByteArray) = some (catB l) := by
 unfold strings_Join.f
 have e : Lib.join (l.map (·.data.toList)) (⟨#[]⟩ : ByteArray).data.toList = (l.map (·.data.toList)).flatten := inter_nil _
 rw [if_pos h1, e, if_pos h2]
 rfl
theorem repL (b : UInt8) : ∀ n, Lib.repeatL [b] n = List.replicate n b
 | 0 => rfl
 | n + 1 => by rw [Lib.repeatL, repL b n, List.replicate_succ]; rfl
theorem shortP_val (d : Nat) (hd : 0 < d) : ∀ (l : List Int), Dig 18446744073709551616 l → ∃ (r : Nat), (shortP d l.reverse 0).2 = (r : Int) ∧ r < d ∧ Dig 18446744073709551616 (shortP d l.reverse 0).1 ∧ val 18446744073709551616 (shortP d l.reverse 0).1 * d + r = val 18446744073709551616 l
 | [], _ => ⟨0, rfl, hd, by intro x hx; simp [shortP] at hx, by simp [shortP, val]⟩
 | x :: l, h => by
  obtain ⟨⟨hx0, hx1⟩, hl⟩ := h.cons
  obtain ⟨r, e, hr, hD, hv⟩ := shortP_val d hd l hl
  obtain ⟨x, rfl⟩ := Int.eq_ofNat_of_zero_le hx0
  have ex : ((r : Int) * 18446744073709551616 + (x : Int)) = ((r * 18446744073709551616 + x : Nat) : Int) := by omega
  have q1 : ((r * 18446744073709551616 + x : Nat) : Int) / (d : Int) = (((r * 18446744073709551616 + x) / d : Nat) : Int) := (Int.natCast_ediv _ _).symm
  have q2 : ((r * 18446744073709551616 + x : Nat) : Int) % (d : Int) = (((r * 18446744073709551616 + x) % d : Nat) : Int) := (Int.natCast_emod _ _).symm
  rw [List.reverse_cons, shortP_snoc, e, ex, q1, q2]
  have hq : (r * 18446744073709551616 + x) / d < 18446744073709551616 := by
   rw [Nat.div_lt_iff_lt_mul hd]
   have : (r + 1) * 18446744073709551616 ≤ d * 18446744073709551616 := Nat.mul_le_mul_right _ hr
   omega
  have hdm := Nat.div_add_mod (r * 18446744073709551616 + x) d
  refine ⟨(r * 18446744073709551616 + x) % d, rfl, Nat.mod_lt _ hd, Dig.mk (Int.natCast_nonneg _) (Int.ofNat_lt.2 hq) hD, ?_⟩
  simp only [val]
  rw [Int.toNat_natCast]
  generalize (r * 18446744073709551616 + x) / d = q at *
  generalize (r * 18446744073709551616 + x) % d = m at *
  generalize val 18446744073709551616 (shortP (↑d) l.reverse 0).fst = v at *
  rw [Int.toNat_natCast, ← hv, Nat.add_mul, Nat.mul_add, Nat.mul_assoc, Nat.mul_comm q d]
  omega
theorem nShort (x d : Nat) (hd : 0 < d) (hd1 : d < 18446744073709551616) (hx : Le x 100000) : Ev (fun k => zbw.f k (dig 18446744073709551616 x) (d : Int)) (dig 18446744073709551616 (x / d), ((x % d : Nat) : Int)) := by
 have hD := zcl (B := 18446744073709551616) (by decide) x
 obtain ⟨r, e, hr, hDo, hv⟩ := shortP_val d hd _ hD
 rw [zck (by decide)] at hv
 have e1 : val 18446744073709551616 (shortP d (dig 18446744073709551616 x).reverse 0).1 = x / d := by
  generalize val 18446744073709551616 (shortP d (dig 18446744073709551616 x).reverse 0).1 = q at hv
  subst hv
  rw [Nat.mul_comm, Nat.mul_add_div hd, Nat.div_eq_of_lt hr]
  rfl
 have e2 : r = x % d := by
  generalize val 18446744073709551616 (shortP d (dig 18446744073709551616 x).reverse 0).1 = q at hv
  subst hv
  rw [Nat.mul_comm, Nat.mul_add_mod, Nat.mod_eq_of_lt hr]
 have hlen : (shortP d (dig 18446744073709551616 x).reverse 0).1.length = (dig 18446744073709551616 x).length := by rw [shortP_length, List.length_reverse]
 unfold Le at hx
 have ht := ntrim _ (by rw [hlen]; omega) hDo
 rw [e1] at ht
 have hl : limbs64 (dig 18446744073709551616 x) = true := List.all_eq_true.2 fun y hy => by
  have := hD y hy
  simp
  omega
 refine Ev.congr (G := fun k => (za3.f k (shortP d (dig 18446744073709551616 x).reverse 0).1).bind fun t => some (t, ((x % d : Nat) : Int))) (fun k => ?_) (Ev.bind ht (Ev.const _))
 unfold zbw.f
 rw [if_pos ⟨by omega, by omega, hl, by omega⟩, e, e2]
theorem decD_len18 (x : Nat) (h : x / 1000000000000000000 ≠ 0) : (Lib.decDigits x).length = (Lib.decDigits (x / 1000000000000000000)).length + 18 := by
 have := decD_app 18 (x / 1000000000000000000) (x % 1000000000000000000) (by omega) (Nat.mod_lt _ (by decide))
 rw [show x / 1000000000000000000 * 10 ^ 18 + x % 1000000000000000000 = x by omega] at this
 rw [this, List.length_append, zdb]
theorem nText_l0 : ∀ (x : Nat) (ps : List ByteArray), Le x 100000 → (∀ p ∈ ps, p.size = 18) → (Lib.decDigits x).length + 18 * ps.length ≤ 100000000 →
  Ev (fun k => zbl.l0 k (dig 18446744073709551616 x) ps) ⟨(Lib.decDigits x ++ (ps.reverse.map (·.data.toList)).flatten).toArray⟩ := by
 intro x
 induction x using Nat.strongRecOn with
 | ind x ih =>
  intro ps hx hp hb
  have hs := nShort x 1000000000000000000 (by decide) (by decide) hx
  have hf : zb2.f ((x % 1000000000000000000 : Nat) : Int) 10 = some (decT (x % 1000000000000000000)) := by
   unfold zb2.f
   rw [if_pos rfl, if_pos (by omega), if_pos (by omega)]
   rfl
  have hcount : ∀ qs : List ByteArray, (∀ p ∈ qs, p.size = 18) → (qs.map (·.data.toList)).flatten.length = 18 * qs.length := by
   intro qs
   induction qs with
   | nil => intro _; rfl
   | cons q qs ih2 =>
    intro h
    have h1 := h q (by simp)
    have h2 := ih2 fun p hp => h p (by simp [hp])
    have h3 : q.data.size = 18 := h1
    simp only [List.map_cons, List.flatten_cons, List.length_append, h2, List.length_cons, Array.length_toList]
    omega
  by_cases hq : x / 1000000000000000000 = 0
  ·
   have hxs : x % 1000000000000000000 = x := by omega
   refine Ev.step (fun k => zbl.l0.eq_2 ..) (Ev.bind hs (Ev.plain hf ?_))
   rw [hxs, hq, zcg]
   refine Ev.pos (by simp) (Ev.pos (by omega) ?_)
   refine Ev.bind (sRev _ (by simp; omega)) ?_
   have hc := hcount ps.reverse (fun p h => hp p (by simpa using h))
   have ej := sJoin0 (ps ++ [decT x]).reverse (by simp; omega) (by
    rw [List.reverse_append]
    simp only [List.reverse_cons, List.reverse_nil, List.nil_append, List.singleton_append, List.map_cons, List.flatten_cons, List.length_append, hc, zc3, List.length_reverse]
    omega)
   refine Ev.plain ej ?_
   have e : catB (ps ++ [decT x]).reverse = ⟨(Lib.decDigits x ++ (ps.reverse.map (·.data.toList)).flatten).toArray⟩ := by
    unfold catB
    rw [List.reverse_append]
    simp [decT]
   rw [e]
   exact Ev.const _
  ·
   have hl18 := decD_len18 x hq
   have hlen : (Lib.decDigits (x % 1000000000000000000)).length ≤ 18 ∧ 1 ≤ (Lib.decDigits (x % 1000000000000000000)).length := by
    have h1 := padD_small 18 (x % 1000000000000000000) (by decide) (Nat.mod_lt _ (by decide))
    have h2 := congrArg List.length h1
    rw [zdb, List.length_append, List.length_replicate] at h2
    have := Lib.nDigits_pos (x % 1000000000000000000)
    rw [Lib.decDigits_length] at h2 ⊢
    omega
   have hd1 := dig_ne (B := 18446744073709551616) (by decide) hq
   have hd2 : 0 < (dig 18446744073709551616 (x / 1000000000000000000)).length := List.length_pos_iff.2 hd1
   have hw : wrap64 (18 - ((decT (x % 1000000000000000000)).size : Int)) = ((18 - (Lib.decDigits (x % 1000000000000000000)).length : Nat) : Int) := by
    rw [decT_size, w64s (by omega) (by omega)]
    omega
   have hr : strings_Repeat.f (⟨#[48]⟩ : ByteArray) (wrap64 (18 - ((decT (x % 1000000000000000000)).size : Int))) = some ⟨(List.replicate (18 - (Lib.decDigits (x % 1000000000000000000)).length) 48).toArray⟩ := by
    rw [hw]
    unfold strings_Repeat.f
    rw [if_pos (by omega), if_pos (by omega), Int.toNat_natCast, if_pos (by show 1 * _ ≤ _; omega)]
    rw [show (⟨#[48]⟩ : ByteArray).data.toList = [48] from rfl, repL]
   have hpart : ((⟨(List.replicate (18 - (Lib.decDigits (x % 1000000000000000000)).length) 48).toArray⟩ : ByteArray) ++ decT (x % 1000000000000000000)) = ⟨(padD 18 (x % 1000000000000000000)).toArray⟩ := by
    rw [padD_small 18 _ (by decide) (Nat.mod_lt _ (by decide))]
    apply ba_ext
    simp [decT]
   have hih := ih (x / 1000000000000000000) (by omega) (ps ++ [(⟨(padD 18 (x % 1000000000000000000)).toArray⟩ : ByteArray)]) (Nat.le_trans (dig_mono (by decide) (Nat.div_le_self _ _)) hx) (fun p h => by
    rcases List.mem_append.1 h with h | h
    ·
     exact hp p h
    ·
     simp at h
     subst h
     simp [ByteArray.size, zdb]) (by simp only [List.length_append, List.length_singleton]; omega)
   refine Ev.step (fun k => zbl.l0.eq_2 ..) (Ev.bind hs (Ev.plain hf (Ev.neg (by simp only; omega) ?_)))
   refine Ev.plain hr ?_
   refine Ev.pos (by rw [decT_size]; simp [ByteArray.size]; omega) (Ev.pos (by omega) ?_)
   rw [hpart]
   have e : (Lib.decDigits (x / 1000000000000000000) ++ ((ps ++ [(⟨(padD 18 (x % 1000000000000000000)).toArray⟩ : ByteArray)]).reverse.map (·.data.toList)).flatten) = Lib.decDigits x ++ (ps.reverse.map (·.data.toList)).flatten := by
    have := decD_app 18 (x / 1000000000000000000) (x % 1000000000000000000) (by omega) (Nat.mod_lt _ (by decide))
    rw [show x / 1000000000000000000 * 10 ^ 18 + x % 1000000000000000000 = x by omega] at this
    rw [this]
    simp
   rw [e] at hih
   exact hih
theorem dec_lt {x m : Nat} (hx : x < 18446744073709551616 ^ m) : (Lib.decDigits x).length ≤ 20 * m + 1 := by
 rw [Lib.decDigits_length]
 rcases Nat.lt_or_ge (20 * m + 1) (Lib.nDigits x) with h | h
 ·
  have h1 : 10 ^ (Lib.nDigits x - 1) ≤ x := by
   have hn := Lib.nDigits_pos x
   rcases Nat.lt_or_ge x (10 ^ (Lib.nDigits x - 1)) with h2 | h2
   ·
    exfalso
    have : ∀ (k : Nat) (u : Nat), u < 10 ^ k → Lib.nDigits u ≤ max 1 k := by
     intro k
     induction k with
     | zero =>
      intro u hu
      have : u = 0 := by simpa using hu
      subst this
      rw [Lib.nDigits_small (by decide)]
      omega
     | succ k ih =>
      intro u hu
      by_cases hu2 : u < 10
      ·
       rw [Lib.nDigits_small hu2]; omega
      ·
       rw [Lib.nDigits_big hu2]
       have := ih (u / 10) (by rw [Nat.pow_succ] at hu; omega)
       have hk : k ≠ 0 := by rintro rfl; simp at hu; omega
       omega
    have := this _ _ h2
    omega
   ·
    exact h2
  have h2 : 18446744073709551616 ^ m ≤ 10 ^ (20 * m) := by
   rw [Nat.pow_mul]
   exact Nat.pow_le_pow_left (by decide) m
  have h3 : 10 ^ (20 * m) ≤ 10 ^ (Lib.nDigits x - 1) := Nat.pow_le_pow_right (by decide) (by omega)
  omega
 ·
  exact h
theorem nText {x m : Nat} (hx : x < 18446744073709551616 ^ m) (hm : m ≤ 100000) : Ev (fun k => zbl.f k (dig 18446744073709551616 x)) (decT x) := by
 have h := nText_l0 x [] (Le_lt hx hm) (by simp) (by have := dec_lt hx; simp; omega)
 simp only [List.reverse_nil, List.map_nil, List.flatten_nil, List.append_nil] at h
 exact h
theorem dig10 (d : Nat) (h : d < 10) : (⟨#[48, 49, 50, 51, 52, 53, 54, 55, 56, 57]⟩ : ByteArray).extract d (d + 1) = ⟨#[UInt8.ofNat (48 + d)]⟩ := by
 have : ∀ i : Fin 10, (⟨#[48, 49, 50, 51, 52, 53, 54, 55, 56, 57]⟩ : ByteArray).extract i.val (i.val + 1) = ⟨#[UInt8.ofNat (48 + i.val)]⟩ := by decide +kernel
 exact this ⟨d, h⟩
theorem ba_cons (b : UInt8) (s : ByteArray) : ((⟨#[b]⟩ : ByteArray) ++ s).data.toList = b :: s.data.toList := by simp
theorem rText_step (k : Nat) (l : List Int) (n : Int) (i q j : Nat) (s : ByteArray) (hq : q < 10000) (hj : j < 4) (hs : s.size < 2000000000) :
  zah.l1 (k + 1) l s (q : Int) n (i : Int) (j : Int) = zah.l1 k l ((⟨#[UInt8.ofNat (48 + q % 10)]⟩ : ByteArray) ++ s) ((q / 10 : Nat) : Int) n (i : Int) ((j + 1 : Nat) : Int) := by
 have e1 : Int.tmod (q : Int) 10 = ((q % 10 : Nat) : Int) := by
  rw [Int.tmod_eq_emod_of_nonneg (by omega)]
  omega
 have e2 : wrap64 (Int.tdiv (q : Int) 10) = ((q / 10 : Nat) : Int) := by
  rw [Int.tdiv_eq_ediv_of_nonneg (by omega), w64s (by omega) (by omega)]
  omega
 have e3 : wrap64 (((q % 10 : Nat) : Int) + 1) = ((q % 10 + 1 : Nat) : Int) := by
  rw [w64s (by omega) (by omega)]
  omega
 have hc : (⟨#[UInt8.ofNat (48 + q % 10)]⟩ : ByteArray).size + s.size ≤ 9223372036854775807 := by
  have h1 : (⟨#[UInt8.ofNat (48 + q % 10)]⟩ : ByteArray).size = 1 := rfl
  rw [h1]
  omega
 have h10 := dig10 (q % 10) (Nat.mod_lt _ (by decide))
 have hlt : (j : Int) < 4 := by omega
 have h0 : (0 : Int) ≤ ((q % 10 : Nat) : Int) := Int.natCast_nonneg _
 have h1 : ((q % 10 : Nat) : Int) ≤ ((q % 10 + 1 : Nat) : Int) := by omega
 have h2 : ((q % 10 + 1 : Nat) : Int) ≤ 10 := by omega
 have h4 : wrap64 ((j : Int) + 1) = ((j + 1 : Nat) : Int) := wadd1 j (by omega)
 rw [zah.l1.eq_2]
 rw [if_pos hlt]
 rw [e1, e2, e3, if_pos h0, if_pos h1, if_pos h2, Int.toNat_natCast, Int.toNat_natCast, h10, if_pos hc, h4]
theorem rText_l1 (l : List Int) (n : Int) (i d : Nat) (hd : d < 10000) (s0 : ByteArray) (hs : s0.size < 1000000000) (r : ByteArray) :
  ∀ (m j : Nat) (s : ByteArray), j + m = 4 → s.data.toList = padD j (d % 10 ^ j) ++ s0.data.toList →
  Ev (fun k => zah.l0 k l ⟨(padD 4 d ++ s0.data.toList).toArray⟩ n (wrap64 ((i : Int) + 1))) r →
  Ev (fun k => zah.l1 k l s ((d / 10 ^ j : Nat) : Int) n (i : Int) (j : Int)) r
 | 0, j, s, hm, h, hr => by
  obtain rfl : j = 4 := by omega
  refine Ev.step (G := fun k => zah.l0 k l s n (wrap64 ((i : Int) + 1))) (fun k => ?_) ?_
  ·
   rw [zah.l1, if_neg (by omega)]
  ·
   have e : s = ⟨(padD 4 d ++ s0.data.toList).toArray⟩ := by
    apply ba_ext
    rw [h, show d % 10 ^ 4 = d by omega]
   rw [e]
   exact hr
 | m + 1, j, s, hm, h, hr => by
  have hj : j < 4 := by omega
  have hp : 0 < 10 ^ j := Nat.pow_pos (by decide)
  have hq : d / 10 ^ j ≤ d := Nat.div_le_self _ _
  have hsz : s.size = j + s0.size := by
   have := congrArg List.length h
   rw [List.length_append, zdb] at this
   simp only [Array.length_toList] at this
   exact this
  have ih := rText_l1 l n i d hd s0 hs r m (j + 1) ((⟨#[UInt8.ofNat (48 + d / 10 ^ j % 10)]⟩ : ByteArray) ++ s) (by omega) (by
   rw [ba_cons, h, ← List.cons_append]
   congr 1
   rw [show j + 1 = 1 + j by omega, padD_add]
   have h1 : d % 10 ^ (1 + j) / 10 ^ j = d / 10 ^ j % 10 := by
    rw [Nat.pow_add, Nat.mul_comm, Nat.mod_mul_right_div_self]
   have h2 : ∀ k n, padD k (n % 10 ^ k) = padD k n := by
    intro k
    induction k with
    | zero => intro n; rfl
    | succ k ih =>
     intro n
     rw [padD, padD, ← ih (n / 10), ← ih (n % 10 ^ (k + 1) / 10)]
     have a1 : n % 10 ^ (k + 1) / 10 % 10 ^ k = n / 10 % 10 ^ k := by
      rw [Nat.pow_succ, Nat.mul_comm, Nat.mod_mul_right_div_self, Nat.mod_mod]
     have a2 : n % 10 ^ (k + 1) % 10 = n % 10 := by
      rw [Nat.pow_succ, Nat.mul_comm, Nat.mod_mul_right_mod]
     rw [a1, a2]
   have h3 : padD j (d % 10 ^ (1 + j)) = padD j d := by
    rw [← h2 j (d % 10 ^ (1 + j)), show d % 10 ^ (1 + j) % 10 ^ j = d % 10 ^ j by rw [Nat.pow_add, Nat.mul_comm, Nat.mod_mul_right_mod], h2]
   rw [h1, h2 j d, h3]
   simp [padD]) hr
  refine Ev.step (fun k => rText_step k l n i (d / 10 ^ j) j s (by omega) (by omega) (by omega)) ?_
  rw [Nat.pow_succ, ← Nat.div_div_eq_div_mul] at ih
  exact ih
theorem rText_l2 : ∀ (l : List UInt8), stripZ l ≠ [] → l.length < 1000000000 → Ev (fun k => zah.l2 k ⟨l.toArray⟩) ⟨(stripZ l).toArray⟩
 | [], h, _ => absurd rfl h
 | b :: l, h, hl => by
  have hb : bt (⟨(b :: l).toArray⟩ : ByteArray) 0 = (b.toNat : Int) := by
   rw [← bt_at _ _ (show (0 : Int).toNat < (⟨(b :: l).toArray⟩ : ByteArray).size by simp [ByteArray.size])]
   rfl
  have hs : ((⟨(b :: l).toArray⟩ : ByteArray).size : Int) = (l.length : Int) + 1 := by simp [ByteArray.size]
  simp only [List.length_cons] at hl
  by_cases hz : b = 48
  ·
   subst hz
   rw [stripZ, if_pos rfl] at h ⊢
   have ih := rText_l2 l h (by omega)
   refine Ev.step (G := fun k => zah.l2 k ⟨l.toArray⟩) (fun k => ?_) ih
   rw [zah.l2, hs, if_pos (by omega), hb, if_pos (by decide), if_pos (by omega)]
   congr 1
   apply ba_ext
   simp [ByteArray.size]
  ·
   rw [stripZ, if_neg hz]
   refine Ev.step (G := fun k => some ⟨(b :: l).toArray⟩) (fun k => ?_) (Ev.const _)
   rw [zah.l2, hs, if_pos (by omega), hb, if_neg (fun e => hz (by
    apply UInt8.toNat_inj.1
    have : b.toNat = 48 := by omega
    rw [this]
    rfl))]
theorem rText_l0 (x : Nat) (l : List Int) (hl : l = dig 10000 x) (hx : x ≠ 0) (hs : l.length < 1000000) : ∀ (m i : Nat) (s : ByteArray), i + m = l.length → s.data.toList = padD (4 * i) (val 10000 (l.take i)) →
  Ev (fun k => zah.l0 k l s (l.length : Int) (i : Int)) (decT x)
 | 0, i, s, hm, h => by
  have hi : i = l.length := by omega
  subst hi
  refine Ev.step (G := fun k => zah.l2 k s) (fun k => ?_) ?_
  ·
   rw [zah.l0, if_neg (by omega)]
  ·
   rw [List.take_length, hl, zck (by decide)] at h
   have hlt := val_lt (B := 10000) l (by rw [hl]; exact zcl (by decide) _)
   rw [hl, zck (by decide)] at hlt
   have hne := dig_ne (B := 10000) (by decide) hx
   have hpos : 0 < (dig 10000 x).length := List.length_pos_iff.2 hne
   have e10 : (10000 : Nat) ^ (dig 10000 x).length = 10 ^ (4 * (dig 10000 x).length) := by rw [Nat.pow_mul]
   have hst := strip_pad (4 * (dig 10000 x).length) x (by omega) (by omega) (by rw [← e10]; exact hlt)
   have hne2 : stripZ s.data.toList ≠ [] := by
    rw [h, hst]
    obtain ⟨b, t, e, _⟩ := decD_head x (by omega)
    rw [e]
    simp
   have hlen : s.data.toList.length < 1000000000 := by
    rw [h, zdb]
    rw [hl] at hs
    omega
   have := rText_l2 s.data.toList hne2 hlen
   rw [ba_eta, h, hst] at this
   exact this
 | m + 1, i, s, hm, h => by
  have hd : Dig 10000 l := by rw [hl]; exact zcl (by decide) _
  obtain ⟨h0, h1⟩ := hd.get (by decide) i
  obtain ⟨d, hdd⟩ := Int.eq_ofNat_of_zero_le h0
  have hsz : s.size = 4 * i := by
   have := congrArg List.length h
   rw [zdb] at this
   simp only [Array.length_toList] at this
   exact this
  have ih := rText_l0 x l hl hx hs m (i + 1) ⟨(padD 4 d ++ s.data.toList).toArray⟩ (by omega) (by
   simp only
   rw [h, take_snoc l i (by omega), val_append, hdd]
   have hlt := val_lt (B := 10000) (l.take i) (fun x hx => hd x (List.mem_of_mem_take hx))
   rw [List.length_take, Nat.min_eq_left (by omega)] at hlt ⊢
   have e10 : (10000 : Nat) ^ i = 10 ^ (4 * i) := by rw [Nat.pow_mul]
   rw [e10] at hlt ⊢
   have hv : val 10000 [((d : Nat) : Int)] = d := by simp [val]
   rw [hv, show 4 * (i + 1) = 4 + 4 * i by omega, padD_add, Nat.add_mul_div_left _ _ (Nat.pow_pos (by decide)), Nat.div_eq_of_lt hlt, Nat.zero_add]
   congr 1
   have a2 : ∀ k a b, padD k (a + 10 ^ k * b) = padD k a := by
    intro k
    induction k with
    | zero => intro a b; rfl
    | succ k ih =>
     intro a b
     have e : 10 ^ (k + 1) * b = 10 * (10 ^ k * b) := by rw [Nat.pow_succ, Nat.mul_comm (10 ^ k), Nat.mul_assoc]
     rw [padD, padD, e, Nat.add_mul_div_left _ _ (by decide), ih, Nat.add_mul_mod_self_left]
   rw [a2])
  have h4 := rText_l1 l (l.length : Int) i d (by omega) s (by omega) (decT x) 4 0 s (by omega) (by simp [padD]) (by
   rw [wadd1 i (by omega)]
   exact ih)
  refine Ev.step (fun k => ?_) h4
  rw [zah.l0, if_pos (by omega), if_pos (by omega), if_pos (by omega), rd_nat, hdd]
  simp
theorem rText (x : Nat) (hs : (dig 10000 x).length < 1000000) : Ev (fun k => zah.f k (dig 10000 x)) (decT x) := by
 by_cases hx : x = 0
 ·
  subst hx
  refine Ev.congr (G := fun _ => some (decT 0)) (fun k => ?_) (Ev.const _)
  rw [zcg, zah.f, if_pos (by simp)]
  have : decT 0 = ⟨#[48]⟩ := by
   apply ba_ext
   rw [zc3, Lib.decDigits_one (by decide)]
   rfl
  rw [this]
 ·
  have hne := dig_ne (B := 10000) (by decide) hx
  have hpos : 0 < (dig 10000 x).length := List.length_pos_iff.2 hne
  refine Ev.congr (fun k => ?_) (rText_l0 x (dig 10000 x) rfl hx hs (dig 10000 x).length 0 (⟨#[]⟩ : ByteArray) (by omega) (by simp [padD]))
  rw [zah.f, if_neg (by omega)]
  rfl
def stepV (v : Nat) (b : UInt8) : Nat := v * 10 + (b.toNat - 48)
theorem stepV_lt {v m : Nat} (b : UInt8) (hb : b.toNat ≤ 57) (h : v < 18446744073709551616 ^ m) : v * 10 < 18446744073709551616 ^ (m + 1) ∧ stepV v b < 18446744073709551616 ^ (m + 1) := by
 unfold stepV
 rw [Nat.pow_succ]
 generalize 18446744073709551616 ^ m = X at *
 omega
theorem bt_list (s : ByteArray) (i : Nat) (h : i < s.size) : bt s (i : Int) = ((s.data.toList[i]'(by simpa using h)).toNat : Int) := by
 rw [bt_lit s i h]
 congr 2
theorem digB_iff (b : UInt8) : digB b = true ↔ 48 ≤ b.toNat ∧ b.toNat ≤ 57 := by simp [digB]
theorem all_drop {l : List UInt8} (h : l.all digB = true) (b : UInt8) (hb : b ∈ l) : isD b := (digB_iff b).1 (List.all_eq_true.1 h b hb)
theorem nReadF (s : ByteArray) (hs : s.size ≤ 5000) (hd : s.data.toList.all digB = true) : ∀ (n pos v : Nat), pos + n = s.size → v < 18446744073709551616 ^ pos →
  Ev (fun k => readF k s n pos (dig 18446744073709551616 v)) (dig 18446744073709551616 ((s.data.toList.drop pos).foldl stepV v))
 | 0, pos, v, hp, hv => by
  refine Ev.congr (G := fun _ => some (dig 18446744073709551616 v)) (fun k => rfl) ?_
  rw [List.drop_eq_nil_of_le (by simp; omega)]
  exact Ev.const _
 | n + 1, pos, v, hp, hv => by
  have hlt : pos < s.data.toList.length := by simp; omega
  have hb := all_drop hd (s.data.toList[pos]) (List.getElem_mem hlt)
  unfold isD at hb
  have e : bt s (pos : Int) - 48 = ((s.data.toList[pos].toNat - 48 : Nat) : Int) := by
   rw [bt_list s pos (by omega)]
   omega
  obtain ⟨h1, h2⟩ := stepV_lt (m := pos) (s.data.toList[pos]) hb.2 hv
  have ih := nReadF s hs hd n (pos + 1) (stepV v (s.data.toList[pos])) (by omega) h2
  have o10 : Ev (fun k => zco.f k 10) (dig 18446744073709551616 10) := nOf 10 (by omega)
  have oc : Ev (fun k => zco.f k (bt s (pos : Int) - 48)) (dig 18446744073709551616 (s.data.toList[pos].toNat - 48)) := by
   rw [e]
   exact nOf _ (by omega)
  have l10 : Le 10 100000 := Le_lt (m := 1) (by rw [Nat.pow_one]; omega) (by omega)
  have lc : Le (s.data.toList[pos].toNat - 48) 100000 := Le_lt (m := 1) (by rw [Nat.pow_one]; omega) (by omega)
  refine Ev.congr (G := fun k => (zco.f k 10).bind fun t => (zcb.f k (dig 18446744073709551616 v) t).bind fun m => (zco.f k (bt s pos - 48)).bind fun c => (zcu.f k m c).bind fun o => readF k s n (pos + 1) o) (fun k => rfl) ?_
  refine Ev.bind o10 (Ev.bind (nMul v 10 (Le_lt hv (by omega)) l10) (Ev.bind oc (Ev.bind (nAdd (v * 10) _ (Le_lt h1 (by omega)) lc) ?_)))
  rw [List.drop_eq_getElem_cons hlt, List.foldl_cons]
  exact ih
theorem nRead (s : ByteArray) (hs : s.size ≤ 5000) : Ev (fun k => zcs.f k s) (if textB s = true then (dig 18446744073709551616 (readD s.data.toList), 0) else (([] : List Int), 17)) := by
 by_cases h : textB s = true
 ·
  rw [if_pos h]
  have hd : s.data.toList.all digB = true := by
   unfold textB at h
   simp only [Bool.and_eq_true] at h
   exact h.2
  have := nReadF s hs hd s.size 0 0 (by omega) (by simp)
  rw [List.drop_zero, zcg] at this
  refine Ev.congr (G := fun k => (readF k s s.size 0 []).bind fun o => some (o, 0)) (fun k => ?_) (Ev.bind this (Ev.const _))
  unfold zcs.f
  rw [if_pos h]
 ·
  rw [if_neg h]
  refine Ev.congr (G := fun _ => some (([] : List Int), 17)) (fun k => ?_) (Ev.const _)
  unfold zcs.f
  rw [if_neg h]
theorem textB_dec (n : Nat) : textB (decT n) = true := by
 have hs := decT_size n
 have hn := Lib.nDigits_pos n
 rw [Lib.decDigits_length] at hs
 have ha : (decT n).data.toList.all digB = true := by
  rw [zc3]
  exact List.all_eq_true.2 fun b hb => (digB_iff b).2 (dec_isD n b hb)
 unfold textB
 rw [ha, decide_eq_true (show 0 < (decT n).size by omega)]
 by_cases h : n < 10
 ·
  rw [Lib.nDigits_small h] at hs
  rw [decide_eq_false (show ¬ 1 < (decT n).size by omega)]
  simp
 ·
  obtain ⟨b, l, e, hb⟩ := decD_head n (by omega)
  have h0 : ¬ bt (decT n) 0 = 48 := by
   intro h48
   have := bt_list (decT n) 0 (by omega)
   simp only [zc3, e] at this
   have h2 : bt (decT n) ((0 : Nat) : Int) = bt (decT n) 0 := rfl
   rw [h2, h48] at this
   apply hb
   apply UInt8.toNat_inj.1
   have h3 : b.toNat = 48 := by simp at this; omega
   rw [h3]
   rfl
  rw [decide_eq_false h0]
  rfl
theorem gcdLt {x y M : Nat} (hx : x < M) (hy : y < M) : Nat.gcd x y < M := by
 by_cases h : x = 0
 ·
  subst h
  rw [Nat.gcd_zero_left]
  exact hy
 ·
  exact Nat.lt_of_le_of_lt (Nat.gcd_le_left y (by omega)) hx
theorem gcdPos {x y : Nat} (hy : 0 < y) : 0 < Nat.gcd x y := Nat.gcd_pos_of_pos_right x hy
theorem gcdOne {x y : Nat} (hy : 0 < y) : Nat.gcd (x / Nat.gcd x y) (y / Nat.gcd x y) = 1 := by
 rw [Nat.gcd_div (Nat.gcd_dvd_left x y) (Nat.gcd_dvd_right x y), Nat.div_self (gcdPos hy)]
theorem divLt {x y M : Nat} (hx : x < M) : x / y < M := Nat.lt_of_le_of_lt (Nat.div_le_self _ _) hx
theorem divPos {x y : Nat} (hy : 0 < y) : 0 < y / Nat.gcd x y := Nat.div_pos (Nat.le_of_dvd hy (Nat.gcd_dvd_right x y)) (gcdPos hy)
theorem ne_len {B n : Nat} (hB : 1 < B) (h : 0 < n) : 0 < (dig B n).length := List.length_pos_iff.2 (dig_ne hB (by omega))
theorem nOne : Ev (fun k => zcn.f k) (dig 18446744073709551616 1) := Ev.bind (F := fun k => zco.f k 1) (nOf 1 (by omega)) (Ev.const _)
theorem nLowest {x y m : Nat} (hy : 0 < y) (hx : x < 18446744073709551616 ^ m) (hyl : y < 18446744073709551616 ^ m) (hm : m ≤ 100000) : Ev (fun k => zca.f k (dig 18446744073709551616 x) (dig 18446744073709551616 y)) (dig 18446744073709551616 (x / Nat.gcd x y), dig 18446744073709551616 (y / Nat.gcd x y)) := by
 have hg := gcdLt hx hyl
 exact Ev.bind (nGcd x y (Le_lt hx hm) (Le_lt hyl hm)) (Ev.bind (nDivMod x _ (gcdPos hy) (Le_lt hx hm) (Le_lt hg hm)) (Ev.bind (nDivMod y _ (gcdPos hy) (Le_lt hyl hm) (Le_lt hg hm)) (Ev.const _)))
theorem nRof {x y m : Nat} (hy : 0 < y) (hx : x < 18446744073709551616 ^ m) (hyl : y < 18446744073709551616 ^ m) (hm : m ≤ 100000) : Ev (fun k => zcm.f k (dig 18446744073709551616 x) (dig 18446744073709551616 y)) (dig 18446744073709551616 (x / Nat.gcd x y), dig 18446744073709551616 (y / Nat.gcd x y), 0) := by
 have := ne_len (B := 18446744073709551616) (by decide) hy
 exact Ev.neg (by omega) (Ev.bind (nLowest hy hx hyl hm) (Ev.const _))
theorem sgn_zero {x y : Nat} : sgn x y = 0 ↔ x = y := by
 unfold sgn
 constructor
 ·
  intro h
  by_cases e : x = y
  ·
   exact e
  ·
   rw [if_neg e] at h
   split at h <;> simp at h
 ·
  intro h
  rw [if_pos h]
def rT (x y : Nat) : ByteArray := if y = 1 then decT x else ⟨(Lib.decDigits x ++ 47 :: Lib.decDigits y).toArray⟩
theorem cat3 (a b : ByteArray) (x y : Nat) (ha : a = decT x) (hb : b = decT y) : (a ++ (⟨#[47]⟩ : ByteArray)) ++ b = ⟨(Lib.decDigits x ++ 47 :: Lib.decDigits y).toArray⟩ := by
 subst ha hb
 apply ba_ext
 simp [decT]
theorem cat_size (a : ByteArray) : (a ++ (⟨#[47]⟩ : ByteArray)).size = a.size + 1 := by
 rw [ByteArray.size_append]
 rfl
theorem nRtext {x y m : Nat} (hx : x < 18446744073709551616 ^ m) (hy : y < 18446744073709551616 ^ m) (hm : m ≤ 100000) : Ev (fun k => za2.f k (dig 18446744073709551616 x) (dig 18446744073709551616 y)) (rT x y) := by
 have h1 := dec_lt hx
 have h2 := dec_lt hy
 have s1 := decT_size x
 have s2 := decT_size y
 refine Ev.bind (F := fun k => zcn.f k) nOne (Ev.plain (nCmp y 1) ?_)
 by_cases e : y = 1
 ·
  subst e
  refine Ev.pos (sgn_zero.2 rfl) (Ev.bind (nText hx hm) ?_)
  rw [rT, if_pos rfl]
  exact Ev.const _
 ·
  refine Ev.neg (fun h => e (sgn_zero.1 h)) (Ev.bind (nText hx hm) (Ev.pos (by omega) (Ev.bind (nText hy hm) (Ev.pos (by rw [cat_size]; omega) ?_))))
  rw [rT, if_neg e, cat3 _ _ x y rfl rfl]
  exact Ev.const _
theorem rDivW {x y m : Nat} (hy : 0 < y) (hx : x < 18446744073709551616 ^ m) (hyl : y < 18446744073709551616 ^ m) (hm : m ≤ 5000) : Ev (fun k => zam.f k (dig 10000 x) (dig 10000 y)) (dig 10000 (x / y), dig 10000 (x % y)) :=
 rDiv x y hy (Nat.le_trans (Lo5 hx) (by omega)) (Lo_lt hyl (by omega)) (fun n hn => Lo_lt (m := m + 1) (Nat.lt_of_lt_of_le hn (by
  rw [Nat.pow_succ]
  exact Nat.mul_le_mul (Nat.le_of_lt hyl) (by omega))) (by omega))
theorem rGcdW {x y m : Nat} (hx : x < 18446744073709551616 ^ m) (hyl : y < 18446744073709551616 ^ m) (hm : m ≤ 5000) : Ev (fun k => zbb.f k (dig 10000 x) (dig 10000 y)) (dig 10000 (Nat.gcd x y)) :=
 rGcd_l0 (18446744073709551616 ^ m) (fun n hn => Nat.le_trans (Lo5 (m := m + 1) (Nat.lt_of_lt_of_le hn (by
  rw [Nat.pow_succ]
  exact Nat.mul_le_mul (Nat.le_refl _) (by omega)))) (by omega)) y x (Nat.le_of_lt hx) (Nat.le_of_lt hyl)
theorem rRof {x y m : Nat} (hy : 0 < y) (hx : x < 18446744073709551616 ^ m) (hyl : y < 18446744073709551616 ^ m) (hm : m ≤ 5000) : Ev (fun k => zch.f k (dig 10000 x) (dig 10000 y)) (dig 10000 (x / Nat.gcd x y), dig 10000 (y / Nat.gcd x y)) := by
 have hg := gcdLt hx hyl
 exact Ev.bind (rGcdW hx hyl hm) (Ev.bind (rDivW (gcdPos hy) hx hg hm) (Ev.bind (rDivW (gcdPos hy) hyl hg hm) (Ev.const _)))
theorem rText3 {x y m : Nat} (hx : x < 18446744073709551616 ^ m) (hy : y < 18446744073709551616 ^ m) (hm : m ≤ 10000) : Ev (fun k => zbm.f k (dig 10000 x) (dig 10000 y)) (rT x y) := by
 have h1 := dec_lt hx
 have h2 := dec_lt hy
 have s1 := decT_size x
 have s2 := decT_size y
 have l1 := Lo5 hx
 have l2 := Lo5 hy
 refine Ev.bind (F := fun k => zay.f k 1) (rOf 1 (by omega)) (Ev.bind (rCmp y 1 (Lo_lt hy (by omega)) (Lo_lt (m := 1) (by rw [Nat.pow_one]; omega) (by omega))) ?_)
 by_cases e : y = 1
 ·
  subst e
  refine Ev.pos (sgn_zero.2 rfl) (Ev.bind (rText x (by omega)) ?_)
  rw [rT, if_pos rfl]
  exact Ev.const _
 ·
  refine Ev.neg (fun h => e (sgn_zero.1 h)) (Ev.bind (rText x (by omega)) (Ev.pos (by omega) (Ev.bind (rText y (by omega)) (Ev.pos (by rw [cat_size]; omega) ?_))))
  rw [rT, if_neg e, cat3 _ _ x y rfl rfl]
  exact Ev.const _
theorem nRIs {x y m : Nat} (hx : x < 18446744073709551616 ^ m) (hy : y < 18446744073709551616 ^ m) (hm : m ≤ 10000) : Ev (fun k => zc4.f k (dig 18446744073709551616 x) (dig 18446744073709551616 y) (dig 10000 x) (dig 10000 y)) true :=
 Ev.bind (Is_lt hx hm) (Ev.pos rfl (Ev.bind (Is_lt hy hm) (Ev.const _)))
theorem rawake : Ev (fun k => zbe.f k) true := Ev.mono (K := 12) (fun k => zbe.mono k) (by kernel_rfl)
theorem good_val {a : List Int} {m : Nat} (da : Dig 18446744073709551616 a) (hg : goodB a = true) (hl : a.length ≤ m) : val 18446744073709551616 a < 18446744073709551616 ^ m ∧ a = dig 18446744073709551616 (val 18446744073709551616 a) :=
 ⟨W_le (val_lt a da) hl, good_dig (by decide) da ((goodB_iff a).1 hg)⟩
theorem app_nil_lt (l : List Int) (h : l.length ≤ 100000) : ([] : List Int).length + l.length < 17592186044416 := by
 simp
 omega
theorem made_good (a b : List Int) (da : Dig 18446744073709551616 a) (db : Dig 18446744073709551616 b) (ha : goodB a = true) (hb : goodB b = true) (h1 : a.length ≤ 4) (h2 : b.length ≤ 4) (h3 : b.length ≠ 0) :
  ∃ x y, x < 18446744073709551616 ^ 4 ∧ y < 18446744073709551616 ^ 4 ∧ 0 < y ∧ a = dig 18446744073709551616 x ∧ b = dig 18446744073709551616 y ∧ Ev (fun k => zal.f k a b) (dig 18446744073709551616 (x / Nat.gcd x y), dig 18446744073709551616 (y / Nat.gcd x y), dig 10000 (x / Nat.gcd x y), dig 10000 (y / Nat.gcd x y), true) := by
 have g1 := rGood a (by omega)
 have g2 := rGood b (by omega)
 rw [ha] at g1
 rw [hb] at g2
 obtain ⟨hx, ea⟩ := good_val (m := 4) da ha h1
 obtain ⟨hy, eb⟩ := good_val (m := 4) db hb h2
 generalize val 18446744073709551616 a = x at hx ea
 generalize val 18446744073709551616 b = y at hy eb
 have l1 := app_nil_lt a (by omega)
 have l2 := app_nil_lt b (by omega)
 have hpos : 0 < y := by
  rcases Nat.eq_zero_or_pos y with h0 | h0
  ·
   subst h0
   rw [eb, zcg] at h3
   exact absurd rfl h3
  ·
   exact h0
 refine ⟨x, y, hx, hy, hpos, ea, eb, Ev.neg (by omega) (Ev.neg (by omega) (Ev.neg (by omega) (Ev.plain g1 (Ev.pos rfl (Ev.plain g2 ?_)))))⟩
 refine Ev.step (fun _ => zal.j0.eq_2 ..) (Ev.neg (by simp) (Ev.plain rfl (Ev.pos l1 (Ev.plain rfl (Ev.pos l2 ?_)))))
 rw [List.nil_append, List.nil_append, ea, eb]
 exact Ev.bind (nRof hpos hx hy (by omega)) (Ev.bind (limbs_dig hx (by omega)) (Ev.bind (limbs_dig hy (by omega)) (Ev.bind (rRof hpos hx hy (by omega)) (Ev.const _))))
theorem made_cases (a b : List Int) (da : Dig 18446744073709551616 a) (db : Dig 18446744073709551616 b) : Ev (fun k => zal.f k a b) (([] : List Int), ([] : List Int), ([] : List Int), ([] : List Int), false) ∨
  ∃ x y, x < 18446744073709551616 ^ 4 ∧ y < 18446744073709551616 ^ 4 ∧ 0 < y ∧ a = dig 18446744073709551616 x ∧ b = dig 18446744073709551616 y ∧ Ev (fun k => zal.f k a b) (dig 18446744073709551616 (x / Nat.gcd x y), dig 18446744073709551616 (y / Nat.gcd x y), dig 10000 (x / Nat.gcd x y), dig 10000 (y / Nat.gcd x y), true) := by
 have off : Ev (fun k => zal.j0 k true a b) (([] : List Int), ([] : List Int), ([] : List Int), ([] : List Int), false) := Ev.step (fun _ => zal.j0.eq_2 ..) (Ev.pos rfl (Ev.const _))
 by_cases h1 : (a.length : Int) > 4
 ·
  exact .inl (Ev.pos h1 off)
 ·
  by_cases h2 : (b.length : Int) > 4
  ·
   exact .inl (Ev.neg h1 (Ev.pos h2 off))
  ·
   by_cases h3 : (b.length : Int) = 0
   ·
    exact .inl (Ev.neg h1 (Ev.neg h2 (Ev.pos h3 off)))
   ·
    have g1 := rGood a (by omega)
    have g2 := rGood b (by omega)
    cases ha : goodB a with
    | false =>
     rw [ha] at g1
     exact .inl (Ev.neg h1 (Ev.neg h2 (Ev.neg h3 (Ev.plain g1 (Ev.neg (by simp) off)))))
    | true =>
     rw [ha] at g1
     cases hb : goodB b with
     | false =>
      rw [hb] at g2
      exact .inl (Ev.neg h1 (Ev.neg h2 (Ev.neg h3 (Ev.plain g1 (Ev.pos rfl (Ev.plain g2 off))))))
     | true => exact .inr (made_good a b da db ha hb (by omega) (by omega) (by omega))
def cutN (s : ByteArray) : Nat := if Lib.index s.data.toList [47] = -1 then s.size else (Lib.index s.data.toList [47]).toNat
theorem occ47 (l : List UInt8) (j : Nat) : Lib.occAt l [47] j = true ↔ l[j]? = some 47 := by
 constructor
 ·
  intro h
  exact Lib.occAt_head rfl h
 ·
  intro h
  obtain ⟨h1, h2⟩ := List.getElem?_eq_some_iff.1 h
  unfold Lib.occAt
  rw [List.drop_eq_getElem_cons h1, h2]
  simp
theorem cut_facts (s : ByteArray) : cutN s ≤ s.size ∧ (∀ j, j < cutN s → s.data.toList[j]? ≠ some 47) ∧ (cutN s < s.size → s.data.toList[cutN s]? = some 47) ∧
  (Lib.cut s.data.toList [47]) = if cutN s < s.size then (s.data.toList.take (cutN s), s.data.toList.drop (cutN s + 1), true) else (s.data.toList, [], false) := by
 have hl : s.data.toList.length = s.size := by simp
 unfold cutN
 rcases Lib.index_spec s.data.toList [47] with ⟨h1, h2⟩ | ⟨i, h1, h2, h3, h4⟩
 ·
  rw [if_pos h1]
  refine ⟨Nat.le_refl _, fun j hj h => ?_, fun h => absurd h (Nat.lt_irrefl _), ?_⟩
  ·
   have := h2 j (by omega)
   rw [(occ47 _ j).2 h] at this
   cases this
  ·
   unfold Lib.cut
   rw [h1, if_neg (by decide), if_neg (Nat.lt_irrefl _)]
 ·
  have hne : ¬ (i : Int) = -1 := by omega
  rw [h1, if_neg hne, Int.toNat_natCast]
  have hi := (List.getElem?_eq_some_iff.1 ((occ47 _ i).1 h3)).1
  refine ⟨by omega, fun j hj h => ?_, fun _ => (occ47 _ i).1 h3, ?_⟩
  ·
   have := h4 j hj
   rw [(occ47 _ j).2 h] at this
   cases this
  ·
   unfold Lib.cut
   rw [h1, if_pos (by omega), if_pos (by omega), Int.toNat_natCast]
   rfl
def loB (s : ByteArray) : ByteArray := s.extract 0 (cutN s)
def hiB (s : ByteArray) : ByteArray := s.extract (cutN s + 1) s.size
theorem ext_list (s : ByteArray) (a b : Nat) : (s.extract a b).data.toList = (s.data.toList.take b).drop a := by
 rw [ByteArray.data_extract, Array.toList_extract]
 simp [List.extract_eq_take_drop, List.drop_take]
theorem lo_list (s : ByteArray) : (loB s).data.toList = s.data.toList.take (cutN s) := by
 rw [loB, ext_list]
 rfl
theorem hi_list (s : ByteArray) : (hiB s).data.toList = s.data.toList.drop (cutN s + 1) := by
 have hl : s.data.toList.length = s.size := by simp
 rw [hiB, ext_list, ← hl, List.take_length]
def denB (s : ByteArray) : Nat := if cutN s < s.size then readD (hiB s).data.toList else 1
def readR (s : ByteArray) : Option (Nat × Nat) :=
 if textB (loB s) = true then
  if (cutN s < s.size → textB (hiB s) = true) ∧ denB s ≠ 0 then
   if rT (readD (loB s).data.toList / Nat.gcd (readD (loB s).data.toList) (denB s)) (denB s / Nat.gcd (readD (loB s).data.toList) (denB s)) = s then
    some (readD (loB s).data.toList / Nat.gcd (readD (loB s).data.toList) (denB s), denB s / Nat.gcd (readD (loB s).data.toList) (denB s))
   else none
  else none
 else none
theorem text_lt {s : ByteArray} (h : textB s = true) : readD s.data.toList < 18446744073709551616 ^ s.size := by
 have hd : s.data.toList.all digB = true := by
  unfold textB at h
  simp only [Bool.and_eq_true] at h
  exact h.2
 have h1 := readD_lt s.data.toList (fun b hb => all_drop hd b hb)
 rw [show s.data.toList.length = s.size by simp] at h1
 exact Nat.lt_of_lt_of_le h1 (Nat.pow_le_pow_left (by decide) _)
theorem size_of_list (s : ByteArray) : s.size = s.data.toList.length := by simp
theorem lo_size (s : ByteArray) : (loB s).size ≤ s.size := by
 rw [size_of_list (loB s), lo_list, List.length_take, size_of_list s]
 omega
theorem hi_size (s : ByteArray) : (hiB s).size ≤ s.size := by
 rw [size_of_list (hiB s), hi_list, List.length_drop, size_of_list s]
 omega
theorem lo_lt {s : ByteArray} (h : textB (loB s) = true) : readD (loB s).data.toList < 18446744073709551616 ^ (s.size + 1) := W_le (text_lt h) (by have := lo_size s; omega)
theorem den_lt {s : ByteArray} (h : cutN s < s.size → textB (hiB s) = true) : denB s < 18446744073709551616 ^ (s.size + 1) := by
 unfold denB
 by_cases hc : cutN s < s.size
 ·
  rw [if_pos hc]
  exact W_le (text_lt (h hc)) (by have := hi_size s; omega)
 ·
  rw [if_neg hc]
  exact W_le (m := 1) (by rw [Nat.pow_one]; omega) (by omega)
theorem nRread (s : ByteArray) (hs : s.size ≤ 2000) : Ev (fun k => zbc.f k s) (match readR s with | some (p, q) => (dig 18446744073709551616 p, dig 18446744073709551616 q, 0) | none => (([] : List Int), ([] : List Int), 17)) := by
 obtain ⟨c1, c2, c3, c4⟩ := cut_facts s
 have hcut : strings_Cut.f s (⟨#[47]⟩ : ByteArray) = some (loB s, (if cutN s < s.size then hiB s else ⟨#[]⟩), decide (cutN s < s.size)) := by
  unfold strings_Cut.f
  rw [if_pos (by omega)]
  have e : (⟨#[47]⟩ : ByteArray).data.toList = [47] := rfl
  rw [e, c4]
  by_cases hc : cutN s < s.size
  ·
   simp only [if_pos hc, decide_eq_true hc]
   congr 2
   ·
    exact ba_ext (by rw [lo_list])
   ·
    congr 1
    exact ba_ext (by rw [hi_list])
  ·
   have : cutN s = s.size := by omega
   simp only [if_neg hc, decide_eq_false hc]
   congr 2
   exact ba_ext (by rw [lo_list, this, size_of_list s, List.take_length])
 have hlo := lo_size s
 have hhi := hi_size s
 have n1 := nRead (loB s) (by omega)
 have bad : Ev (fun k => zbc.j1 k s (if textB (loB s) = true then dig 18446744073709551616 (readD (loB s).data.toList) else []) ([] : List Int) true) (([] : List Int), ([] : List Int), 17) := Ev.step (fun _ => zbc.j1.eq_2 ..) (Ev.pos rfl (Ev.const _))
 have bad2 : ∀ x y, Ev (fun k => zbc.j1 k s x y true) (([] : List Int), ([] : List Int), 17) := fun x y => Ev.step (fun _ => zbc.j1.eq_2 ..) (Ev.pos rfl (Ev.const _))
 have good : textB (loB s) = true → (cutN s < s.size → textB (hiB s) = true) → Ev (fun k => zbc.j0 k s (dig 18446744073709551616 (readD (loB s).data.toList)) 0 (dig 18446744073709551616 (denB s)) 0) (match readR s with | some (p, q) => (dig 18446744073709551616 p, dig 18446744073709551616 q, 0) | none => (([] : List Int), ([] : List Int), 17)) := by
  intro h1 h2
  have b1 := lo_lt h1
  have b2 := den_lt h2
  refine Ev.step (fun _ => zbc.j0.eq_2 ..) (Ev.pos rfl (Ev.pos rfl ?_))
  unfold readR
  rw [if_pos h1]
  by_cases h0 : denB s = 0
  ·
   rw [if_neg (fun h => h.2 h0), h0, zcg]
   exact bad2 _ _
  ·
   have hpos : 0 < denB s := by omega
   have hl := ne_len (B := 18446744073709551616) (by decide) hpos
   have e0 : (((dig 18446744073709551616 (denB s)).length : Int) == 0) = false := by
    rw [beq_eq_false_iff_ne]
    omega
   rw [e0, if_pos ⟨h2, h0⟩]
   refine Ev.step (fun _ => zbc.j1.eq_2 ..) (Ev.neg (by simp) (Ev.bind (nLowest hpos b1 b2 (by omega)) (Ev.bind (nRtext (divLt b1) (divLt b2) (by omega)) ?_)))
   by_cases he : rT (readD (loB s).data.toList / Nat.gcd (readD (loB s).data.toList) (denB s)) (denB s / Nat.gcd (readD (loB s).data.toList) (denB s)) = s
   ·
    rw [if_pos he]
    exact Ev.pos (by rw [he]) (Ev.const _)
   ·
    rw [if_neg he]
    refine Ev.neg (fun h => he (ba_ext ?_)) (Ev.const _)
    rw [Lib.toList_data, Lib.toList_data] at h
    exact h
 have neg1 : ∀ f x y, f ≠ 0 → Ev (fun k => zbc.j0 k s x f y 0) (([] : List Int), ([] : List Int), 17) := fun f x y hf => Ev.step (fun _ => zbc.j0.eq_2 ..) (Ev.neg hf (bad2 _ _))
 refine Ev.plain hcut (Ev.bind n1 (Ev.bind nOne ?_))
 by_cases h1 : textB (loB s) = true
 ·
  simp only [if_pos h1]
  by_cases hc : cutN s < s.size
  ·
   rw [decide_eq_true hc]
   have n2 := nRead (hiB s) (by omega)
   refine Ev.pos rfl ?_
   simp only [if_pos hc]
   refine Ev.bind n2 ?_
   by_cases h2 : textB (hiB s) = true
   ·
    simp only [if_pos h2]
    have := good h1 (fun _ => h2)
    rw [denB, if_pos hc] at this
    exact this
   ·
    simp only [if_neg h2]
    have e : readR s = none := by
     unfold readR
     rw [if_pos h1, if_neg (fun h => h2 (h.1 hc))]
    rw [e]
    exact Ev.step (fun _ => zbc.j0.eq_2 ..) (Ev.pos rfl (Ev.neg (by decide) (bad2 _ _)))
  ·
   rw [decide_eq_false hc]
   refine Ev.neg (by simp) ?_
   have := good h1 (fun h => absurd h hc)
   rw [denB, if_neg hc] at this
   exact this
 ·
  simp only [if_neg h1]
  have e : readR s = none := by
   unfold readR
   rw [if_neg h1]
  rw [e]
  by_cases hc : cutN s < s.size
  ·
   rw [decide_eq_true hc]
   have n2 := nRead (hiB s) (by omega)
   refine Ev.pos rfl ?_
   simp only [if_pos hc]
   refine Ev.bind n2 (Ev.step (fun _ => zbc.j0.eq_2 ..) (Ev.neg (by decide) (bad2 _ _)))
  ·
   rw [decide_eq_false hc]
   exact Ev.neg (by simp) (Ev.step (fun _ => zbc.j0.eq_2 ..) (Ev.neg (by decide) (bad2 _ _)))
theorem cutN_of (s : ByteArray) (a b : List UInt8) (h : s.data.toList = a ++ 47 :: b) (ha : ∀ x ∈ a, x ≠ 47) : cutN s = a.length ∧ a.length < s.size := by
 have hl : s.data.toList.length = s.size := by simp
 rw [h] at hl
 simp at hl
 have ho : Lib.occAt s.data.toList [47] a.length = true := by
  rw [occ47, h]
  simp
 have hi : Lib.index s.data.toList [47] = (a.length : Int) := Lib.index_first (by rw [h]; simp) ho (fun j hj => by
  rw [← Bool.not_eq_true, occ47, h, List.getElem?_append_left hj, List.getElem?_eq_getElem hj]
  intro e
  exact ha _ (List.getElem_mem hj) (Option.some.inj e))
 unfold cutN
 rw [hi, if_neg (by omega), Int.toNat_natCast]
 exact ⟨rfl, by omega⟩
theorem cutN_no (s : ByteArray) (h : ∀ x ∈ s.data.toList, x ≠ 47) : cutN s = s.size := by
 obtain ⟨c1, c2, c3, _⟩ := cut_facts s
 rcases Nat.lt_or_ge (cutN s) s.size with hc | hc
 ·
  exfalso
  have := c3 hc
  obtain ⟨h1, h2⟩ := List.getElem?_eq_some_iff.1 this
  exact h _ (List.getElem_mem h1) h2
 ·
  omega
theorem dec_no47 (n : Nat) : ∀ x ∈ Lib.decDigits n, x ≠ 47 := fun x hx e => by
 have := dec_isD n x hx
 subst e
 unfold isD at this
 simp at this
theorem readR_rT {p q : Nat} (hq : 0 < q) (hg : Nat.gcd p q = 1) : readR (rT p q) = some (p, q) := by
 by_cases h1 : q = 1
 ·
  subst h1
  have e : rT p 1 = decT p := by rw [rT, if_pos rfl]
  have hc := cutN_no (decT p) (by rw [zc3]; exact dec_no47 p)
  have hlo : loB (decT p) = decT p := ba_ext (by rw [lo_list, hc, size_of_list, List.take_length])
  have hd : denB (decT p) = 1 := by rw [denB, if_neg (by omega)]
  rw [e]
  unfold readR
  rw [hlo, if_pos (textB_dec p), hd, if_pos ⟨fun h => absurd h (by omega), by omega⟩, zc3, readD_dec, Nat.gcd_one_right, Nat.div_one, if_pos e]
 ·
  have e : (rT p q).data.toList = Lib.decDigits p ++ 47 :: Lib.decDigits q := by rw [rT, if_neg h1]
  obtain ⟨hc, hlt⟩ := cutN_of (rT p q) _ _ e (dec_no47 p)
  have hlo : loB (rT p q) = decT p := ba_ext (by rw [lo_list, hc, e, List.take_left, zc3])
  have hhi : hiB (rT p q) = decT q := ba_ext (by
   rw [hi_list, hc, e, zc3, List.drop_append, List.drop_eq_nil_of_le (by omega), List.nil_append, show (Lib.decDigits p).length + 1 - (Lib.decDigits p).length = 1 by omega]
   rfl)
  have hd : denB (rT p q) = q := by rw [denB, if_pos (by omega), hhi, zc3, readD_dec]
  unfold readR
  rw [hlo, if_pos (textB_dec p), hhi, hd, if_pos ⟨fun _ => textB_dec q, by omega⟩, zc3, readD_dec, hg, Nat.div_one, Nat.div_one, if_pos rfl]
theorem lRatioTexts (a b : List Int) (da : Dig 18446744073709551616 a) (db : Dig 18446744073709551616 b) : ∃ k, zat.f k a b = some true := by
 refine Ev.get ?_
 have off : ∀ x y z t, Ev (fun k => zat.j0 k true x y z t) true := fun x y z t => Ev.step (fun _ => zat.j0.eq_2 ..) (Ev.pos rfl (Ev.bind rawake (Ev.const _)))
 rcases made_cases a b da db with hm | ⟨x, y, hx, hy, hpos, ea, eb, hm⟩
 ·
  exact Ev.bind hm (Ev.bind rawake (Ev.pos rfl (off _ _ _ _)))
 ·
  refine Ev.bind hm (Ev.bind rawake (Ev.pos rfl ?_))
  have q1 := divLt (y := Nat.gcd x y) hx
  have q2 := divLt (y := Nat.gcd x y) hy
  have q3 := divPos (x := x) hpos
  have hsz : (rT (x / Nat.gcd x y) (y / Nat.gcd x y)).size ≤ 2000 := by
   have h1 := dec_lt q1
   have h2 := dec_lt q2
   rw [size_of_list]
   unfold rT
   split
   ·
    rw [zc3]
    omega
   ·
    simp
    omega
  have hr := nRread _ hsz
  rw [readR_rT q3 (gcdOne hpos)] at hr
  refine Ev.step (fun _ => zat.j0.eq_2 ..) (Ev.neg (by simp) ?_)
  exact Ev.bind (nRtext q1 q2 (by omega)) (Ev.bind hr (Ev.bind (nRtext q1 q2 (by omega)) (Ev.bind (rText3 q1 q2 (by omega)) (Ev.pos rfl (Ev.pos rfl (Ev.bind (nRIs q1 q2 (by omega)) (Ev.const _)))))))
theorem cRatioTexts (a0 a1 : Option Addr) (len0 cap0 len1 cap1 : Nat) (z0 z1 : List Int) (w : World) (w0 : (a0 = none ∧ len0 = 0 ∧ cap0 = 0 ∧ z0 = []) ∨ ∃ x, a0 = some x ∧ len0 ≤ cap0 ∧ cap0 ≤ maxLen ∧ z0.length = cap0 ∧ (∀ i, i < z0.length → w.cell? (x.add i) = some (.int .u64 (z0.getD i 0))) ∧ ∀ n ∈ z0, (Lit.int .u64 n).wf = true)
  (w1 : (a1 = none ∧ len1 = 0 ∧ cap1 = 0 ∧ z1 = []) ∨ ∃ x, a1 = some x ∧ len1 ≤ cap1 ∧ cap1 ≤ maxLen ∧ z1.length = cap1 ∧ (∀ i, i < z1.length → w.cell? (x.add i) = some (.int .u64 (z1.getD i 0))) ∧ ∀ n ∈ z1, (Lit.int .u64 n).wf = true) (hG : Glob w) :
  Calls Tryd.prog 8 #[.agg #[.slice a0 len0 cap0, .slice a1 len1 cap1]] w fun e w' => e = .returned (.bool true) ∧ Below w.heap.size w w' := by
 obtain ⟨l0, rfl, hr0, hm0, hw0, hc0⟩ := ReadsInt.ofRowC w0
 obtain ⟨l1, rfl, hr1, hm1, hw1, hc1⟩ := ReadsInt.ofRowC w1
 obtain ⟨k, h⟩ := lRatioTexts l0 l1 (dig_lit hw0) (dig_lit hw1)
 exact (zat.calls k _ _ l0 _ _ l1 true w (Kd.C_of_reads (d := (0 : Int)) (h1 := fun _ => rfl) hr0) hc0 (Kd.C_of_reads (d := (0 : Int)) (h1 := fun _ => rfl) hr1) hc1 hG h).mono fun e w' ⟨he, hd⟩ => ⟨he, hd⟩
end Go.Proofs.YtfjkamhcabckeaaDoor.P
end
