import Derived.Test.YtcoipojikmgdmaaDoorP0
import Derived.Test.YtcoipojikmgdmaaDoorP5
import Derived.Test.YtcoipojikmgdmaaDoorP1
import Derived.Test.YtcoipojikmgdmaaDoorP10
import Derived.Test.YtcoipojikmgdmaaDoorP11
import Derived.Test.YtcoipojikmgdmaaDoorP19
import Derived.Test.YtcoipojikmgdmaaDoorP21
import Derived.Test.YtcoipojikmgdmaaDoorP20
import Derived.Test.YtcoipojikmgdmaaDoorP18
import Derived.Test.YtcoipojikmgdmaaDoorP6
import Derived.Test.YtcoipojikmgdmaaDoorP17
import Derived.Test.YtcoipojikmgdmaaDoorQA
namespace Go.Proofs.YtcoipojikmgdmaaDoor.P
open Go.RowKit Go.Proofs.YtcoipojikmgdmaaDoorW.PrintWords Go.Proofs.YtcoipojikmgdmaaDoorW.PrintLast Go.Proofs.YtcoipojikmgdmaaDoorW.PrintMore
attribute [local go_sem] max2_int min2_int max_two min_two max_three min_three max_four min_four
set_option linter.unusedVariables false
set_option linter.unusedSimpArgs false
theorem lit_u64 {x : Int} (h : (Lit.int .u64 x).wf = true) : 0 ≤ x ∧ x < 18446744073709551616 := by
  have h1 : IntKind.u64.min ≤ x ∧ x ≤ IntKind.u64.max := by simpa [Lit.wf] using h
  have h2 : IntKind.u64.min = 0 := by decide
  have h3 : IntKind.u64.max = 18446744073709551615 := by decide
  omega
theorem dig_lit {l : List Int} (h : ∀ x ∈ l, (Lit.int .u64 x).wf = true) : Dig 18446744073709551616 l := fun x hx => lit_u64 (h x hx)
def goodB (l : List Int) : Bool := if l.length = 0 then true else l.getD (l.length - 1) 0 != 0
theorem nGood (l : List Int) (hl : l.length < 1000000000) : nat_Good.f l = some (goodB l) := by
  unfold nat_Good.f goodB
  by_cases h : l.length = 0
  · rw [if_pos (by omega), if_pos h]
  · rw [if_neg (by omega), if_neg h, wsub1 l.length (by omega) (by omega), if_pos (by omega), if_pos (by omega), rd_nat]
theorem rGood (l : List Int) (hl : l.length < 1000000000) : roundelref02_Good.f l = some (goodB l) := by
  unfold roundelref02_Good.f goodB
  by_cases h : l.length = 0
  · rw [if_pos (by omega), if_pos h]
  · rw [if_neg (by omega), if_neg h, wsub1 l.length (by omega) (by omega), if_pos (by omega), if_pos (by omega), rd_nat]
theorem goodB_iff (l : List Int) : goodB l = true ↔ Good l := by
  unfold goodB Good
  by_cases h : l.length = 0
  · rw [if_pos h]
    simp [List.length_eq_zero_iff.1 h]
  · rw [if_neg h]
    have : l ≠ [] := fun e => h (by rw [e]; rfl)
    simp [this]
theorem goodB_dig (n : Nat) : goodB (dig 18446744073709551616 n) = true := (goodB_iff _).2 (dig_last (by decide) n)
theorem copied_eq (l : List Int) (hl : l.length < 1000000000) : roundellaw02_copied.f l = some l := by
  unfold roundellaw02_copied.f
  rw [Option.bind_some, if_pos (by simp; omega)]
  rfl
theorem ntrim_l0 : ∀ (n : Nat) (l : List Int), l.length = n → n < 1000000000 → Ev (fun k => nat_trim.l0 k l) (strip l) := by
  intro n
  induction n with
  | zero =>
    intro l hl _
    obtain rfl := List.length_eq_zero_iff.1 hl
    refine Ev.step (G := fun _ => some []) (fun k => ?_) (Ev.const _)
    rw [nat_trim.l0, if_neg (by simp)]
  | succ n ih =>
    intro l hl hn
    have e1 := Lib.hid (wsub1 l.length (by omega) (by omega))
    by_cases hz : l.getD n 0 = 0
    · refine Ev.step (G := fun k => nat_trim.l0 k (l.take n)) (fun k => ?_) ?_
      · rw [nat_trim.l0, if_pos (by omega), e1.out, hl, Nat.add_sub_cancel, if_pos (by omega), if_pos (by omega), rd_nat, if_pos hz, if_pos (by omega), Int.toNat_natCast]
      · have e : strip l = strip (l.take n) := by
          have h2 := take_snoc l n (by omega)
          rw [hz, ← hl, List.take_length] at h2
          have h3 := strip_snoc0 (l.take n)
          rw [← h2] at h3
          exact h3
        rw [e]
        exact ih (l.take n) (by rw [List.length_take]; omega) (by omega)
    · refine Ev.step (G := fun _ => some l) (fun k => ?_) ?_
      · rw [nat_trim.l0, if_pos (by omega), e1.out, hl, Nat.add_sub_cancel, if_pos (by omega), if_pos (by omega), rd_nat, if_neg hz]
      · have h2 := take_snoc l n (by omega)
        rw [← hl, List.take_length] at h2
        have e : strip l = l := by
          have h3 := strip_snoc (l.take n) _ hz
          rw [← h2] at h3
          exact h3
        rw [e]
        exact Ev.const _
theorem ntrim (l : List Int) (hl : l.length < 1000000000) (h : Dig 18446744073709551616 l) : Ev (fun k => nat_trim.f k l) (dig 18446744073709551616 (val 18446744073709551616 l)) := by
  rw [← strip_dig (by decide) l h]
  exact ntrim_l0 l.length l rfl hl
theorem nOf (n : Nat) (h : n < 18446744073709551616) : Ev (fun k => nat_Of.f k (n : Int)) (dig 18446744073709551616 n) := by
  have h1 := ntrim [(n : Int)] (by simp) (Dig.mk (by omega) (by omega) (Dig.nil _))
  rw [show val 18446744073709551616 [(n : Int)] = n by simp [val]] at h1
  exact Ev.bind h1 (Ev.const _)
theorem nawake : Ev (fun k => roundellaw02_awake.f k) true := Ev.mono (K := 12) (fun k => roundellaw02_awake.mono k) (by kernel_rfl)
theorem nAt (l : List Int) (i : Nat) : nat_Nat_at.f l (i : Int) = some (l.getD i 0) := by
  unfold nat_Nat_at.f
  by_cases h : i < l.length
  · rw [if_neg (by omega), if_pos (by omega), if_pos (by omega), rd_nat]
  · rw [if_pos (by omega), List.getD_eq_getElem?_getD, List.getElem?_eq_none (by omega)]
    rfl
theorem nCmp' (a b : List Int) (ha : Dig 18446744073709551616 a) (hb : Dig 18446744073709551616 b) (ga : Good a) (gb : Good b) : natCmp a b = sgn (val 18446744073709551616 a) (val 18446744073709551616 b) := by
  unfold natCmp
  by_cases h : a.length = b.length
  · rw [if_pos h, revCmp_val a.length a b rfl h.symm ha hb]
  · rw [if_neg h]
    by_cases h2 : a.length < b.length
    · rw [if_pos h2, sgn_lt (len_lt (by decide) ha hb gb h2)]
    · rw [if_neg h2, sgn_gt (len_lt (by decide) hb ha ga (by omega))]
theorem nCmp (x y : Nat) : nat_Cmp.f (dig 18446744073709551616 x) (dig 18446744073709551616 y) = some (sgn x y) := by
  unfold nat_Cmp.f
  rw [nCmp' _ _ (Dig_dig (by decide) x) (Dig_dig (by decide) y) (dig_last (by decide) x) (dig_last (by decide) y), val_dig (by decide), val_dig (by decide)]
theorem add64 (x y c : Nat) (hc : c ≤ 1) : bits_Add64.f (x : Int) (y : Int) (c : Int) = some ((((x + y + c) % 18446744073709551616 : Nat) : Int), (((x + y + c) / 18446744073709551616 : Nat) : Int)) := by
  unfold bits_Add64.f
  rw [if_pos (by omega)]
  simp only [Int.toNat_natCast]
theorem sub64 (x y c : Nat) (hc : c ≤ 1) : bits_Sub64.f (x : Int) (y : Int) (c : Int) = some ((((x + 18446744073709551616 - y - c) % 18446744073709551616 : Nat) : Int), (((if x < y + c then 1 else 0 : Nat)) : Int)) := by
  unfold bits_Sub64.f
  rw [if_pos (by omega)]
  simp only [Int.toNat_natCast]
theorem nAdd_l0 (a b : List Int) (ha : Dig 18446744073709551616 a) (hb : Dig 18446744073709551616 b) (M : Nat) (hM : M < 1000000) (hs : a.length ≤ M) (hs' : b.length ≤ M) : ∀ (m i c : Nat) (out : List Int), i + m = M → c ≤ 1 → out.length = i → Dig 18446744073709551616 out →
    Ev (fun k => nat_Add.l0 k a b out (c : Int) (M : Int) (i : Int)) (dig 18446744073709551616 (val 18446744073709551616 out + 18446744073709551616 ^ i * (V 18446744073709551616 a i + V 18446744073709551616 b i + c))) := by
  intro m
  induction m with
  | zero =>
    intro i c out hi hc ho hd
    refine Ev.step (G := fun k => (nat_trim.f k (out ++ [(c : Int)])).bind fun t324 => some t324) (fun k => ?_) ?_
    · rw [nat_Add.l0, if_neg (by omega), if_pos (by omega)]
    · have h := ntrim (out ++ [(c : Int)]) (by rw [List.length_append, List.length_singleton]; omega) (hd.app (Dig.mk (by omega) (by omega) (Dig.nil _)))
      rw [val_append, ho] at h
      rw [V_end _ (show a.length ≤ i by omega), V_end _ (show b.length ≤ i by omega), Nat.zero_add]
      simp only [val, Int.toNat_natCast, Nat.mul_zero, Nat.add_zero] at h
      exact Ev.bind h (Ev.const _)
  | succ m ih =>
    intro i c out hi hc ho hd
    have ha1 := ha.get (show 0 < 18446744073709551616 by decide) i
    have hb1 := hb.get (show 0 < 18446744073709551616 by decide) i
    have hva := V_step 18446744073709551616 a i
    have hvb := V_step 18446744073709551616 b i
    obtain ⟨x, hx⟩ := Int.eq_ofNat_of_zero_le ha1.1
    obtain ⟨y, hy⟩ := Int.eq_ofNat_of_zero_le hb1.1
    rw [hx] at hva ha1
    rw [hy] at hvb hb1
    rw [Int.toNat_natCast] at hva hvb
    have hq : (x + y + c) / 18446744073709551616 ≤ 1 := by omega
    have ih2 := ih (i + 1) ((x + y + c) / 18446744073709551616) (out ++ [(((x + y + c) % 18446744073709551616 : Nat) : Int)]) (by omega) hq (by rw [List.length_append, ho]; rfl) (hd.app (Dig.mk (by omega) (by omega) (Dig.nil _)))
    rw [val_append, ho, Nat.pow_succ] at ih2
    simp only [val, Int.toNat_natCast, Nat.mul_zero, Nat.add_zero] at ih2
    have ev := add_val (18446744073709551616 ^ i) 18446744073709551616 (val 18446744073709551616 out) ((x + y + c) % 18446744073709551616) ((x + y + c) / 18446744073709551616) x y c (V 18446744073709551616 a (i + 1)) (V 18446744073709551616 b (i + 1)) (by omega)
    rw [← hva, ← hvb] at ev
    rw [ev]
    have WA := Lib.hid (wadd1 i (by omega))
    have H2 := Lib.hid ih2
    clear ih2 ev hva hvb
    refine Ev.step (fun k => ?_) H2.out
    rw [nat_Add.l0, if_pos (by omega), nAt, nAt, hx, hy, Option.bind_some, Option.bind_some, add64 x y c hc, Option.bind_some, if_pos (by omega), WA.out]
/-- A limb list that is short enough. -/
def Le (n m : Nat) : Prop := (dig 18446744073709551616 n).length ≤ m
theorem nAdd (x y : Nat) (hx : Le x 100000) (hy : Le y 100000) : Ev (fun k => nat_Add.f k (dig 18446744073709551616 x) (dig 18446744073709551616 y)) (dig 18446744073709551616 (x + y)) := by
  unfold Le at hx hy
  have dx := Dig_dig (B := 18446744073709551616) (by decide) x
  have dy := Dig_dig (B := 18446744073709551616) (by decide) y
  have vx := val_dig (B := 18446744073709551616) (by decide) x
  have vy := val_dig (B := 18446744073709551616) (by decide) y
  generalize dig 18446744073709551616 x = a at *
  generalize dig 18446744073709551616 y = b at *
  have h := nAdd_l0 a b dx dy (max a.length b.length) (by omega) (by omega) (by omega) (max a.length b.length) 0 0 [] (by omega) (by omega) rfl (Dig.nil _)
  rw [V_zero, V_zero, vx, vy] at h
  simp only [val, Nat.pow_zero, Nat.one_mul, Nat.zero_add, Nat.add_zero] at h
  refine Ev.congr (fun k => ?_) h
  have e : mx (a.length : Int) (b.length : Int) = ((max a.length b.length : Nat) : Int) := by
    unfold mx
    split <;> omega
  rw [nat_Add.f, e]
  rfl
theorem sub_digit (x y bo va vb : Nat) (hx : x < 18446744073709551616) (hy : y < 18446744073709551616) (hbo : bo ≤ 1) (h : y + 18446744073709551616 * vb + bo ≤ x + 18446744073709551616 * va) :
    (x + 18446744073709551616 - y - bo) % 18446744073709551616 + y + bo = x + 18446744073709551616 * (if x < y + bo then 1 else 0) ∧ vb + (if x < y + bo then 1 else 0) ≤ va ∧ (if x < y + bo then 1 else 0) ≤ 1 := by
  split <;> refine ⟨?_, ?_, ?_⟩ <;> omega
theorem nLess_l0 (a b : List Int) (ha : Dig 18446744073709551616 a) (hb : Dig 18446744073709551616 b) (hs : a.length < 1000000) (hs' : b.length ≤ a.length) (T : Nat) : ∀ (m i bo : Nat) (out : List Int), i + m = a.length → bo ≤ 1 → out.length = a.length → Dig 18446744073709551616 out → (∀ p, i ≤ p → out.getD p 0 = 0) →
    V 18446744073709551616 b i + bo ≤ V 18446744073709551616 a i → val 18446744073709551616 out + 18446744073709551616 ^ i * V 18446744073709551616 a i = T + 18446744073709551616 ^ i * (V 18446744073709551616 b i + bo) →
    Ev (fun k => nat_less.l0 k a b out (bo : Int) (a.length : Int) (i : Int)) (dig 18446744073709551616 T) := by
  intro m
  induction m with
  | zero =>
    intro i bo out hi hbo ho hd hz hle hT
    refine Ev.step (G := fun k => (nat_trim.f k out).bind fun t307 => some t307) (fun k => ?_) ?_
    · rw [nat_less.l0, if_neg (by omega)]
    · have h := ntrim out (by omega) hd
      rw [V_end _ (show a.length ≤ i by omega)] at hT hle
      have h0 : V 18446744073709551616 b i + bo = 0 := by omega
      rw [h0, Nat.mul_zero, Nat.add_zero, Nat.add_zero] at hT
      rw [hT] at h
      exact Ev.bind h (Ev.const _)
  | succ m ih =>
    intro i bo out hi hbo ho hd hz hle hT
    have ha1 := ha.get (show 0 < 18446744073709551616 by decide) i
    have hb1 := hb.get (show 0 < 18446744073709551616 by decide) i
    have hva := V_step 18446744073709551616 a i
    have hvb := V_step 18446744073709551616 b i
    obtain ⟨x, hx⟩ := Int.eq_ofNat_of_zero_le ha1.1
    obtain ⟨y, hy⟩ := Int.eq_ofNat_of_zero_le hb1.1
    rw [hx] at hva ha1
    rw [hy] at hvb hb1
    rw [Int.toNat_natCast] at hva hvb
    rw [hva, hvb] at hle hT
    obtain ⟨d1, d2, d3⟩ := sub_digit x y bo _ _ (by omega) (by omega) hbo hle
    have hset := val_set 18446744073709551616 out i (((x + 18446744073709551616 - y - bo) % 18446744073709551616 : Nat) : Int) (by omega)
    rw [hz i (Nat.le_refl _), Int.toNat_natCast, Int.toNat_zero, Nat.mul_zero, Nat.add_zero] at hset
    have hv := less_val _ _ _ _ _ _ _ _ _ _ _ hT d1
    rw [← hset, ← Nat.pow_succ] at hv
    have ih2 := ih (i + 1) (if x < y + bo then 1 else 0) (out.set i (((x + 18446744073709551616 - y - bo) % 18446744073709551616 : Nat) : Int)) (by omega) d3 (by rw [List.length_set]; exact ho) (dig_set hd _ (by omega) (by omega)) (fun p hp => by rw [getD_set_ne (by omega)]; exact hz p (by omega)) d2 hv
    have WA := Lib.hid (wadd1 i (by omega))
    have H2 := Lib.hid ih2
    clear ih2 hv hset d1 d2 d3 hT hle hva hvb
    refine Ev.step (fun k => ?_) H2.out
    rw [nat_less.l0, if_pos (by omega), if_pos (by omega), if_pos (by omega), nAt, Option.bind_some, rd_nat, hx, hy, sub64 x y bo hbo, Option.bind_some, if_pos (by omega), WA.out, Int.toNat_natCast]
theorem nLess (x y : Nat) (hx : Le x 100000) (hy : y ≤ x) : Ev (fun k => nat_less.f k (dig 18446744073709551616 x) (dig 18446744073709551616 y)) (dig 18446744073709551616 (x - y)) := by
  have hl := dig_mono (B := 18446744073709551616) (by decide) hy
  unfold Le at hx
  have dx := Dig_dig (B := 18446744073709551616) (by decide) x
  have dy := Dig_dig (B := 18446744073709551616) (by decide) y
  have vx := val_dig (B := 18446744073709551616) (by decide) x
  have vy := val_dig (B := 18446744073709551616) (by decide) y
  generalize dig 18446744073709551616 x = a at *
  generalize dig 18446744073709551616 y = b at *
  have h := nLess_l0 a b dx dy (by omega) hl (x - y) a.length 0 0 (List.replicate a.length 0) (by omega) (by omega) (by simp) (Dig.rep (by decide) _) (fun p _ => by
    rw [List.getD_eq_getElem?_getD, List.getElem?_replicate]
    split <;> rfl) (by rw [V_zero, V_zero, vx, vy]; omega) (by rw [V_zero, V_zero, vx, vy, val_replicate]; simp; omega)
  refine Ev.congr (fun k => ?_) h
  rw [nat_less.f, if_pos (by omega), Int.toNat_natCast, if_pos (by omega)]
  rfl
theorem nSub (x y : Nat) (hx : Le x 100000) (hy : y ≤ x) : Ev (fun k => nat_Sub.f k (dig 18446744073709551616 x) (dig 18446744073709551616 y)) (dig 18446744073709551616 (x - y), 0) := by
  have hc : ¬ sgn x y < 0 := by
    unfold sgn
    split
    · omega
    · rw [if_neg (by omega)]
      omega
  refine Ev.congr (G := fun k => (nat_less.f k (dig 18446744073709551616 x) (dig 18446744073709551616 y)).bind fun t311 => some (t311, 0)) (fun k => ?_) (Ev.bind (nLess x y hx hy) (Ev.const _))
  rw [nat_Sub.f, nCmp, Option.bind_some, if_neg hc]
theorem nSubLow (x y : Nat) (h : x < y) : Ev (fun k => nat_Sub.f k (dig 18446744073709551616 x) (dig 18446744073709551616 y)) (([] : List Int), 14) := by
  refine Ev.of (fun k => ?_)
  rw [nat_Sub.f, nCmp, Option.bind_some, sgn_lt h, if_pos (by omega)]
theorem Le_lt {x m : Nat} (hx : x < 18446744073709551616 ^ m) (h : m ≤ 100000) : Le x 100000 := Nat.le_trans (dig_length (by decide) m x hx) h
/-- The laws' naturals are few. -/
def fewB (a b : List Int) : Bool := decide (a.length ≤ 12) && decide (b.length ≤ 12) && goodB a && goodB b
theorem few_eq (a b : List Int) (ha : a.length < 1000000000) (hb : b.length < 1000000000) : roundellaw02_few.f a b = some (fewB a b) := by
  unfold roundellaw02_few.f fewB
  by_cases h1 : a.length ≤ 12
  · rw [if_pos (by omega), decide_eq_true h1]
    by_cases h2 : b.length ≤ 12
    · rw [if_pos (by omega), decide_eq_true h2, rGood a (by omega), rGood b (by omega)]
      cases goodB a <;> cases goodB b <;> rfl
    · rw [if_neg (by omega), decide_eq_false h2]
      rfl
  · rw [if_neg (by omega), decide_eq_false h1]
    rfl
theorem few_long (a b : List Int) (h : ¬ (a.length ≤ 12 ∧ b.length ≤ 12)) : roundellaw02_few.f a b = some false := by
  unfold roundellaw02_few.f
  by_cases h1 : a.length ≤ 12
  · rw [if_pos (by omega), if_neg (by omega)]
  · rw [if_neg (by omega)]
/-- Either they are not few, or they are two naturals. -/
theorem few_cases (a b : List Int) (da : Dig 18446744073709551616 a) (db : Dig 18446744073709551616 b) : roundellaw02_few.f a b = some false ∨ (roundellaw02_few.f a b = some true ∧ ∃ x y, x < 18446744073709551616 ^ 12 ∧ y < 18446744073709551616 ^ 12 ∧ a = dig 18446744073709551616 x ∧ b = dig 18446744073709551616 y ∧ a.length ≤ 12 ∧ b.length ≤ 12) := by
  by_cases h : a.length ≤ 12 ∧ b.length ≤ 12
  · obtain ⟨h1, h2⟩ := h
    rw [few_eq a b (by omega) (by omega)]
    cases hg : fewB a b with
    | false => exact .inl rfl
    | true =>
      right
      simp only [fewB, Bool.and_eq_true] at hg
      have e1 := good_dig (by decide) da ((goodB_iff a).1 hg.1.2)
      have e2 := good_dig (by decide) db ((goodB_iff b).1 hg.2)
      exact ⟨rfl, _, _, W_le (val_lt a da) h1, W_le (val_lt b db) h2, e1, e2, h1, h2⟩
  · exact .inl (few_long a b h)
theorem nCmp0 {n m : Nat} (h : n = m) : nat_Cmp.f (dig 18446744073709551616 n) (dig 18446744073709551616 m) = some 0 := by
  rw [nCmp, h, sgn, if_pos rfl]
theorem mul64_parts (x1 x0 y1 y0 : Nat) (h1 : x1 < 4294967296) (h2 : x0 < 4294967296) (h3 : y1 < 4294967296) (h4 : y0 < 4294967296) :
    x1 * y1 ≤ 18446744065119617025 ∧ x1 * y0 ≤ 18446744065119617025 ∧ x0 * y1 ≤ 18446744065119617025 ∧ x0 * y0 ≤ 18446744065119617025 ∧
    (4294967296 * x1 + x0) * (4294967296 * y1 + y0) = 18446744073709551616 * (x1 * y1) + 4294967296 * (x1 * y0) + 4294967296 * (x0 * y1) + x0 * y0 := by
  refine ⟨Nat.mul_le_mul (show x1 ≤ 4294967295 by omega) (show y1 ≤ 4294967295 by omega), Nat.mul_le_mul (show x1 ≤ 4294967295 by omega) (show y0 ≤ 4294967295 by omega), Nat.mul_le_mul (show x0 ≤ 4294967295 by omega) (show y1 ≤ 4294967295 by omega), Nat.mul_le_mul (show x0 ≤ 4294967295 by omega) (show y0 ≤ 4294967295 by omega), ?_⟩
  rw [Nat.add_mul, Nat.mul_add, Nat.mul_add]
  have e1 : 4294967296 * x1 * (4294967296 * y1) = 18446744073709551616 * (x1 * y1) := by
    rw [Nat.mul_mul_mul_comm]
  have e2 : 4294967296 * x1 * y0 = 4294967296 * (x1 * y0) := Nat.mul_assoc _ _ _
  have e3 : x0 * (4294967296 * y1) = 4294967296 * (x0 * y1) := Nat.mul_left_comm _ _ _
  rw [e1, e2, e3]
  omega
theorem mul64_hi (x y P a b c d : Nat) (hP : P = 18446744073709551616 * a + 4294967296 * b + 4294967296 * c + d) (ha : a ≤ 18446744065119617025) (hb : b ≤ 18446744065119617025) (hc : c ≤ 18446744065119617025) (hd : d ≤ 18446744065119617025) :
    a + (b + d / 4294967296) / 4294967296 + ((b + d / 4294967296) % 4294967296 + c) / 4294967296 = P / 18446744073709551616 := by
  omega
theorem mul64 (x y : Nat) (hx : x < 18446744073709551616) (hy : y < 18446744073709551616) : bits_Mul64.f (x : Int) (y : Int) = some (((x * y / 18446744073709551616 : Nat) : Int), ((x * y % 18446744073709551616 : Nat) : Int)) := by
  unfold bits_Mul64.f
  rw [and32 (by omega) (by omega), and32 (by omega) (by omega)]
  obtain ⟨b1, b2, b3, b4, e⟩ := mul64_parts (x / 4294967296) (x % 4294967296) (y / 4294967296) (y % 4294967296) (by omega) (by omega) (by omega) (by omega)
  rw [show 4294967296 * (x / 4294967296) + x % 4294967296 = x by omega, show 4294967296 * (y / 4294967296) + y % 4294967296 = y by omega] at e
  have c1 : (x : Int) / 4294967296 = ((x / 4294967296 : Nat) : Int) := by omega
  have c2 : (y : Int) / 4294967296 = ((y / 4294967296 : Nat) : Int) := by omega
  have c3 : (x : Int) % 4294967296 = ((x % 4294967296 : Nat) : Int) := by omega
  have c4 : (y : Int) % 4294967296 = ((y % 4294967296 : Nat) : Int) := by omega
  rw [c1, c2, c3, c4]
  have cm : ∀ p q : Nat, (p : Int) * (q : Int) = ((p * q : Nat) : Int) := fun p q => by simp
  rw [cm, cm, cm, cm, cm]
  have hh := mul64_hi x y _ _ _ _ _ e b1 b2 b3 b4
  generalize x / 4294967296 * (y / 4294967296) = a at *
  generalize x / 4294967296 * (y % 4294967296) = b at *
  generalize x % 4294967296 * (y / 4294967296) = c at *
  generalize x % 4294967296 * (y % 4294967296) = d at *
  generalize x * y = P at *
  clear c1 c2 c3 c4 cm
  have e1 : IntKind.u64.wrap (d : Int) = (d : Int) := u64s (by omega) (by omega)
  have e2 : IntKind.u64.wrap (b : Int) = (b : Int) := u64s (by omega) (by omega)
  have e3 : IntKind.u64.wrap (c : Int) = (c : Int) := u64s (by omega) (by omega)
  have e4 : IntKind.u64.wrap (a : Int) = (a : Int) := u64s (by omega) (by omega)
  have e5 : IntKind.u64.wrap ((b : Int) + (d : Int) / 4294967296) = ((b + d / 4294967296 : Nat) : Int) := by rw [u64s (by omega) (by omega)]; omega
  rw [e1, e2, e3, e4, e5]
  clear e1 e2 e3 e4 e5
  generalize ht : b + d / 4294967296 = t at *
  rw [and32 (by omega) (by omega)]
  have e6 : IntKind.u64.wrap ((t : Int) % 4294967296 + (c : Int)) = ((t % 4294967296 + c : Nat) : Int) := by rw [u64s (by omega) (by omega)]; omega
  rw [e6]
  clear e6
  have e7 : IntKind.u64.wrap ((a : Int) + (t : Int) / 4294967296) = ((a + t / 4294967296 : Nat) : Int) := by rw [u64s (by omega) (by omega)]; omega
  rw [e7]
  clear e7
  have e8 : IntKind.u64.wrap (((a + t / 4294967296 : Nat) : Int) + ((t % 4294967296 + c : Nat) : Int) / 4294967296) = ((a + t / 4294967296 + (t % 4294967296 + c) / 4294967296 : Nat) : Int) := by rw [u64s (by omega) (by omega)]; omega
  rw [e8, hh]
  clear e8
  have e9 : IntKind.u64.wrap (P : Int) = ((P % 18446744073709551616 : Nat) : Int) := by rw [u64w]; omega
  rw [e9]
/-- One step of the product: what is written, and what is carried. -/
theorem mul_step (x y o c : Nat) (hx : x < 18446744073709551616) (hy : y < 18446744073709551616) (ho : o < 18446744073709551616) (hc : c < 18446744073709551616) :
    ∃ s q c1 c2 : Nat, s < 18446744073709551616 ∧ q < 18446744073709551616 ∧ o + x * y + c = 18446744073709551616 * q + s ∧
      (x * y % 18446744073709551616 + o + 0) / 18446744073709551616 = c1 ∧ ((x * y % 18446744073709551616 + o + 0) % 18446744073709551616 + c + 0) / 18446744073709551616 = c2 ∧ ((x * y % 18446744073709551616 + o + 0) % 18446744073709551616 + c + 0) % 18446744073709551616 = s ∧
      IntKind.u64.wrap (IntKind.u64.wrap (((x * y / 18446744073709551616 : Nat) : Int) + (c1 : Int)) + (c2 : Int)) = (q : Int) := by
  have hb : x * y ≤ 18446744073709551615 * 18446744073709551615 := Nat.mul_le_mul (by omega) (by omega)
  generalize x * y = P at *
  refine ⟨_, (o + P + c) / 18446744073709551616, _, _, ?_, ?_, ?_, rfl, rfl, rfl, ?_⟩
  · omega
  · omega
  · omega
  · rw [u64s (x := ((P / 18446744073709551616 : Nat) : Int) + (((P % 18446744073709551616 + o + 0) / 18446744073709551616 : Nat) : Int)) (by omega) (by omega), u64s (by omega) (by omega)]
    omega
set_option maxHeartbeats 1000000 in
theorem nMul_l1 (b : List Int) (hb : Dig 18446744073709551616 b) (x la : Nat) (a : List Int) (hla : a.length = la) (hs : la < 1000000) (hs' : b.length < 1000000) (hx : x < 18446744073709551616) (i : Nat) (hi : i < la) : ∀ (m j c : Nat) (out : List Int), j + m = b.length → c < 18446744073709551616 → Dig 18446744073709551616 out → out.length = la + b.length →
    ∃ (out' : List Int) (c' : Nat), Dig 18446744073709551616 out' ∧ out'.length = la + b.length ∧ c' < 18446744073709551616 ∧ (∀ p, i + b.length ≤ p → out'.getD p 0 = out.getD p 0) ∧
      val 18446744073709551616 out' + 18446744073709551616 ^ (i + b.length) * c' = val 18446744073709551616 out + 18446744073709551616 ^ (i + j) * c + 18446744073709551616 ^ (i + j) * (x * V 18446744073709551616 b j) ∧
      ∀ r, Ev (fun k => nat_Mul.l1 k b out' (i : Int) (x : Int) (c' : Int) a (la : Int) (i : Int) b (b.length : Int) (b.length : Int)) r → Ev (fun k => nat_Mul.l1 k b out (i : Int) (x : Int) (c : Int) a (la : Int) (i : Int) b (b.length : Int) (j : Int)) r := by
  intro m
  induction m with
  | zero =>
    intro j c out hj hc hd hl
    obtain rfl : j = b.length := by omega
    refine ⟨out, c, hd, hl, hc, fun _ _ => rfl, ?_, fun r h => h⟩
    rw [V_end _ (Nat.le_refl _)]
    simp
  | succ m ih =>
    intro j c out hj hc hd hl
    have hy := hb.get (show 0 < 18446744073709551616 by decide) j
    have ho := hd.get (show 0 < 18446744073709551616 by decide) (i + j)
    have hv := V_step 18446744073709551616 b j
    obtain ⟨y, hy'⟩ := Int.eq_ofNat_of_zero_le hy.1
    obtain ⟨o, ho'⟩ := Int.eq_ofNat_of_zero_le ho.1
    rw [hy'] at hy hv
    rw [ho'] at ho
    rw [Int.toNat_natCast] at hv
    obtain ⟨s, q, c1, c2, s1, s2, s3, s4, s5, s6, s7⟩ := mul_step x y o c hx (by omega) (by omega) hc
    have S7 := Lib.hid s7
    have S4 := Lib.hid s4
    have S5 := Lib.hid s5
    have S6 := Lib.hid s6
    clear s4 s5 s6 s7
    have hset := val_set 18446744073709551616 out (i + j) (s : Int) (by omega)
    rw [ho', Int.toNat_natCast, Int.toNat_natCast] at hset
    obtain ⟨out', c', h1, h2, h3, h4, h5, h6⟩ := ih (j + 1) q (out.set (i + j) (s : Int)) (by omega) s2 (dig_set hd _ (by omega) (by omega)) (by rw [List.length_set]; exact hl)
    have hmv := mul_val (18446744073709551616 ^ (i + j)) 18446744073709551616 o x y c _ _ _ _ _ _ hset hv s3
    have HMV := Lib.hid hmv
    have H5 := Lib.hid h5
    clear hmv h5 hset hv s3
    have EJ := Lib.hid (wadd i j (by omega))
    have EK := Lib.hid (wadd1 j (by omega))
    refine ⟨out', c', h1, h2, h3, fun p hp => ?_, ?_, fun r hr => ?_⟩
    · rw [h4 p hp, getD_set_ne (by omega)]
    · rw [H5.out, show i + (j + 1) = i + j + 1 by omega, Nat.pow_succ]
      exact HMV.out
    · refine Ev.step (fun k => ?_) (h6 r hr)
      have a1 := add64 (x * y % 18446744073709551616) o 0 (by omega)
      have a2 := add64 ((x * y % 18446744073709551616 + o + 0) % 18446744073709551616) c 0 (by omega)
      rw [S4.out] at a1
      rw [S5.out, S6.out] at a2
      have A1 := Lib.hid a1
      have A2 := Lib.hid a2
      clear a1 a2
      rw [nat_Mul.l1, if_pos (by omega), if_pos (by omega), if_pos (by omega), rd_nat, hy', mul64 x y hx (by omega), Option.bind_some, EJ.out, if_pos (by omega), if_pos (by omega), rd_nat, ho']
      rw [show (0 : Int) = ((0 : Nat) : Int) from rfl, A1.out, Option.bind_some, A2.out, Option.bind_some, S7.out, EK.out, Int.toNat_natCast]
set_option maxHeartbeats 1000000 in
theorem nMul_l0 (a b : List Int) (ha : Dig 18446744073709551616 a) (hb : Dig 18446744073709551616 b) (hs : a.length < 1000000) (hs' : b.length < 1000000) : ∀ (m i : Nat) (out : List Int), i + m = a.length → Dig 18446744073709551616 out → out.length = a.length + b.length → (∀ p, i + b.length ≤ p → out.getD p 0 = 0) →
    Ev (fun k => nat_Mul.l0 k b out a (a.length : Int) (i : Int)) (dig 18446744073709551616 (val 18446744073709551616 out + 18446744073709551616 ^ i * (V 18446744073709551616 a i * val 18446744073709551616 b))) := by
  intro m
  induction m with
  | zero =>
    intro i out hi hd hl hz
    refine Ev.step (G := fun k => (nat_trim.f k out).bind fun t190 => some t190) (fun k => ?_) ?_
    · rw [nat_Mul.l0, if_neg (by omega)]
    · rw [V_end _ (by omega), Nat.zero_mul, Nat.mul_zero, Nat.add_zero]
      exact Ev.bind (ntrim out (by omega) hd) (Ev.const _)
  | succ m ih =>
    intro i out hi hd hl hz
    have hg := ha.get (show 0 < 18446744073709551616 by decide) i
    obtain ⟨x, hx⟩ := Int.eq_ofNat_of_zero_le hg.1
    rw [hx] at hg
    obtain ⟨out', c', h1, h2, h3, h4, h5, h6⟩ := nMul_l1 b hb x a.length a rfl hs hs' (by omega) i (by omega) b.length 0 0 out (by omega) (by omega) hd hl
    have hz' := (h4 (i + b.length) (Nat.le_refl _)).trans (hz _ (Nat.le_refl _))
    have hset := val_set 18446744073709551616 out' (i + b.length) (c' : Int) (by omega)
    rw [hz', Int.toNat_natCast] at hset
    have ih2 := ih (i + 1) (out'.set (i + b.length) (c' : Int)) (by omega) (dig_set h1 _ (by omega) (by omega)) (by rw [List.length_set]; exact h2) (fun p hp => by
      rw [getD_set_ne (by omega), h4 p (by omega), hz p (by omega)])
    have EI := Lib.hid (wadd i b.length (by omega))
    have EI1 := Lib.hid (wadd1 i (by omega))
    have hva := V_step 18446744073709551616 a i
    rw [hx, Int.toNat_natCast] at hva
    have hval : val 18446744073709551616 out + 18446744073709551616 ^ i * (V 18446744073709551616 a i * val 18446744073709551616 b) = val 18446744073709551616 (out'.set (i + b.length) (c' : Int)) + 18446744073709551616 ^ (i + 1) * (V 18446744073709551616 a (i + 1) * val 18446744073709551616 b) := by
      rw [hva, Nat.add_mul, Nat.mul_add, Nat.pow_succ, Nat.mul_assoc 18446744073709551616, ← Nat.mul_assoc (18446744073709551616 ^ i) 18446744073709551616]
      rw [V_zero, Nat.add_zero, Nat.mul_zero, Nat.add_zero] at h5
      simp only [Int.toNat_zero, Nat.mul_zero, Nat.add_zero] at hset
      omega
    rw [hval]
    refine Ev.step (G := fun k => nat_Mul.l1 k b out (i : Int) (x : Int) 0 a (a.length : Int) (i : Int) b (b.length : Int) 0) (fun k => ?_) (h6 _ ?_)
    · rw [nat_Mul.l0, if_pos (by omega), if_pos (by omega), if_pos (by omega), rd_nat, hx]
    · refine Ev.step (fun k => ?_) ih2
      rw [nat_Mul.l1, if_neg (by omega), EI.out, if_pos (by omega), if_pos (by omega), EI1.out, Int.toNat_natCast]
theorem nMul (x y : Nat) (hx : Le x 100000) (hy : Le y 100000) : Ev (fun k => nat_Mul.f k (dig 18446744073709551616 x) (dig 18446744073709551616 y)) (dig 18446744073709551616 (x * y)) := by
  unfold Le at hx hy
  have dx := Dig_dig (B := 18446744073709551616) (by decide) x
  have dy := Dig_dig (B := 18446744073709551616) (by decide) y
  have vx := val_dig (B := 18446744073709551616) (by decide) x
  have vy := val_dig (B := 18446744073709551616) (by decide) y
  generalize dig 18446744073709551616 x = a at *
  generalize dig 18446744073709551616 y = b at *
  have h := nMul_l0 a b dx dy (by omega) (by omega) a.length 0 (List.replicate (a.length + b.length) 0) (by omega) (Dig.rep (by omega) _) (by simp) (fun p _ => by
    rw [List.getD_eq_getElem?_getD, List.getElem?_replicate]
    split <;> rfl)
  rw [V_zero, val_replicate, vx, vy, Nat.pow_zero, Nat.one_mul, Nat.zero_add] at h
  refine Ev.congr (fun k => ?_) h
  rw [nat_Mul.f, wadd a.length b.length (by omega), if_pos (by omega), Int.toNat_natCast, if_pos (by omega)]
  rfl

end Go.Proofs.YtcoipojikmgdmaaDoor.P
