import Derived.Test.YtcoipojikmgdmaaDoorP0
import Derived.Test.YtcoipojikmgdmaaDoorP1
import Derived.Test.YtcoipojikmgdmaaDoorP3
import Derived.Test.YtcoipojikmgdmaaDoorP5
import Derived.Test.YtcoipojikmgdmaaDoorP6
namespace Go.Proofs.YtcoipojikmgdmaaDoor.P
open Go.RowKit Go.Proofs.YtcoipojikmgdmaaDoorW.PrintWords Go.Proofs.YtcoipojikmgdmaaDoorW.PrintLast Go.Proofs.YtcoipojikmgdmaaDoorW.PrintMore
attribute [local go_sem] max2_int min2_int max_two min_two max_three min_three max_four min_four
set_option linter.unusedVariables false
set_option linter.unusedSimpArgs false
/-! What is so from some fuel on; digits. -/
/-- From some fuel on. -/
def Ev {α : Type} (F : Nat → Option α) (r : α) : Prop := ∃ K, ∀ k, K ≤ k → F k = some r
theorem Ev.const {α : Type} (r : α) : Ev (fun _ => some r) r := ⟨0, fun _ _ => rfl⟩
theorem Ev.of {α : Type} {F : Nat → Option α} {r : α} (h : ∀ k, F k = some r) : Ev F r := ⟨0, fun k _ => h k⟩
theorem Ev.congr {α : Type} {F G : Nat → Option α} {r : α} (h : ∀ k, F k = G k) (hg : Ev G r) : Ev F r := by
  obtain ⟨K, hK⟩ := hg
  exact ⟨K, fun k hk => (h k).trans (hK k hk)⟩
theorem Ev.step {α : Type} {F G : Nat → Option α} {r : α} (h : ∀ k, F (k + 1) = G k) (hg : Ev G r) : Ev F r := by
  obtain ⟨K, hK⟩ := hg
  refine ⟨K + 1, fun k hk => ?_⟩
  obtain ⟨m, rfl⟩ : ∃ m, k = m + 1 := ⟨k - 1, by omega⟩
  exact (h m).trans (hK m (by omega))
theorem Ev.bind {α β : Type} {F : Nat → Option α} {G : Nat → α → Option β} {x : α} {r : β} (hf : Ev F x) (hg : Ev (fun k => G k x) r) : Ev (fun k => (F k).bind (G k)) r := by
  obtain ⟨K, hK⟩ := hf
  obtain ⟨L, hL⟩ := hg
  refine ⟨K + L, fun k hk => ?_⟩
  show (F k).bind (G k) = some r
  rw [hK k (by omega)]
  exact hL k (by omega)
theorem Ev.get {α : Type} {F : Nat → Option α} {r : α} (h : Ev F r) : ∃ k, F k = some r := by
  obtain ⟨K, hK⟩ := h
  exact ⟨K, hK K (Nat.le_refl _)⟩
theorem w64s {x : Int} (h0 : -9223372036854775808 ≤ x) (h1 : x < 9223372036854775808) : wrap64 x = x := by unfold wrap64; omega
/-- A number out of its digits, the least first. -/
def val (B : Nat) : List Int → Nat
  | [] => 0
  | x :: xs => x.toNat + B * val B xs
def Dig (B : Nat) (l : List Int) : Prop := ∀ x ∈ l, 0 ≤ x ∧ x < (B : Int)
/-- Without noughts at the end. -/
def strip : List Int → List Int
  | [] => []
  | x :: xs => if strip xs = [] then (if x = 0 then [] else [x]) else x :: strip xs
def dig (B n : Nat) : List Int := if h : n = 0 ∨ B ≤ 1 then [] else ((n % B : Nat) : Int) :: dig B (n / B)
termination_by n
decreasing_by exact Nat.div_lt_self (by omega) (by omega)
theorem dig_zero (B : Nat) : dig B 0 = [] := by rw [dig]; simp
theorem dig_pos {B n : Nat} (hB : 1 < B) (hn : n ≠ 0) : dig B n = ((n % B : Nat) : Int) :: dig B (n / B) := by
  rw [dig, dif_neg (by omega)]
theorem dig_ne {B n : Nat} (hB : 1 < B) (hn : n ≠ 0) : dig B n ≠ [] := by rw [dig_pos hB hn]; simp
theorem val_dig {B : Nat} (hB : 1 < B) (n : Nat) : val B (dig B n) = n := by
  induction n using Nat.strongRecOn with
  | ind n ih =>
    by_cases hn : n = 0
    · subst hn
      rw [dig_zero]
      rfl
    · rw [dig_pos hB hn, val, ih (n / B) (Nat.div_lt_self (by omega) hB)]
      have := Nat.mod_add_div n B
      omega
theorem Dig_dig {B : Nat} (hB : 1 < B) (n : Nat) : Dig B (dig B n) := by
  induction n using Nat.strongRecOn with
  | ind n ih =>
    by_cases hn : n = 0
    · subst hn
      rw [dig_zero]
      intro x hx
      cases hx
    · rw [dig_pos hB hn]
      intro x hx
      rcases List.mem_cons.1 hx with rfl | hx
      · have := Nat.mod_lt n (show 0 < B by omega)
        omega
      · exact ih (n / B) (Nat.div_lt_self (by omega) hB) x hx
theorem Dig.cons {B : Nat} {x : Int} {l : List Int} (h : Dig B (x :: l)) : (0 ≤ x ∧ x < (B : Int)) ∧ Dig B l := ⟨h x (by simp), fun y hy => h y (by simp [hy])⟩
theorem Dig.mk {B : Nat} {x : Int} {l : List Int} (h0 : 0 ≤ x) (h1 : x < (B : Int)) (h : Dig B l) : Dig B (x :: l) := by
  intro y hy
  rcases List.mem_cons.1 hy with rfl | hy
  · exact ⟨h0, h1⟩
  · exact h y hy
theorem Dig.nil (B : Nat) : Dig B [] := by intro x hx; cases hx
theorem Dig.app {B : Nat} {a b : List Int} (ha : Dig B a) (hb : Dig B b) : Dig B (a ++ b) := by
  intro x hx
  rcases List.mem_append.1 hx with h | h
  · exact ha x h
  · exact hb x h
theorem strip_dig {B : Nat} (hB : 1 < B) : ∀ (l : List Int), Dig B l → strip l = dig B (val B l)
  | [], _ => by rw [val, dig_zero]; rfl
  | x :: xs, h => by
    obtain ⟨⟨h0, h1⟩, h2⟩ := h.cons
    have ih := strip_dig hB xs h2
    have hm : ∀ v, (x.toNat + B * v) % B = x.toNat := fun v => by
      rw [Nat.add_mul_mod_self_left, Nat.mod_eq_of_lt (by omega)]
    have hd : ∀ v, (x.toNat + B * v) / B = v := fun v => by
      rw [Nat.add_mul_div_left _ _ (by omega), Nat.div_eq_of_lt (by omega), Nat.zero_add]
    rw [strip, val, ih]
    by_cases hv : val B xs = 0
    · rw [hv, dig_zero, if_pos rfl]
      by_cases hx : x = 0
      · subst hx
        simp [dig_zero]
      · rw [if_neg hx, dig_pos hB (by omega), hm, hd, dig_zero]
        congr 1
        omega
    · rw [if_neg (dig_ne hB hv)]
      have hne : x.toNat + B * val B xs ≠ 0 := by
        have := Nat.mul_pos (show 0 < B by omega) (Nat.pos_of_ne_zero hv)
        omega
      rw [dig_pos hB hne, hm, hd]
      congr 1
      omega
theorem strip_snoc0 : ∀ (l : List Int), strip (l ++ [0]) = strip l
  | [] => by simp [strip]
  | x :: xs => by
    rw [List.cons_append, strip, strip, strip_snoc0 xs]
theorem strip_snoc : ∀ (l : List Int) (x : Int), x ≠ 0 → strip (l ++ [x]) = l ++ [x]
  | [], x, h => by simp [strip, h]
  | y :: ys, x, h => by
    rw [List.cons_append, strip, strip_snoc ys x h, if_neg (by simp)]
/-- The digits are those of a natural: the last one isn't 0. -/
def Good (l : List Int) : Prop := l = [] ∨ l.getD (l.length - 1) 0 ≠ 0
theorem good_dig {B : Nat} (hB : 1 < B) {l : List Int} (h : Dig B l) (hg : Good l) : l = dig B (val B l) := by
  rw [← strip_dig hB l h]
  rcases List.eq_nil_or_concat l with rfl | ⟨ys, y, rfl⟩
  · rfl
  · rcases hg with hg | hg
    · simp at hg
    · rw [List.concat_eq_append] at hg ⊢
      rw [strip_snoc _ _ (by simpa using hg)]
theorem dig_last {B : Nat} (hB : 1 < B) (n : Nat) : Good (dig B n) := by
  induction n using Nat.strongRecOn with
  | ind n ih =>
    by_cases hn : n = 0
    · subst hn
      exact .inl (dig_zero B)
    · right
      rw [dig_pos hB hn]
      have ih := ih (n / B) (Nat.div_lt_self (by omega) hB)
      by_cases hd : n / B = 0
      · rw [hd, dig_zero]
        have h1 := Nat.div_add_mod n B
        rw [hd] at h1
        simp
        omega
      · have hne := dig_ne hB hd
        rcases ih with ih | ih
        · exact absurd ih hne
        · have hl : 0 < (dig B (n / B)).length := List.length_pos_iff.2 hne
          simp only [List.length_cons, Nat.add_sub_cancel]
          rw [show (dig B (n / B)).length = (dig B (n / B)).length - 1 + 1 by omega, List.getD_cons_succ]
          exact ih
theorem dig_length {B : Nat} (hB : 1 < B) : ∀ (m n : Nat), n < B ^ m → (dig B n).length ≤ m
  | 0, n, h => by
    have : n = 0 := by simpa using h
    subst this
    rw [dig_zero]
    exact Nat.le_refl _
  | m + 1, n, h => by
    by_cases hn : n = 0
    · subst hn
      rw [dig_zero]
      exact Nat.zero_le _
    · rw [dig_pos hB hn, List.length_cons]
      have : n / B < B ^ m := by
        rw [Nat.div_lt_iff_lt_mul (by omega)]
        rwa [Nat.pow_succ] at h
      have := dig_length hB m _ this
      omega
theorem val_lt {B : Nat} : ∀ (l : List Int), Dig B l → val B l < B ^ l.length
  | [], _ => by simp [val]
  | x :: xs, h => by
    obtain ⟨⟨h0, h1⟩, h2⟩ := h.cons
    have ih := val_lt xs h2
    rw [val, List.length_cons, Nat.pow_succ]
    have : B * (val B xs + 1) ≤ B * B ^ xs.length := Nat.mul_le_mul_left _ ih
    rw [Nat.mul_add] at this
    rw [Nat.mul_comm (B ^ xs.length)]
    omega
/-- What the digits from the i-th on make. -/
def V (B : Nat) (l : List Int) (i : Nat) : Nat := val B (l.drop i)
theorem V_zero (B : Nat) (l : List Int) : V B l 0 = val B l := rfl
theorem V_end (B : Nat) {l : List Int} {i : Nat} (h : l.length ≤ i) : V B l i = 0 := by
  unfold V
  rw [List.drop_eq_nil_of_le h]
  rfl
theorem V_step (B : Nat) (l : List Int) (i : Nat) : V B l i = (l.getD i 0).toNat + B * V B l (i + 1) := by
  by_cases h : i < l.length
  · unfold V
    rw [List.drop_eq_getElem_cons h, val, List.getD_eq_getElem?_getD, List.getElem?_eq_getElem h]
    rfl
  · rw [V_end B (by omega), V_end B (by omega), List.getD_eq_getElem?_getD, List.getElem?_eq_none (by omega)]
    rfl
theorem Dig.get {B : Nat} (hB : 0 < B) {l : List Int} (h : Dig B l) (i : Nat) : 0 ≤ l.getD i 0 ∧ l.getD i 0 < (B : Int) := by
  by_cases hi : i < l.length
  · rw [List.getD_eq_getElem?_getD, List.getElem?_eq_getElem hi]
    exact h _ (List.getElem_mem hi)
  · rw [List.getD_eq_getElem?_getD, List.getElem?_eq_none (by omega)]
    simp
    omega
theorem V_pos {B : Nat} (hB : 1 < B) {l : List Int} (h : Dig B l) (hg : Good l) (i : Nat) (hi : i < l.length) : 0 < V B l i := by
  rcases hg with rfl | hg
  · simp at hi
  · obtain ⟨m, hm⟩ : ∃ m, l.length - 1 = i + m := ⟨l.length - 1 - i, by omega⟩
    rw [hm] at hg
    have key : ∀ m i, l.getD (i + m) 0 ≠ 0 → 0 < V B l i := by
      intro m
      induction m with
      | zero =>
        intro i h0
        rw [V_step]
        have := (h.get (show 0 < B by omega) i).1
        rw [Nat.add_zero] at h0
        omega
      | succ m ih =>
        intro i h0
        rw [V_step]
        have := ih (i + 1) (by rw [show i + 1 + m = i + (m + 1) by omega]; exact h0)
        have := Nat.mul_pos (show 0 < B by omega) this
        omega
    exact key m i hg
theorem rd_nat (l : List Int) (i : Nat) : rd l (i : Int) = l.getD i 0 := by
  unfold rd
  simp
theorem dig_add_mul {B : Nat} (hB : 1 < B) (x v : Nat) (hx : x < B) (hne : x + B * v ≠ 0) : dig B (x + B * v) = (x : Int) :: dig B v := by
  rw [dig_pos hB hne, Nat.add_mul_mod_self_left, Nat.mod_eq_of_lt hx, Nat.add_mul_div_left _ _ (by omega), Nat.div_eq_of_lt hx, Nat.zero_add]
theorem val_append (B : Nat) : ∀ (a b : List Int), val B (a ++ b) = val B a + B ^ a.length * val B b
  | [], b => by simp [val]
  | x :: xs, b => by
    rw [List.cons_append, val, val, val_append B xs b, List.length_cons, Nat.pow_succ, Nat.mul_add, ← Nat.mul_assoc, Nat.mul_comm B (B ^ xs.length)]
    omega
theorem val_replicate (B : Nat) : ∀ n, val B (List.replicate n 0) = 0
  | 0 => rfl
  | n + 1 => by rw [List.replicate_succ, val, val_replicate B n]; simp
theorem Dig.rep {B : Nat} (hB : 0 < B) (n : Nat) : Dig B (List.replicate n 0) := by
  intro x hx
  obtain ⟨_, rfl⟩ := List.mem_replicate.1 hx
  omega
theorem wadd (i j : Nat) (h : i + j < 4611686018427387904) : wrap64 ((i : Int) + (j : Int)) = ((i + j : Nat) : Int) := by rw [w64s (by omega) (by omega)]; omega
theorem wadd1 (i : Nat) (h : i < 4611686018427387904) : wrap64 ((i : Int) + 1) = ((i + 1 : Nat) : Int) := by rw [w64s (by omega) (by omega)]; omega
theorem wsub1 (i : Nat) (h : i < 4611686018427387904) (h0 : 0 < i) : wrap64 ((i : Int) - 1) = ((i - 1 : Nat) : Int) := by rw [w64s (by omega) (by omega)]; omega
theorem wid (i : Nat) (h : i < 4611686018427387904) : wrap64 (i : Int) = (i : Int) := w64s (by omega) (by omega)
/-! The document's answers: digits of 10000. -/
/-- -1, 0, 1. -/
def sgn (x y : Nat) : Int := if x = y then 0 else if x < y then -1 else 1
theorem take_snoc (l : List Int) (n : Nat) (h : n < l.length) : l.take (n + 1) = l.take n ++ [l.getD n 0] := by
  rw [List.take_succ_eq_append_getElem h, List.getD_eq_getElem?_getD, List.getElem?_eq_getElem h]
  rfl
theorem rtrim_l0 (l : List Int) (hl : l.length < 1000000000) : ∀ n : Nat, n ≤ l.length → Ev (fun k => roundelref02_trim.l0 k l (n : Int)) (strip (l.take n))
  | 0, h => by
    refine Ev.step (G := fun _ => some []) (fun k => ?_) (Ev.const _)
    rw [roundelref02_trim.l0, if_neg (by omega), if_pos (by omega), if_pos (by omega)]
    rfl
  | n + 1, h => by
    have e : wrap64 (((n + 1 : Nat) : Int) - 1) = n := by rw [w64s (by omega) (by omega)]; omega
    by_cases hz : l.getD n 0 = 0
    · refine Ev.step (G := fun k => roundelref02_trim.l0 k l (n : Int)) (fun k => ?_) ?_
      · rw [roundelref02_trim.l0, if_pos (by omega), e, if_pos (by omega), if_pos (by omega), rd_nat, if_pos hz]
      · rw [take_snoc l n (by omega), hz, strip_snoc0]
        exact rtrim_l0 l hl n (by omega)
    · refine Ev.step (G := fun _ => some (l.take (n + 1))) (fun k => ?_) ?_
      · rw [roundelref02_trim.l0, if_pos (by omega), e, if_pos (by omega), if_pos (by omega), rd_nat, if_neg hz, if_pos (by omega), if_pos (by omega)]
        rfl
      · have hs : strip (l.take (n + 1)) = l.take (n + 1) := by rw [take_snoc l n (by omega), strip_snoc _ _ hz]
        rw [hs]
        exact Ev.const _
theorem rtrim (l : List Int) (hl : l.length < 1000000000) : Ev (fun k => roundelref02_trim.f k l) (strip l) := by
  have := rtrim_l0 l hl l.length (Nat.le_refl _)
  rw [List.take_length] at this
  exact this
theorem rtrim_dig (l : List Int) (hl : l.length < 1000000000) (h : Dig 10000 l) : Ev (fun k => roundelref02_trim.f k l) (dig 10000 (val 10000 l)) := by
  rw [← strip_dig (by omega) l h]
  exact rtrim l hl
theorem rOf_l0 : ∀ (m n : Nat) (out : List Int), n < 10000 ^ m → n < 9223372036854775808 → out.length + m < 1000000000 → Ev (fun k => roundelref02_Of.l0 k (n : Int) out) (out ++ dig 10000 n)
  | 0, n, out, h, h2, hl => by
    have : n = 0 := by simpa using h
    subst this
    refine Ev.step (G := fun _ => some out) (fun k => ?_) ?_
    · rw [roundelref02_Of.l0, if_neg (by omega)]
    · rw [dig_zero, List.append_nil]
      exact Ev.const _
  | m + 1, n, out, h, h2, hl => by
    by_cases hn : n = 0
    · subst hn
      refine Ev.step (G := fun _ => some out) (fun k => ?_) ?_
      · rw [roundelref02_Of.l0, if_neg (by omega)]
      · rw [dig_zero, List.append_nil]
        exact Ev.const _
    · have e1 : wrap64 (Int.tdiv (n : Int) 10000) = ((n / 10000 : Nat) : Int) := by
        rw [Int.tdiv_eq_ediv_of_nonneg (by omega), w64s (by omega) (by omega)]
        omega
      have e2 : Int.tmod (n : Int) 10000 = ((n % 10000 : Nat) : Int) := by
        rw [Int.tmod_eq_emod_of_nonneg (by omega)]
        omega
      refine Ev.step (G := fun k => roundelref02_Of.l0 k ((n / 10000 : Nat) : Int) (out ++ [((n % 10000 : Nat) : Int)])) (fun k => ?_) ?_
      · rw [roundelref02_Of.l0, if_pos (by omega), if_pos (by omega), e1, e2]
      · have ih := rOf_l0 m (n / 10000) (out ++ [((n % 10000 : Nat) : Int)]) (by rw [Nat.pow_succ] at h; omega) (by omega) (by rw [List.length_append, List.length_singleton]; omega)
        rw [dig_pos (by omega) hn]
        rw [List.append_assoc] at ih
        exact ih
theorem rOf (n : Nat) (h : n < 9223372036854775808) : Ev (fun k => roundelref02_Of.f k (n : Int)) (dig 10000 n) := by
  have := rOf_l0 5 n [] (by omega) h (by simp)
  exact this
theorem rat (l : List Int) (i : Nat) : roundelref02_at.f l (i : Int) = some (l.getD i 0) := by
  unfold roundelref02_at.f
  by_cases h : i < l.length
  · rw [if_pos (by omega), if_pos (by omega), rd_nat]
  · rw [if_neg (by omega), List.getD_eq_getElem?_getD, List.getElem?_eq_none (by omega)]
    rfl
theorem V_lt {B : Nat} (hB : 0 < B) {a b : List Int} (ha : Dig B a) (hb : Dig B b) : ∀ i : Nat, V B a i < V B b i → val B a < val B b
  | 0, h => h
  | i + 1, h => by
    refine V_lt hB ha hb i ?_
    rw [V_step B a i, V_step B b i]
    have h1 := (ha.get hB i)
    have h2 : B * (V B a (i + 1) + 1) ≤ B * V B b (i + 1) := Nat.mul_le_mul_left _ h
    rw [Nat.mul_add] at h2
    omega
theorem V_eq {B : Nat} {a b : List Int} (h0 : ∀ i, i < a.length → a.getD i 0 = b.getD i 0) (hl : a.length = b.length) : a = b := by
  apply List.ext_getElem hl
  intro i h1 h2
  have := h0 i h1
  rw [List.getD_eq_getElem?_getD, List.getD_eq_getElem?_getD, List.getElem?_eq_getElem h1, List.getElem?_eq_getElem h2] at this
  simpa using this
theorem len_lt {B : Nat} (hB : 1 < B) {a b : List Int} (ha : Dig B a) (hb : Dig B b) (hg : Good b) (h : a.length < b.length) : val B a < val B b := by
  refine V_lt (by omega) ha hb (b.length - 1) ?_
  rw [V_end B (show a.length ≤ b.length - 1 by omega)]
  exact V_pos hB hb hg _ (by omega)
theorem rCmp_l0 (a b : List Int) (ha : Dig 10000 a) (hb : Dig 10000 b) (hl : a.length = b.length) (hs : a.length < 1000000000) : ∀ i : Nat, i ≤ a.length → V 10000 a i = V 10000 b i → Ev (fun k => roundelref02_Cmp.l0 k a b ((i : Int) - 1)) (sgn (val 10000 a) (val 10000 b))
  | 0, hi, hv => by
    refine Ev.step (G := fun _ => some 0) (fun k => ?_) ?_
    · rw [roundelref02_Cmp.l0, if_neg (by omega)]
    · rw [V_zero, V_zero] at hv
      rw [sgn, if_pos hv]
      exact Ev.const _
  | i + 1, hi, hv => by
    have e0 : ((i + 1 : Nat) : Int) - 1 = (i : Int) := by omega
    have ha1 := ha.get (show 0 < 10000 by omega) i
    have hb1 := hb.get (show 0 < 10000 by omega) i
    have hva := V_step 10000 a i
    have hvb := V_step 10000 b i
    rw [e0]
    rcases Int.lt_trichotomy (a.getD i 0) (b.getD i 0) with h | h | h
    · have hlt : val 10000 a < val 10000 b := V_lt (by omega) ha hb i (by omega)
      refine Ev.step (G := fun _ => some (-1)) (fun k => ?_) ?_
      · rw [roundelref02_Cmp.l0, if_pos (by omega), if_pos (by omega), if_pos (by omega), if_pos (by omega), rd_nat, rd_nat, if_pos h]
      · rw [sgn, if_neg (by omega), if_pos hlt]
        exact Ev.const _
    · refine Ev.step (G := fun k => roundelref02_Cmp.l0 k a b ((i : Int) - 1)) (fun k => ?_) (rCmp_l0 a b ha hb hl hs i (by omega) (by omega))
      rw [roundelref02_Cmp.l0, if_pos (by omega), if_pos (by omega), if_pos (by omega), if_pos (by omega), rd_nat, rd_nat, if_neg (by omega), if_neg (by omega), w64s (by omega) (by omega)]
    · have hlt : val 10000 b < val 10000 a := V_lt (by omega) hb ha i (by omega)
      refine Ev.step (G := fun _ => some 1) (fun k => ?_) ?_
      · rw [roundelref02_Cmp.l0, if_pos (by omega), if_pos (by omega), if_pos (by omega), if_pos (by omega), rd_nat, rd_nat, if_neg (by omega), if_pos h]
      · rw [sgn, if_neg (by omega), if_neg (by omega)]
        exact Ev.const _
theorem rCmp' (a b : List Int) (ha : Dig 10000 a) (hb : Dig 10000 b) (ga : Good a) (gb : Good b) (hs : a.length < 1000000000) (hs' : b.length < 1000000000) : Ev (fun k => roundelref02_Cmp.f k a b) (sgn (val 10000 a) (val 10000 b)) := by
  by_cases hl : a.length = b.length
  · refine Ev.congr (fun k => ?_) (rCmp_l0 a b ha hb hl hs a.length (Nat.le_refl _) (by rw [V_end _ (Nat.le_refl _), V_end _ (by omega)]))
    rw [roundelref02_Cmp.f, if_pos (by omega), w64s (by omega) (by omega)]
  · by_cases h2 : a.length < b.length
    · have hlt := len_lt (by omega) ha hb gb h2
      refine Ev.congr (G := fun _ => some (-1)) (fun k => ?_) ?_
      · rw [roundelref02_Cmp.f, if_neg (by omega), if_pos (by omega)]
      · rw [sgn, if_neg (by omega), if_pos hlt]
        exact Ev.const _
    · have hlt := len_lt (by omega) hb ha ga (by omega)
      refine Ev.congr (G := fun _ => some 1) (fun k => ?_) ?_
      · rw [roundelref02_Cmp.f, if_neg (by omega), if_neg (by omega)]
      · rw [sgn, if_neg (by omega), if_neg (by omega)]
        exact Ev.const _
/-- A natural below 10000 ^ 1000. -/
def Lo (n : Nat) : Prop := (dig 10000 n).length ≤ 100000
theorem rCmp (x y : Nat) (hx : Lo x) (hy : Lo y) : Ev (fun k => roundelref02_Cmp.f k (dig 10000 x) (dig 10000 y)) (sgn x y) := by
  have := rCmp' (dig 10000 x) (dig 10000 y) (Dig_dig (by omega) x) (Dig_dig (by omega) y) (dig_last (by omega) x) (dig_last (by omega) y) (by unfold Lo at hx; omega) (by unfold Lo at hy; omega)
  rwa [val_dig (by omega), val_dig (by omega)] at this
theorem add_digit (x y c va vb : Nat) (hne : x + 10000 * va + (y + 10000 * vb) + c ≠ 0) : dig 10000 (x + 10000 * va + (y + 10000 * vb) + c) = (((x + y + c) % 10000 : Nat) : Int) :: dig 10000 (va + vb + (x + y + c) / 10000) := by
  have e : x + 10000 * va + (y + 10000 * vb) + c = (x + y + c) + 10000 * (va + vb) := by omega
  rw [dig_pos (by omega) hne, e, Nat.add_mul_mod_self_left, Nat.add_mul_div_left _ _ (by omega), Nat.add_comm ((x + y + c) / 10000)]
theorem add_wraps (x y c : Nat) (hx : x < 10000) (hy : y < 10000) (hc : c ≤ 1) : wrap64 (wrap64 ((x : Int) + y) + c) = ((x + y + c : Nat) : Int) ∧ Int.tmod ((x + y + c : Nat) : Int) 10000 = (((x + y + c) % 10000 : Nat) : Int) ∧ wrap64 (Int.tdiv ((x + y + c : Nat) : Int) 10000) = (((x + y + c) / 10000 : Nat) : Int) ∧ (x + y + c) / 10000 ≤ 1 := by
  refine ⟨?_, ?_, ?_, by omega⟩
  · rw [w64s (x := (x : Int) + y) (by omega) (by omega), w64s (by omega) (by omega)]
    omega
  · rw [Int.tmod_eq_emod_of_nonneg (by omega)]
    omega
  · rw [Int.tdiv_eq_ediv_of_nonneg (by omega), w64s (by omega) (by omega)]
    omega
theorem pos3 {p q c : Nat} (h : 0 < p ∨ 0 < q ∨ 0 < c) : p + q + c ≠ 0 := by omega
theorem rAdd_end (a b : List Int) (i c : Nat) (out : List Int) (h1 : ¬ i < a.length) (h2 : ¬ i < b.length) (h3 : ¬ 0 < c) :
    Ev (fun k => roundelref02_Add.l0 k a b out (c : Int) (i : Int)) (out ++ dig 10000 (V 10000 a i + V 10000 b i + c)) := by
  refine Ev.step (G := fun k => roundelref02_Add.j1 k a b out (c : Int) (i : Int) false) (fun k => ?_) ?_
  · rw [roundelref02_Add.l0, if_neg (by omega), if_neg (by omega), decide_eq_false (by omega)]
  · refine Ev.step (G := fun _ => some out) (fun k => ?_) ?_
    · rw [roundelref02_Add.j1, if_neg (by simp)]
    · rw [V_end _ (by omega), V_end _ (by omega), show c = 0 by omega, dig_zero, List.append_nil]
      exact Ev.const _
theorem rAdd_l0 (a b : List Int) (ha : Dig 10000 a) (hb : Dig 10000 b) (ga : Good a) (gb : Good b) (hs : a.length < 1000000) (hs' : b.length < 1000000) : ∀ (m i c : Nat) (out : List Int), a.length + 1 ≤ i + m → b.length + 1 ≤ i + m → (i ≤ a.length ∨ i ≤ b.length ∨ c = 0) → c ≤ 1 → i ≤ 1000001 → out.length = i →
    Ev (fun k => roundelref02_Add.l0 k a b out (c : Int) (i : Int)) (out ++ dig 10000 (V 10000 a i + V 10000 b i + c)) := by
  intro m
  induction m with
  | zero =>
    intro i c out hm hm2 hm3 hc hi ho
    exact rAdd_end a b i c out (by omega) (by omega) (by omega)
  | succ m ih =>
    intro i c out hm hm2 hm3 hc hi ho
    by_cases hgo : i < a.length ∨ i < b.length ∨ 0 < c
    · have hi2 : i ≤ 1000000 := by
        clear ih
        rcases hgo with h | h | h <;> rcases hm3 with g | g | g <;> omega
      have ha1 := ha.get (show 0 < 10000 by omega) i
      have hb1 := hb.get (show 0 < 10000 by omega) i
      have hva := V_step 10000 a i
      have hvb := V_step 10000 b i
      obtain ⟨x, hx⟩ := Int.eq_ofNat_of_zero_le ha1.1
      obtain ⟨y, hy⟩ := Int.eq_ofNat_of_zero_le hb1.1
      rw [hx] at hva ha1
      rw [hy] at hvb hb1
      rw [Int.toNat_natCast] at hva hvb
      have hxe : a.length ≤ i → x = 0 := fun h => by
        rw [List.getD_eq_getElem?_getD, List.getElem?_eq_none h] at hx
        exact (Int.ofNat_inj.1 hx).symm
      have hye : b.length ≤ i → y = 0 := fun h => by
        rw [List.getD_eq_getElem?_getD, List.getElem?_eq_none h] at hy
        exact (Int.ofNat_inj.1 hy).symm
      obtain ⟨e1, e2, e3, e5⟩ := add_wraps x y c (by omega) (by omega) hc
      have e4 : wrap64 ((i : Int) + 1) = ((i + 1 : Nat) : Int) := by rw [w64s (by omega) (by omega)]; omega
      have hpos : V 10000 a i + V 10000 b i + c ≠ 0 := pos3 (hgo.imp (V_pos (by decide) ha ga i) (Or.imp (V_pos (by decide) hb gb i) id))
      have ed := add_digit x y c (V 10000 a (i + 1)) (V 10000 b (i + 1)) (by rw [← hva, ← hvb]; exact hpos)
      rw [← hva, ← hvb] at ed
      clear hva hvb hpos
      have E := Lib.hid ed
      have E1 := Lib.hid e1
      have E2 := Lib.hid e2
      have E3 := Lib.hid e3
      have E4 := Lib.hid e4
      clear ed e1 e2 e3 e4
      have h3 : i + 1 ≤ a.length ∨ i + 1 ≤ b.length ∨ (x + y + c) / 10000 = 0 := by
        by_cases h1 : i + 1 ≤ a.length
        · exact .inl h1
        · by_cases h2 : i + 1 ≤ b.length
          · exact .inr (.inl h2)
          · right; right
            rw [hxe (Nat.le_of_lt_succ (Nat.lt_of_not_le h1)), hye (Nat.le_of_lt_succ (Nat.lt_of_not_le h2))]
            clear hxe hye hgo hm3
            omega
      clear hxe hye hm3
      have hgo := Lib.hid hgo
      refine Ev.step (G := fun k => roundelref02_Add.j1 k a b out (c : Int) (i : Int) true) (fun k => ?_) ?_
      · rw [roundelref02_Add.l0]
        by_cases h1 : i < a.length
        · rw [if_pos (by omega)]
        · rw [if_neg (by omega)]
          by_cases h2 : i < b.length
          · rw [if_pos (by omega)]
          · rw [if_neg (by omega), decide_eq_true (by rcases hgo.out with h | h | h <;> omega)]
      · refine Ev.step (G := fun k => roundelref02_Add.l0 k a b (out ++ [(((x + y + c) % 10000 : Nat) : Int)]) (((x + y + c) / 10000 : Nat) : Int) ((i + 1 : Nat) : Int)) (fun k => ?_) ?_
        · rw [roundelref02_Add.j1, if_pos rfl, rat, rat, hx, hy]
          simp only [Option.bind_some]
          rw [if_pos (by omega), E1.out, E2.out, E3.out, E4.out]
        · have ih2 := ih (i + 1) ((x + y + c) / 10000) (out ++ [(((x + y + c) % 10000 : Nat) : Int)]) (by omega) (by omega) h3 e5 (by omega) (by rw [List.length_append, ho]; rfl)
          rw [List.append_assoc] at ih2
          rw [E.out]
          exact ih2
    · exact rAdd_end a b i c out (by omega) (by omega) (by omega)
theorem rAdd (x y : Nat) (hx : Lo x) (hy : Lo y) : Ev (fun k => roundelref02_Add.f k (dig 10000 x) (dig 10000 y)) (dig 10000 (x + y)) := by
  unfold Lo at hx hy
  have := rAdd_l0 (dig 10000 x) (dig 10000 y) (Dig_dig (by omega) x) (Dig_dig (by omega) y) (dig_last (by omega) x) (dig_last (by omega) y) (by omega) (by omega) 1000000 0 0 [] (by omega) (by omega) (by omega) (by omega) (by omega) rfl
  rw [V_zero, V_zero, val_dig (by omega), val_dig (by omega)] at this
  exact this
theorem val_set (B : Nat) : ∀ (l : List Int) (j : Nat) (v : Int), j < l.length → val B (l.set j v) + B ^ j * (l.getD j 0).toNat = val B l + B ^ j * v.toNat
  | [], j, v, h => by simp at h
  | x :: xs, 0, v, h => by
    simp [val]
    omega
  | x :: xs, j + 1, v, h => by
    have ih := val_set B xs j v (by simpa using h)
    rw [List.set_cons_succ, val, val, List.getD_cons_succ, Nat.pow_succ, Nat.mul_comm (B ^ j) B, Nat.mul_assoc, Nat.mul_assoc]
    have : B * (val B (xs.set j v) + B ^ j * (xs.getD j 0).toNat) = B * (val B xs + B ^ j * v.toNat) := by rw [ih]
    rw [Nat.mul_add, Nat.mul_add] at this
    omega
theorem dig_set {B : Nat} {l : List Int} (h : Dig B l) (j : Nat) {v : Int} (h0 : 0 ≤ v) (h1 : v < (B : Int)) : Dig B (l.set j v) := by
  intro x hx
  rcases List.mem_or_eq_of_mem_set hx with h2 | rfl
  · exact h x h2
  · exact ⟨h0, h1⟩
theorem getD_set_ne {l : List Int} {i j : Nat} {v : Int} (h : i ≠ j) : (l.set i v).getD j 0 = l.getD j 0 := by
  rw [List.getD_eq_getElem?_getD, List.getD_eq_getElem?_getD, List.getElem?_set_ne h]
theorem mul_digit (o x y c : Nat) (ho : o < 10000) (hx : x < 10000) (hy : y < 10000) (hc : c < 10000) : x * y ≤ 99980001 ∧ wrap64 (wrap64 ((o : Int) + wrap64 ((x : Int) * (y : Int))) + (c : Int)) = ((o + x * y + c : Nat) : Int) ∧ Int.tmod ((o + x * y + c : Nat) : Int) 10000 = (((o + x * y + c) % 10000 : Nat) : Int) ∧ wrap64 (Int.tdiv ((o + x * y + c : Nat) : Int) 10000) = (((o + x * y + c) / 10000 : Nat) : Int) ∧ (o + x * y + c) / 10000 < 10000 := by
  have h : x * y ≤ 9999 * 9999 := Nat.mul_le_mul (by omega) (by omega)
  have e : (x : Int) * (y : Int) = ((x * y : Nat) : Int) := by simp
  rw [e]
  refine ⟨by omega, ?_, ?_, ?_, by omega⟩
  · rw [w64s (x := ((x * y : Nat) : Int)) (by omega) (by omega), w64s (x := (o : Int) + ((x * y : Nat) : Int)) (by omega) (by omega), w64s (by omega) (by omega)]
    omega
  · rw [Int.tmod_eq_emod_of_nonneg (by omega)]
    omega
  · rw [Int.tdiv_eq_ediv_of_nonneg (by omega), w64s (by omega) (by omega)]
    omega
theorem mul_val (X B o x y c vo vs V V' q r : Nat) (hs : vs + X * o = vo + X * r) (hV : V = y + B * V') (hd : o + x * y + c = B * q + r) : vs + X * B * q + X * B * (x * V') = vo + X * c + X * (x * V) := by
  have h1 : X * (o + x * y + c) = X * (B * q + r) := by rw [hd]
  rw [hV]
  simp only [Nat.mul_add] at h1 ⊢
  have e1 : X * B * q = X * (B * q) := Nat.mul_assoc _ _ _
  have e2 : X * B * (x * V') = X * (x * (B * V')) := by rw [Nat.mul_assoc, Nat.mul_left_comm B x V']
  rw [e1, e2]
  omega
set_option maxHeartbeats 1000000 in
theorem rMul_l1 (a b : List Int) (ha : Dig 10000 a) (hb : Dig 10000 b) (hs : a.length < 1000000) (hs' : b.length < 1000000) (i : Nat) (hi : i < a.length) : ∀ (m j c : Nat) (out : List Int), j + m = b.length → c < 10000 → Dig 10000 out → out.length = a.length + b.length →
    ∃ (out' : List Int) (c' : Nat), Dig 10000 out' ∧ out'.length = a.length + b.length ∧ c' < 10000 ∧ (∀ p, i + b.length ≤ p → out'.getD p 0 = out.getD p 0) ∧
      val 10000 out' + 10000 ^ (i + b.length) * c' = val 10000 out + 10000 ^ (i + j) * c + 10000 ^ (i + j) * ((a.getD i 0).toNat * V 10000 b j) ∧
      ∀ r, Ev (fun k => roundelref02_Mul.l1 k a b out' (i : Int) (c' : Int) (a.length : Int) (i : Int) (b.length : Int) (b.length : Int)) r → Ev (fun k => roundelref02_Mul.l1 k a b out (i : Int) (c : Int) (a.length : Int) (i : Int) (b.length : Int) (j : Int)) r := by
  intro m
  induction m with
  | zero =>
    intro j c out hj hc hd hl
    obtain rfl : j = b.length := by omega
    refine ⟨out, c, hd, hl, hc, fun _ _ => rfl, ?_, fun r h => h⟩
    rw [V_end _ (Nat.le_refl _)]
    simp
  | succ m ih =>
    intro j c out hj hc hd hl
    have hx := ha.get (show 0 < 10000 by decide) i
    have hy := hb.get (show 0 < 10000 by decide) j
    have ho := hd.get (show 0 < 10000 by decide) (i + j)
    have hv := V_step 10000 b j
    obtain ⟨x, hx'⟩ := Int.eq_ofNat_of_zero_le hx.1
    obtain ⟨y, hy'⟩ := Int.eq_ofNat_of_zero_le hy.1
    obtain ⟨o, ho'⟩ := Int.eq_ofNat_of_zero_le ho.1
    rw [hx'] at hx ⊢
    rw [hy'] at hy hv
    rw [ho'] at ho
    rw [Int.toNat_natCast] at hv ⊢
    obtain ⟨b1, e1, e2, e3, e5⟩ := mul_digit o x y c (by omega) (by omega) (by omega) hc
    have E1 := Lib.hid e1
    have E2 := Lib.hid e2
    have E3 := Lib.hid e3
    clear e1 e2 e3
    have hset := val_set 10000 out (i + j) (((o + x * y + c) % 10000 : Nat) : Int) (by omega)
    rw [ho', Int.toNat_natCast, Int.toNat_natCast] at hset
    obtain ⟨out', c', h1, h2, h3, h4, h5, h6⟩ := ih (j + 1) ((o + x * y + c) / 10000) (out.set (i + j) (((o + x * y + c) % 10000 : Nat) : Int)) (by omega) e5 (dig_set hd _ (by omega) (by omega)) (by rw [List.length_set]; exact hl)
    have EJ := Lib.hid (wadd i j (by omega))
    have EK := Lib.hid (wadd1 j (by omega))
    refine ⟨out', c', h1, h2, h3, fun p hp => ?_, ?_, fun r hr => ?_⟩
    · rw [h4 p hp, getD_set_ne (by omega)]
    · rw [h5, hx', Int.toNat_natCast, show i + (j + 1) = i + j + 1 by omega, Nat.pow_succ]
      exact mul_val _ _ o x y c _ _ _ _ _ _ hset hv (by omega)
    · refine Ev.step (fun k => ?_) (h6 r hr)
      rw [roundelref02_Mul.l1, if_pos (by omega), EJ.out, if_pos (by omega), if_pos (by omega), if_pos (by omega), if_pos (by omega), if_pos (by omega), if_pos (by omega), rd_nat, rd_nat, rd_nat, hx', hy', ho', E1.out, E2.out, E3.out, EK.out, Int.toNat_natCast]
set_option maxHeartbeats 1000000 in
theorem rMul_l0 (a b : List Int) (ha : Dig 10000 a) (hb : Dig 10000 b) (hs : a.length < 1000000) (hs' : b.length < 1000000) : ∀ (m i : Nat) (out : List Int), i + m = a.length → Dig 10000 out → out.length = a.length + b.length → (∀ p, i + b.length ≤ p → out.getD p 0 = 0) →
    Ev (fun k => roundelref02_Mul.l0 k a b out (a.length : Int) (i : Int)) (dig 10000 (val 10000 out + 10000 ^ i * (V 10000 a i * val 10000 b))) := by
  intro m
  induction m with
  | zero =>
    intro i out hi hd hl hz
    refine Ev.step (G := fun k => (roundelref02_trim.f k out).bind fun t190 => some t190) (fun k => ?_) ?_
    · rw [roundelref02_Mul.l0, if_neg (by omega)]
    · rw [V_end _ (by omega), Nat.zero_mul, Nat.mul_zero, Nat.add_zero]
      exact Ev.bind (rtrim_dig out (by omega) hd) (Ev.const _)
  | succ m ih =>
    intro i out hi hd hl hz
    obtain ⟨out', c', h1, h2, h3, h4, h5, h6⟩ := rMul_l1 a b ha hb hs hs' i (by omega) b.length 0 0 out (by omega) (by omega) hd hl
    have hz' := (h4 (i + b.length) (Nat.le_refl _)).trans (hz _ (Nat.le_refl _))
    have hset := val_set 10000 out' (i + b.length) (c' : Int) (by omega)
    rw [hz', Int.toNat_natCast] at hset
    have EI := Lib.hid (wadd i b.length (by omega))
    have EI1 := Lib.hid (wadd1 i (by omega))
    have EC := Lib.hid (show wrap64 (0 + (c' : Int)) = (c' : Int) by rw [Int.zero_add]; exact wid c' (by omega))
    have ih2 := ih (i + 1) (out'.set (i + b.length) (c' : Int)) (by omega) (dig_set h1 _ (by omega) (by omega)) (by rw [List.length_set]; exact h2) (fun p hp => by
      rw [getD_set_ne (by omega), h4 p (by omega), hz p (by omega)])
    have hva := V_step 10000 a i
    have hval : val 10000 out + 10000 ^ i * (V 10000 a i * val 10000 b) = val 10000 (out'.set (i + b.length) (c' : Int)) + 10000 ^ (i + 1) * (V 10000 a (i + 1) * val 10000 b) := by
      rw [hva, Nat.add_mul, Nat.mul_add, Nat.pow_succ, Nat.mul_assoc 10000, ← Nat.mul_assoc (10000 ^ i) 10000]
      rw [V_zero, Nat.add_zero, Nat.mul_zero, Nat.add_zero] at h5
      simp only [Int.toNat_zero, Nat.mul_zero, Nat.add_zero] at hset
      omega
    rw [hval]
    refine Ev.step (G := fun k => roundelref02_Mul.l1 k a b out (i : Int) 0 (a.length : Int) (i : Int) (b.length : Int) 0) (fun k => ?_) (h6 _ ?_)
    · rw [roundelref02_Mul.l0, if_pos (by omega)]
    · refine Ev.step (fun k => ?_) ih2
      rw [roundelref02_Mul.l1, if_neg (by omega), EI.out, if_pos (by omega), if_pos (by omega), rd_nat, hz', EC.out, EI1.out, Int.toNat_natCast]
theorem rMul (x y : Nat) (hx : Lo x) (hy : Lo y) : Ev (fun k => roundelref02_Mul.f k (dig 10000 x) (dig 10000 y)) (dig 10000 (x * y)) := by
  unfold Lo at hx hy
  have dx := Dig_dig (B := 10000) (by omega) x
  have dy := Dig_dig (B := 10000) (by omega) y
  have vx := val_dig (B := 10000) (by omega) x
  have vy := val_dig (B := 10000) (by omega) y
  generalize dig 10000 x = a at *
  generalize dig 10000 y = b at *
  have h := rMul_l0 a b dx dy (by omega) (by omega) a.length 0 (List.replicate (a.length + b.length) 0) (by omega) (Dig.rep (by omega) _) (by simp) (fun p _ => by
    rw [List.getD_eq_getElem?_getD, List.getElem?_replicate]
    split <;> rfl)
  rw [V_zero, val_replicate, vx, vy, Nat.pow_zero, Nat.one_mul, Nat.zero_add] at h
  refine Ev.congr (fun k => ?_) h
  rw [roundelref02_Mul.f, wadd a.length b.length (by omega)]
  rw [if_pos (by omega), Int.toNat_natCast, if_pos (by omega)]
  rfl

end Go.Proofs.YtcoipojikmgdmaaDoor.P
