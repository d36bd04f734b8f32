-- Written by a program of this session (wip/tools/shake.py) out of its own texts and of the kit's printed ones; not trusted: Lean checks it.
import Derived.Test.YthiicmanfpmipaaGreatDoorZFillScales5
set_option maxHeartbeats 8000000
set_option maxRecDepth 100000
set_option linter.unusedVariables false
set_option linter.unusedSimpArgs false
section
namespace Go.Proofs.YthiicmanfpmipaaGreatDoor.P
open Go.RowKit Go.Proofs.YthiicmanfpmipaaGreatDoorW.PrintWords Go.Proofs.YthiicmanfpmipaaGreatDoorW.PrintLast Go.Proofs.YthiicmanfpmipaaGreatDoorW.PrintMore
attribute [local go_sem] zci zcj zcs zcr zb9 zca zcg zch
def Ev {α : Type} (F : Nat → Option α) (r : α) : Prop := ∃ K, ∀ k, K ≤ k → F k = some r
theorem Ev.const {α : Type} (r : α) : Ev (fun _ => some r) r := ⟨0, fun _ _ => rfl⟩
theorem Ev.of {α : Type} {F : Nat → Option α} {r : α} (h : ∀ k, F k = some r) : Ev F r := ⟨0, fun k _ => h k⟩
theorem Ev.congr {α : Type} {F G : Nat → Option α} {r : α} (h : ∀ k, F k = G k) (hg : Ev G r) : Ev F r := by
 obtain ⟨K, hK⟩ := hg
 exact ⟨K, fun k hk => (h k).trans (hK k hk)⟩
theorem Ev.step {α : Type} {F G : Nat → Option α} {r : α} (h : ∀ k, F (k + 1) = G k) (hg : Ev G r) : Ev F r := by
 obtain ⟨K, hK⟩ := hg
 refine ⟨K + 1, fun k hk => ?_⟩
 obtain ⟨m, rfl⟩ : ∃ m, k = m + 1 := ⟨k - 1, by omega⟩
 exact (h m).trans (hK m (by omega))
theorem Ev.bind {α β : Type} {F : Nat → Option α} {G : Nat → α → Option β} {x : α} {r : β} (hf : Ev F x) (hg : Ev (fun k => G k x) r) : Ev (fun k => (F k).bind (G k)) r := by
 obtain ⟨K, hK⟩ := hf
 obtain ⟨L, hL⟩ := hg
 refine ⟨K + L, fun k hk => ?_⟩
 show (F k).bind (G k) = some r
 rw [hK k (by omega)]
 exact hL k (by omega)
theorem Ev.get {α : Type} {F : Nat → Option α} {r : α} (h : Ev F r) : ∃ k, F k = some r := by
 obtain ⟨K, hK⟩ := h
 exact ⟨K, hK K (Nat.le_refl _)⟩
theorem w64s {x : Int} (h0 : -9223372036854775808 ≤ x) (h1 : x < 9223372036854775808) : wrap64 x = x := by unfold wrap64; omega
def val (B : Nat) : List Int → Nat
 | [] => 0
 | x :: xs => x.toNat + B * val B xs
def Dig (B : Nat) (l : List Int) : Prop := ∀ x ∈ l, 0 ≤ x ∧ x < (B : Int)
def strip : List Int → List Int
 | [] => []
 | x :: xs => if strip xs = [] then (if x = 0 then [] else [x]) else x :: strip xs
def dig (B n : Nat) : List Int := if h : n = 0 ∨ B ≤ 1 then [] else ((n % B : Nat) : Int) :: dig B (n / B)
termination_by n
decreasing_by exact Nat.div_lt_self (by omega) (by omega)
theorem zct (B : Nat) : dig B 0 = [] := by rw [dig]; simp
theorem dig_pos {B n : Nat} (hB : 1 < B) (hn : n ≠ 0) : dig B n = ((n % B : Nat) : Int) :: dig B (n / B) := by
 rw [dig, dif_neg (by omega)]
theorem dig_ne {B n : Nat} (hB : 1 < B) (hn : n ≠ 0) : dig B n ≠ [] := by rw [dig_pos hB hn]; simp
theorem zcv {B : Nat} (hB : 1 < B) (n : Nat) : val B (dig B n) = n := by
 induction n using Nat.strongRecOn with
 | ind n ih =>
  by_cases hn : n = 0
  ·
   subst hn
   rw [zct]
   rfl
  ·
   rw [dig_pos hB hn, val, ih (n / B) (Nat.div_lt_self (by omega) hB)]
   have := Nat.mod_add_div n B
   omega
theorem zc5 {B : Nat} (hB : 1 < B) (n : Nat) : Dig B (dig B n) := by
 induction n using Nat.strongRecOn with
 | ind n ih =>
  by_cases hn : n = 0
  ·
   subst hn
   rw [zct]
   intro x hx
   cases hx
  ·
   rw [dig_pos hB hn]
   intro x hx
   rcases List.mem_cons.1 hx with rfl | hx
   ·
    have := Nat.mod_lt n (show 0 < B by omega)
    omega
   ·
    exact ih (n / B) (Nat.div_lt_self (by omega) hB) x hx
theorem Dig.cons {B : Nat} {x : Int} {l : List Int} (h : Dig B (x :: l)) : (0 ≤ x ∧ x < (B : Int)) ∧ Dig B l := ⟨h x (by simp), fun y hy => h y (by simp [hy])⟩
theorem Dig.mk {B : Nat} {x : Int} {l : List Int} (h0 : 0 ≤ x) (h1 : x < (B : Int)) (h : Dig B l) : Dig B (x :: l) := by
 intro y hy
 rcases List.mem_cons.1 hy with rfl | hy
 ·
  exact ⟨h0, h1⟩
 ·
  exact h y hy
theorem Dig.nil (B : Nat) : Dig B [] := by intro x hx; cases hx
theorem Dig.app {B : Nat} {a b : List Int} (ha : Dig B a) (hb : Dig B b) : Dig B (a ++ b) := by
 intro x hx
 rcases List.mem_append.1 hx with h | h
 ·
  exact ha x h
 ·
  exact hb x h
theorem strip_dig {B : Nat} (hB : 1 < B) : ∀ (l : List Int), Dig B l → strip l = dig B (val B l)
 | [], _ => by rw [val, zct]; rfl
 | x :: xs, h => by
  obtain ⟨⟨h0, h1⟩, h2⟩ := h.cons
  have ih := strip_dig hB xs h2
  have hm : ∀ v, (x.toNat + B * v) % B = x.toNat := fun v => by
   rw [Nat.add_mul_mod_self_left, Nat.mod_eq_of_lt (by omega)]
  have hd : ∀ v, (x.toNat + B * v) / B = v := fun v => by
   rw [Nat.add_mul_div_left _ _ (by omega), Nat.div_eq_of_lt (by omega), Nat.zero_add]
  rw [strip, val, ih]
  by_cases hv : val B xs = 0
  ·
   rw [hv, zct, if_pos rfl]
   by_cases hx : x = 0
   ·
    subst hx
    simp [zct]
   ·
    rw [if_neg hx, dig_pos hB (by omega), hm, hd, zct]
    congr 1
    omega
  ·
   rw [if_neg (dig_ne hB hv)]
   have hne : x.toNat + B * val B xs ≠ 0 := by
    have := Nat.mul_pos (show 0 < B by omega) (Nat.pos_of_ne_zero hv)
    omega
   rw [dig_pos hB hne, hm, hd]
   congr 1
   omega
theorem strip_snoc0 : ∀ (l : List Int), strip (l ++ [0]) = strip l
 | [] => by simp [strip]
 | x :: xs => by
  rw [List.cons_append, strip, strip, strip_snoc0 xs]
theorem strip_snoc : ∀ (l : List Int) (x : Int), x ≠ 0 → strip (l ++ [x]) = l ++ [x]
 | [], x, h => by simp [strip, h]
 | y :: ys, x, h => by
  rw [List.cons_append, strip, strip_snoc ys x h, if_neg (by simp)]
def Good (l : List Int) : Prop := l = [] ∨ l.getD (l.length - 1) 0 ≠ 0
theorem dig_last {B : Nat} (hB : 1 < B) (n : Nat) : Good (dig B n) := by
 induction n using Nat.strongRecOn with
 | ind n ih =>
  by_cases hn : n = 0
  ·
   subst hn
   exact .inl (zct B)
  ·
   right
   rw [dig_pos hB hn]
   have ih := ih (n / B) (Nat.div_lt_self (by omega) hB)
   by_cases hd : n / B = 0
   ·
    rw [hd, zct]
    have h1 := Nat.div_add_mod n B
    rw [hd] at h1
    simp
    omega
   ·
    have hne := dig_ne hB hd
    rcases ih with ih | ih
    ·
     exact absurd ih hne
    ·
     have hl : 0 < (dig B (n / B)).length := List.length_pos_iff.2 hne
     simp only [List.length_cons, Nat.add_sub_cancel]
     rw [show (dig B (n / B)).length = (dig B (n / B)).length - 1 + 1 by omega, List.getD_cons_succ]
     exact ih
theorem dig_length {B : Nat} (hB : 1 < B) : ∀ (m n : Nat), n < B ^ m → (dig B n).length ≤ m
 | 0, n, h => by
  have : n = 0 := by simpa using h
  subst this
  rw [zct]
  exact Nat.le_refl _
 | m + 1, n, h => by
  by_cases hn : n = 0
  ·
   subst hn
   rw [zct]
   exact Nat.zero_le _
  ·
   rw [dig_pos hB hn, List.length_cons]
   have : n / B < B ^ m := by
    rw [Nat.div_lt_iff_lt_mul (by omega)]
    rwa [Nat.pow_succ] at h
   have := dig_length hB m _ this
   omega
theorem val_lt {B : Nat} : ∀ (l : List Int), Dig B l → val B l < B ^ l.length
 | [], _ => by simp [val]
 | x :: xs, h => by
  obtain ⟨⟨h0, h1⟩, h2⟩ := h.cons
  have ih := val_lt xs h2
  rw [val, List.length_cons, Nat.pow_succ]
  have : B * (val B xs + 1) ≤ B * B ^ xs.length := Nat.mul_le_mul_left _ ih
  rw [Nat.mul_add] at this
  rw [Nat.mul_comm (B ^ xs.length)]
  omega
def V (B : Nat) (l : List Int) (i : Nat) : Nat := val B (l.drop i)
theorem V_zero (B : Nat) (l : List Int) : V B l 0 = val B l := rfl
theorem V_end (B : Nat) {l : List Int} {i : Nat} (h : l.length ≤ i) : V B l i = 0 := by
 unfold V
 rw [List.drop_eq_nil_of_le h]
 rfl
theorem V_step (B : Nat) (l : List Int) (i : Nat) : V B l i = (l.getD i 0).toNat + B * V B l (i + 1) := by
 by_cases h : i < l.length
 ·
  unfold V
  rw [List.drop_eq_getElem_cons h, val, List.getD_eq_getElem?_getD, List.getElem?_eq_getElem h]
  rfl
 ·
  rw [V_end B (by omega), V_end B (by omega), List.getD_eq_getElem?_getD, List.getElem?_eq_none (by omega)]
  rfl
theorem Dig.get {B : Nat} (hB : 0 < B) {l : List Int} (h : Dig B l) (i : Nat) : 0 ≤ l.getD i 0 ∧ l.getD i 0 < (B : Int) := by
 by_cases hi : i < l.length
 ·
  rw [List.getD_eq_getElem?_getD, List.getElem?_eq_getElem hi]
  exact h _ (List.getElem_mem hi)
 ·
  rw [List.getD_eq_getElem?_getD, List.getElem?_eq_none (by omega)]
  simp
  omega
theorem V_pos {B : Nat} (hB : 1 < B) {l : List Int} (h : Dig B l) (hg : Good l) (i : Nat) (hi : i < l.length) : 0 < V B l i := by
 rcases hg with rfl | hg
 ·
  simp at hi
 ·
  obtain ⟨m, hm⟩ : ∃ m, l.length - 1 = i + m := ⟨l.length - 1 - i, by omega⟩
  rw [hm] at hg
  have key : ∀ m i, l.getD (i + m) 0 ≠ 0 → 0 < V B l i := by
   intro m
   induction m with
   | zero =>
    intro i h0
    rw [V_step]
    have := (h.get (show 0 < B by omega) i).1
    rw [Nat.add_zero] at h0
    omega
   | succ m ih =>
    intro i h0
    rw [V_step]
    have := ih (i + 1) (by rw [show i + 1 + m = i + (m + 1) by omega]; exact h0)
    have := Nat.mul_pos (show 0 < B by omega) this
    omega
  exact key m i hg
theorem rd_nat (l : List Int) (i : Nat) : rd l (i : Int) = l.getD i 0 := by
 unfold rd
 simp
theorem val_append (B : Nat) : ∀ (a b : List Int), val B (a ++ b) = val B a + B ^ a.length * val B b
 | [], b => by simp [val]
 | x :: xs, b => by
  rw [List.cons_append, val, val, val_append B xs b, List.length_cons, Nat.pow_succ, Nat.mul_add, ← Nat.mul_assoc, Nat.mul_comm B (B ^ xs.length)]
  omega
theorem zcp (B : Nat) : ∀ n, val B (List.replicate n 0) = 0
 | 0 => rfl
 | n + 1 => by rw [List.replicate_succ, val, zcp B n]; simp
theorem Dig.rep {B : Nat} (hB : 0 < B) (n : Nat) : Dig B (List.replicate n 0) := by
 intro x hx
 obtain ⟨_, rfl⟩ := List.mem_replicate.1 hx
 omega
theorem wadd (i j : Nat) (h : i + j < 4611686018427387904) : wrap64 ((i : Int) + (j : Int)) = ((i + j : Nat) : Int) := by rw [w64s (by omega) (by omega)]; omega
theorem wadd1 (i : Nat) (h : i < 4611686018427387904) : wrap64 ((i : Int) + 1) = ((i + 1 : Nat) : Int) := by rw [w64s (by omega) (by omega)]; omega
theorem wsub1 (i : Nat) (h : i < 4611686018427387904) (h0 : 0 < i) : wrap64 ((i : Int) - 1) = ((i - 1 : Nat) : Int) := by rw [w64s (by omega) (by omega)]; omega
theorem wid (i : Nat) (h : i < 4611686018427387904) : wrap64 (i : Int) = (i : Int) := w64s (by omega) (by omega)
def sgn (x y : Nat) : Int := if x = y then 0 else if x < y then -1 else 1
theorem take_snoc (l : List Int) (n : Nat) (h : n < l.length) : l.take (n + 1) = l.take n ++ [l.getD n 0] := by
 rw [List.take_succ_eq_append_getElem h, List.getD_eq_getElem?_getD, List.getElem?_eq_getElem h]
 rfl
theorem V_lt {B : Nat} (hB : 0 < B) {a b : List Int} (ha : Dig B a) (hb : Dig B b) : ∀ i : Nat, V B a i < V B b i → val B a < val B b
 | 0, h => h
 | i + 1, h => by
  refine V_lt hB ha hb i ?_
  rw [V_step B a i, V_step B b i]
  have h1 := (ha.get hB i)
  have h2 : B * (V B a (i + 1) + 1) ≤ B * V B b (i + 1) := Nat.mul_le_mul_left _ h
  rw [Nat.mul_add] at h2
  omega
theorem len_lt {B : Nat} (hB : 1 < B) {a b : List Int} (ha : Dig B a) (hb : Dig B b) (hg : Good b) (h : a.length < b.length) : val B a < val B b := by
 refine V_lt (by omega) ha hb (b.length - 1) ?_
 rw [V_end B (show a.length ≤ b.length - 1 by omega)]
 exact V_pos hB hb hg _ (by omega)
theorem val_set (B : Nat) : ∀ (l : List Int) (j : Nat) (v : Int), j < l.length → val B (l.set j v) + B ^ j * (l.getD j 0).toNat = val B l + B ^ j * v.toNat
 | [], j, v, h => by simp at h
 | x :: xs, 0, v, h => by
  simp [val]
  omega
 | x :: xs, j + 1, v, h => by
  have ih := val_set B xs j v (by simpa using h)
  rw [List.set_cons_succ, val, val, List.getD_cons_succ, Nat.pow_succ, Nat.mul_comm (B ^ j) B, Nat.mul_assoc, Nat.mul_assoc]
  have : B * (val B (xs.set j v) + B ^ j * (xs.getD j 0).toNat) = B * (val B xs + B ^ j * v.toNat) := by rw [ih]
  rw [Nat.mul_add, Nat.mul_add] at this
  omega
theorem dig_set {B : Nat} {l : List Int} (h : Dig B l) (j : Nat) {v : Int} (h0 : 0 ≤ v) (h1 : v < (B : Int)) : Dig B (l.set j v) := by
 intro x hx
 rcases List.mem_or_eq_of_mem_set hx with h2 | rfl
 ·
  exact h x h2
 ·
  exact ⟨h0, h1⟩
theorem getD_set_ne {l : List Int} {i j : Nat} {v : Int} (h : i ≠ j) : (l.set i v).getD j 0 = l.getD j 0 := by
 rw [List.getD_eq_getElem?_getD, List.getD_eq_getElem?_getD, List.getElem?_set_ne h]
theorem mul_val (X B o x y c vo vs V V' q r : Nat) (hs : vs + X * o = vo + X * r) (hV : V = y + B * V') (hd : o + x * y + c = B * q + r) : vs + X * B * q + X * B * (x * V') = vo + X * c + X * (x * V) := by
 have h1 : X * (o + x * y + c) = X * (B * q + r) := by rw [hd]
 rw [hV]
 simp only [Nat.mul_add] at h1 ⊢
 have e1 : X * B * q = X * (B * q) := Nat.mul_assoc _ _ _
 have e2 : X * B * (x * V') = X * (x * (B * V')) := by rw [Nat.mul_assoc, Nat.mul_left_comm B x V']
 rw [e1, e2]
 omega
theorem V_bound {B : Nat} (hB : 0 < B) {l : List Int} (h : Dig B l) (i : Nat) : V B l i < B ^ l.length := by
 have h1 : Dig B (l.drop i) := fun x hx => h x (List.mem_of_mem_drop hx)
 have h2 := val_lt _ h1
 refine Nat.lt_of_lt_of_le h2 (Nat.pow_le_pow_right hB ?_)
 rw [List.length_drop]
 omega
theorem Ev.mono {α : Type} {F : Nat → Option α} (h : ∀ k, LeO (F k) (F (k + 1))) {K : Nat} {r : α} (hK : F K = some r) : Ev F r := by
 refine ⟨K, fun k hk => ?_⟩
 obtain ⟨m, rfl⟩ : ∃ m, k = K + m := ⟨k - K, by omega⟩
 clear hk
 induction m with
 | zero => exact hK
 | succ m ih => exact h (K + m) r ih
theorem sgn_add (p q c : Nat) : sgn (p + c) (q + c) = sgn p q := by
 unfold sgn
 by_cases h1 : p = q
 ·
  rw [if_pos h1, if_pos (by omega)]
 ·
  rw [if_neg h1, if_neg (by omega)]
  by_cases h2 : p < q
  ·
   rw [if_pos h2, if_pos (by omega)]
  ·
   rw [if_neg h2, if_neg (by omega)]
theorem sgn_lt {p q : Nat} (h : p < q) : sgn p q = -1 := by rw [sgn, if_neg (by omega), if_pos h]
theorem sgn_gt {p q : Nat} (h : q < p) : sgn p q = 1 := by rw [sgn, if_neg (by omega), if_neg (by omega)]
theorem top_lt {B p q x y X : Nat} (hp : p < X) (h : x < y) : p + X * x < q + X * y := by
 have : X * (x + 1) ≤ X * y := Nat.mul_le_mul_left _ h
 rw [Nat.mul_add] at this
 omega
theorem revCmp_val {B : Nat} : ∀ (n : Nat) (a b : List Int), a.length = n → b.length = n → Dig B a → Dig B b → revCmp a.reverse b.reverse = sgn (val B a) (val B b)
 | 0, a, b, ha, hb, _, _ => by
  obtain rfl := List.length_eq_zero_iff.1 ha
  obtain rfl := List.length_eq_zero_iff.1 hb
  simp [revCmp, sgn, val]
 | n + 1, a, b, ha, hb, da, db => by
  rcases List.eq_nil_or_concat a with rfl | ⟨a', x, rfl⟩
  ·
   simp at ha
  rcases List.eq_nil_or_concat b with rfl | ⟨b', y, rfl⟩
  ·
   simp at hb
  rw [List.concat_eq_append] at ha hb da db ⊢
  rw [List.concat_eq_append]
  have ha' : a'.length = n := by simpa using ha
  have hb' : b'.length = n := by simpa using hb
  have da' : Dig B a' := fun z hz => da z (by simp [hz])
  have db' : Dig B b' := fun z hz => db z (by simp [hz])
  have hx := da x (by simp)
  have hy := db y (by simp)
  have va := val_lt a' da'
  have vb := val_lt b' db'
  rw [ha'] at va
  rw [hb'] at vb
  rw [List.reverse_append, List.reverse_append, val_append, val_append, ha', hb']
  simp only [List.reverse_cons, List.reverse_nil, List.nil_append, List.cons_append, val, Nat.mul_zero, Nat.add_zero]
  rw [revCmp]
  by_cases h1 : x = y
  ·
   rw [if_pos h1, revCmp_val n a' b' ha' hb' da' db', h1, sgn_add]
  ·
   rw [if_neg h1]
   by_cases h2 : x < y
   ·
    rw [if_pos h2, sgn_lt (top_lt (B := B) va (by omega))]
   ·
    rw [if_neg h2, sgn_gt (top_lt (B := B) vb (by omega))]
theorem less_val (X W d y bo x bo' vo T va vb : Nat) (h : vo + X * (x + W * va) = T + X * (y + W * vb + bo)) (hd : d + y + bo = x + W * bo') : vo + X * d + X * W * va = T + X * W * (vb + bo') := by
 have h1 : X * (d + y + bo) = X * (x + W * bo') := by rw [hd]
 have e1 : X * W * va = X * (W * va) := Nat.mul_assoc _ _ _
 have e2 : X * W * (vb + bo') = X * (W * vb) + X * (W * bo') := by rw [Nat.mul_assoc, Nat.mul_add, Nat.mul_add]
 rw [e1, e2]
 simp only [Nat.mul_add] at h h1
 omega
theorem dig_mono {B : Nat} (hB : 1 < B) {x y : Nat} (h : x ≤ y) : (dig B x).length ≤ (dig B y).length := by
 have h1 := val_lt _ (zc5 hB y)
 rw [zcv hB] at h1
 exact dig_length hB _ x (Nat.lt_of_le_of_lt h h1)
theorem Ev.pos {α : Type} {c : Prop} [Decidable c] {F G : Nat → Option α} {r : α} (hc : c) (h : Ev F r) : Ev (fun k => if c then F k else G k) r := Ev.congr (fun k => if_pos hc) h
theorem Ev.neg {α : Type} {c : Prop} [Decidable c] {F G : Nat → Option α} {r : α} (hc : ¬ c) (h : Ev G r) : Ev (fun k => if c then F k else G k) r := Ev.congr (fun k => if_neg hc) h
theorem Ev.plain {α β : Type} {x : Option α} {y : α} {G : Nat → α → Option β} {r : β} (hx : x = some y) (h : Ev (fun k => G k y) r) : Ev (fun k => x.bind (G k)) r := by subst hx; exact h
theorem W_add {x y m : Nat} (hx : x < 18446744073709551616 ^ m) (hy : y < 18446744073709551616 ^ m) : x + y < 18446744073709551616 ^ (m + 1) := by
 rw [Nat.pow_succ]
 omega
theorem W_mul {x y m n : Nat} (hx : x < 18446744073709551616 ^ m) (hy : y < 18446744073709551616 ^ n) : x * y < 18446744073709551616 ^ (m + n) := by
 rw [Nat.pow_add]
 exact Nat.mul_lt_mul'' hx hy
theorem W_le {x m n : Nat} (hx : x < 18446744073709551616 ^ m) (h : m ≤ n) : x < 18446744073709551616 ^ n := Nat.lt_of_lt_of_le hx (Nat.pow_le_pow_right (by decide) h)
def goodB (l : List Int) : Bool := if l.length = 0 then true else l.getD (l.length - 1) 0 != 0
theorem nGood (l : List Int) (hl : l.length < 1000000000) : zc1.f l = some (goodB l) := by
 unfold zc1.f goodB
 by_cases h : l.length = 0
 ·
  rw [if_pos (by omega), if_pos h]
 ·
  rw [if_neg (by omega), if_neg h, wsub1 l.length (by omega) (by omega), if_pos (by omega), if_pos (by omega), rd_nat]
theorem goodB_iff (l : List Int) : goodB l = true ↔ Good l := by
 unfold goodB Good
 by_cases h : l.length = 0
 ·
  rw [if_pos h]
  simp [List.length_eq_zero_iff.1 h]
 ·
  rw [if_neg h]
  have : l ≠ [] := fun e => h (by rw [e]; rfl)
  simp [this]
theorem goodB_dig (n : Nat) : goodB (dig 18446744073709551616 n) = true := (goodB_iff _).2 (dig_last (by decide) n)
theorem ntrim_l0 : ∀ (n : Nat) (l : List Int), l.length = n → n < 1000000000 → Ev (fun k => zbj.l0 k l) (strip l) := by
 intro n
 induction n with
 | zero =>
  intro l hl _
  obtain rfl := List.length_eq_zero_iff.1 hl
  refine Ev.step (G := fun _ => some []) (fun k => ?_) (Ev.const _)
  rw [zbj.l0, if_neg (by simp)]
 | succ n ih =>
  intro l hl hn
  have e1 := Lib.hid (wsub1 l.length (by omega) (by omega))
  by_cases hz : l.getD n 0 = 0
  ·
   refine Ev.step (G := fun k => zbj.l0 k (l.take n)) (fun k => ?_) ?_
   ·
    rw [zbj.l0, if_pos (by omega), e1.out, hl, Nat.add_sub_cancel, if_pos (by omega), if_pos (by omega), rd_nat, if_pos hz, if_pos (by omega), Int.toNat_natCast]
   ·
    have e : strip l = strip (l.take n) := by
     have h2 := take_snoc l n (by omega)
     rw [hz, ← hl, List.take_length] at h2
     have h3 := strip_snoc0 (l.take n)
     rw [← h2] at h3
     exact h3
    rw [e]
    exact ih (l.take n) (by rw [List.length_take]; omega) (by omega)
  ·
   refine Ev.step (G := fun _ => some l) (fun k => ?_) ?_
   ·
    rw [zbj.l0, if_pos (by omega), e1.out, hl, Nat.add_sub_cancel, if_pos (by omega), if_pos (by omega), rd_nat, if_neg hz]
   ·
    have h2 := take_snoc l n (by omega)
    rw [← hl, List.take_length] at h2
    have e : strip l = l := by
     have h3 := strip_snoc (l.take n) _ hz
     rw [← h2] at h3
     exact h3
    rw [e]
    exact Ev.const _
theorem ntrim (l : List Int) (hl : l.length < 1000000000) (h : Dig 18446744073709551616 l) : Ev (fun k => zbj.f k l) (dig 18446744073709551616 (val 18446744073709551616 l)) := by
 rw [← strip_dig (by decide) l h]
 exact ntrim_l0 l.length l rfl hl
theorem nOf (n : Nat) (h : n < 18446744073709551616) : Ev (fun k => zdb.f k (n : Int)) (dig 18446744073709551616 n) := by
 have h1 := ntrim [(n : Int)] (by simp) (Dig.mk (by omega) (by omega) (Dig.nil _))
 rw [show val 18446744073709551616 [(n : Int)] = n by simp [val]] at h1
 exact Ev.bind h1 (Ev.const _)
theorem nAt (l : List Int) (i : Nat) : nat_Nat_at.f l (i : Int) = some (l.getD i 0) := by
 unfold nat_Nat_at.f
 by_cases h : i < l.length
 ·
  rw [if_neg (by omega), if_pos (by omega), if_pos (by omega), rd_nat]
 ·
  rw [if_pos (by omega), List.getD_eq_getElem?_getD, List.getElem?_eq_none (by omega)]
  rfl
theorem nCmp' (a b : List Int) (ha : Dig 18446744073709551616 a) (hb : Dig 18446744073709551616 b) (ga : Good a) (gb : Good b) : natCmp a b = sgn (val 18446744073709551616 a) (val 18446744073709551616 b) := by
 unfold natCmp
 by_cases h : a.length = b.length
 ·
  rw [if_pos h, revCmp_val a.length a b rfl h.symm ha hb]
 ·
  rw [if_neg h]
  by_cases h2 : a.length < b.length
  ·
   rw [if_pos h2, sgn_lt (len_lt (by decide) ha hb gb h2)]
  ·
   rw [if_neg h2, sgn_gt (len_lt (by decide) hb ha ga (by omega))]
theorem nCmp (x y : Nat) : zco.f (dig 18446744073709551616 x) (dig 18446744073709551616 y) = some (sgn x y) := by
 unfold zco.f
 rw [nCmp' _ _ (zc5 (by decide) x) (zc5 (by decide) y) (dig_last (by decide) x) (dig_last (by decide) y), zcv (by decide), zcv (by decide)]
theorem add64 (x y c : Nat) (hc : c ≤ 1) : bits_Add64.f (x : Int) (y : Int) (c : Int) = some ((((x + y + c) % 18446744073709551616 : Nat) : Int), (((x + y + c) / 18446744073709551616 : Nat) : Int)) := by
 unfold bits_Add64.f
 rw [if_pos (by omega)]
 simp only [Int.toNat_natCast]
theorem sub64 (x y c : Nat) (hc : c ≤ 1) : bits_Sub64.f (x : Int) (y : Int) (c : Int) = some ((((x + 18446744073709551616 - y - c) % 18446744073709551616 : Nat) : Int), (((if x < y + c then 1 else 0 : Nat)) : Int)) := by
 unfold bits_Sub64.f
 rw [if_pos (by omega)]
 simp only [Int.toNat_natCast]
def Le (n m : Nat) : Prop := (dig 18446744073709551616 n).length ≤ m
theorem sub_digit (x y bo va vb : Nat) (hx : x < 18446744073709551616) (hy : y < 18446744073709551616) (hbo : bo ≤ 1) (h : y + 18446744073709551616 * vb + bo ≤ x + 18446744073709551616 * va) :
  (x + 18446744073709551616 - y - bo) % 18446744073709551616 + y + bo = x + 18446744073709551616 * (if x < y + bo then 1 else 0) ∧ vb + (if x < y + bo then 1 else 0) ≤ va ∧ (if x < y + bo then 1 else 0) ≤ 1 := by
 split <;> refine ⟨?_, ?_, ?_⟩ <;> omega
theorem nLess_l0 (a b : List Int) (ha : Dig 18446744073709551616 a) (hb : Dig 18446744073709551616 b) (hs : a.length < 1000000) (hs' : b.length ≤ a.length) (T : Nat) : ∀ (m i bo : Nat) (out : List Int), i + m = a.length → bo ≤ 1 → out.length = a.length → Dig 18446744073709551616 out → (∀ p, i ≤ p → out.getD p 0 = 0) →
  V 18446744073709551616 b i + bo ≤ V 18446744073709551616 a i → val 18446744073709551616 out + 18446744073709551616 ^ i * V 18446744073709551616 a i = T + 18446744073709551616 ^ i * (V 18446744073709551616 b i + bo) →
  Ev (fun k => zbr.l0 k a b out (bo : Int) (a.length : Int) (i : Int)) (dig 18446744073709551616 T) := by
 intro m
 induction m with
 | zero =>
  intro i bo out hi hbo ho hd hz hle hT
  refine Ev.step (G := fun k => (zbj.f k out).bind fun t307 => some t307) (fun k => ?_) ?_
  ·
   rw [zbr.l0, if_neg (by omega)]
  ·
   have h := ntrim out (by omega) hd
   rw [V_end _ (show a.length ≤ i by omega)] at hT hle
   have h0 : V 18446744073709551616 b i + bo = 0 := by omega
   rw [h0, Nat.mul_zero, Nat.add_zero, Nat.add_zero] at hT
   rw [hT] at h
   exact Ev.bind h (Ev.const _)
 | succ m ih =>
  intro i bo out hi hbo ho hd hz hle hT
  have ha1 := ha.get (show 0 < 18446744073709551616 by decide) i
  have hb1 := hb.get (show 0 < 18446744073709551616 by decide) i
  have hva := V_step 18446744073709551616 a i
  have hvb := V_step 18446744073709551616 b i
  obtain ⟨x, hx⟩ := Int.eq_ofNat_of_zero_le ha1.1
  obtain ⟨y, hy⟩ := Int.eq_ofNat_of_zero_le hb1.1
  rw [hx] at hva ha1
  rw [hy] at hvb hb1
  rw [Int.toNat_natCast] at hva hvb
  rw [hva, hvb] at hle hT
  obtain ⟨d1, d2, d3⟩ := sub_digit x y bo _ _ (by omega) (by omega) hbo hle
  have hset := val_set 18446744073709551616 out i (((x + 18446744073709551616 - y - bo) % 18446744073709551616 : Nat) : Int) (by omega)
  rw [hz i (Nat.le_refl _), Int.toNat_natCast, Int.toNat_zero, Nat.mul_zero, Nat.add_zero] at hset
  have hv := less_val _ _ _ _ _ _ _ _ _ _ _ hT d1
  rw [← hset, ← Nat.pow_succ] at hv
  have ih2 := ih (i + 1) (if x < y + bo then 1 else 0) (out.set i (((x + 18446744073709551616 - y - bo) % 18446744073709551616 : Nat) : Int)) (by omega) d3 (by rw [List.length_set]; exact ho) (dig_set hd _ (by omega) (by omega)) (fun p hp => by rw [getD_set_ne (by omega)]; exact hz p (by omega)) d2 hv
  have WA := Lib.hid (wadd1 i (by omega))
  have H2 := Lib.hid ih2
  clear ih2 hv hset d1 d2 d3 hT hle hva hvb
  refine Ev.step (fun k => ?_) H2.out
  rw [zbr.l0, if_pos (by omega), if_pos (by omega), if_pos (by omega), nAt, Option.bind_some, rd_nat, hx, hy, sub64 x y bo hbo, Option.bind_some, if_pos (by omega), WA.out, Int.toNat_natCast]
theorem nLess (x y : Nat) (hx : Le x 100000) (hy : y ≤ x) : Ev (fun k => zbr.f k (dig 18446744073709551616 x) (dig 18446744073709551616 y)) (dig 18446744073709551616 (x - y)) := by
 have hl := dig_mono (B := 18446744073709551616) (by decide) hy
 unfold Le at hx
 have dx := zc5 (B := 18446744073709551616) (by decide) x
 have dy := zc5 (B := 18446744073709551616) (by decide) y
 have vx := zcv (B := 18446744073709551616) (by decide) x
 have vy := zcv (B := 18446744073709551616) (by decide) y
 generalize dig 18446744073709551616 x = a at *
 generalize dig 18446744073709551616 y = b at *
 have h := nLess_l0 a b dx dy (by omega) hl (x - y) a.length 0 0 (List.replicate a.length 0) (by omega) (by omega) (by simp) (Dig.rep (by decide) _) (fun p _ => by
  rw [List.getD_eq_getElem?_getD, List.getElem?_replicate]
  split <;> rfl) (by rw [V_zero, V_zero, vx, vy]; omega) (by rw [V_zero, V_zero, vx, vy, zcp]; simp; omega)
 refine Ev.congr (fun k => ?_) h
 rw [zbr.f, if_pos (by omega), Int.toNat_natCast, if_pos (by omega)]
 rfl
theorem nSub (x y : Nat) (hx : Le x 100000) (hy : y ≤ x) : Ev (fun k => nat_Sub.f k (dig 18446744073709551616 x) (dig 18446744073709551616 y)) (dig 18446744073709551616 (x - y), 0) := by
 have hc : ¬ sgn x y < 0 := by
  unfold sgn
  split
  ·
   omega
  ·
   rw [if_neg (by omega)]
   omega
 refine Ev.congr (G := fun k => (zbr.f k (dig 18446744073709551616 x) (dig 18446744073709551616 y)).bind fun t311 => some (t311, 0)) (fun k => ?_) (Ev.bind (nLess x y hx hy) (Ev.const _))
 rw [nat_Sub.f, nCmp, Option.bind_some, if_neg hc]
theorem Le_lt {x m : Nat} (hx : x < 18446744073709551616 ^ m) (h : m ≤ 100000) : Le x 100000 := Nat.le_trans (dig_length (by decide) m x hx) h
theorem mul64_parts (x1 x0 y1 y0 : Nat) (h1 : x1 < 4294967296) (h2 : x0 < 4294967296) (h3 : y1 < 4294967296) (h4 : y0 < 4294967296) :
  x1 * y1 ≤ 18446744065119617025 ∧ x1 * y0 ≤ 18446744065119617025 ∧ x0 * y1 ≤ 18446744065119617025 ∧ x0 * y0 ≤ 18446744065119617025 ∧
  (4294967296 * x1 + x0) * (4294967296 * y1 + y0) = 18446744073709551616 * (x1 * y1) + 4294967296 * (x1 * y0) + 4294967296 * (x0 * y1) + x0 * y0 := by
 refine ⟨Nat.mul_le_mul (show x1 ≤ 4294967295 by omega) (show y1 ≤ 4294967295 by omega), Nat.mul_le_mul (show x1 ≤ 4294967295 by omega) (show y0 ≤ 4294967295 by omega), Nat.mul_le_mul (show x0 ≤ 4294967295 by omega) (show y1 ≤ 4294967295 by omega), Nat.mul_le_mul (show x0 ≤ 4294967295 by omega) (show y0 ≤ 4294967295 by omega), ?_⟩
 rw [Nat.add_mul, Nat.mul_add, Nat.mul_add]
 have e1 : 4294967296 * x1 * (4294967296 * y1) = 18446744073709551616 * (x1 * y1) := by
  rw [Nat.mul_mul_mul_comm]
 have e2 : 4294967296 * x1 * y0 = 4294967296 * (x1 * y0) := Nat.mul_assoc _ _ _
 have e3 : x0 * (4294967296 * y1) = 4294967296 * (x0 * y1) := Nat.mul_left_comm _ _ _
 rw [e1, e2, e3]
 omega
theorem mul64_hi (x y P a b c d : Nat) (hP : P = 18446744073709551616 * a + 4294967296 * b + 4294967296 * c + d) (ha : a ≤ 18446744065119617025) (hb : b ≤ 18446744065119617025) (hc : c ≤ 18446744065119617025) (hd : d ≤ 18446744065119617025) :
  a + (b + d / 4294967296) / 4294967296 + ((b + d / 4294967296) % 4294967296 + c) / 4294967296 = P / 18446744073709551616 := by
 omega
theorem mul64 (x y : Nat) (hx : x < 18446744073709551616) (hy : y < 18446744073709551616) : bits_Mul64.f (x : Int) (y : Int) = some (((x * y / 18446744073709551616 : Nat) : Int), ((x * y % 18446744073709551616 : Nat) : Int)) := by
 unfold bits_Mul64.f
 rw [and32 (by omega) (by omega), and32 (by omega) (by omega)]
 obtain ⟨b1, b2, b3, b4, e⟩ := mul64_parts (x / 4294967296) (x % 4294967296) (y / 4294967296) (y % 4294967296) (by omega) (by omega) (by omega) (by omega)
 rw [show 4294967296 * (x / 4294967296) + x % 4294967296 = x by omega, show 4294967296 * (y / 4294967296) + y % 4294967296 = y by omega] at e
 have c1 : (x : Int) / 4294967296 = ((x / 4294967296 : Nat) : Int) := by omega
 have c2 : (y : Int) / 4294967296 = ((y / 4294967296 : Nat) : Int) := by omega
 have c3 : (x : Int) % 4294967296 = ((x % 4294967296 : Nat) : Int) := by omega
 have c4 : (y : Int) % 4294967296 = ((y % 4294967296 : Nat) : Int) := by omega
 rw [c1, c2, c3, c4]
 have cm : ∀ p q : Nat, (p : Int) * (q : Int) = ((p * q : Nat) : Int) := fun p q => by simp
 rw [cm, cm, cm, cm, cm]
 have hh := mul64_hi x y _ _ _ _ _ e b1 b2 b3 b4
 generalize x / 4294967296 * (y / 4294967296) = a at *
 generalize x / 4294967296 * (y % 4294967296) = b at *
 generalize x % 4294967296 * (y / 4294967296) = c at *
 generalize x % 4294967296 * (y % 4294967296) = d at *
 generalize x * y = P at *
 clear c1 c2 c3 c4 cm
 have e1 : IntKind.u64.wrap (d : Int) = (d : Int) := u64s (by omega) (by omega)
 have e2 : IntKind.u64.wrap (b : Int) = (b : Int) := u64s (by omega) (by omega)
 have e3 : IntKind.u64.wrap (c : Int) = (c : Int) := u64s (by omega) (by omega)
 have e4 : IntKind.u64.wrap (a : Int) = (a : Int) := u64s (by omega) (by omega)
 have e5 : IntKind.u64.wrap ((b : Int) + (d : Int) / 4294967296) = ((b + d / 4294967296 : Nat) : Int) := by rw [u64s (by omega) (by omega)]; omega
 rw [e1, e2, e3, e4, e5]
 clear e1 e2 e3 e4 e5
 generalize ht : b + d / 4294967296 = t at *
 rw [and32 (by omega) (by omega)]
 have e6 : IntKind.u64.wrap ((t : Int) % 4294967296 + (c : Int)) = ((t % 4294967296 + c : Nat) : Int) := by rw [u64s (by omega) (by omega)]; omega
 rw [e6]
 clear e6
 have e7 : IntKind.u64.wrap ((a : Int) + (t : Int) / 4294967296) = ((a + t / 4294967296 : Nat) : Int) := by rw [u64s (by omega) (by omega)]; omega
 rw [e7]
 clear e7
 have e8 : IntKind.u64.wrap (((a + t / 4294967296 : Nat) : Int) + ((t % 4294967296 + c : Nat) : Int) / 4294967296) = ((a + t / 4294967296 + (t % 4294967296 + c) / 4294967296 : Nat) : Int) := by rw [u64s (by omega) (by omega)]; omega
 rw [e8, hh]
 clear e8
 have e9 : IntKind.u64.wrap (P : Int) = ((P % 18446744073709551616 : Nat) : Int) := by rw [u64w]; omega
 rw [e9]
theorem mul_step (x y o c : Nat) (hx : x < 18446744073709551616) (hy : y < 18446744073709551616) (ho : o < 18446744073709551616) (hc : c < 18446744073709551616) :
  ∃ s q c1 c2 : Nat, s < 18446744073709551616 ∧ q < 18446744073709551616 ∧ o + x * y + c = 18446744073709551616 * q + s ∧
   (x * y % 18446744073709551616 + o + 0) / 18446744073709551616 = c1 ∧ ((x * y % 18446744073709551616 + o + 0) % 18446744073709551616 + c + 0) / 18446744073709551616 = c2 ∧ ((x * y % 18446744073709551616 + o + 0) % 18446744073709551616 + c + 0) % 18446744073709551616 = s ∧
   IntKind.u64.wrap (IntKind.u64.wrap (((x * y / 18446744073709551616 : Nat) : Int) + (c1 : Int)) + (c2 : Int)) = (q : Int) := by
 have hb : x * y ≤ 18446744073709551615 * 18446744073709551615 := Nat.mul_le_mul (by omega) (by omega)
 generalize x * y = P at *
 refine ⟨_, (o + P + c) / 18446744073709551616, _, _, ?_, ?_, ?_, rfl, rfl, rfl, ?_⟩
 ·
  omega
 ·
  omega
 ·
  omega
 ·
  rw [u64s (x := ((P / 18446744073709551616 : Nat) : Int) + (((P % 18446744073709551616 + o + 0) / 18446744073709551616 : Nat) : Int)) (by omega) (by omega), u64s (by omega) (by omega)]
  omega
theorem nMul_l1 (b : List Int) (hb : Dig 18446744073709551616 b) (x la : Nat) (a : List Int) (hla : a.length = la) (hs : la < 1000000) (hs' : b.length < 1000000) (hx : x < 18446744073709551616) (i : Nat) (hi : i < la) : ∀ (m j c : Nat) (out : List Int), j + m = b.length → c < 18446744073709551616 → Dig 18446744073709551616 out → out.length = la + b.length →
  ∃ (out' : List Int) (c' : Nat), Dig 18446744073709551616 out' ∧ out'.length = la + b.length ∧ c' < 18446744073709551616 ∧ (∀ p, i + b.length ≤ p → out'.getD p 0 = out.getD p 0) ∧
   val 18446744073709551616 out' + 18446744073709551616 ^ (i + b.length) * c' = val 18446744073709551616 out + 18446744073709551616 ^ (i + j) * c + 18446744073709551616 ^ (i + j) * (x * V 18446744073709551616 b j) ∧
   ∀ r, Ev (fun k => zbf.l1 k b out' (i : Int) (x : Int) (c' : Int) a (la : Int) (i : Int) b (b.length : Int) (b.length : Int)) r → Ev (fun k => zbf.l1 k b out (i : Int) (x : Int) (c : Int) a (la : Int) (i : Int) b (b.length : Int) (j : Int)) r := by
 intro m
 induction m with
 | zero =>
  intro j c out hj hc hd hl
  obtain rfl : j = b.length := by omega
  refine ⟨out, c, hd, hl, hc, fun _ _ => rfl, ?_, fun r h => h⟩
  rw [V_end _ (Nat.le_refl _)]
  simp
 | succ m ih =>
  intro j c out hj hc hd hl
  have hy := hb.get (show 0 < 18446744073709551616 by decide) j
  have ho := hd.get (show 0 < 18446744073709551616 by decide) (i + j)
  have hv := V_step 18446744073709551616 b j
  obtain ⟨y, hy'⟩ := Int.eq_ofNat_of_zero_le hy.1
  obtain ⟨o, ho'⟩ := Int.eq_ofNat_of_zero_le ho.1
  rw [hy'] at hy hv
  rw [ho'] at ho
  rw [Int.toNat_natCast] at hv
  obtain ⟨s, q, c1, c2, s1, s2, s3, s4, s5, s6, s7⟩ := mul_step x y o c hx (by omega) (by omega) hc
  have S7 := Lib.hid s7
  have S4 := Lib.hid s4
  have S5 := Lib.hid s5
  have S6 := Lib.hid s6
  clear s4 s5 s6 s7
  have hset := val_set 18446744073709551616 out (i + j) (s : Int) (by omega)
  rw [ho', Int.toNat_natCast, Int.toNat_natCast] at hset
  obtain ⟨out', c', h1, h2, h3, h4, h5, h6⟩ := ih (j + 1) q (out.set (i + j) (s : Int)) (by omega) s2 (dig_set hd _ (by omega) (by omega)) (by rw [List.length_set]; exact hl)
  have hmv := mul_val (18446744073709551616 ^ (i + j)) 18446744073709551616 o x y c _ _ _ _ _ _ hset hv s3
  have HMV := Lib.hid hmv
  have H5 := Lib.hid h5
  clear hmv h5 hset hv s3
  have EJ := Lib.hid (wadd i j (by omega))
  have EK := Lib.hid (wadd1 j (by omega))
  refine ⟨out', c', h1, h2, h3, fun p hp => ?_, ?_, fun r hr => ?_⟩
  ·
   rw [h4 p hp, getD_set_ne (by omega)]
  ·
   rw [H5.out, show i + (j + 1) = i + j + 1 by omega, Nat.pow_succ]
   exact HMV.out
  ·
   refine Ev.step (fun k => ?_) (h6 r hr)
   have a1 := add64 (x * y % 18446744073709551616) o 0 (by omega)
   have a2 := add64 ((x * y % 18446744073709551616 + o + 0) % 18446744073709551616) c 0 (by omega)
   rw [S4.out] at a1
   rw [S5.out, S6.out] at a2
   have A1 := Lib.hid a1
   have A2 := Lib.hid a2
   clear a1 a2
   rw [zbf.l1, if_pos (by omega), if_pos (by omega), if_pos (by omega), rd_nat, hy', mul64 x y hx (by omega), Option.bind_some, EJ.out, if_pos (by omega), if_pos (by omega), rd_nat, ho']
   rw [show (0 : Int) = ((0 : Nat) : Int) from rfl, A1.out, Option.bind_some, A2.out, Option.bind_some, S7.out, EK.out, Int.toNat_natCast]
theorem nMul_l0 (a b : List Int) (ha : Dig 18446744073709551616 a) (hb : Dig 18446744073709551616 b) (hs : a.length < 1000000) (hs' : b.length < 1000000) : ∀ (m i : Nat) (out : List Int), i + m = a.length → Dig 18446744073709551616 out → out.length = a.length + b.length → (∀ p, i + b.length ≤ p → out.getD p 0 = 0) →
  Ev (fun k => zbf.l0 k b out a (a.length : Int) (i : Int)) (dig 18446744073709551616 (val 18446744073709551616 out + 18446744073709551616 ^ i * (V 18446744073709551616 a i * val 18446744073709551616 b))) := by
 intro m
 induction m with
 | zero =>
  intro i out hi hd hl hz
  refine Ev.step (G := fun k => (zbj.f k out).bind fun t190 => some t190) (fun k => ?_) ?_
  ·
   rw [zbf.l0, if_neg (by omega)]
  ·
   rw [V_end _ (by omega), Nat.zero_mul, Nat.mul_zero, Nat.add_zero]
   exact Ev.bind (ntrim out (by omega) hd) (Ev.const _)
 | succ m ih =>
  intro i out hi hd hl hz
  have hg := ha.get (show 0 < 18446744073709551616 by decide) i
  obtain ⟨x, hx⟩ := Int.eq_ofNat_of_zero_le hg.1
  rw [hx] at hg
  obtain ⟨out', c', h1, h2, h3, h4, h5, h6⟩ := nMul_l1 b hb x a.length a rfl hs hs' (by omega) i (by omega) b.length 0 0 out (by omega) (by omega) hd hl
  have hz' := (h4 (i + b.length) (Nat.le_refl _)).trans (hz _ (Nat.le_refl _))
  have hset := val_set 18446744073709551616 out' (i + b.length) (c' : Int) (by omega)
  rw [hz', Int.toNat_natCast] at hset
  have ih2 := ih (i + 1) (out'.set (i + b.length) (c' : Int)) (by omega) (dig_set h1 _ (by omega) (by omega)) (by rw [List.length_set]; exact h2) (fun p hp => by
   rw [getD_set_ne (by omega), h4 p (by omega), hz p (by omega)])
  have EI := Lib.hid (wadd i b.length (by omega))
  have EI1 := Lib.hid (wadd1 i (by omega))
  have hva := V_step 18446744073709551616 a i
  rw [hx, Int.toNat_natCast] at hva
  have hval : val 18446744073709551616 out + 18446744073709551616 ^ i * (V 18446744073709551616 a i * val 18446744073709551616 b) = val 18446744073709551616 (out'.set (i + b.length) (c' : Int)) + 18446744073709551616 ^ (i + 1) * (V 18446744073709551616 a (i + 1) * val 18446744073709551616 b) := by
   rw [hva, Nat.add_mul, Nat.mul_add, Nat.pow_succ, Nat.mul_assoc 18446744073709551616, ← Nat.mul_assoc (18446744073709551616 ^ i) 18446744073709551616]
   rw [V_zero, Nat.add_zero, Nat.mul_zero, Nat.add_zero] at h5
   simp only [Int.toNat_zero, Nat.mul_zero, Nat.add_zero] at hset
   omega
  rw [hval]
  refine Ev.step (G := fun k => zbf.l1 k b out (i : Int) (x : Int) 0 a (a.length : Int) (i : Int) b (b.length : Int) 0) (fun k => ?_) (h6 _ ?_)
  ·
   rw [zbf.l0, if_pos (by omega), if_pos (by omega), if_pos (by omega), rd_nat, hx]
  ·
   refine Ev.step (fun k => ?_) ih2
   rw [zbf.l1, if_neg (by omega), EI.out, if_pos (by omega), if_pos (by omega), EI1.out, Int.toNat_natCast]
theorem nMul (x y : Nat) (hx : Le x 100000) (hy : Le y 100000) : Ev (fun k => zbf.f k (dig 18446744073709551616 x) (dig 18446744073709551616 y)) (dig 18446744073709551616 (x * y)) := by
 unfold Le at hx hy
 have dx := zc5 (B := 18446744073709551616) (by decide) x
 have dy := zc5 (B := 18446744073709551616) (by decide) y
 have vx := zcv (B := 18446744073709551616) (by decide) x
 have vy := zcv (B := 18446744073709551616) (by decide) y
 generalize dig 18446744073709551616 x = a at *
 generalize dig 18446744073709551616 y = b at *
 have h := nMul_l0 a b dx dy (by omega) (by omega) a.length 0 (List.replicate (a.length + b.length) 0) (by omega) (Dig.rep (by omega) _) (by simp) (fun p _ => by
  rw [List.getD_eq_getElem?_getD, List.getElem?_replicate]
  split <;> rfl)
 rw [V_zero, zcp, vx, vy, Nat.pow_zero, Nat.one_mul, Nat.zero_add] at h
 refine Ev.congr (fun k => ?_) h
 rw [zbf.f, wadd a.length b.length (by omega), if_pos (by omega), Int.toNat_natCast, if_pos (by omega)]
 rfl
theorem nLong (x : Nat) (hx : Le x 100000) : ∃ L : Nat, zcf.f (dig 18446744073709551616 x) = some (L : Int) ∧ L ≤ 64 * (dig 18446744073709551616 x).length ∧ x < 2 ^ L ∧ (x ≠ 0 → 1 ≤ L ∧ 2 ^ (L - 1) ≤ x) := by
 unfold Le at hx
 by_cases h0 : x = 0
 ·
  subst h0
  refine ⟨0, ?_, by omega, by decide, fun h => absurd rfl h⟩
  rw [zct]
  rfl
 ·
  have hne := dig_ne (B := 18446744073709551616) (by decide) h0
  have hd := zc5 (B := 18446744073709551616) (by decide) x
  have hv := zcv (B := 18446744073709551616) (by decide) x
  have hg := dig_last (B := 18446744073709551616) (by decide) x
  generalize dig 18446744073709551616 x = l at *
  rcases List.eq_nil_or_concat l with rfl | ⟨ys, y, rfl⟩
  ·
   exact absurd rfl hne
  rw [List.concat_eq_append] at *
  have hy := hd y (by simp)
  have hys : Dig 18446744073709551616 ys := fun z hz => hd z (by simp [hz])
  have hlt := val_lt ys hys
  obtain ⟨t, rfl⟩ := Int.eq_ofNat_of_zero_le hy.1
  have ht : t ≠ 0 := by
   rcases hg with hg | hg
   ·
    simp at hg
   ·
    intro e
    subst e
    simp at hg
  have ht2 : t < 18446744073709551616 := by omega
  obtain ⟨b1, b2, b3⟩ := Lib.bitLenAux_bounds 64 t (by omega) (by omega)
  have b4 := Lib.bitLen_le t 64 (by omega) (by omega)
  have hb : Lib.bitLen t = Lib.bitLenAux 64 t := rfl
  rw [← hb] at b1 b2 b3
  generalize hbl : Lib.bitLen t = bl at *
  have hlen : (ys ++ [(t : Int)]).length = ys.length + 1 := by simp
  rw [val_append] at hv
  simp only [val, Int.toNat_natCast, Nat.mul_zero, Nat.add_zero] at hv
  have hW : (18446744073709551616 : Nat) ^ ys.length = 2 ^ (64 * ys.length) := by rw [Nat.pow_mul]
  rw [hW] at hv hlt
  refine ⟨64 * ys.length + bl, ?_, by rw [hlen]; omega, ?_, fun _ => ⟨by omega, ?_⟩⟩
  ·
   unfold zcf.f
   rw [hlen] at hx ⊢
   rw [if_neg (by omega), wsub1 (ys.length + 1) (by omega) (by omega), if_pos (by omega), if_pos (by omega), rd_nat, Nat.add_sub_cancel]
   have e : (ys ++ [(t : Int)]).getD ys.length 0 = (t : Int) := by simp
   rw [e]
   unfold bits_Len64.f
   rw [if_pos (by omega), if_pos (by omega), Int.toNat_natCast, hbl]
   show some (wrap64 (wrap64 (64 * (ys.length : Int)) + (bl : Int))) = _
   rw [w64s (x := 64 * (ys.length : Int)) (by omega) (by omega), w64s (by omega) (by omega)]
   congr 1
  ·
   rw [Nat.pow_add, ← hv]
   have : 2 ^ (64 * ys.length) * (t + 1) ≤ 2 ^ (64 * ys.length) * 2 ^ bl := Nat.mul_le_mul_left _ b3
   rw [Nat.mul_add] at this
   omega
  ·
   rw [show 64 * ys.length + bl - 1 = 64 * ys.length + (bl - 1) by omega, Nat.pow_add, ← hv]
   have : 2 ^ (64 * ys.length) * 2 ^ (bl - 1) ≤ 2 ^ (64 * ys.length) * t := Nat.mul_le_mul_left _ b2
   omega
theorem shift_digit (x c r : Nat) (hr : r < 64) (hx : x < 18446744073709551616) (hc : c < 2 ^ r) :
  ∃ d c' : Nat, d < 18446744073709551616 ∧ c' < 2 ^ r ∧ 2 ^ r * x + c = 18446744073709551616 * c' + d ∧ Go.bits .or .u64 (shl .u64 (x : Int) (r : Int)) (c : Int) = (d : Int) ∧ shr .u64 (x : Int) (wrap64 (64 - (r : Int))) = (c' : Int) := by
 have hp : 0 < 2 ^ r := Nat.two_pow_pos r
 have hq : 0 < 2 ^ (64 - r) := Nat.two_pow_pos _
 have hpq : 2 ^ r * 2 ^ (64 - r) = 18446744073709551616 := by
  rw [← Nat.pow_add, show r + (64 - r) = 64 by omega]
 have hm := Nat.mod_add_div x (2 ^ (64 - r))
 have hml := Nat.mod_lt x hq
 have h1 : 2 ^ r * (x % 2 ^ (64 - r)) + 2 ^ r ≤ 18446744073709551616 := by
  rw [← hpq, ← Nat.mul_succ]
  exact Nat.mul_le_mul_left _ hml
 have h2 : 2 ^ r * x = 18446744073709551616 * (x / 2 ^ (64 - r)) + 2 ^ r * (x % 2 ^ (64 - r)) := by
  rw [← hpq, Nat.mul_assoc, ← Nat.mul_add, Nat.add_comm, hm]
 have h3 : x / 2 ^ (64 - r) < 2 ^ r := by
  rw [Nat.div_lt_iff_lt_mul hq, hpq]
  exact hx
 have hsl : shl .u64 (x : Int) (r : Int) = ((2 ^ r * (x % 2 ^ (64 - r)) : Nat) : Int) := by
  unfold shl
  rw [show min ((r : Int)).toNat IntKind.u64.bits = r by simp [IntKind.bits] <;> omega, u64w]
  have e : (x : Int) * 2 ^ r = ((2 ^ r * x : Nat) : Int) := by rw [Int.natCast_mul, Int.mul_comm]; simp
  rw [e, h2]
  omega
 refine ⟨2 ^ r * (x % 2 ^ (64 - r)) + c, x / 2 ^ (64 - r), by omega, h3, by omega, ?_, ?_⟩
 ·
  rw [hsl]
  exact orAdd hc (by omega)
 ·
  have ew : wrap64 (64 - (r : Int)) = ((64 - r : Nat) : Int) := by rw [w64s (by omega) (by omega)]; omega
  rw [ew]
  unfold shr
  rw [Int.toNat_natCast, show min (64 - r) IntKind.u64.bits = 64 - r by simp [IntKind.bits] <;> omega]
  simp
theorem shift_val (X W r2 x c c' d va' : Nat) (T vo : Nat) (h : vo + X * c + X * (r2 * (x + W * va')) = T) (hd : r2 * x + c = W * c' + d) : vo + X * d + X * W * c' + X * W * (r2 * va') = T := by
 have h1 : X * (r2 * x + c) = X * (W * c' + d) := by rw [hd]
 have e1 : X * W * c' = X * (W * c') := Nat.mul_assoc _ _ _
 have e2 : X * W * (r2 * va') = X * (r2 * (W * va')) := by rw [Nat.mul_assoc, Nat.mul_left_comm W]
 rw [e1, e2]
 simp only [Nat.mul_add] at h h1
 omega
theorem nShifted_l0 (a : List Int) (ha : Dig 18446744073709551616 a) (hs : a.length < 1000000) (n r q T : Nat) (hn : n < 100000000) (hr : r = n % 64) (hq : q < 100000000) : ∀ (m i c : Nat) (out : List Int), i + m = a.length → c < 2 ^ r → Dig 18446744073709551616 out → out.length = q + i →
  val 18446744073709551616 out + 18446744073709551616 ^ (q + i) * c + 18446744073709551616 ^ (q + i) * (2 ^ r * V 18446744073709551616 a i) = T →
  Ev (fun k => za2.l0 k (n : Int) out (c : Int) a (a.length : Int) (i : Int)) (dig 18446744073709551616 T) := by
 have hr64 : r < 64 := by omega
 have hp64 : 2 ^ r < 18446744073709551616 := by
  have : 2 ^ r < 2 ^ 64 := Nat.pow_lt_pow_right (by decide) hr64
  omega
 have et : Int.tmod (n : Int) 64 = (r : Int) := by
  rw [Int.tmod_eq_emod_of_nonneg (by omega)]
  omega
 have ET := Lib.hid et
 clear et
 intro m
 induction m with
 | zero =>
  intro i c out hi hc hd hl hT
  refine Ev.step (G := fun k => (zbj.f k (out ++ [(c : Int)])).bind fun t479 => some t479) (fun k => ?_) ?_
  ·
   rw [za2.l0, if_neg (by omega), if_pos (by omega)]
  ·
   have h := ntrim (out ++ [(c : Int)]) (by rw [List.length_append, List.length_singleton]; omega) (hd.app (Dig.mk (by omega) (by omega) (Dig.nil _)))
   rw [val_append, hl] at h
   simp only [val, Int.toNat_natCast, Nat.mul_zero, Nat.add_zero] at h
   rw [V_end _ (show a.length ≤ i by omega), Nat.mul_zero, Nat.mul_zero, Nat.add_zero] at hT
   rw [hT] at h
   exact Ev.bind h (Ev.const _)
 | succ m ih =>
  intro i c out hi hc hd hl hT
  have hg := ha.get (show 0 < 18446744073709551616 by decide) i
  obtain ⟨x, hx⟩ := Int.eq_ofNat_of_zero_le hg.1
  rw [hx] at hg
  have hva := V_step 18446744073709551616 a i
  rw [hx, Int.toNat_natCast] at hva
  rw [hva] at hT
  obtain ⟨d, c', h1, h2, h3, h4, h5⟩ := shift_digit x c r hr64 (by omega) hc
  have hv := shift_val _ _ _ _ _ _ _ _ _ _ hT h3
  have hval : val 18446744073709551616 (out ++ [(d : Int)]) = val 18446744073709551616 out + 18446744073709551616 ^ (q + i) * d := by
   rw [val_append, hl]
   simp [val]
  rw [← hval, ← Nat.pow_succ] at hv
  have H4 := Lib.hid h4
  have H5 := Lib.hid h5
  clear h4 h5 h3 hT hva hval
  have ih2 := ih (i + 1) c' (out ++ [(d : Int)]) (by omega) h2 (hd.app (Dig.mk (by omega) (by omega) (Dig.nil _))) (by rw [List.length_append, hl]; rfl) hv
  have H2 := Lib.hid ih2
  have WA := Lib.hid (wadd1 i (by omega))
  have ew := Lib.hid (show (0 : Int) ≤ wrap64 (64 - (r : Int)) by rw [w64s (by omega) (by omega)]; omega)
  clear ih2 hv
  refine Ev.step (fun k => ?_) H2.out
  rw [za2.l0, if_pos (by omega), if_pos (by omega), if_pos (by omega), ET.out, if_pos (by omega), if_pos (by omega), if_pos ew.out, rd_nat, hx, H4.out, H5.out, WA.out]
theorem nShifted (x n : Nat) (hx : Le x 100000) (hn : n < 10000000) : Ev (fun k => za2.f k (dig 18446744073709551616 x) (n : Int)) (dig 18446744073709551616 (x * 2 ^ n)) := by
 unfold Le at hx
 have dx := zc5 (B := 18446744073709551616) (by decide) x
 have vx := zcv (B := 18446744073709551616) (by decide) x
 generalize dig 18446744073709551616 x = a at *
 have hW : 18446744073709551616 ^ (n / 64) * (2 ^ (n % 64) * x) = x * 2 ^ n := by
  have e : (18446744073709551616 : Nat) ^ (n / 64) = 2 ^ (64 * (n / 64)) := by rw [Nat.pow_mul]
  rw [e, ← Nat.mul_assoc, ← Nat.pow_add, show 64 * (n / 64) + n % 64 = n by omega, Nat.mul_comm]
 have h := nShifted_l0 a dx (by omega) n (n % 64) (n / 64) (x * 2 ^ n) (by omega) rfl (by omega) a.length 0 0 (List.replicate (n / 64) 0) (by omega) (Nat.two_pow_pos _) (Dig.rep (by decide) _) (by simp) (by
  rw [zcp, V_zero, vx, Nat.mul_zero, Nat.add_zero, Nat.zero_add]
  exact hW)
 refine Ev.congr (fun k => ?_) h
 have e1 : wrap64 (Int.tdiv (n : Int) 64) = ((n / 64 : Nat) : Int) := by
  rw [Int.tdiv_eq_ediv_of_nonneg (by omega), w64s (by omega) (by omega)]
  omega
 rw [za2.f, e1, wadd (n / 64) a.length (by omega), wadd1 (n / 64 + a.length) (by omega)]
 clear e1
 rw [if_pos (by omega), if_pos (by omega), Int.toNat_natCast, Int.toNat_natCast, if_pos (by omega)]
 rfl
def Free (l : List Int) (m : Nat) : Prop := ∀ p, ∃ z : Nat, l.getD p 0 = ((2 ^ (min 64 (m - 64 * p)) * z : Nat) : Int)
theorem Free.zero (n m : Nat) : Free (List.replicate n 0) m := fun p => ⟨0, by
 rw [List.getD_eq_getElem?_getD, List.getElem?_replicate]
 split <;> simp⟩
theorem Free.less {l : List Int} {m m' : Nat} (h : Free l m) (hm : m' ≤ m) : Free l m' := fun p => by
 obtain ⟨z, hz⟩ := h p
 refine ⟨2 ^ (min 64 (m - 64 * p) - min 64 (m' - 64 * p)) * z, ?_⟩
 rw [hz, ← Nat.mul_assoc, ← Nat.pow_add]
 congr 3
 omega
theorem set_bit (l : List Int) (hd : Dig 18446744073709551616 l) (n : Nat) (h : Free l (n + 1)) (hn : n / 64 < l.length) :
  ∃ o : Nat, Go.bits .or .u64 (l.getD (n / 64) 0) (shl .u64 1 ((n % 64 : Nat) : Int)) = (o : Int) ∧ o < 18446744073709551616 ∧ Free (l.set (n / 64) (o : Int)) n ∧ val 18446744073709551616 (l.set (n / 64) (o : Int)) = val 18446744073709551616 l + 2 ^ n := by
 obtain ⟨z, hz⟩ := h (n / 64)
 have hr : n % 64 < 64 := Nat.mod_lt _ (by decide)
 rw [show min 64 (n + 1 - 64 * (n / 64)) = n % 64 + 1 by omega] at hz
 have hg := hd.get (show 0 < 18446744073709551616 by decide) (n / 64)
 rw [hz] at hg
 have hp : 0 < 2 ^ (n % 64) := Nat.two_pow_pos _
 have hp2 : 2 ^ (n % 64 + 1) = 2 * 2 ^ (n % 64) := by rw [Nat.pow_succ, Nat.mul_comm]
 have hp64 : 2 ^ (n % 64 + 1) ≤ 18446744073709551616 := by
  have : 2 ^ (n % 64 + 1) ≤ 2 ^ 64 := Nat.pow_le_pow_right (by decide) hr
  omega
 have hsl : shl .u64 1 ((n % 64 : Nat) : Int) = ((2 ^ (n % 64) : Nat) : Int) := by
  unfold shl
  rw [Int.toNat_natCast, show min (n % 64) IntKind.u64.bits = n % 64 by simp [IntKind.bits] <;> omega, Int.one_mul]
  have e : (2 : Int) ^ (n % 64) = ((2 ^ (n % 64) : Nat) : Int) := by simp
  rw [e, u64s (by omega) (by omega)]
 have hlt : 2 ^ (n % 64 + 1) * z + 2 ^ (n % 64) < 18446744073709551616 := by
  have h64 : 2 ^ (n % 64 + 1) * 2 ^ (63 - n % 64) = 18446744073709551616 := by
   rw [← Nat.pow_add, show n % 64 + 1 + (63 - n % 64) = 64 by omega]
  have h1 : 2 ^ (n % 64 + 1) * z < 2 ^ (n % 64 + 1) * 2 ^ (63 - n % 64) := by rw [h64]; omega
  have h2 : z < 2 ^ (63 - n % 64) := Nat.lt_of_mul_lt_mul_left h1
  have h3 : 2 ^ (n % 64 + 1) * (z + 1) ≤ 18446744073709551616 := by rw [← h64]; exact Nat.mul_le_mul_left _ h2
  rw [Nat.mul_add] at h3
  omega
 refine ⟨2 ^ (n % 64 + 1) * z + 2 ^ (n % 64), ?_, hlt, fun p => ?_, ?_⟩
 ·
  rw [hz, hsl]
  exact orAdd (by omega) hlt
 ·
  by_cases hp1 : p = n / 64
  ·
   subst hp1
   refine ⟨2 * z + 1, ?_⟩
   rw [List.getD_eq_getElem?_getD, List.getElem?_set_self hn, show min 64 (n - 64 * (n / 64)) = n % 64 by omega]
   show (((2 ^ (n % 64 + 1) * z + 2 ^ (n % 64) : Nat)) : Int) = _
   congr 1
   rw [hp2, Nat.mul_add, Nat.mul_one, ← Nat.mul_assoc, Nat.mul_comm (2 ^ (n % 64)) 2]
  ·
   rw [getD_set_ne (Ne.symm hp1)]
   exact h.less (by omega) p
 ·
  have hs := val_set 18446744073709551616 l (n / 64) ((2 ^ (n % 64 + 1) * z + 2 ^ (n % 64) : Nat) : Int) hn
  rw [hz, Int.toNat_natCast, Int.toNat_natCast, Nat.mul_add] at hs
  have hW : 18446744073709551616 ^ (n / 64) * 2 ^ (n % 64) = 2 ^ n := by
   have e : (18446744073709551616 : Nat) ^ (n / 64) = 2 ^ (64 * (n / 64)) := by rw [Nat.pow_mul]
   rw [e, ← Nat.pow_add, show 64 * (n / 64) + n % 64 = n by omega]
  omega
theorem nDiv_l0 (x y : Nat) (hy : 0 < y) (hx : Le x 100000) (hyl : Le y 100000) : ∀ (m : Nat) (l : Nat) (out : List Int), m < 10000000 → l ≤ x → l < y * 2 ^ m → out.length = (dig 18446744073709551616 x).length → m ≤ 64 * out.length → Dig 18446744073709551616 out → Free out m → val 18446744073709551616 out * y + l = x →
  Ev (fun k => za3.l0 k (dig 18446744073709551616 y) (dig 18446744073709551616 l) out ((m : Int) - 1)) (dig 18446744073709551616 (x / y), dig 18446744073709551616 (x % y), 0) := by
 intro m
 induction m with
 | zero =>
  intro l out _ hlx hl ho _ hd hf hv
  refine Ev.step (G := fun k => (zbj.f k out).bind fun t490 => some (t490, dig 18446744073709551616 l, 0)) (fun k => ?_) ?_
  ·
   rw [za3.l0, if_neg (by omega)]
  ·
   have h := ntrim out (by unfold Le at hx; omega) hd
   rw [Nat.pow_zero, Nat.mul_one] at hl
   have e1 : x / y = val 18446744073709551616 out := by
    rw [← hv, Nat.add_comm, Nat.add_mul_div_right _ _ hy, Nat.div_eq_of_lt hl, Nat.zero_add]
   have e2 : x % y = l := by
    rw [← hv, Nat.add_comm, Nat.add_mul_mod_self_right, Nat.mod_eq_of_lt hl]
   rw [e1, e2]
   exact Ev.bind h (Ev.const _)
 | succ n ih =>
  intro l out hm hlx hl ho hn hd hf hv
  have hll : Le l 100000 := Nat.le_trans (dig_mono (by decide) hlx) hx
  have sh := nShifted y n hyl (by omega)
  have e0 : ((n + 1 : Nat) : Int) - 1 = (n : Int) := by omega
  rw [e0]
  have e1 : wrap64 (Int.tdiv (n : Int) 64) = ((n / 64 : Nat) : Int) := by
   rw [Int.tdiv_eq_ediv_of_nonneg (by omega), w64s (by omega) (by omega)]
   omega
  have e2 : Int.tmod (n : Int) 64 = ((n % 64 : Nat) : Int) := by
   rw [Int.tmod_eq_emod_of_nonneg (by omega)]
   omega
  have E1 := Lib.hid e1
  have E2 := Lib.hid e2
  have E3 := Lib.hid (show wrap64 ((n : Int) - 1) = (n : Int) - 1 from w64s (by omega) (by omega))
  clear e1 e2
  refine Ev.step (G := fun k => (za2.f k (dig 18446744073709551616 y) (n : Int)).bind fun t493 => (zco.f (dig 18446744073709551616 l) t493).bind fun t496 => if t496 ≥ 0 then ((zbr.f k (dig 18446744073709551616 l) t493).bind fun t497 => if 0 ≤ (wrap64 (Int.tdiv (n : Int) 64)) then (if (wrap64 (Int.tdiv (n : Int) 64)) < (out.length : Int) then (if 0 ≤ (Int.tmod (n : Int) 64) then (za3.l0 k (dig 18446744073709551616 y) t497 (out.set ((wrap64 (Int.tdiv (n : Int) 64)) : Int).toNat (Go.bits .or .u64 (rd out (wrap64 (Int.tdiv (n : Int) 64))) (shl .u64 1 (Int.tmod (n : Int) 64)))) (wrap64 ((n : Int) - 1))) else none) else none) else none) else za3.l0 k (dig 18446744073709551616 y) (dig 18446744073709551616 l) out (wrap64 ((n : Int) - 1))) (fun k => ?_) (Ev.bind sh (Ev.plain (nCmp l (y * 2 ^ n)) ?_))
  ·
   rw [za3.l0, if_pos (by omega)]
  ·
   by_cases hge : y * 2 ^ n ≤ l
   ·
    have hs : sgn l (y * 2 ^ n) ≥ 0 := by
     unfold sgn
     split
     ·
      omega
     ·
      rw [if_neg (by omega)]
      omega
    obtain ⟨o, o1, o2, o3, o4⟩ := set_bit out hd n hf (by omega)
    have O1 := Lib.hid o1
    have hv2 : val 18446744073709551616 (out.set (n / 64) (o : Int)) * y + (l - y * 2 ^ n) = x := by
     rw [o4, Nat.add_mul, Nat.mul_comm (2 ^ n) y]
     omega
    have hl2 : l - y * 2 ^ n < y * 2 ^ n := by
     rw [Nat.pow_succ, ← Nat.mul_assoc] at hl
     omega
    have ih2 := ih (l - y * 2 ^ n) (out.set (n / 64) (o : Int)) (by omega) (by omega) hl2 (by rw [List.length_set]; exact ho) (by rw [List.length_set]; omega) (dig_set hd _ (by omega) (by omega)) o3 hv2
    refine Ev.pos hs (Ev.bind (nLess l (y * 2 ^ n) hll hge) ?_)
    refine Ev.congr (fun k => ?_) ih2
    rw [E1.out, E2.out, E3.out, if_pos (by omega), if_pos (by omega), if_pos (by omega), Int.toNat_natCast, rd_nat, O1.out]
   ·
    have hs : ¬ sgn l (y * 2 ^ n) ≥ 0 := by
     rw [sgn_lt (by omega)]
     omega
    refine Ev.neg hs (Ev.congr (fun k => ?_) (ih l out (by omega) hlx (by omega) ho (by omega) hd (hf.less (by omega)) hv))
    rw [E3.out]
theorem nDivMod (x y : Nat) (hy : 0 < y) (hx : Le x 100000) (hyl : Le y 100000) : Ev (fun k => za3.f k (dig 18446744073709551616 x) (dig 18446744073709551616 y)) (dig 18446744073709551616 (x / y), dig 18446744073709551616 (x % y), 0) := by
 obtain ⟨L, l1, l2, l3, l4⟩ := nLong x hx
 obtain ⟨M, m1, m2, m3, m4⟩ := nLong y hyl
 obtain ⟨m5, m6⟩ := m4 (by omega)
 have hyne := dig_ne (B := 18446744073709551616) (by decide) (show y ≠ 0 by omega)
 have hyl0 : 0 < (dig 18446744073709551616 y).length := List.length_pos_iff.2 hyne
 have hxl := hx
 have hyl' := hyl
 unfold Le at hxl hyl'
 have hb : x < y * 2 ^ (L - M + 1) := by
  have h1 : 2 ^ L ≤ 2 ^ (M - 1) * 2 ^ (L - M + 1) := by
   rw [← Nat.pow_add]
   exact Nat.pow_le_pow_right (by decide) (by omega)
  exact Nat.lt_of_lt_of_le l3 (Nat.le_trans h1 (Nat.mul_le_mul_right _ m6))
 have hclone : za5.f (dig 18446744073709551616 x) = some (dig 18446744073709551616 x) := by
  unfold za5.f
  rw [if_pos (by omega)]
 refine Ev.congr (G := fun k => za3.l0 k (dig 18446744073709551616 y) (dig 18446744073709551616 x) (List.replicate (dig 18446744073709551616 x).length 0) ((L : Int) - (M : Int))) (fun k => ?_) ?_
 ·
  rw [za3.f, if_neg (by omega), hclone, Option.bind_some, if_pos (by omega), Int.toNat_natCast, if_pos (by omega), l1, Option.bind_some, m1, Option.bind_some, w64s (by omega) (by omega)]
 ·
  by_cases hLM : M ≤ L
  ·
   have h := nDiv_l0 x y hy hx hyl (L - M + 1) x (List.replicate (dig 18446744073709551616 x).length 0) (by omega) (Nat.le_refl _) hb (by simp) (by rw [List.length_replicate]; omega) (Dig.rep (by decide) _) (Free.zero _ _) (by rw [zcp]; omega)
   rw [show ((L - M + 1 : Nat) : Int) - 1 = (L : Int) - (M : Int) by omega] at h
   exact h
  ·
   have hxy : x < y := by
    have : 2 ^ L ≤ 2 ^ (M - 1) := Nat.pow_le_pow_right (by decide) (by omega)
    omega
   have h := nDiv_l0 x y hy hx hyl 0 x (List.replicate (dig 18446744073709551616 x).length 0) (by omega) (Nat.le_refl _) (by omega) (by simp) (by omega) (Dig.rep (by decide) _) (Free.zero _ _) (by rw [zcp]; omega)
   obtain ⟨K, hK⟩ := h
   have ht := ntrim (List.replicate (dig 18446744073709551616 x).length 0) (by rw [List.length_replicate]; omega) (Dig.rep (by decide) _)
   rw [zcp] at ht
   refine Ev.step (G := fun k => (zbj.f k (List.replicate (dig 18446744073709551616 x).length 0)).bind fun t490 => some (t490, dig 18446744073709551616 x, 0)) (fun k => ?_) ?_
   ·
    rw [za3.l0, if_neg (by omega)]
   ·
    rw [Nat.div_eq_of_lt hxy, Nat.mod_eq_of_lt hxy]
    exact Ev.bind ht (Ev.const _)
theorem nGcd_l0 : ∀ (y x : Nat), Le x 100000 → Le y 100000 → Ev (fun k => zcw.l0 k (dig 18446744073709551616 x) (dig 18446744073709551616 y)) (dig 18446744073709551616 (Nat.gcd x y)) := by
 intro y
 induction y using Nat.strongRecOn with
 | ind y ih =>
  intro x hx hyl
  by_cases hy : y = 0
  ·
   subst hy
   refine Ev.step (G := fun _ => some (dig 18446744073709551616 x)) (fun k => ?_) ?_
   ·
    rw [zct, zcw.l0, if_neg (by simp)]
   ·
    rw [Nat.gcd_zero_right]
    exact Ev.const _
  ·
   have hpos : 0 < y := by omega
   have hne := dig_ne (B := 18446744073709551616) (by decide) hy
   have hl0 : 0 < (dig 18446744073709551616 y).length := List.length_pos_iff.2 hne
   have hmod := Nat.mod_lt x hpos
   have ih2 := ih (x % y) hmod y hyl (Nat.le_trans (dig_mono (by decide) (Nat.le_of_lt hmod)) hyl)
   have hg : Nat.gcd x y = Nat.gcd y (x % y) := by rw [Nat.gcd_comm x y, Nat.gcd_rec y x, Nat.gcd_comm]
   have hclone : za5.f (dig 18446744073709551616 y) = some (dig 18446744073709551616 y) := by
    unfold za5.f
    have := hyl
    unfold Le at this
    rw [if_pos (by omega)]
   refine Ev.step (G := fun k => (za3.f k (dig 18446744073709551616 x) (dig 18446744073709551616 y)).bind fun bt505 => (za5.f (dig 18446744073709551616 y)).bind fun t512 => zcw.l0 k t512 bt505.2.1) (fun k => ?_) (Ev.bind (nDivMod x y hpos hx hyl) (Ev.plain hclone ?_))
   ·
    rw [zcw.l0, if_pos (by omega)]
   ·
    rw [hg]
    exact ih2
theorem nGcd (x y : Nat) (hx : Le x 100000) (hy : Le y 100000) : Ev (fun k => zcw.f k (dig 18446744073709551616 x) (dig 18446744073709551616 y)) (dig 18446744073709551616 (Nat.gcd x y)) := by
 have hclone : za5.f (dig 18446744073709551616 x) = some (dig 18446744073709551616 x) := by
  unfold za5.f
  have := hx
  unfold Le at this
  rw [if_pos (by omega)]
 exact Ev.plain hclone (nGcd_l0 y x hx hy)
theorem rtrim_l0 (l : List Int) (hl : l.length < 1000000000) : ∀ n : Nat, n ≤ l.length → Ev (fun k => zar.l0 k l (n : Int)) (strip (l.take n))
 | 0, h => by
  refine Ev.step (G := fun _ => some []) (fun k => ?_) (Ev.const _)
  rw [zar.l0, if_neg (by omega), if_pos (by omega), if_pos (by omega)]
  rfl
 | n + 1, h => by
  have e : wrap64 (((n + 1 : Nat) : Int) - 1) = n := by rw [w64s (by omega) (by omega)]; omega
  by_cases hz : l.getD n 0 = 0
  ·
   refine Ev.step (G := fun k => zar.l0 k l (n : Int)) (fun k => ?_) ?_
   ·
    rw [zar.l0, if_pos (by omega), e, if_pos (by omega), if_pos (by omega), rd_nat, if_pos hz]
   ·
    rw [take_snoc l n (by omega), hz, strip_snoc0]
    exact rtrim_l0 l hl n (by omega)
  ·
   refine Ev.step (G := fun _ => some (l.take (n + 1))) (fun k => ?_) ?_
   ·
    rw [zar.l0, if_pos (by omega), e, if_pos (by omega), if_pos (by omega), rd_nat, if_neg hz, if_pos (by omega), if_pos (by omega)]
    rfl
   ·
    have hs : strip (l.take (n + 1)) = l.take (n + 1) := by rw [take_snoc l n (by omega), strip_snoc _ _ hz]
    rw [hs]
    exact Ev.const _
theorem rtrim (l : List Int) (hl : l.length < 1000000000) : Ev (fun k => zar.f k l) (strip l) := by
 have := rtrim_l0 l hl l.length (Nat.le_refl _)
 rw [List.take_length] at this
 exact this
theorem rtrim_dig (l : List Int) (hl : l.length < 1000000000) (h : Dig 10000 l) : Ev (fun k => zar.f k l) (dig 10000 (val 10000 l)) := by
 rw [← strip_dig (by omega) l h]
 exact rtrim l hl
theorem rOf_l0 : ∀ (m n : Nat) (out : List Int), n < 10000 ^ m → n < 9223372036854775808 → out.length + m < 1000000000 → Ev (fun k => zat.l0 k (n : Int) out) (out ++ dig 10000 n)
 | 0, n, out, h, h2, hl => by
  have : n = 0 := by simpa using h
  subst this
  refine Ev.step (G := fun _ => some out) (fun k => ?_) ?_
  ·
   rw [zat.l0, if_neg (by omega)]
  ·
   rw [zct, List.append_nil]
   exact Ev.const _
 | m + 1, n, out, h, h2, hl => by
  by_cases hn : n = 0
  ·
   subst hn
   refine Ev.step (G := fun _ => some out) (fun k => ?_) ?_
   ·
    rw [zat.l0, if_neg (by omega)]
   ·
    rw [zct, List.append_nil]
    exact Ev.const _
  ·
   have e1 : wrap64 (Int.tdiv (n : Int) 10000) = ((n / 10000 : Nat) : Int) := by
    rw [Int.tdiv_eq_ediv_of_nonneg (by omega), w64s (by omega) (by omega)]
    omega
   have e2 : Int.tmod (n : Int) 10000 = ((n % 10000 : Nat) : Int) := by
    rw [Int.tmod_eq_emod_of_nonneg (by omega)]
    omega
   refine Ev.step (G := fun k => zat.l0 k ((n / 10000 : Nat) : Int) (out ++ [((n % 10000 : Nat) : Int)])) (fun k => ?_) ?_
   ·
    rw [zat.l0, if_pos (by omega), if_pos (by omega), e1, e2]
   ·
    have ih := rOf_l0 m (n / 10000) (out ++ [((n % 10000 : Nat) : Int)]) (by rw [Nat.pow_succ] at h; omega) (by omega) (by rw [List.length_append, List.length_singleton]; omega)
    rw [dig_pos (by omega) hn]
    rw [List.append_assoc] at ih
    exact ih
theorem rOf (n : Nat) (h : n < 9223372036854775808) : Ev (fun k => zat.f k (n : Int)) (dig 10000 n) := by
 have := rOf_l0 5 n [] (by omega) h (by simp)
 exact this
theorem rat (l : List Int) (i : Nat) : zb5.f l (i : Int) = some (l.getD i 0) := by
 unfold zb5.f
 by_cases h : i < l.length
 ·
  rw [if_pos (by omega), if_pos (by omega), rd_nat]
 ·
  rw [if_neg (by omega), List.getD_eq_getElem?_getD, List.getElem?_eq_none (by omega)]
  rfl
theorem rCmp_l0 (a b : List Int) (ha : Dig 10000 a) (hb : Dig 10000 b) (hl : a.length = b.length) (hs : a.length < 1000000000) : ∀ i : Nat, i ≤ a.length → V 10000 a i = V 10000 b i → Ev (fun k => za0.l0 k a b ((i : Int) - 1)) (sgn (val 10000 a) (val 10000 b))
 | 0, hi, hv => by
  refine Ev.step (G := fun _ => some 0) (fun k => ?_) ?_
  ·
   rw [za0.l0, if_neg (by omega)]
  ·
   rw [V_zero, V_zero] at hv
   rw [sgn, if_pos hv]
   exact Ev.const _
 | i + 1, hi, hv => by
  have e0 : ((i + 1 : Nat) : Int) - 1 = (i : Int) := by omega
  have ha1 := ha.get (show 0 < 10000 by omega) i
  have hb1 := hb.get (show 0 < 10000 by omega) i
  have hva := V_step 10000 a i
  have hvb := V_step 10000 b i
  rw [e0]
  rcases Int.lt_trichotomy (a.getD i 0) (b.getD i 0) with h | h | h
  ·
   have hlt : val 10000 a < val 10000 b := V_lt (by omega) ha hb i (by omega)
   refine Ev.step (G := fun _ => some (-1)) (fun k => ?_) ?_
   ·
    rw [za0.l0, if_pos (by omega), if_pos (by omega), if_pos (by omega), if_pos (by omega), rd_nat, rd_nat, if_pos h]
   ·
    rw [sgn, if_neg (by omega), if_pos hlt]
    exact Ev.const _
  ·
   refine Ev.step (G := fun k => za0.l0 k a b ((i : Int) - 1)) (fun k => ?_) (rCmp_l0 a b ha hb hl hs i (by omega) (by omega))
   rw [za0.l0, if_pos (by omega), if_pos (by omega), if_pos (by omega), if_pos (by omega), rd_nat, rd_nat, if_neg (by omega), if_neg (by omega), w64s (by omega) (by omega)]
  ·
   have hlt : val 10000 b < val 10000 a := V_lt (by omega) hb ha i (by omega)
   refine Ev.step (G := fun _ => some 1) (fun k => ?_) ?_
   ·
    rw [za0.l0, if_pos (by omega), if_pos (by omega), if_pos (by omega), if_pos (by omega), rd_nat, rd_nat, if_neg (by omega), if_pos h]
   ·
    rw [sgn, if_neg (by omega), if_neg (by omega)]
    exact Ev.const _
theorem rCmp' (a b : List Int) (ha : Dig 10000 a) (hb : Dig 10000 b) (ga : Good a) (gb : Good b) (hs : a.length < 1000000000) (hs' : b.length < 1000000000) : Ev (fun k => za0.f k a b) (sgn (val 10000 a) (val 10000 b)) := by
 by_cases hl : a.length = b.length
 ·
  refine Ev.congr (fun k => ?_) (rCmp_l0 a b ha hb hl hs a.length (Nat.le_refl _) (by rw [V_end _ (Nat.le_refl _), V_end _ (by omega)]))
  rw [za0.f, if_pos (by omega), w64s (by omega) (by omega)]
 ·
  by_cases h2 : a.length < b.length
  ·
   have hlt := len_lt (by omega) ha hb gb h2
   refine Ev.congr (G := fun _ => some (-1)) (fun k => ?_) ?_
   ·
    rw [za0.f, if_neg (by omega), if_pos (by omega)]
   ·
    rw [sgn, if_neg (by omega), if_pos hlt]
    exact Ev.const _
  ·
   have hlt := len_lt (by omega) hb ha ga (by omega)
   refine Ev.congr (G := fun _ => some 1) (fun k => ?_) ?_
   ·
    rw [za0.f, if_neg (by omega), if_neg (by omega)]
   ·
    rw [sgn, if_neg (by omega), if_neg (by omega)]
    exact Ev.const _
def Lo (n : Nat) : Prop := (dig 10000 n).length ≤ 100000
theorem rCmp (x y : Nat) (hx : Lo x) (hy : Lo y) : Ev (fun k => za0.f k (dig 10000 x) (dig 10000 y)) (sgn x y) := by
 have := rCmp' (dig 10000 x) (dig 10000 y) (zc5 (by omega) x) (zc5 (by omega) y) (dig_last (by omega) x) (dig_last (by omega) y) (by unfold Lo at hx; omega) (by unfold Lo at hy; omega)
 rwa [zcv (by omega), zcv (by omega)] at this
theorem mul_digit (o x y c : Nat) (ho : o < 10000) (hx : x < 10000) (hy : y < 10000) (hc : c < 10000) : x * y ≤ 99980001 ∧ wrap64 (wrap64 ((o : Int) + wrap64 ((x : Int) * (y : Int))) + (c : Int)) = ((o + x * y + c : Nat) : Int) ∧ Int.tmod ((o + x * y + c : Nat) : Int) 10000 = (((o + x * y + c) % 10000 : Nat) : Int) ∧ wrap64 (Int.tdiv ((o + x * y + c : Nat) : Int) 10000) = (((o + x * y + c) / 10000 : Nat) : Int) ∧ (o + x * y + c) / 10000 < 10000 := by
 have h : x * y ≤ 9999 * 9999 := Nat.mul_le_mul (by omega) (by omega)
 have e : (x : Int) * (y : Int) = ((x * y : Nat) : Int) := by simp
 rw [e]
 refine ⟨by omega, ?_, ?_, ?_, by omega⟩
 ·
  rw [w64s (x := ((x * y : Nat) : Int)) (by omega) (by omega), w64s (x := (o : Int) + ((x * y : Nat) : Int)) (by omega) (by omega), w64s (by omega) (by omega)]
  omega
 ·
  rw [Int.tmod_eq_emod_of_nonneg (by omega)]
  omega
 ·
  rw [Int.tdiv_eq_ediv_of_nonneg (by omega), w64s (by omega) (by omega)]
  omega
theorem rMul_l1 (a b : List Int) (ha : Dig 10000 a) (hb : Dig 10000 b) (hs : a.length < 1000000) (hs' : b.length < 1000000) (i : Nat) (hi : i < a.length) : ∀ (m j c : Nat) (out : List Int), j + m = b.length → c < 10000 → Dig 10000 out → out.length = a.length + b.length →
  ∃ (out' : List Int) (c' : Nat), Dig 10000 out' ∧ out'.length = a.length + b.length ∧ c' < 10000 ∧ (∀ p, i + b.length ≤ p → out'.getD p 0 = out.getD p 0) ∧
   val 10000 out' + 10000 ^ (i + b.length) * c' = val 10000 out + 10000 ^ (i + j) * c + 10000 ^ (i + j) * ((a.getD i 0).toNat * V 10000 b j) ∧
   ∀ r, Ev (fun k => zao.l1 k a b out' (i : Int) (c' : Int) (a.length : Int) (i : Int) (b.length : Int) (b.length : Int)) r → Ev (fun k => zao.l1 k a b out (i : Int) (c : Int) (a.length : Int) (i : Int) (b.length : Int) (j : Int)) r := by
 intro m
 induction m with
 | zero =>
  intro j c out hj hc hd hl
  obtain rfl : j = b.length := by omega
  refine ⟨out, c, hd, hl, hc, fun _ _ => rfl, ?_, fun r h => h⟩
  rw [V_end _ (Nat.le_refl _)]
  simp
 | succ m ih =>
  intro j c out hj hc hd hl
  have hx := ha.get (show 0 < 10000 by decide) i
  have hy := hb.get (show 0 < 10000 by decide) j
  have ho := hd.get (show 0 < 10000 by decide) (i + j)
  have hv := V_step 10000 b j
  obtain ⟨x, hx'⟩ := Int.eq_ofNat_of_zero_le hx.1
  obtain ⟨y, hy'⟩ := Int.eq_ofNat_of_zero_le hy.1
  obtain ⟨o, ho'⟩ := Int.eq_ofNat_of_zero_le ho.1
  rw [hx'] at hx ⊢
  rw [hy'] at hy hv
  rw [ho'] at ho
  rw [Int.toNat_natCast] at hv ⊢
  obtain ⟨b1, e1, e2, e3, e5⟩ := mul_digit o x y c (by omega) (by omega) (by omega) hc
  have E1 := Lib.hid e1
  have E2 := Lib.hid e2
  have E3 := Lib.hid e3
  clear e1 e2 e3
  have hset := val_set 10000 out (i + j) (((o + x * y + c) % 10000 : Nat) : Int) (by omega)
  rw [ho', Int.toNat_natCast, Int.toNat_natCast] at hset
  obtain ⟨out', c', h1, h2, h3, h4, h5, h6⟩ := ih (j + 1) ((o + x * y + c) / 10000) (out.set (i + j) (((o + x * y + c) % 10000 : Nat) : Int)) (by omega) e5 (dig_set hd _ (by omega) (by omega)) (by rw [List.length_set]; exact hl)
  have EJ := Lib.hid (wadd i j (by omega))
  have EK := Lib.hid (wadd1 j (by omega))
  refine ⟨out', c', h1, h2, h3, fun p hp => ?_, ?_, fun r hr => ?_⟩
  ·
   rw [h4 p hp, getD_set_ne (by omega)]
  ·
   rw [h5, hx', Int.toNat_natCast, show i + (j + 1) = i + j + 1 by omega, Nat.pow_succ]
   exact mul_val _ _ o x y c _ _ _ _ _ _ hset hv (by omega)
  ·
   refine Ev.step (fun k => ?_) (h6 r hr)
   rw [zao.l1, if_pos (by omega), EJ.out, if_pos (by omega), if_pos (by omega), if_pos (by omega), if_pos (by omega), if_pos (by omega), if_pos (by omega), rd_nat, rd_nat, rd_nat, hx', hy', ho', E1.out, E2.out, E3.out, EK.out, Int.toNat_natCast]
theorem rMul_l0 (a b : List Int) (ha : Dig 10000 a) (hb : Dig 10000 b) (hs : a.length < 1000000) (hs' : b.length < 1000000) : ∀ (m i : Nat) (out : List Int), i + m = a.length → Dig 10000 out → out.length = a.length + b.length → (∀ p, i + b.length ≤ p → out.getD p 0 = 0) →
  Ev (fun k => zao.l0 k a b out (a.length : Int) (i : Int)) (dig 10000 (val 10000 out + 10000 ^ i * (V 10000 a i * val 10000 b))) := by
 intro m
 induction m with
 | zero =>
  intro i out hi hd hl hz
  refine Ev.step (G := fun k => (zar.f k out).bind fun t190 => some t190) (fun k => ?_) ?_
  ·
   rw [zao.l0, if_neg (by omega)]
  ·
   rw [V_end _ (by omega), Nat.zero_mul, Nat.mul_zero, Nat.add_zero]
   exact Ev.bind (rtrim_dig out (by omega) hd) (Ev.const _)
 | succ m ih =>
  intro i out hi hd hl hz
  obtain ⟨out', c', h1, h2, h3, h4, h5, h6⟩ := rMul_l1 a b ha hb hs hs' i (by omega) b.length 0 0 out (by omega) (by omega) hd hl
  have hz' := (h4 (i + b.length) (Nat.le_refl _)).trans (hz _ (Nat.le_refl _))
  have hset := val_set 10000 out' (i + b.length) (c' : Int) (by omega)
  rw [hz', Int.toNat_natCast] at hset
  have EI := Lib.hid (wadd i b.length (by omega))
  have EI1 := Lib.hid (wadd1 i (by omega))
  have EC := Lib.hid (show wrap64 (0 + (c' : Int)) = (c' : Int) by rw [Int.zero_add]; exact wid c' (by omega))
  have ih2 := ih (i + 1) (out'.set (i + b.length) (c' : Int)) (by omega) (dig_set h1 _ (by omega) (by omega)) (by rw [List.length_set]; exact h2) (fun p hp => by
   rw [getD_set_ne (by omega), h4 p (by omega), hz p (by omega)])
  have hva := V_step 10000 a i
  have hval : val 10000 out + 10000 ^ i * (V 10000 a i * val 10000 b) = val 10000 (out'.set (i + b.length) (c' : Int)) + 10000 ^ (i + 1) * (V 10000 a (i + 1) * val 10000 b) := by
   rw [hva, Nat.add_mul, Nat.mul_add, Nat.pow_succ, Nat.mul_assoc 10000, ← Nat.mul_assoc (10000 ^ i) 10000]
   rw [V_zero, Nat.add_zero, Nat.mul_zero, Nat.add_zero] at h5
   simp only [Int.toNat_zero, Nat.mul_zero, Nat.add_zero] at hset
   omega
  rw [hval]
  refine Ev.step (G := fun k => zao.l1 k a b out (i : Int) 0 (a.length : Int) (i : Int) (b.length : Int) 0) (fun k => ?_) (h6 _ ?_)
  ·
   rw [zao.l0, if_pos (by omega)]
  ·
   refine Ev.step (fun k => ?_) ih2
   rw [zao.l1, if_neg (by omega), EI.out, if_pos (by omega), if_pos (by omega), rd_nat, hz', EC.out, EI1.out, Int.toNat_natCast]
theorem rMul (x y : Nat) (hx : Lo x) (hy : Lo y) : Ev (fun k => zao.f k (dig 10000 x) (dig 10000 y)) (dig 10000 (x * y)) := by
 unfold Lo at hx hy
 have dx := zc5 (B := 10000) (by omega) x
 have dy := zc5 (B := 10000) (by omega) y
 have vx := zcv (B := 10000) (by omega) x
 have vy := zcv (B := 10000) (by omega) y
 generalize dig 10000 x = a at *
 generalize dig 10000 y = b at *
 have h := rMul_l0 a b dx dy (by omega) (by omega) a.length 0 (List.replicate (a.length + b.length) 0) (by omega) (Dig.rep (by omega) _) (by simp) (fun p _ => by
  rw [List.getD_eq_getElem?_getD, List.getElem?_replicate]
  split <;> rfl)
 rw [V_zero, zcp, vx, vy, Nat.pow_zero, Nat.one_mul, Nat.zero_add] at h
 refine Ev.congr (fun k => ?_) h
 rw [zao.f, wadd a.length b.length (by omega)]
 rw [if_pos (by omega), Int.toNat_natCast, if_pos (by omega)]
 rfl
theorem Lo_lt {n m : Nat} (h : n < 18446744073709551616 ^ m) (hm : m ≤ 20000) : Lo n := by
 have h2 : 18446744073709551616 ^ m ≤ (10000 ^ 5) ^ m := Nat.pow_le_pow_left (by decide) m
 rw [← Nat.pow_mul] at h2
 have := dig_length (B := 10000) (by decide) (5 * m) n (Nat.lt_of_lt_of_le h h2)
 unfold Lo
 omega
theorem rsub_digit (x y bo va vb : Nat) (hx : x < 10000) (hy : y < 10000) (hbo : bo ≤ 1) (h : y + 10000 * vb + bo ≤ x + 10000 * va) :
  ∃ d bo' : Nat, d < 10000 ∧ bo' ≤ 1 ∧ d + y + bo = x + 10000 * bo' ∧ vb + bo' ≤ va ∧
   ((wrap64 (wrap64 ((x : Int) - (y : Int)) - (bo : Int)) < 0 ∧ bo' = 1 ∧ wrap64 (wrap64 (wrap64 ((x : Int) - (y : Int)) - (bo : Int)) + 10000) = (d : Int)) ∨ (¬ wrap64 (wrap64 ((x : Int) - (y : Int)) - (bo : Int)) < 0 ∧ bo' = 0 ∧ wrap64 (wrap64 ((x : Int) - (y : Int)) - (bo : Int)) = (d : Int))) := by
 rw [w64s (x := (x : Int) - (y : Int)) (by omega) (by omega), w64s (x := (x : Int) - (y : Int) - (bo : Int)) (by omega) (by omega)]
 by_cases hlt : x < y + bo
 ·
  refine ⟨x + 10000 - y - bo, 1, by omega, by omega, by omega, by omega, .inl ⟨by omega, rfl, ?_⟩⟩
  rw [w64s (by omega) (by omega)]
  omega
 ·
  exact ⟨x - y - bo, 0, by omega, by omega, by omega, by omega, .inr ⟨by omega, rfl, by omega⟩⟩
theorem rSub_l0 (a b : List Int) (ha : Dig 10000 a) (hb : Dig 10000 b) (hs : a.length < 1000000) (hs' : b.length ≤ a.length) (T : Nat) : ∀ (m i bo : Nat) (out : List Int), i + m = a.length → bo ≤ 1 → out.length = i → Dig 10000 out →
  V 10000 b i + bo ≤ V 10000 a i → val 10000 out + 10000 ^ i * V 10000 a i = T + 10000 ^ i * (V 10000 b i + bo) →
  Ev (fun k => za8.l0 k a b out (bo : Int) (a.length : Int) (i : Int)) (dig 10000 T) := by
 intro m
 induction m with
 | zero =>
  intro i bo out hi hbo ho hd hle hT
  refine Ev.step (G := fun k => (zar.f k out).bind fun t335 => some t335) (fun k => ?_) ?_
  ·
   rw [za8.l0, if_neg (by omega)]
  ·
   have h := rtrim_dig out (by omega) hd
   rw [V_end _ (show a.length ≤ i by omega)] at hT hle
   have h0 : V 10000 b i + bo = 0 := by omega
   rw [h0, Nat.mul_zero, Nat.add_zero, Nat.add_zero] at hT
   rw [hT] at h
   exact Ev.bind h (Ev.const _)
 | succ m ih =>
  intro i bo out hi hbo ho hd hle hT
  have ha1 := ha.get (show 0 < 10000 by decide) i
  have hb1 := hb.get (show 0 < 10000 by decide) i
  have hva := V_step 10000 a i
  have hvb := V_step 10000 b i
  obtain ⟨x, hx⟩ := Int.eq_ofNat_of_zero_le ha1.1
  obtain ⟨y, hy⟩ := Int.eq_ofNat_of_zero_le hb1.1
  rw [hx] at hva ha1
  rw [hy] at hvb hb1
  rw [Int.toNat_natCast] at hva hvb
  rw [hva, hvb] at hle hT
  obtain ⟨d, bo', h1, h2, h3, h4, h5⟩ := rsub_digit x y bo _ _ (by omega) (by omega) hbo hle
  have hv := less_val _ _ _ _ _ _ _ _ _ _ _ hT h3
  rw [← Nat.pow_succ] at hv
  have hval : val 10000 (out ++ [(d : Int)]) = val 10000 out + 10000 ^ i * d := by
   rw [val_append, ho]
   simp [val]
  rw [← hval] at hv
  have H5 := Lib.hid h5
  have ih2 := ih (i + 1) bo' (out ++ [(d : Int)]) (by clear h5; omega) h2 (by rw [List.length_append, ho]; rfl) (hd.app (Dig.mk (by clear h5; omega) (by clear h5; omega) (Dig.nil _))) h4 hv
  clear h5 hv hval hT hle hva hvb h3 h4
  have H2 := Lib.hid ih2
  have WA := Lib.hid (wadd1 i (by omega))
  clear ih2
  refine Ev.step (fun k => ?_) H2.out
  rw [za8.l0, if_pos (by omega), if_pos (by omega), if_pos (by omega), rat, Option.bind_some, rd_nat, hx, hy]
  rcases H5.out with ⟨c1, c2, c3⟩ | ⟨c1, c2, c3⟩
  ·
   rw [if_pos c1, c3, c2]
   clear c1 c3
   rw [if_pos (by omega), WA.out]
   rfl
  ·
   rw [if_neg c1, c3, c2]
   clear c1 c3
   rw [if_pos (by omega), WA.out]
   rfl
theorem rSub (x y : Nat) (hx : Lo x) (hy : y ≤ x) : Ev (fun k => za8.f k (dig 10000 x) (dig 10000 y)) (dig 10000 (x - y)) := by
 have hl := dig_mono (B := 10000) (by decide) hy
 unfold Lo at hx
 have dx := zc5 (B := 10000) (by decide) x
 have dy := zc5 (B := 10000) (by decide) y
 have vx := zcv (B := 10000) (by decide) x
 have vy := zcv (B := 10000) (by decide) y
 generalize dig 10000 x = a at *
 generalize dig 10000 y = b at *
 have h := rSub_l0 a b dx dy (by omega) hl (x - y) a.length 0 0 [] (by omega) (by omega) rfl (Dig.nil _) (by rw [V_zero, V_zero, vx, vy]; omega) (by rw [V_zero, V_zero, vx, vy]; simp [val]; omega)
 exact h
theorem mid_wraps (low high : Nat) (h : low < high) (hh : high < 10000) : wrap64 (Int.tdiv (wrap64 ((wrap64 ((low : Int) + (high : Int))) + 1)) 2) = (((low + high + 1) / 2 : Nat) : Int) := by
 rw [w64s (x := (low : Int) + (high : Int)) (by omega) (by omega), w64s (x := (low : Int) + (high : Int) + 1) (by omega) (by omega), Int.tdiv_eq_ediv_of_nonneg (by omega), w64s (by omega) (by omega)]
 omega
theorem rDiv_l1 (a : List Int) (y L : Nat) (hy : 0 < y) (hyl : Lo y) (hLl : Lo L) (hd : L / y < 10000) (hmul : ∀ m, m < 10000 → Lo (y * m)) (out : List Int) (i : Nat) (r : List Int × List Int) : ∀ (n low high : Nat), high - low ≤ n → low ≤ L / y → L / y ≤ high → high < 10000 →
  Ev (fun k => zal.l1 k a (dig 10000 y) out (dig 10000 L) (i : Int) ((L / y : Nat) : Int) ((L / y : Nat) : Int)) r →
  Ev (fun k => zal.l1 k a (dig 10000 y) out (dig 10000 L) (i : Int) (low : Int) (high : Int)) r := by
 intro n
 induction n with
 | zero =>
  intro low high hn h1 h2 h3 h
  rw [show low = L / y by omega, show high = L / y by omega]
  exact h
 | succ n ih =>
  intro low high hn h1 h2 h3 h
  by_cases hlt : low < high
  ·
   have WM := Lib.hid (mid_wraps low high hlt h3)
   have hm1 : low < (low + high + 1) / 2 := by omega
   have hm2 : (low + high + 1) / 2 ≤ high := by omega
   have hcmp : (low + high + 1) / 2 ≤ L / y ↔ y * ((low + high + 1) / 2) ≤ L := by rw [Nat.le_div_iff_mul_le hy, Nat.mul_comm]
   generalize (low + high + 1) / 2 = m at *
   have WS := Lib.hid (wsub1 m (by omega) (by omega))
   have c := rCmp (y * m) L (hmul m (by omega)) hLl
   refine Ev.step (G := fun k => (zat.f k (m : Int)).bind fun t541 => (zao.f k (dig 10000 y) t541).bind fun t544 => (za0.f k t544 (dig 10000 L)).bind fun t547 => if t547 ≤ 0 then zal.l1 k a (dig 10000 y) out (dig 10000 L) (i : Int) (m : Int) (high : Int) else zal.l1 k a (dig 10000 y) out (dig 10000 L) (i : Int) (low : Int) ((m - 1 : Nat) : Int)) (fun k => ?_) (Ev.bind (rOf m (by omega)) (Ev.bind (rMul y m hyl (Lo_lt (m := 1) (by omega) (by omega))) (Ev.bind c ?_)))
   ·
    rw [zal.l1, if_pos (by omega), WM.out, WS.out]
   ·
    by_cases hle : y * m ≤ L
    ·
     have hs : sgn (y * m) L ≤ 0 := by
      unfold sgn
      split
      ·
       omega
      ·
       rw [if_pos (by omega)]
       omega
     exact Ev.pos hs (ih m high (by omega) (hcmp.2 hle) h2 h3 h)
    ·
     have hs : ¬ sgn (y * m) L ≤ 0 := by
      rw [sgn_gt (by omega)]
      omega
     refine Ev.neg hs (ih low (m - 1) (by omega) h1 ?_ (by omega) h)
     have := mt hcmp.1 hle
     omega
  ·
   rw [show low = L / y by omega, show high = L / y by omega]
   exact h
theorem rdiv_val (Q y X ai l d l' Vn Vi B : Nat) (h : Q * y + X * B * l = X * B * Vn) (hV : Vi = ai + B * Vn) (hl : d * y + l' = ai + B * l) : (Q + X * d) * y + X * l' = X * Vi := by
 have h1 : X * (d * y + l') = X * (ai + B * l) := by rw [hl]
 rw [hV, Nat.add_mul, Nat.mul_assoc]
 rw [Nat.mul_assoc, Nat.mul_assoc] at h
 simp only [Nat.mul_add] at h1 ⊢
 omega
theorem rDiv_l0 (a : List Int) (ha : Dig 10000 a) (hs : a.length ≤ 50000) (y : Nat) (hy : 0 < y) (hyl : Lo y) (hmul : ∀ m, m < y * 10000 → Lo m) : ∀ (m l : Nat) (out : List Int), m ≤ a.length → l < y → out.length = a.length → Dig 10000 out → (∀ p, p < m → out.getD p 0 = 0) →
  val 10000 out * y + 10000 ^ m * l = 10000 ^ m * V 10000 a m →
  Ev (fun k => zal.l0 k a (dig 10000 y) out (dig 10000 l) ((m : Int) - 1)) (dig 10000 (val 10000 a / y), dig 10000 (val 10000 a % y)) := by
 intro m
 induction m with
 | zero =>
  intro l out _ hl ho hd hz hv
  refine Ev.step (G := fun k => (zar.f k out).bind fun t518 => some (t518, dig 10000 l)) (fun k => ?_) ?_
  ·
   rw [zal.l0, if_neg (by omega)]
  ·
   have h := rtrim_dig out (by omega) hd
   rw [Nat.pow_zero, Nat.one_mul, Nat.one_mul, V_zero] at hv
   have e1 : val 10000 a / y = val 10000 out := by
    rw [← hv, Nat.add_comm, Nat.add_mul_div_right _ _ hy, Nat.div_eq_of_lt hl, Nat.zero_add]
   have e2 : val 10000 a % y = l := by
    rw [← hv, Nat.add_comm, Nat.add_mul_mod_self_right, Nat.mod_eq_of_lt hl]
   rw [e1, e2]
   exact Ev.bind h (Ev.const _)
 | succ i ih =>
  intro l out hm hl ho hd hz hv
  have hg := ha.get (show 0 < 10000 by decide) i
  obtain ⟨x, hx⟩ := Int.eq_ofNat_of_zero_le hg.1
  rw [hx] at hg
  have hva := V_step 10000 a i
  rw [hx, Int.toNat_natCast] at hva
  have hLlt : x + 10000 * l < y * 10000 := by omega
  have hdl : (x + 10000 * l) / y < 10000 := by
   rw [Nat.div_lt_iff_lt_mul hy]
   omega
  have hLo := hmul _ hLlt
  have hll := hmul l (by omega)
  have hll2 := hll
  unfold Lo at hll2
  have htr := rtrim_dig ((x : Int) :: dig 10000 l) (by rw [List.length_cons]; omega) (Dig.mk (by omega) (by omega) (zc5 (by decide) l))
  rw [val, zcv (by decide), Int.toNat_natCast] at htr
  have hdm := Nat.div_add_mod (x + 10000 * l) y
  have hml := Nat.mod_lt (x + 10000 * l) hy
  have hmy : ∀ m, m < 10000 → Lo (y * m) := fun m hm => hmul _ (Nat.mul_lt_mul_of_pos_left hm hy)
  have hl1 := rDiv_l1 a y (x + 10000 * l) hy hyl hLo hdl hmy out i (dig 10000 (val 10000 a / y), dig 10000 (val 10000 a % y)) 9999 0 9999 (by omega) (Nat.zero_le _) (by omega) (by omega)
  generalize (x + 10000 * l) / y = q at *
  generalize (x + 10000 * l) % y = s at *
  have hset := val_set 10000 out i (q : Int) (by omega)
  rw [hz i (by omega), Int.toNat_natCast, Int.toNat_zero, Nat.mul_zero, Nat.add_zero] at hset
  rw [Nat.pow_succ] at hv
  have hnew := rdiv_val _ _ _ x l q s _ _ _ hv hva (by rw [Nat.mul_comm]; exact hdm)
  rw [← hset] at hnew
  have hle : y * q ≤ x + 10000 * l := by omega
  have hsub := rSub (x + 10000 * l) (y * q) hLo hle
  rw [show x + 10000 * l - y * q = s by omega] at hsub
  have ih2 := ih s (out.set i (q : Int)) (by omega) hml (by rw [List.length_set]; exact ho) (dig_set hd _ (by omega) (by omega)) (fun p hp => by rw [getD_set_ne (by omega)]; exact hz p (by omega)) hnew
  have E3 := Lib.hid (show wrap64 ((i : Int) - 1) = (i : Int) - 1 from w64s (by omega) (by omega))
  have e0 : ((i + 1 : Nat) : Int) - 1 = (i : Int) := by omega
  rw [e0]
  clear hset hnew hdm hva hv
  refine Ev.step (G := fun k => (zar.f k ((x : Int) :: dig 10000 l)).bind fun t528 => zal.l1 k a (dig 10000 y) out t528 (i : Int) 0 9999) (fun k => ?_) (Ev.bind htr ?_)
  ·
   rw [zal.l0, if_pos (by omega), if_pos (by omega), if_pos (by omega), Option.bind_some, rd_nat, hx]
   show (if ([(x : Int)] : List Int).length + (dig 10000 l).length < 17592186044416 then _ else _) = _
   rw [if_pos (by rw [List.length_singleton]; omega)]
   rfl
  ·
   refine hl1 ?_
   have hof := rOf q (by omega)
   have hmu := rMul y q hyl (Lo_lt (m := 1) (by omega) (by omega))
   refine Ev.step (G := fun k => (zat.f k (q : Int)).bind fun t532 => (zao.f k (dig 10000 y) t532).bind fun t535 => (za8.f k (dig 10000 (x + 10000 * l)) t535).bind fun t538 => zal.l0 k a (dig 10000 y) (out.set i (q : Int)) t538 ((i : Int) - 1)) (fun k => ?_) (Ev.bind hof (Ev.bind hmu (Ev.bind hsub ih2)))
   rw [zal.l1, if_neg (by omega), if_pos (by omega), if_pos (by omega), E3.out, Int.toNat_natCast]
theorem rDiv (x y : Nat) (hy : 0 < y) (hx : (dig 10000 x).length ≤ 50000) (hyl : Lo y) (hmul : ∀ m, m < y * 10000 → Lo m) : Ev (fun k => zal.f k (dig 10000 x) (dig 10000 y)) (dig 10000 (x / y), dig 10000 (x % y)) := by
 have dx := zc5 (B := 10000) (by decide) x
 have vx := zcv (B := 10000) (by decide) x
 generalize dig 10000 x = a at *
 have h := rDiv_l0 a dx hx y hy hyl hmul a.length 0 (List.replicate a.length 0) (Nat.le_refl _) hy (by simp) (Dig.rep (by decide) _) (fun p _ => by
  rw [List.getD_eq_getElem?_getD, List.getElem?_replicate]
  split <;> rfl) (by rw [zcp, V_end _ (Nat.le_refl _)]; simp)
 rw [vx, zct] at h
 refine Ev.congr (fun k => ?_) h
 rw [zal.f, if_pos (by omega), Int.toNat_natCast, if_pos (by omega), w64s (by omega) (by omega)]
theorem rGcd_l0 (M : Nat) (hM : ∀ m, m < M * 10000 → (dig 10000 m).length ≤ 50000) : ∀ (y x : Nat), x ≤ M → y ≤ M → Ev (fun k => zbc.l0 k (dig 10000 x) (dig 10000 y)) (dig 10000 (Nat.gcd x y)) := by
 intro y
 induction y using Nat.strongRecOn with
 | ind y ih =>
  intro x hx hyl
  by_cases hy : y = 0
  ·
   subst hy
   refine Ev.step (G := fun _ => some (dig 10000 x)) (fun k => ?_) ?_
   ·
    rw [zct, zbc.l0, if_neg (by simp)]
   ·
    rw [Nat.gcd_zero_right]
    exact Ev.const _
  ·
   have hpos : 0 < y := by omega
   have hne := dig_ne (B := 10000) (by decide) hy
   have hl0 : 0 < (dig 10000 y).length := List.length_pos_iff.2 hne
   have hmod := Nat.mod_lt x hpos
   have ih2 := ih (x % y) hmod y hyl (by omega)
   have hg : Nat.gcd x y = Nat.gcd y (x % y) := by rw [Nat.gcd_comm x y, Nat.gcd_rec y x, Nat.gcd_comm]
   have hlo : ∀ m, m < M * 10000 → Lo m := fun m hm => by
    have := hM m hm
    unfold Lo
    omega
   have hdv := rDiv x y hpos (hM x (by omega)) (hlo y (by omega)) (fun m hm => hlo m (Nat.lt_of_lt_of_le hm (Nat.mul_le_mul_right _ hyl)))
   refine Ev.step (G := fun k => (zal.f k (dig 10000 x) (dig 10000 y)).bind fun bt548 => zbc.l0 k (dig 10000 y) bt548.2) (fun k => ?_) (Ev.bind hdv ?_)
   ·
    rw [zbc.l0, if_pos (by omega)]
   ·
    rw [hg]
    exact ih2
theorem Lo5 {n m : Nat} (h : n < 18446744073709551616 ^ m) : (dig 10000 n).length ≤ 5 * m := by
 have h2 : 18446744073709551616 ^ m ≤ (10000 ^ 5) ^ m := Nat.pow_le_pow_left (by decide) m
 rw [← Nat.pow_mul] at h2
 exact dig_length (B := 10000) (by decide) (5 * m) n (Nat.lt_of_lt_of_le h h2)
def padD : Nat → Nat → List UInt8
 | 0, _ => []
 | k + 1, r => padD k (r / 10) ++ [UInt8.ofNat (48 + r % 10)]
theorem padD_length : ∀ k r, (padD k r).length = k
 | 0, _ => rfl
 | k + 1, r => by simp [padD, padD_length k]
theorem decD_app : ∀ (k q r : Nat), 0 < q → r < 10 ^ k → Lib.decDigits (q * 10 ^ k + r) = Lib.decDigits q ++ padD k r
 | 0, q, r, _, h => by
  have : r = 0 := by simpa using h
  subst this; simp [padD]
 | k + 1, q, r, h0, h => by
  have hp : 1 ≤ q * 10 ^ (k + 1) := Nat.mul_pos h0 (Nat.pow_pos (by omega))
  have hp2 : 10 ≤ q * 10 ^ (k + 1) := by rw [Nat.pow_succ, ← Nat.mul_assoc]; have := Nat.mul_pos h0 (Nat.pow_pos (n := k) (show 0 < 10 by omega)); omega
  rw [Lib.decDigits, dif_neg (by omega)]
  have e1 : (q * 10 ^ (k + 1) + r) / 10 = q * 10 ^ k + r / 10 := by
   rw [Nat.pow_succ, ← Nat.mul_assoc]; omega
  have e2 : (q * 10 ^ (k + 1) + r) % 10 = r % 10 := by
   rw [Nat.pow_succ, ← Nat.mul_assoc]; omega
  rw [e1, e2, decD_app k q (r / 10) h0 (by rw [Nat.pow_succ] at h; omega)]
  simp [padD]
theorem padD_small : ∀ (k r : Nat), 0 < k → r < 10 ^ k → padD k r = List.replicate (k - (Lib.decDigits r).length) 48 ++ Lib.decDigits r
 | 0, _, h, _ => by omega
 | k + 1, r, _, h => by
  by_cases hr : r < 10
  ·
   rw [Lib.decDigits, dif_pos hr]
   have : ∀ k, padD k 0 = List.replicate k 48 := by
    intro k
    induction k with
    | zero => rfl
    | succ k ih => simp only [padD, Nat.zero_div, ih, List.replicate_succ']; rfl
   simp [padD, Nat.div_eq_of_lt hr, this, Nat.mod_eq_of_lt hr]
  ·
   rw [Lib.decDigits, dif_neg hr, padD, padD_small k (r / 10) (by
    rcases Nat.eq_zero_or_pos k with rfl | h2
    ·
     simp at h; omega
    ·
     exact h2) (by rw [Nat.pow_succ] at h; omega)]
   simp
def decT (n : Nat) : ByteArray := ⟨(Lib.decDigits n).toArray⟩
theorem decT_list (n : Nat) : (decT n).data.toList = Lib.decDigits n := by simp [decT]
theorem decT_size (n : Nat) : (decT n).size = (Lib.decDigits n).length := by simp [decT, ByteArray.size]
theorem ba_ext {a b : ByteArray} (h : a.data.toList = b.data.toList) : a = b := by
 obtain ⟨⟨a⟩⟩ := a
 obtain ⟨⟨b⟩⟩ := b
 simp at h
 rw [h]
theorem rev_l0 (l : List ByteArray) (hl : l.length < 1000000000) : ∀ (m i : Nat) (s : List ByteArray), 2 * i + m = l.length → s.length = l.length →
  (∀ p : Nat, p < l.length → s.getD p ByteArray.empty = if p < i ∨ i + m ≤ p then l.getD (l.length - 1 - p) ByteArray.empty else l.getD p ByteArray.empty) →
  Ev (fun k => zaf.l0 k s (i : Int) ((i : Int) + (m : Int) - 1)) l.reverse := by
 intro m
 induction m using Nat.strongRecOn with
 | ind m ih =>
  intro i s hm hs h
  by_cases h2 : 2 ≤ m
  ·
   obtain ⟨j, rfl⟩ : ∃ j, m = j + 2 := ⟨m - 2, by omega⟩
   have e1 : ((i : Int) + ((j + 2 : Nat) : Int) - 1).toNat = i + j + 1 := by omega
   refine Ev.step (G := fun k => zaf.l0 k ((s.set i (s.getD (i + j + 1) ByteArray.empty)).set (i + j + 1) (s.getD i ByteArray.empty)) ((i + 1 : Nat) : Int) (((i + 1 : Nat) : Int) + (j : Int) - 1)) (fun k => ?_) (ih j (by omega) (i + 1) _ (by omega) (by simp [hs]) (fun p hp => ?_))
   ·
    rw [zaf.l0, if_pos (by omega), if_pos (by omega), if_pos (by omega), if_pos (by omega), if_pos (by omega), w64s (by omega) (by omega), w64s (by omega) (by omega)]
    simp only [rdOf, e1, Int.toNat_natCast]
    rw [show ((i : Int) + 1) = ((i + 1 : Nat) : Int) by omega, show ((i : Int) + ((j + 2 : Nat) : Int) - 1 - 1) = (((i + 1 : Nat) : Int) + (j : Int) - 1) by omega]
   ·
    have key : ((s.set i (s.getD (i + j + 1) ByteArray.empty)).set (i + j + 1) (s.getD i ByteArray.empty)).getD p ByteArray.empty = if p = i + j + 1 then s.getD i ByteArray.empty else if p = i then s.getD (i + j + 1) ByteArray.empty else s.getD p ByteArray.empty := by
     rw [List.getD_eq_getElem?_getD, List.getElem?_set]
     by_cases hp1 : i + j + 1 = p
     ·
      have hl1 : i + j + 1 < (s.set i (s.getD (i + j + 1) ByteArray.empty)).length := by
       rw [List.length_set]
       omega
      subst hp1
      rw [if_pos rfl, if_pos hl1, if_pos rfl]
      rfl
     ·
      rw [if_neg hp1, if_neg (fun h => hp1 h.symm), List.getElem?_set]
      by_cases hp2 : i = p
      ·
       subst hp2
       rw [if_pos rfl, if_pos (show i < s.length by omega), if_pos rfl]
       rfl
      ·
       rw [if_neg hp2, if_neg (fun h => hp2 h.symm), List.getD_eq_getElem?_getD]
    rw [key]
    by_cases hp1 : p = i + j + 1
    ·
     subst hp1
     rw [if_pos rfl, if_pos (by omega), h i (by omega), if_neg (by omega)]
     congr 1
     omega
    ·
     rw [if_neg hp1]
     by_cases hp2 : p = i
     ·
      subst hp2
      rw [if_pos rfl, if_pos (by omega), h _ (by omega), if_neg (by omega)]
      congr 1
      omega
     ·
      rw [if_neg hp2, h p hp]
      by_cases hp3 : p < i ∨ i + (j + 2) ≤ p
      ·
       rw [if_pos hp3, if_pos (by omega)]
      ·
       rw [if_neg hp3, if_neg (by omega)]
  ·
   refine Ev.step (G := fun _ => some s) (fun k => ?_) ?_
   ·
    rw [zaf.l0, if_neg (by omega)]
   ·
    have e : s = l.reverse := by
     apply List.ext_getElem (by simp [hs])
     intro p h1 h2'
     have hp : p < l.length := by omega
     have := h p hp
     rw [List.getD_eq_getElem?_getD, List.getElem?_eq_getElem h1] at this
     simp only [Option.getD_some] at this
     rw [this, List.getElem_reverse]
     by_cases hc : p < i ∨ i + m ≤ p
     ·
      rw [if_pos hc, List.getD_eq_getElem?_getD, List.getElem?_eq_getElem (by omega)]
      rfl
     ·
      rw [if_neg hc, List.getD_eq_getElem?_getD, List.getElem?_eq_getElem hp]
      have : l.length - 1 - p = p := by omega
      simp only [Option.getD_some, this]
    rw [e]
    exact Ev.const _
theorem sRev (l : List ByteArray) (hl : l.length < 1000000000) : Ev (fun k => zaf.f k l) l.reverse := by
 have h := rev_l0 l hl l.length 0 l (by omega) rfl (fun p hp => by rw [if_neg (by omega)])
 refine Ev.congr (fun k => ?_) h
 unfold zaf.f
 rw [w64s (by omega) (by omega)]
 simp
theorem inter_nil {α : Type} : ∀ xs : List (List α), ([] : List α).intercalate xs = xs.flatten
 | [] => rfl
 | [x] => by simp [List.intercalate]
 | x :: y :: xs => by
  have h := inter_nil (y :: xs)
  simp [List.intercalate] at h ⊢
  exact h
def catB (l : List ByteArray) : ByteArray := ⟨(l.map (·.data.toList)).flatten.toArray⟩
theorem sJoin0 (l : List ByteArray) (h1 : l.length ≤ 140737488355328) (h2 : (l.map (·.data.toList)).flatten.length ≤ 140737488355328) : strings_Join.f l (⟨#[]⟩ : ByteArray) = some (catB l) := by
 unfold strings_Join.f
 have e : Lib.join (l.map (·.data.toList)) (⟨#[]⟩ : ByteArray).data.toList = (l.map (·.data.toList)).flatten := inter_nil _
 rw [if_pos h1, e, if_pos h2]
 rfl
theorem repL (b : UInt8) : ∀ n, Lib.repeatL [b] n = List.replicate n b
 | 0 => rfl
 | n + 1 => by rw [Lib.repeatL, repL b n, List.replicate_succ]; rfl
theorem shortP_val (d : Nat) (hd : 0 < d) : ∀ (l : List Int), Dig 18446744073709551616 l → ∃ (r : Nat), (shortP d l.reverse 0).2 = (r : Int) ∧ r < d ∧ Dig 18446744073709551616 (shortP d l.reverse 0).1 ∧ val 18446744073709551616 (shortP d l.reverse 0).1 * d + r = val 18446744073709551616 l
 | [], _ => ⟨0, rfl, hd, by intro x hx; simp [shortP] at hx, by simp [shortP, val]⟩
 | x :: l, h => by
  obtain ⟨⟨hx0, hx1⟩, hl⟩ := h.cons
  obtain ⟨r, e, hr, hD, hv⟩ := shortP_val d hd l hl
  obtain ⟨x, rfl⟩ := Int.eq_ofNat_of_zero_le hx0
  have ex : ((r : Int) * 18446744073709551616 + (x : Int)) = ((r * 18446744073709551616 + x : Nat) : Int) := by omega
  have q1 : ((r * 18446744073709551616 + x : Nat) : Int) / (d : Int) = (((r * 18446744073709551616 + x) / d : Nat) : Int) := (Int.natCast_ediv _ _).symm
  have q2 : ((r * 18446744073709551616 + x : Nat) : Int) % (d : Int) = (((r * 18446744073709551616 + x) % d : Nat) : Int) := (Int.natCast_emod _ _).symm
  rw [List.reverse_cons, shortP_snoc, e, ex, q1, q2]
  have hq : (r * 18446744073709551616 + x) / d < 18446744073709551616 := by
   rw [Nat.div_lt_iff_lt_mul hd]
   have : (r + 1) * 18446744073709551616 ≤ d * 18446744073709551616 := Nat.mul_le_mul_right _ hr
   omega
  have hdm := Nat.div_add_mod (r * 18446744073709551616 + x) d
  refine ⟨(r * 18446744073709551616 + x) % d, rfl, Nat.mod_lt _ hd, Dig.mk (Int.natCast_nonneg _) (Int.ofNat_lt.2 hq) hD, ?_⟩
  simp only [val]
  rw [Int.toNat_natCast]
  generalize (r * 18446744073709551616 + x) / d = q at *
  generalize (r * 18446744073709551616 + x) % d = m at *
  generalize val 18446744073709551616 (shortP (↑d) l.reverse 0).fst = v at *
  rw [Int.toNat_natCast, ← hv, Nat.add_mul, Nat.mul_add, Nat.mul_assoc, Nat.mul_comm q d]
  omega
theorem nShort (x d : Nat) (hd : 0 < d) (hd1 : d < 18446744073709551616) (hx : Le x 100000) : Ev (fun k => zcm.f k (dig 18446744073709551616 x) (d : Int)) (dig 18446744073709551616 (x / d), ((x % d : Nat) : Int)) := by
 have hD := zc5 (B := 18446744073709551616) (by decide) x
 obtain ⟨r, e, hr, hDo, hv⟩ := shortP_val d hd _ hD
 rw [zcv (by decide)] at hv
 have e1 : val 18446744073709551616 (shortP d (dig 18446744073709551616 x).reverse 0).1 = x / d := by
  generalize val 18446744073709551616 (shortP d (dig 18446744073709551616 x).reverse 0).1 = q at hv
  subst hv
  rw [Nat.mul_comm, Nat.mul_add_div hd, Nat.div_eq_of_lt hr]
  rfl
 have e2 : r = x % d := by
  generalize val 18446744073709551616 (shortP d (dig 18446744073709551616 x).reverse 0).1 = q at hv
  subst hv
  rw [Nat.mul_comm, Nat.mul_add_mod, Nat.mod_eq_of_lt hr]
 have hlen : (shortP d (dig 18446744073709551616 x).reverse 0).1.length = (dig 18446744073709551616 x).length := by rw [shortP_length, List.length_reverse]
 unfold Le at hx
 have ht := ntrim _ (by rw [hlen]; omega) hDo
 rw [e1] at ht
 have hl : limbs64 (dig 18446744073709551616 x) = true := List.all_eq_true.2 fun y hy => by
  have := hD y hy
  simp
  omega
 refine Ev.congr (G := fun k => (zbj.f k (shortP d (dig 18446744073709551616 x).reverse 0).1).bind fun t => some (t, ((x % d : Nat) : Int))) (fun k => ?_) (Ev.bind ht (Ev.const _))
 unfold zcm.f
 rw [if_pos ⟨by omega, by omega, hl, by omega⟩, e, e2]
theorem decD_len18 (x : Nat) (h : x / 1000000000000000000 ≠ 0) : (Lib.decDigits x).length = (Lib.decDigits (x / 1000000000000000000)).length + 18 := by
 have := decD_app 18 (x / 1000000000000000000) (x % 1000000000000000000) (by omega) (Nat.mod_lt _ (by decide))
 rw [show x / 1000000000000000000 * 10 ^ 18 + x % 1000000000000000000 = x by omega] at this
 rw [this, List.length_append, padD_length]
theorem nText_l0 : ∀ (x : Nat) (ps : List ByteArray), Le x 100000 → (∀ p ∈ ps, p.size = 18) → (Lib.decDigits x).length + 18 * ps.length ≤ 100000000 →
  Ev (fun k => zce.l0 k (dig 18446744073709551616 x) ps) ⟨(Lib.decDigits x ++ (ps.reverse.map (·.data.toList)).flatten).toArray⟩ := by
 intro x
 induction x using Nat.strongRecOn with
 | ind x ih =>
  intro ps hx hp hb
  have hs := nShort x 1000000000000000000 (by decide) (by decide) hx
  have hf : zbs.f ((x % 1000000000000000000 : Nat) : Int) 10 = some (decT (x % 1000000000000000000)) := by
   unfold zbs.f
   rw [if_pos rfl, if_pos (by omega), if_pos (by omega)]
   rfl
  have hcount : ∀ qs : List ByteArray, (∀ p ∈ qs, p.size = 18) → (qs.map (·.data.toList)).flatten.length = 18 * qs.length := by
   intro qs
   induction qs with
   | nil => intro _; rfl
   | cons q qs ih2 =>
    intro h
    have h1 := h q (by simp)
    have h2 := ih2 fun p hp => h p (by simp [hp])
    have h3 : q.data.size = 18 := h1
    simp only [List.map_cons, List.flatten_cons, List.length_append, h2, List.length_cons, Array.length_toList]
    omega
  by_cases hq : x / 1000000000000000000 = 0
  ·
   have hxs : x % 1000000000000000000 = x := by omega
   refine Ev.step (fun k => zce.l0.eq_2 ..) (Ev.bind hs (Ev.plain hf ?_))
   rw [hxs, hq, zct]
   refine Ev.pos (by simp) (Ev.pos (by omega) ?_)
   refine Ev.bind (sRev _ (by simp; omega)) ?_
   have hc := hcount ps.reverse (fun p h => hp p (by simpa using h))
   have ej := sJoin0 (ps ++ [decT x]).reverse (by simp; omega) (by
    rw [List.reverse_append]
    simp only [List.reverse_cons, List.reverse_nil, List.nil_append, List.singleton_append, List.map_cons, List.flatten_cons, List.length_append, hc, decT_list, List.length_reverse]
    omega)
   refine Ev.plain ej ?_
   have e : catB (ps ++ [decT x]).reverse = ⟨(Lib.decDigits x ++ (ps.reverse.map (·.data.toList)).flatten).toArray⟩ := by
    unfold catB
    rw [List.reverse_append]
    simp [decT]
   rw [e]
   exact Ev.const _
  ·
   have hl18 := decD_len18 x hq
   have hlen : (Lib.decDigits (x % 1000000000000000000)).length ≤ 18 ∧ 1 ≤ (Lib.decDigits (x % 1000000000000000000)).length := by
    have h1 := padD_small 18 (x % 1000000000000000000) (by decide) (Nat.mod_lt _ (by decide))
    have h2 := congrArg List.length h1
    rw [padD_length, List.length_append, List.length_replicate] at h2
    have := Lib.nDigits_pos (x % 1000000000000000000)
    rw [Lib.decDigits_length] at h2 ⊢
    omega
   have hd1 := dig_ne (B := 18446744073709551616) (by decide) hq
   have hd2 : 0 < (dig 18446744073709551616 (x / 1000000000000000000)).length := List.length_pos_iff.2 hd1
   have hw : wrap64 (18 - ((decT (x % 1000000000000000000)).size : Int)) = ((18 - (Lib.decDigits (x % 1000000000000000000)).length : Nat) : Int) := by
    rw [decT_size, w64s (by omega) (by omega)]
    omega
   have hr : strings_Repeat.f (⟨#[48]⟩ : ByteArray) (wrap64 (18 - ((decT (x % 1000000000000000000)).size : Int))) = some ⟨(List.replicate (18 - (Lib.decDigits (x % 1000000000000000000)).length) 48).toArray⟩ := by
    rw [hw]
    unfold strings_Repeat.f
    rw [if_pos (by omega), if_pos (by omega), Int.toNat_natCast, if_pos (by show 1 * _ ≤ _; omega)]
    rw [show (⟨#[48]⟩ : ByteArray).data.toList = [48] from rfl, repL]
   have hpart : ((⟨(List.replicate (18 - (Lib.decDigits (x % 1000000000000000000)).length) 48).toArray⟩ : ByteArray) ++ decT (x % 1000000000000000000)) = ⟨(padD 18 (x % 1000000000000000000)).toArray⟩ := by
    rw [padD_small 18 _ (by decide) (Nat.mod_lt _ (by decide))]
    apply ba_ext
    simp [decT]
   have hih := ih (x / 1000000000000000000) (by omega) (ps ++ [(⟨(padD 18 (x % 1000000000000000000)).toArray⟩ : ByteArray)]) (Nat.le_trans (dig_mono (by decide) (Nat.div_le_self _ _)) hx) (fun p h => by
    rcases List.mem_append.1 h with h | h
    ·
     exact hp p h
    ·
     simp at h
     subst h
     simp [ByteArray.size, padD_length]) (by simp only [List.length_append, List.length_singleton]; omega)
   refine Ev.step (fun k => zce.l0.eq_2 ..) (Ev.bind hs (Ev.plain hf (Ev.neg (by simp only; omega) ?_)))
   refine Ev.plain hr ?_
   refine Ev.pos (by rw [decT_size]; simp [ByteArray.size]; omega) (Ev.pos (by omega) ?_)
   rw [hpart]
   have e : (Lib.decDigits (x / 1000000000000000000) ++ ((ps ++ [(⟨(padD 18 (x % 1000000000000000000)).toArray⟩ : ByteArray)]).reverse.map (·.data.toList)).flatten) = Lib.decDigits x ++ (ps.reverse.map (·.data.toList)).flatten := by
    have := decD_app 18 (x / 1000000000000000000) (x % 1000000000000000000) (by omega) (Nat.mod_lt _ (by decide))
    rw [show x / 1000000000000000000 * 10 ^ 18 + x % 1000000000000000000 = x by omega] at this
    rw [this]
    simp
   rw [e] at hih
   exact hih
theorem dec_lt {x m : Nat} (hx : x < 18446744073709551616 ^ m) : (Lib.decDigits x).length ≤ 20 * m + 1 := by
 rw [Lib.decDigits_length]
 rcases Nat.lt_or_ge (20 * m + 1) (Lib.nDigits x) with h | h
 ·
  have h1 : 10 ^ (Lib.nDigits x - 1) ≤ x := by
   have hn := Lib.nDigits_pos x
   rcases Nat.lt_or_ge x (10 ^ (Lib.nDigits x - 1)) with h2 | h2
   ·
    exfalso
    have : ∀ (k : Nat) (u : Nat), u < 10 ^ k → Lib.nDigits u ≤ max 1 k := by
     intro k
     induction k with
     | zero =>
      intro u hu
      have : u = 0 := by simpa using hu
      subst this
      rw [Lib.nDigits_small (by decide)]
      omega
     | succ k ih =>
      intro u hu
      by_cases hu2 : u < 10
      ·
       rw [Lib.nDigits_small hu2]; omega
      ·
       rw [Lib.nDigits_big hu2]
       have := ih (u / 10) (by rw [Nat.pow_succ] at hu; omega)
       have hk : k ≠ 0 := by rintro rfl; simp at hu; omega
       omega
    have := this _ _ h2
    omega
   ·
    exact h2
  have h2 : 18446744073709551616 ^ m ≤ 10 ^ (20 * m) := by
   rw [Nat.pow_mul]
   exact Nat.pow_le_pow_left (by decide) m
  have h3 : 10 ^ (20 * m) ≤ 10 ^ (Lib.nDigits x - 1) := Nat.pow_le_pow_right (by decide) (by omega)
  omega
 ·
  exact h
theorem nText {x m : Nat} (hx : x < 18446744073709551616 ^ m) (hm : m ≤ 100000) : Ev (fun k => zce.f k (dig 18446744073709551616 x)) (decT x) := by
 have h := nText_l0 x [] (Le_lt hx hm) (by simp) (by have := dec_lt hx; simp; omega)
 simp only [List.reverse_nil, List.map_nil, List.flatten_nil, List.append_nil] at h
 exact h
theorem gcdLt {x y M : Nat} (hx : x < M) (hy : y < M) : Nat.gcd x y < M := by
 by_cases h : x = 0
 ·
  subst h
  rw [Nat.gcd_zero_left]
  exact hy
 ·
  exact Nat.lt_of_le_of_lt (Nat.gcd_le_left y (by omega)) hx
theorem gcdPos {x y : Nat} (hy : 0 < y) : 0 < Nat.gcd x y := Nat.gcd_pos_of_pos_right x hy
theorem divLt {x y M : Nat} (hx : x < M) : x / y < M := Nat.lt_of_le_of_lt (Nat.div_le_self _ _) hx
theorem ne_len {B n : Nat} (hB : 1 < B) (h : 0 < n) : 0 < (dig B n).length := List.length_pos_iff.2 (dig_ne hB (by omega))
theorem nOne : Ev (fun k => zcq.f k) (dig 18446744073709551616 1) := Ev.bind (F := fun k => zdb.f k 1) (nOf 1 (by omega)) (Ev.const _)
theorem nLowest {x y m : Nat} (hy : 0 < y) (hx : x < 18446744073709551616 ^ m) (hyl : y < 18446744073709551616 ^ m) (hm : m ≤ 100000) : Ev (fun k => zcc.f k (dig 18446744073709551616 x) (dig 18446744073709551616 y)) (dig 18446744073709551616 (x / Nat.gcd x y), dig 18446744073709551616 (y / Nat.gcd x y)) := by
 have hg := gcdLt hx hyl
 exact Ev.bind (nGcd x y (Le_lt hx hm) (Le_lt hyl hm)) (Ev.bind (nDivMod x _ (gcdPos hy) (Le_lt hx hm) (Le_lt hg hm)) (Ev.bind (nDivMod y _ (gcdPos hy) (Le_lt hyl hm) (Le_lt hg hm)) (Ev.const _)))
theorem nRof {x y m : Nat} (hy : 0 < y) (hx : x < 18446744073709551616 ^ m) (hyl : y < 18446744073709551616 ^ m) (hm : m ≤ 100000) : Ev (fun k => zdg.f k (dig 18446744073709551616 x) (dig 18446744073709551616 y)) (dig 18446744073709551616 (x / Nat.gcd x y), dig 18446744073709551616 (y / Nat.gcd x y), 0) := by
 have := ne_len (B := 18446744073709551616) (by decide) hy
 exact Ev.neg (by omega) (Ev.bind (nLowest hy hx hyl hm) (Ev.const _))
theorem sgn_zero {x y : Nat} : sgn x y = 0 ↔ x = y := by
 unfold sgn
 constructor
 ·
  intro h
  by_cases e : x = y
  ·
   exact e
  ·
   rw [if_neg e] at h
   split at h <;> simp at h
 ·
  intro h
  rw [if_pos h]
def rT (x y : Nat) : ByteArray := if y = 1 then decT x else ⟨(Lib.decDigits x ++ 47 :: Lib.decDigits y).toArray⟩
theorem cat3 (a b : ByteArray) (x y : Nat) (ha : a = decT x) (hb : b = decT y) : (a ++ (⟨#[47]⟩ : ByteArray)) ++ b = ⟨(Lib.decDigits x ++ 47 :: Lib.decDigits y).toArray⟩ := by
 subst ha hb
 apply ba_ext
 simp [decT]
theorem cat_size (a : ByteArray) : (a ++ (⟨#[47]⟩ : ByteArray)).size = a.size + 1 := by
 rw [ByteArray.size_append]
 rfl
theorem nRtext {x y m : Nat} (hx : x < 18446744073709551616 ^ m) (hy : y < 18446744073709551616 ^ m) (hm : m ≤ 100000) : Ev (fun k => zay.f k (dig 18446744073709551616 x) (dig 18446744073709551616 y)) (rT x y) := by
 have h1 := dec_lt hx
 have h2 := dec_lt hy
 have s1 := decT_size x
 have s2 := decT_size y
 refine Ev.bind (F := fun k => zcq.f k) nOne (Ev.plain (nCmp y 1) ?_)
 by_cases e : y = 1
 ·
  subst e
  refine Ev.pos (sgn_zero.2 rfl) (Ev.bind (nText hx hm) ?_)
  rw [rT, if_pos rfl]
  exact Ev.const _
 ·
  refine Ev.neg (fun h => e (sgn_zero.1 h)) (Ev.bind (nText hx hm) (Ev.pos (by omega) (Ev.bind (nText hy hm) (Ev.pos (by rw [cat_size]; omega) ?_))))
  rw [rT, if_neg e, cat3 _ _ x y rfl rfl]
  exact Ev.const _
theorem nRGood {x y m : Nat} (hx : x < 18446744073709551616 ^ m) (hy : y < 18446744073709551616 ^ m) (hm : m ≤ 100000) (hpos : 0 < y) : Ev (fun k => zc2.f k (dig 18446744073709551616 x) (dig 18446744073709551616 y)) (decide (Nat.gcd x y = 1)) := by
 have hl := ne_len (B := 18446744073709551616) (by decide) hpos
 have l1 : (dig 18446744073709551616 x).length ≤ m := dig_length (by decide) m x hx
 have l2 : (dig 18446744073709551616 y).length ≤ m := dig_length (by decide) m y hy
 have g1 := nGood (dig 18446744073709551616 x) (by omega)
 have g2 := nGood (dig 18446744073709551616 y) (by omega)
 rw [goodB_dig] at g1 g2
 refine Ev.plain g1 (Ev.pos rfl (Ev.plain g2 (Ev.pos rfl (Ev.pos (by omega) (Ev.bind (nGcd x y (Le_lt hx hm) (Le_lt hy hm)) (Ev.bind nOne (Ev.plain (nCmp _ 1) ?_)))))))
 have : (sgn (Nat.gcd x y) 1 == 0) = decide (Nat.gcd x y = 1) := by
  by_cases e : Nat.gcd x y = 1
  ·
   rw [decide_eq_true e, beq_iff_eq, sgn_zero]
   exact e
  ·
   rw [decide_eq_false e, beq_eq_false_iff_ne]
   intro h
   exact e (sgn_zero.1 h)
 rw [this]
 exact Ev.const _
theorem mx0 (n : Int) : mx n 0 = ((n.toNat : Nat) : Int) := by
 unfold mx
 omega
theorem nRint (n : Int) (h : n < 9223372036854775808) : Ev (fun k => zc3.f k n) (dig 18446744073709551616 n.toNat, dig 18446744073709551616 1) := by
 have h1 : IntKind.u64.wrap (mx n 0) = ((n.toNat : Nat) : Int) := by rw [mx0, u64s (by omega) (by omega)]
 have h2 : Ev (fun k => zdb.f k (IntKind.u64.wrap (mx n 0))) (dig 18446744073709551616 n.toNat) := by
  rw [h1]
  exact nOf _ (by omega)
 exact Ev.bind h2 (Ev.bind nOne (Ev.const _))
theorem rDivW {x y m : Nat} (hy : 0 < y) (hx : x < 18446744073709551616 ^ m) (hyl : y < 18446744073709551616 ^ m) (hm : m ≤ 5000) : Ev (fun k => zal.f k (dig 10000 x) (dig 10000 y)) (dig 10000 (x / y), dig 10000 (x % y)) :=
 rDiv x y hy (Nat.le_trans (Lo5 hx) (by omega)) (Lo_lt hyl (by omega)) (fun n hn => Lo_lt (m := m + 1) (Nat.lt_of_lt_of_le hn (by
  rw [Nat.pow_succ]
  exact Nat.mul_le_mul (Nat.le_of_lt hyl) (by omega))) (by omega))
theorem rGcdW {x y m : Nat} (hx : x < 18446744073709551616 ^ m) (hyl : y < 18446744073709551616 ^ m) (hm : m ≤ 5000) : Ev (fun k => zbc.f k (dig 10000 x) (dig 10000 y)) (dig 10000 (Nat.gcd x y)) :=
 rGcd_l0 (18446744073709551616 ^ m) (fun n hn => Nat.le_trans (Lo5 (m := m + 1) (Nat.lt_of_lt_of_le hn (by
  rw [Nat.pow_succ]
  exact Nat.mul_le_mul (Nat.le_refl _) (by omega)))) (by omega)) y x (Nat.le_of_lt hx) (Nat.le_of_lt hyl)
theorem rRof {x y m : Nat} (hy : 0 < y) (hx : x < 18446744073709551616 ^ m) (hyl : y < 18446744073709551616 ^ m) (hm : m ≤ 5000) : Ev (fun k => zcd.f k (dig 10000 x) (dig 10000 y)) (dig 10000 (x / Nat.gcd x y), dig 10000 (y / Nat.gcd x y)) := by
 have hg := gcdLt hx hyl
 exact Ev.bind (rGcdW hx hyl hm) (Ev.bind (rDivW (gcdPos hy) hx hg hm) (Ev.bind (rDivW (gcdPos hy) hyl hg hm) (Ev.const _)))
theorem low_rat {x y : Nat} (hy : 0 < y) : x / Nat.gcd x y = (mkRat (x : Int) y).num.toNat ∧ y / Nat.gcd x y = (mkRat (x : Int) y).den := by
 rw [Rat.num_mkRat, Rat.den_mkRat, if_neg (by omega), if_neg (by omega), Int.natAbs_natCast, Nat.gcd_comm y x]
 refine ⟨?_, rfl⟩
 rw [← Int.natCast_ediv, Int.toNat_natCast]
def Bd (r : Rat) (m : Nat) : Prop := 0 ≤ r ∧ r.num.toNat < 18446744073709551616 ^ m ∧ r.den < 18446744073709551616 ^ m
theorem Bd.le {r : Rat} {m n : Nat} (h : Bd r m) (hn : m ≤ n) : Bd r n := ⟨h.1, W_le h.2.1 hn, W_le h.2.2 hn⟩
theorem mkRat_nonneg (x y : Nat) : 0 ≤ mkRat (x : Int) y := by
 rw [← Rat.num_nonneg, Rat.num_mkRat]
 split
 ·
  exact Int.le_refl _
 ·
  exact Int.ediv_nonneg (Int.natCast_nonneg _) (Int.natCast_nonneg _)
theorem Bd.mk {x y m : Nat} (hy : 0 < y) (hx : x < 18446744073709551616 ^ m) (hyl : y < 18446744073709551616 ^ m) : Bd (mkRat (x : Int) y) m := by
 obtain ⟨h1, h2⟩ := low_rat (x := x) hy
 refine ⟨mkRat_nonneg x y, ?_, ?_⟩
 ·
  rw [← h1]
  exact divLt hx
 ·
  rw [← h2]
  exact divLt hyl
theorem nnum {r : Rat} (h : 0 ≤ r) : ((r.num.toNat : Nat) : Int) = r.num := Int.toNat_of_nonneg (Rat.num_nonneg.2 h)
theorem mul_rat {r s : Rat} (hr : 0 ≤ r) (hs : 0 ≤ s) : mkRat ((r.num.toNat * s.num.toNat : Nat) : Int) (r.den * s.den) = r * s := by
 rw [Rat.mul_def', Int.natCast_mul, nnum hr, nnum hs]
theorem add_rat {r s : Rat} (hr : 0 ≤ r) (hs : 0 ≤ s) : mkRat ((r.num.toNat * s.den + s.num.toNat * r.den : Nat) : Int) (r.den * s.den) = r + s := by
 rw [Rat.add_def', Int.natCast_add, Int.natCast_mul, Int.natCast_mul, nnum hr, nnum hs]
theorem le_rat {r s : Rat} (hr : 0 ≤ r) (hs : 0 ≤ s) : s.num.toNat * r.den ≤ r.num.toNat * s.den ↔ s ≤ r := by
 rw [Rat.le_iff, ← nnum hr, ← nnum hs, ← Int.natCast_mul, ← Int.natCast_mul, Int.ofNat_le, Int.toNat_natCast, Int.toNat_natCast]
theorem lt_rat {r s : Rat} (hr : 0 ≤ r) (hs : 0 ≤ s) : r.num.toNat * s.den < s.num.toNat * r.den ↔ r < s := by
 rw [Rat.lt_iff, ← nnum hr, ← nnum hs, ← Int.natCast_mul, ← Int.natCast_mul, Int.ofNat_lt, Int.toNat_natCast, Int.toNat_natCast]
theorem eq_rat {r s : Rat} (hr : 0 ≤ r) (hs : 0 ≤ s) : r.num.toNat * s.den = s.num.toNat * r.den ↔ r = s := by
 rw [Rat.eq_iff_mul_eq_mul, ← nnum hr, ← nnum hs, ← Int.natCast_mul, ← Int.natCast_mul, Int.ofNat_inj, Int.toNat_natCast, Int.toNat_natCast]
theorem sub_rat {r s : Rat} (hr : 0 ≤ r) (hs : 0 ≤ s) (h : s ≤ r) : mkRat ((r.num.toNat * s.den - s.num.toNat * r.den : Nat) : Int) (r.den * s.den) = r - s := by
 rw [Rat.sub_def', Int.ofNat_sub ((le_rat hr hs).2 h), Int.natCast_mul, Int.natCast_mul, nnum hr, nnum hs]
theorem rat_frac (r : Rat) : r * (r.den : Rat) = (r.num : Rat) := by
 have h : (r.den : Rat) ≠ 0 := by
  intro h
  have := congrArg Rat.num h
  simp at this
  exact r.den_nz this
 have e := Rat.mkRat_self r
 rw [Rat.mkRat_eq_div] at e
 have e2 : r * (r.den : Rat) = ((r.num : Rat) / (r.den : Rat)) * (r.den : Rat) := by rw [e]
 rw [e2, Rat.div_mul_cancel h]
theorem den_ne (r : Rat) : (r.den : Rat) ≠ 0 := by
 intro h
 have := congrArg Rat.num h
 simp at this
 exact r.den_nz this
theorem div_rat {r s : Rat} (hr : 0 ≤ r) (hs : 0 < s) : mkRat ((r.num.toNat * s.den : Nat) : Int) (r.den * s.num.toNat) = r / s := by
 have hs' : 0 ≤ s := Rat.le_of_lt hs
 have e1 := rat_frac r
 have e2 := rat_frac s
 have n1 := den_ne r
 have n2 := den_ne s
 have n3 : s ≠ 0 := Rat.ne_of_gt hs
 have c1 : ((r.num.toNat : Nat) : Rat) = (r.num : Rat) := by rw [← Rat.intCast_natCast, nnum hr]
 have c2 : ((s.num.toNat : Nat) : Rat) = (s.num : Rat) := by rw [← Rat.intCast_natCast, nnum hs']
 rw [Rat.mkRat_eq_div, Rat.intCast_natCast, Rat.natCast_mul, Rat.natCast_mul, c1, c2, ← e1, ← e2]
 generalize (r.den : Rat) = a at n1
 generalize (s.den : Rat) = b at n2
 grind
def cmpR (r s : Rat) : Int := if r = s then 0 else if r < s then -1 else 1
theorem sgn_rat {r s : Rat} (hr : 0 ≤ r) (hs : 0 ≤ s) : sgn (r.num.toNat * s.den) (s.num.toNat * r.den) = cmpR r s := by
 unfold sgn cmpR
 by_cases h1 : r = s
 ·
  rw [if_pos ((eq_rat hr hs).2 h1), if_pos h1]
 ·
  rw [if_neg (fun h => h1 ((eq_rat hr hs).1 h)), if_neg h1]
  by_cases h2 : r < s
  ·
   rw [if_pos ((lt_rat hr hs).2 h2), if_pos h2]
  ·
   rw [if_neg (fun h => h2 ((lt_rat hr hs).1 h)), if_neg h2]
theorem Bd.mul {r s : Rat} {m n : Nat} (hr : Bd r m) (hs : Bd s n) : Bd (r * s) (m + n) := by
 have := Bd.mk (x := r.num.toNat * s.num.toNat) (y := r.den * s.den) (m := m + n) (Nat.mul_pos r.den_pos s.den_pos) (W_mul hr.2.1 hs.2.1) (W_mul hr.2.2 hs.2.2)
 rw [mul_rat hr.1 hs.1] at this
 exact this
theorem Bd.add {r s : Rat} {m n : Nat} (hr : Bd r m) (hs : Bd s n) : Bd (r + s) (m + n + 1) := by
 have h1 := W_mul hr.2.1 hs.2.2
 have h2 := W_mul hs.2.1 hr.2.2
 rw [Nat.add_comm n m] at h2
 have := Bd.mk (x := r.num.toNat * s.den + s.num.toNat * r.den) (y := r.den * s.den) (m := m + n + 1) (Nat.mul_pos r.den_pos s.den_pos) (W_add h1 h2) (W_le (W_mul hr.2.2 hs.2.2) (by omega))
 rw [add_rat hr.1 hs.1] at this
 exact this
theorem Bd.sub {r s : Rat} {m n : Nat} (hr : Bd r m) (hs : Bd s n) (h : s ≤ r) : Bd (r - s) (m + n) := by
 have h1 := W_mul hr.2.1 hs.2.2
 have := Bd.mk (x := r.num.toNat * s.den - s.num.toNat * r.den) (y := r.den * s.den) (m := m + n) (Nat.mul_pos r.den_pos s.den_pos) (Nat.lt_of_le_of_lt (Nat.sub_le _ _) h1) (W_mul hr.2.2 hs.2.2)
 rw [sub_rat hr.1 hs.1 h] at this
 exact this
theorem num_pos {s : Rat} (h : 0 < s) : 0 < s.num.toNat := by
 have h1 := nnum (Rat.le_of_lt h)
 have h2 : s.num ≠ 0 := fun e => Rat.ne_of_gt h (Rat.num_eq_zero.1 e)
 have h3 := Rat.num_nonneg.2 (Rat.le_of_lt h)
 omega
theorem Bd.div {r s : Rat} {m n : Nat} (hr : Bd r m) (hs : Bd s n) (h : 0 < s) : Bd (r / s) (m + n) := by
 have := Bd.mk (x := r.num.toNat * s.den) (y := r.den * s.num.toNat) (m := m + n) (Nat.mul_pos r.den_pos (num_pos h)) (W_mul hr.2.1 hs.2.2) (W_mul hr.2.2 hs.2.1)
 rw [div_rat hr.1 h] at this
 exact this
theorem rat_gcd (r : Rat) (h : 0 ≤ r) : Nat.gcd r.num.toNat r.den = 1 := by
 have := r.reduced
 have e : r.num.natAbs = r.num.toNat := by
  have := Rat.num_nonneg.2 h
  omega
 rw [e] at this
 exact this
theorem qOf {x y m : Nat} (hy : 0 < y) (hx : x < 18446744073709551616 ^ m) (hyl : y < 18446744073709551616 ^ m) (hm : m ≤ 100000) : Ev (fun k => zdg.f k (dig 18446744073709551616 x) (dig 18446744073709551616 y)) (dig 18446744073709551616 (mkRat (x : Int) y).num.toNat, dig 18446744073709551616 (mkRat (x : Int) y).den, 0) := by
 obtain ⟨h1, h2⟩ := low_rat (x := x) hy
 have := nRof hy hx hyl hm
 rw [h1, h2] at this
 exact this
theorem qLow {x y m : Nat} (hy : 0 < y) (hx : x < 18446744073709551616 ^ m) (hyl : y < 18446744073709551616 ^ m) (hm : m ≤ 100000) : Ev (fun k => zcc.f k (dig 18446744073709551616 x) (dig 18446744073709551616 y)) (dig 18446744073709551616 (mkRat (x : Int) y).num.toNat, dig 18446744073709551616 (mkRat (x : Int) y).den) := by
 obtain ⟨h1, h2⟩ := low_rat (x := x) hy
 have := nLowest hy hx hyl hm
 rw [h1, h2] at this
 exact this
theorem qMul {r s : Rat} {m n : Nat} (hr : Bd r m) (hs : Bd s n) (h : m + n ≤ 100000) : Ev (fun k => zcx.f k (dig 18446744073709551616 r.num.toNat) (dig 18446744073709551616 r.den) (dig 18446744073709551616 s.num.toNat) (dig 18446744073709551616 s.den)) (dig 18446744073709551616 (r * s).num.toNat, dig 18446744073709551616 (r * s).den) := by
 have := qLow (x := r.num.toNat * s.num.toNat) (y := r.den * s.den) (Nat.mul_pos r.den_pos s.den_pos) (W_mul hr.2.1 hs.2.1) (W_mul hr.2.2 hs.2.2) h
 rw [mul_rat hr.1 hs.1] at this
 exact Ev.bind (nMul _ _ (Le_lt hr.2.1 (by omega)) (Le_lt hs.2.1 (by omega))) (Ev.bind (nMul _ _ (Le_lt hr.2.2 (by omega)) (Le_lt hs.2.2 (by omega))) (Ev.bind this (Ev.const _)))
theorem qCross {r s : Rat} {m n : Nat} (hr : Bd r m) (hs : Bd s n) (h : m + n ≤ 90000) : Ev (fun k => zbh.f k (dig 18446744073709551616 r.num.toNat) (dig 18446744073709551616 r.den) (dig 18446744073709551616 s.num.toNat) (dig 18446744073709551616 s.den)) (dig 18446744073709551616 (r.num.toNat * s.den), dig 18446744073709551616 (s.num.toNat * r.den), dig 18446744073709551616 (r.den * s.den)) :=
 Ev.bind (nMul _ _ (Le_lt hr.2.1 (by omega)) (Le_lt hs.2.2 (by omega))) (Ev.bind (nMul _ _ (Le_lt hs.2.1 (by omega)) (Le_lt hr.2.2 (by omega))) (Ev.bind (nMul _ _ (Le_lt hr.2.2 (by omega)) (Le_lt hs.2.2 (by omega))) (Ev.const _)))
theorem qSub {r s : Rat} {m n : Nat} (hr : Bd r m) (hs : Bd s n) (h : m + n ≤ 90000) (hle : s ≤ r) : Ev (fun k => ratio_Sub.f k (dig 18446744073709551616 r.num.toNat) (dig 18446744073709551616 r.den) (dig 18446744073709551616 s.num.toNat) (dig 18446744073709551616 s.den)) (dig 18446744073709551616 (r - s).num.toNat, dig 18446744073709551616 (r - s).den, 0) := by
 have h1 := W_mul hr.2.1 hs.2.2
 have := qLow (x := r.num.toNat * s.den - s.num.toNat * r.den) (y := r.den * s.den) (m := m + n) (Nat.mul_pos r.den_pos s.den_pos) (Nat.lt_of_le_of_lt (Nat.sub_le _ _) h1) (W_mul hr.2.2 hs.2.2) (by omega)
 rw [sub_rat hr.1 hs.1 hle] at this
 exact Ev.bind (qCross hr hs h) (Ev.bind (nSub _ _ (Le_lt h1 (by omega)) ((le_rat hr.1 hs.1).2 hle)) (Ev.pos rfl (Ev.bind this (Ev.const _))))
theorem qDiv {r s : Rat} {m n : Nat} (hr : Bd r m) (hs : Bd s n) (h : m + n ≤ 90000) (hpos : 0 < s) : Ev (fun k => zcy.f k (dig 18446744073709551616 r.num.toNat) (dig 18446744073709551616 r.den) (dig 18446744073709551616 s.num.toNat) (dig 18446744073709551616 s.den)) (dig 18446744073709551616 (r / s).num.toNat, dig 18446744073709551616 (r / s).den, 0) := by
 have := qOf (x := r.num.toNat * s.den) (y := r.den * s.num.toNat) (m := m + n) (Nat.mul_pos r.den_pos (num_pos hpos)) (W_mul hr.2.1 hs.2.2) (W_mul hr.2.2 hs.2.1) (by omega)
 rw [div_rat hr.1 hpos] at this
 exact Ev.bind (nMul _ _ (Le_lt hr.2.1 (by omega)) (Le_lt hs.2.2 (by omega))) (Ev.bind (nMul _ _ (Le_lt hr.2.2 (by omega)) (Le_lt hs.2.1 (by omega))) (Ev.bind this (Ev.const _)))
theorem qCmp {r s : Rat} {m n : Nat} (hr : Bd r m) (hs : Bd s n) (h : m + n ≤ 90000) : Ev (fun k => ratio_Cmp.f k (dig 18446744073709551616 r.num.toNat) (dig 18446744073709551616 r.den) (dig 18446744073709551616 s.num.toNat) (dig 18446744073709551616 s.den)) (cmpR r s) := by
 have := nCmp (r.num.toNat * s.den) (s.num.toNat * r.den)
 rw [sgn_rat hr.1 hs.1] at this
 exact Ev.bind (qCross hr hs h) (Ev.plain this (Ev.const _))
theorem qGood {r : Rat} {m : Nat} (hr : Bd r m) (h : m ≤ 90000) : Ev (fun k => zc2.f k (dig 18446744073709551616 r.num.toNat) (dig 18446744073709551616 r.den)) true := by
 have := nRGood hr.2.1 hr.2.2 (by omega) r.den_pos
 rw [decide_eq_true (rat_gcd r hr.1)] at this
 exact this
theorem Bd.nat {n m : Nat} (h : n < 18446744073709551616 ^ m) (hm : 1 ≤ m) : Bd (n : Rat) m := ⟨by
  have := mkRat_nonneg n 1
  rw [Rat.mkRat_eq_div] at this
  rw [← Rat.num_nonneg]
  simp, by simpa using h, by
  rw [Rat.den_natCast]
  exact Nat.lt_of_lt_of_le (by decide : 1 < 18446744073709551616) (by
   have := Nat.pow_le_pow_right (n := 18446744073709551616) (by decide) hm
   rw [Nat.pow_one] at this
   exact this)⟩
theorem qInt (n : Int) (h : n < 9223372036854775808) : Ev (fun k => zc3.f k n) (dig 18446744073709551616 ((n.toNat : Nat) : Rat).num.toNat, dig 18446744073709551616 ((n.toNat : Nat) : Rat).den) := by
 have := nRint n h
 rw [Rat.num_natCast, Rat.den_natCast, Int.toNat_natCast]
 exact this
theorem dOf {x y m : Nat} (hy : 0 < y) (hx : x < 18446744073709551616 ^ m) (hyl : y < 18446744073709551616 ^ m) (hm : m ≤ 5000) : Ev (fun k => zcd.f k (dig 10000 x) (dig 10000 y)) (dig 10000 (mkRat (x : Int) y).num.toNat, dig 10000 (mkRat (x : Int) y).den) := by
 obtain ⟨h1, h2⟩ := low_rat (x := x) hy
 have := rRof hy hx hyl hm
 rw [h1, h2] at this
 exact this
end Go.Proofs.YthiicmanfpmipaaGreatDoor.P
end
section
namespace Go.Proofs.YthiicmanfpmipaaGreatDoor.P
open Go.RowKit Go.Proofs.YthiicmanfpmipaaGreatDoorW.PrintWords Go.Proofs.YthiicmanfpmipaaGreatDoorW.PrintLast Go.Proofs.YthiicmanfpmipaaGreatDoorW.PrintMore
attribute [local go_sem] zci zcj zcs zcr zb9 zca zcg zch
def rN (r : Rat) : List Int := dig 18446744073709551616 r.num.toNat
def rD (r : Rat) : List Int := dig 18446744073709551616 r.den
def Rt (w : World) (A : Option Addr) (c : Nat) (a : List Int) (A' : Option Addr) (c' : Nat) (b : List Int) : Prop := a.length ≤ c ∧ Kd.C (Kd.int .u64) w A a.length a ∧ b.length ≤ c' ∧ Kd.C (Kd.int .u64) w A' b.length b
theorem Rt.below {w w' : World} {A A' : Option Addr} {c c' : Nat} {a b : List Int} (h : Rt w A c a A' c' b) (hb : Below w.heap.size w w') : Rt w' A c a A' c' b := ⟨h.1, Kd.zax h.2.1 hb, h.2.2.1, Kd.zax h.2.2.2 hb⟩
def RV (w : World) (P : Nat → Prop) (A : Option Addr) (c : Nat) (a : List Int) (A' : Option Addr) (c' : Nat) (b : List Int) : Prop := Kd.V (Kd.int .u64) 82 w 0 P (.slice A a.length c) a ∧ Kd.V (Kd.int .u64) 82 w 0 P (.slice A' b.length c') b
theorem RV.rt {w : World} {P : Nat → Prop} {A A' : Option Addr} {c c' : Nat} {a b : List Int} (h : RV w P A c a A' c' b) : Rt w A c a A' c' b := by
 obtain ⟨_, l1, C1⟩ := Kd.zan h.1
 obtain ⟨_, l2, C2⟩ := Kd.zan h.2
 exact ⟨l1, C1, l2, C2⟩
theorem RV.mono {w : World} {P Q : Nat → Prop} {A A' : Option Addr} {c c' : Nat} {a b : List Int} (h : RV w P A c a A' c' b) (hq : ∀ k, P k → Q k) : RV w Q A c a A' c' b := ⟨Kd.zaq h.1 hq, Kd.zaq h.2 hq⟩
theorem RV.old {w w' : World} {P : Nat → Prop} {A A' : Option Addr} {c c' : Nat} {a b : List Int} (h : RV w P A c a A' c' b) (hb : Below w.heap.size w w') : RV w' (fun k => P k ∧ k < w.heap.size) A c a A' c' b := ⟨Kd.V_old h.1 hb, Kd.V_old h.2 hb⟩
theorem RV.far {w : World} {P : Nat → Prop} {A A' : Option Addr} {c c' : Nat} {a b : List Int} {p : Addr} (h : RV w P A c a A' c' b) (hp : ∀ k, P k → k ≠ p.block) (u : Value) : RV (w.setCell p u) P A c a A' c' b := ⟨Kd.V_far h.1 hp u, Kd.V_far h.2 hp u⟩
theorem RV.of {w : World} {ba bb : Nat} {P : Nat → Prop} {v u : Value} {a b : List Int} (h1 : Kd.V (Kd.int .u64) 82 w ba P v a) (h2 : Kd.V (Kd.int .u64) 82 w bb P u b) : ∃ A c A' c', v = .slice A a.length c ∧ u = .slice A' b.length c' ∧ RV w P A c a A' c' b := by
 obtain ⟨A, c, rfl⟩ := Kd.za9 h1
 obtain ⟨A', c', rfl⟩ := Kd.za9 h2
 exact ⟨A, c, A', c', rfl, rfl, h1, h2⟩
theorem Rt.of {w : World} {ba bb : Nat} {P Q : Nat → Prop} {v u : Value} {a b : List Int} (h1 : Kd.V (Kd.int .u64) 82 w ba P v a) (h2 : Kd.V (Kd.int .u64) 82 w bb Q u b) : ∃ A c A' c', v = .slice A a.length c ∧ u = .slice A' b.length c' ∧ Rt w A c a A' c' b := by
 obtain ⟨A, c, rfl⟩ := Kd.za9 h1
 obtain ⟨A', c', rfl⟩ := Kd.za9 h2
 obtain ⟨_, l1, C1⟩ := Kd.zan h1
 obtain ⟨_, l2, C2⟩ := Kd.zan h2
 exact ⟨A, c, A', c', rfl, rfl, l1, C1, l2, C2⟩
section
variable {w : World} {A0 A1 A2 A3 : Option Addr} {c0 c1 c2 c3 : Nat} {r s : Rat} {m n : Nat}
theorem t_Mul (h1 : Rt w A0 c0 (rN r) A1 c1 (rD r)) (h2 : Rt w A2 c2 (rN s) A3 c3 (rD s)) (hr : Bd r m) (hs : Bd s n) (h : m + n ≤ 100000) :
  Calls Tryz.prog 19 #[.agg #[.slice A0 (rN r).length c0, .slice A1 (rD r).length c1], .agg #[.slice A2 (rN s).length c2, .slice A3 (rD s).length c3]] w fun e w' => ∃ A c A' c', e = .returned (.agg #[.slice A (rN (r * s)).length c, .slice A' (rD (r * s)).length c']) ∧ RV w' (fun k => w.heap.size ≤ k) A c (rN (r * s)) A' c' (rD (r * s)) ∧ Below w.heap.size w w' := by
 obtain ⟨k, hk⟩ := (qMul hr hs h).get
 refine (zcx.calls k A0 c0 (rN r) A1 c1 (rD r) A2 c2 (rN s) A3 c3 (rD s) (rN (r * s)) (rD (r * s)) w h1.2.1 h1.1 h1.2.2.2 h1.2.2.1 h2.2.1 h2.1 h2.2.2.2 h2.2.2.1 hk).mono ?_
 rintro e w' ⟨v0, v1, rfl, hv0, hv1, hb⟩
 obtain ⟨A, c, A', c', rfl, rfl, hR⟩ := RV.of hv0 hv1
 exact ⟨A, c, A', c', rfl, hR, hb⟩
theorem t_Sub (h1 : Rt w A0 c0 (rN r) A1 c1 (rD r)) (h2 : Rt w A2 c2 (rN s) A3 c3 (rD s)) (hr : Bd r m) (hs : Bd s n) (h : m + n ≤ 90000) (hle : s ≤ r) :
  Calls Tryz.prog 78 #[.agg #[.slice A0 (rN r).length c0, .slice A1 (rD r).length c1], .agg #[.slice A2 (rN s).length c2, .slice A3 (rD s).length c3]] w fun e w' => ∃ A c A' c', e = .returned (.tuple #[.agg #[.slice A (rN (r - s)).length c, .slice A' (rD (r - s)).length c'], .int .i64 0]) ∧ RV w' (fun k => w.heap.size ≤ k) A c (rN (r - s)) A' c' (rD (r - s)) ∧ Below w.heap.size w w' := by
 obtain ⟨k, hk⟩ := (qSub hr hs h hle).get
 refine (ratio_Sub.calls k A0 c0 (rN r) A1 c1 (rD r) A2 c2 (rN s) A3 c3 (rD s) (rN (r - s)) (rD (r - s)) 0 w h1.2.1 h1.1 h1.2.2.2 h1.2.2.1 h2.2.1 h2.1 h2.2.2.2 h2.2.2.1 hk).mono ?_
 rintro e w' ⟨v0, v1, rfl, hv0, hv1, hb⟩
 obtain ⟨A, c, A', c', rfl, rfl, hR⟩ := RV.of hv0 hv1
 exact ⟨A, c, A', c', rfl, hR, hb⟩
theorem t_Div (h1 : Rt w A0 c0 (rN r) A1 c1 (rD r)) (h2 : Rt w A2 c2 (rN s) A3 c3 (rD s)) (hr : Bd r m) (hs : Bd s n) (h : m + n ≤ 90000) (hpos : 0 < s) :
  Calls Tryz.prog 77 #[.agg #[.slice A0 (rN r).length c0, .slice A1 (rD r).length c1], .agg #[.slice A2 (rN s).length c2, .slice A3 (rD s).length c3]] w fun e w' => ∃ A c A' c', e = .returned (.tuple #[.agg #[.slice A (rN (r / s)).length c, .slice A' (rD (r / s)).length c'], .int .i64 0]) ∧ RV w' (fun k => w.heap.size ≤ k) A c (rN (r / s)) A' c' (rD (r / s)) ∧ Below w.heap.size w w' := by
 obtain ⟨k, hk⟩ := (qDiv hr hs h hpos).get
 refine (zcy.calls k A0 c0 (rN r) A1 c1 (rD r) A2 c2 (rN s) A3 c3 (rD s) (rN (r / s)) (rD (r / s)) 0 w h1.2.1 h1.1 h1.2.2.2 h1.2.2.1 h2.2.1 h2.1 h2.2.2.2 h2.2.2.1 hk).mono ?_
 rintro e w' ⟨v0, v1, rfl, hv0, hv1, hb⟩
 obtain ⟨A, c, A', c', rfl, rfl, hR⟩ := RV.of hv0 hv1
 exact ⟨A, c, A', c', rfl, hR, hb⟩
theorem t_Cmp (h1 : Rt w A0 c0 (rN r) A1 c1 (rD r)) (h2 : Rt w A2 c2 (rN s) A3 c3 (rD s)) (hr : Bd r m) (hs : Bd s n) (h : m + n ≤ 90000) :
  Calls Tryz.prog 17 #[.agg #[.slice A0 (rN r).length c0, .slice A1 (rD r).length c1], .agg #[.slice A2 (rN s).length c2, .slice A3 (rD s).length c3]] w fun e w' => e = .returned (.int .i64 (cmpR r s)) ∧ Below w.heap.size w w' := by
 obtain ⟨k, hk⟩ := (qCmp hr hs h).get
 exact ratio_Cmp.calls k A0 c0 (rN r) A1 c1 (rD r) A2 c2 (rN s) A3 c3 (rD s) (cmpR r s) w h1.2.1 h1.1 h1.2.2.2 h1.2.2.1 h2.2.1 h2.1 h2.2.2.2 h2.2.2.1 hk
theorem t_Int (z : Int) (hz : z < 9223372036854775808) (w : World) :
  Calls Tryz.prog 18 #[.int .i64 z] w fun e w' => ∃ A c A' c', e = .returned (.agg #[.slice A (rN ((z.toNat : Nat) : Rat)).length c, .slice A' (rD ((z.toNat : Nat) : Rat)).length c']) ∧ RV w' (fun k => w.heap.size ≤ k) A c (rN ((z.toNat : Nat) : Rat)) A' c' (rD ((z.toNat : Nat) : Rat)) ∧ Below w.heap.size w w' := by
 obtain ⟨k, hk⟩ := (qInt z hz).get
 refine (zc3.calls k z (rN ((z.toNat : Nat) : Rat)) (rD ((z.toNat : Nat) : Rat)) w hk).mono ?_
 rintro e w' ⟨v0, v1, rfl, hv0, hv1, hb⟩
 obtain ⟨A, c, A', c', rfl, rfl, hR⟩ := RV.of hv0 hv1
 exact ⟨A, c, A', c', rfl, hR, hb⟩
end
end Go.Proofs.YthiicmanfpmipaaGreatDoor.P
end
