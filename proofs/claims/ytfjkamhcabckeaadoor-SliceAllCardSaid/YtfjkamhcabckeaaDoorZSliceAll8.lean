-- Written by a program of this session (wip/tools/shake.py) out of its own texts and of the kit's printed ones; not trusted: Lean checks it.
import Derived.Test.YtfjkamhcabckeaaDoorZSliceAll7
set_option maxHeartbeats 8000000
set_option maxRecDepth 100000
set_option linter.unusedVariables false
set_option linter.unusedSimpArgs false
section
namespace Go.Proofs.YtfjkamhcabckeaaDoor.P
open Go.RowKit Go.Proofs.YtfjkamhcabckeaaDoorW.PrintWords Go.Proofs.YtfjkamhcabckeaaDoorW.PrintLast Go.Proofs.YtfjkamhcabckeaaDoorW.PrintMore
attribute [local go_sem] zdm zdh max_two min_two zc8 zc9 zdg zdi
def Ev {α : Type} (F : Nat → Option α) (r : α) : Prop := ∃ K, ∀ k, K ≤ k → F k = some r
theorem Ev.const {α : Type} (r : α) : Ev (fun _ => some r) r := ⟨0, fun _ _ => rfl⟩
theorem Ev.congr {α : Type} {F G : Nat → Option α} {r : α} (h : ∀ k, F k = G k) (hg : Ev G r) : Ev F r := by
 obtain ⟨K, hK⟩ := hg
 exact ⟨K, fun k hk => (h k).trans (hK k hk)⟩
theorem Ev.step {α : Type} {F G : Nat → Option α} {r : α} (h : ∀ k, F (k + 1) = G k) (hg : Ev G r) : Ev F r := by
 obtain ⟨K, hK⟩ := hg
 refine ⟨K + 1, fun k hk => ?_⟩
 obtain ⟨m, rfl⟩ : ∃ m, k = m + 1 := ⟨k - 1, by omega⟩
 exact (h m).trans (hK m (by omega))
theorem Ev.bind {α β : Type} {F : Nat → Option α} {G : Nat → α → Option β} {x : α} {r : β} (hf : Ev F x) (hg : Ev (fun k => G k x) r) : Ev (fun k => (F k).bind (G k)) r := by
 obtain ⟨K, hK⟩ := hf
 obtain ⟨L, hL⟩ := hg
 refine ⟨K + L, fun k hk => ?_⟩
 show (F k).bind (G k) = some r
 rw [hK k (by omega)]
 exact hL k (by omega)
theorem Ev.get {α : Type} {F : Nat → Option α} {r : α} (h : Ev F r) : ∃ k, F k = some r := by
 obtain ⟨K, hK⟩ := h
 exact ⟨K, hK K (Nat.le_refl _)⟩
theorem w64s {x : Int} (h0 : -9223372036854775808 ≤ x) (h1 : x < 9223372036854775808) : wrap64 x = x := by unfold wrap64; omega
def val (B : Nat) : List Int → Nat
 | [] => 0
 | x :: xs => x.toNat + B * val B xs
def Dig (B : Nat) (l : List Int) : Prop := ∀ x ∈ l, 0 ≤ x ∧ x < (B : Int)
def strip : List Int → List Int
 | [] => []
 | x :: xs => if strip xs = [] then (if x = 0 then [] else [x]) else x :: strip xs
def dig (B n : Nat) : List Int := if h : n = 0 ∨ B ≤ 1 then [] else ((n % B : Nat) : Int) :: dig B (n / B)
termination_by n
decreasing_by exact Nat.div_lt_self (by omega) (by omega)
theorem zcu (B : Nat) : dig B 0 = [] := by rw [dig]; simp
theorem dig_pos {B n : Nat} (hB : 1 < B) (hn : n ≠ 0) : dig B n = ((n % B : Nat) : Int) :: dig B (n / B) := by
 rw [dig, dif_neg (by omega)]
theorem dig_ne {B n : Nat} (hB : 1 < B) (hn : n ≠ 0) : dig B n ≠ [] := by rw [dig_pos hB hn]; simp
theorem zc5 {B : Nat} (hB : 1 < B) (n : Nat) : val B (dig B n) = n := by
 induction n using Nat.strongRecOn with
 | ind n ih =>
  by_cases hn : n = 0
  ·
   subst hn
   rw [zcu]
   rfl
  ·
   rw [dig_pos hB hn, val, ih (n / B) (Nat.div_lt_self (by omega) hB)]
   have := Nat.mod_add_div n B
   omega
theorem zda {B : Nat} (hB : 1 < B) (n : Nat) : Dig B (dig B n) := by
 induction n using Nat.strongRecOn with
 | ind n ih =>
  by_cases hn : n = 0
  ·
   subst hn
   rw [zcu]
   intro x hx
   cases hx
  ·
   rw [dig_pos hB hn]
   intro x hx
   rcases List.mem_cons.1 hx with rfl | hx
   ·
    have := Nat.mod_lt n (show 0 < B by omega)
    omega
   ·
    exact ih (n / B) (Nat.div_lt_self (by omega) hB) x hx
theorem Dig.cons {B : Nat} {x : Int} {l : List Int} (h : Dig B (x :: l)) : (0 ≤ x ∧ x < (B : Int)) ∧ Dig B l := ⟨h x (by simp), fun y hy => h y (by simp [hy])⟩
theorem Dig.mk {B : Nat} {x : Int} {l : List Int} (h0 : 0 ≤ x) (h1 : x < (B : Int)) (h : Dig B l) : Dig B (x :: l) := by
 intro y hy
 rcases List.mem_cons.1 hy with rfl | hy
 ·
  exact ⟨h0, h1⟩
 ·
  exact h y hy
theorem Dig.nil (B : Nat) : Dig B [] := by intro x hx; cases hx
theorem Dig.app {B : Nat} {a b : List Int} (ha : Dig B a) (hb : Dig B b) : Dig B (a ++ b) := by
 intro x hx
 rcases List.mem_append.1 hx with h | h
 ·
  exact ha x h
 ·
  exact hb x h
theorem strip_dig {B : Nat} (hB : 1 < B) : ∀ (l : List Int), Dig B l → strip l = dig B (val B l)
 | [], _ => by rw [val, zcu]; rfl
 | x :: xs, h => by
  obtain ⟨⟨h0, h1⟩, h2⟩ := h.cons
  have ih := strip_dig hB xs h2
  have hm : ∀ v, (x.toNat + B * v) % B = x.toNat := fun v => by
   rw [Nat.add_mul_mod_self_left, Nat.mod_eq_of_lt (by omega)]
  have hd : ∀ v, (x.toNat + B * v) / B = v := fun v => by
   rw [Nat.add_mul_div_left _ _ (by omega), Nat.div_eq_of_lt (by omega), Nat.zero_add]
  rw [strip, val, ih]
  by_cases hv : val B xs = 0
  ·
   rw [hv, zcu, if_pos rfl]
   by_cases hx : x = 0
   ·
    subst hx
    simp [zcu]
   ·
    rw [if_neg hx, dig_pos hB (by omega), hm, hd, zcu]
    congr 1
    omega
  ·
   rw [if_neg (dig_ne hB hv)]
   have hne : x.toNat + B * val B xs ≠ 0 := by
    have := Nat.mul_pos (show 0 < B by omega) (Nat.pos_of_ne_zero hv)
    omega
   rw [dig_pos hB hne, hm, hd]
   congr 1
   omega
theorem strip_snoc0 : ∀ (l : List Int), strip (l ++ [0]) = strip l
 | [] => by simp [strip]
 | x :: xs => by
  rw [List.cons_append, strip, strip, strip_snoc0 xs]
theorem strip_snoc : ∀ (l : List Int) (x : Int), x ≠ 0 → strip (l ++ [x]) = l ++ [x]
 | [], x, h => by simp [strip, h]
 | y :: ys, x, h => by
  rw [List.cons_append, strip, strip_snoc ys x h, if_neg (by simp)]
def Good (l : List Int) : Prop := l = [] ∨ l.getD (l.length - 1) 0 ≠ 0
theorem dig_last {B : Nat} (hB : 1 < B) (n : Nat) : Good (dig B n) := by
 induction n using Nat.strongRecOn with
 | ind n ih =>
  by_cases hn : n = 0
  ·
   subst hn
   exact .inl (zcu B)
  ·
   right
   rw [dig_pos hB hn]
   have ih := ih (n / B) (Nat.div_lt_self (by omega) hB)
   by_cases hd : n / B = 0
   ·
    rw [hd, zcu]
    have h1 := Nat.div_add_mod n B
    rw [hd] at h1
    simp
    omega
   ·
    have hne := dig_ne hB hd
    rcases ih with ih | ih
    ·
     exact absurd ih hne
    ·
     have hl : 0 < (dig B (n / B)).length := List.length_pos_iff.2 hne
     simp only [List.length_cons, Nat.add_sub_cancel]
     rw [show (dig B (n / B)).length = (dig B (n / B)).length - 1 + 1 by omega, List.getD_cons_succ]
     exact ih
theorem dig_length {B : Nat} (hB : 1 < B) : ∀ (m n : Nat), n < B ^ m → (dig B n).length ≤ m
 | 0, n, h => by
  have : n = 0 := by simpa using h
  subst this
  rw [zcu]
  exact Nat.le_refl _
 | m + 1, n, h => by
  by_cases hn : n = 0
  ·
   subst hn
   rw [zcu]
   exact Nat.zero_le _
  ·
   rw [dig_pos hB hn, List.length_cons]
   have : n / B < B ^ m := by
    rw [Nat.div_lt_iff_lt_mul (by omega)]
    rwa [Nat.pow_succ] at h
   have := dig_length hB m _ this
   omega
theorem val_lt {B : Nat} : ∀ (l : List Int), Dig B l → val B l < B ^ l.length
 | [], _ => by simp [val]
 | x :: xs, h => by
  obtain ⟨⟨h0, h1⟩, h2⟩ := h.cons
  have ih := val_lt xs h2
  rw [val, List.length_cons, Nat.pow_succ]
  have : B * (val B xs + 1) ≤ B * B ^ xs.length := Nat.mul_le_mul_left _ ih
  rw [Nat.mul_add] at this
  rw [Nat.mul_comm (B ^ xs.length)]
  omega
def V (B : Nat) (l : List Int) (i : Nat) : Nat := val B (l.drop i)
theorem V_zero (B : Nat) (l : List Int) : V B l 0 = val B l := rfl
theorem V_end (B : Nat) {l : List Int} {i : Nat} (h : l.length ≤ i) : V B l i = 0 := by
 unfold V
 rw [List.drop_eq_nil_of_le h]
 rfl
theorem zdj (B : Nat) (l : List Int) (i : Nat) : V B l i = (l.getD i 0).toNat + B * V B l (i + 1) := by
 by_cases h : i < l.length
 ·
  unfold V
  rw [List.drop_eq_getElem_cons h, val, List.getD_eq_getElem?_getD, List.getElem?_eq_getElem h]
  rfl
 ·
  rw [V_end B (by omega), V_end B (by omega), List.getD_eq_getElem?_getD, List.getElem?_eq_none (by omega)]
  rfl
theorem Dig.get {B : Nat} (hB : 0 < B) {l : List Int} (h : Dig B l) (i : Nat) : 0 ≤ l.getD i 0 ∧ l.getD i 0 < (B : Int) := by
 by_cases hi : i < l.length
 ·
  rw [List.getD_eq_getElem?_getD, List.getElem?_eq_getElem hi]
  exact h _ (List.getElem_mem hi)
 ·
  rw [List.getD_eq_getElem?_getD, List.getElem?_eq_none (by omega)]
  simp
  omega
theorem V_pos {B : Nat} (hB : 1 < B) {l : List Int} (h : Dig B l) (hg : Good l) (i : Nat) (hi : i < l.length) : 0 < V B l i := by
 rcases hg with rfl | hg
 ·
  simp at hi
 ·
  obtain ⟨m, hm⟩ : ∃ m, l.length - 1 = i + m := ⟨l.length - 1 - i, by omega⟩
  rw [hm] at hg
  have key : ∀ m i, l.getD (i + m) 0 ≠ 0 → 0 < V B l i := by
   intro m
   induction m with
   | zero =>
    intro i h0
    rw [zdj]
    have := (h.get (show 0 < B by omega) i).1
    rw [Nat.add_zero] at h0
    omega
   | succ m ih =>
    intro i h0
    rw [zdj]
    have := ih (i + 1) (by rw [show i + 1 + m = i + (m + 1) by omega]; exact h0)
    have := Nat.mul_pos (show 0 < B by omega) this
    omega
  exact key m i hg
theorem rd_nat (l : List Int) (i : Nat) : rd l (i : Int) = l.getD i 0 := by
 unfold rd
 simp
theorem val_append (B : Nat) : ∀ (a b : List Int), val B (a ++ b) = val B a + B ^ a.length * val B b
 | [], b => by simp [val]
 | x :: xs, b => by
  rw [List.cons_append, val, val, val_append B xs b, List.length_cons, Nat.pow_succ, Nat.mul_add, ← Nat.mul_assoc, Nat.mul_comm B (B ^ xs.length)]
  omega
theorem zcr (B : Nat) : ∀ n, val B (List.replicate n 0) = 0
 | 0 => rfl
 | n + 1 => by rw [List.replicate_succ, val, zcr B n]; simp
theorem Dig.rep {B : Nat} (hB : 0 < B) (n : Nat) : Dig B (List.replicate n 0) := by
 intro x hx
 obtain ⟨_, rfl⟩ := List.mem_replicate.1 hx
 omega
theorem wadd (i j : Nat) (h : i + j < 4611686018427387904) : wrap64 ((i : Int) + (j : Int)) = ((i + j : Nat) : Int) := by rw [w64s (by omega) (by omega)]; omega
theorem wadd1 (i : Nat) (h : i < 4611686018427387904) : wrap64 ((i : Int) + 1) = ((i + 1 : Nat) : Int) := by rw [w64s (by omega) (by omega)]; omega
theorem wsub1 (i : Nat) (h : i < 4611686018427387904) (h0 : 0 < i) : wrap64 ((i : Int) - 1) = ((i - 1 : Nat) : Int) := by rw [w64s (by omega) (by omega)]; omega
theorem wid (i : Nat) (h : i < 4611686018427387904) : wrap64 (i : Int) = (i : Int) := w64s (by omega) (by omega)
def sgn (x y : Nat) : Int := if x = y then 0 else if x < y then -1 else 1
theorem take_snoc (l : List Int) (n : Nat) (h : n < l.length) : l.take (n + 1) = l.take n ++ [l.getD n 0] := by
 rw [List.take_succ_eq_append_getElem h, List.getD_eq_getElem?_getD, List.getElem?_eq_getElem h]
 rfl
theorem V_lt {B : Nat} (hB : 0 < B) {a b : List Int} (ha : Dig B a) (hb : Dig B b) : ∀ i : Nat, V B a i < V B b i → val B a < val B b
 | 0, h => h
 | i + 1, h => by
  refine V_lt hB ha hb i ?_
  rw [zdj B a i, zdj B b i]
  have h1 := (ha.get hB i)
  have h2 : B * (V B a (i + 1) + 1) ≤ B * V B b (i + 1) := Nat.mul_le_mul_left _ h
  rw [Nat.mul_add] at h2
  omega
theorem len_lt {B : Nat} (hB : 1 < B) {a b : List Int} (ha : Dig B a) (hb : Dig B b) (hg : Good b) (h : a.length < b.length) : val B a < val B b := by
 refine V_lt (by omega) ha hb (b.length - 1) ?_
 rw [V_end B (show a.length ≤ b.length - 1 by omega)]
 exact V_pos hB hb hg _ (by omega)
theorem val_set (B : Nat) : ∀ (l : List Int) (j : Nat) (v : Int), j < l.length → val B (l.set j v) + B ^ j * (l.getD j 0).toNat = val B l + B ^ j * v.toNat
 | [], j, v, h => by simp at h
 | x :: xs, 0, v, h => by
  simp [val]
  omega
 | x :: xs, j + 1, v, h => by
  have ih := val_set B xs j v (by simpa using h)
  rw [List.set_cons_succ, val, val, List.getD_cons_succ, Nat.pow_succ, Nat.mul_comm (B ^ j) B, Nat.mul_assoc, Nat.mul_assoc]
  have : B * (val B (xs.set j v) + B ^ j * (xs.getD j 0).toNat) = B * (val B xs + B ^ j * v.toNat) := by rw [ih]
  rw [Nat.mul_add, Nat.mul_add] at this
  omega
theorem dig_set {B : Nat} {l : List Int} (h : Dig B l) (j : Nat) {v : Int} (h0 : 0 ≤ v) (h1 : v < (B : Int)) : Dig B (l.set j v) := by
 intro x hx
 rcases List.mem_or_eq_of_mem_set hx with h2 | rfl
 ·
  exact h x h2
 ·
  exact ⟨h0, h1⟩
theorem getD_set_ne {l : List Int} {i j : Nat} {v : Int} (h : i ≠ j) : (l.set i v).getD j 0 = l.getD j 0 := by
 rw [List.getD_eq_getElem?_getD, List.getD_eq_getElem?_getD, List.getElem?_set_ne h]
theorem mul_val (X B o x y c vo vs V V' q r : Nat) (hs : vs + X * o = vo + X * r) (hV : V = y + B * V') (hd : o + x * y + c = B * q + r) : vs + X * B * q + X * B * (x * V') = vo + X * c + X * (x * V) := by
 have h1 : X * (o + x * y + c) = X * (B * q + r) := by rw [hd]
 rw [hV]
 simp only [Nat.mul_add] at h1 ⊢
 have e1 : X * B * q = X * (B * q) := Nat.mul_assoc _ _ _
 have e2 : X * B * (x * V') = X * (x * (B * V')) := by rw [Nat.mul_assoc, Nat.mul_left_comm B x V']
 rw [e1, e2]
 omega
theorem V_bound {B : Nat} (hB : 0 < B) {l : List Int} (h : Dig B l) (i : Nat) : V B l i < B ^ l.length := by
 have h1 : Dig B (l.drop i) := fun x hx => h x (List.mem_of_mem_drop hx)
 have h2 := val_lt _ h1
 refine Nat.lt_of_lt_of_le h2 (Nat.pow_le_pow_right hB ?_)
 rw [List.length_drop]
 omega
theorem Ev.mono {α : Type} {F : Nat → Option α} (h : ∀ k, LeO (F k) (F (k + 1))) {K : Nat} {r : α} (hK : F K = some r) : Ev F r := by
 refine ⟨K, fun k hk => ?_⟩
 obtain ⟨m, rfl⟩ : ∃ m, k = K + m := ⟨k - K, by omega⟩
 clear hk
 induction m with
 | zero => exact hK
 | succ m ih => exact h (K + m) r ih
theorem sgn_add (p q c : Nat) : sgn (p + c) (q + c) = sgn p q := by
 unfold sgn
 by_cases h1 : p = q
 ·
  rw [if_pos h1, if_pos (by omega)]
 ·
  rw [if_neg h1, if_neg (by omega)]
  by_cases h2 : p < q
  ·
   rw [if_pos h2, if_pos (by omega)]
  ·
   rw [if_neg h2, if_neg (by omega)]
theorem sgn_lt {p q : Nat} (h : p < q) : sgn p q = -1 := by rw [sgn, if_neg (by omega), if_pos h]
theorem sgn_gt {p q : Nat} (h : q < p) : sgn p q = 1 := by rw [sgn, if_neg (by omega), if_neg (by omega)]
theorem top_lt {B p q x y X : Nat} (hp : p < X) (h : x < y) : p + X * x < q + X * y := by
 have : X * (x + 1) ≤ X * y := Nat.mul_le_mul_left _ h
 rw [Nat.mul_add] at this
 omega
theorem revCmp_val {B : Nat} : ∀ (n : Nat) (a b : List Int), a.length = n → b.length = n → Dig B a → Dig B b → revCmp a.reverse b.reverse = sgn (val B a) (val B b)
 | 0, a, b, ha, hb, _, _ => by
  obtain rfl := List.length_eq_zero_iff.1 ha
  obtain rfl := List.length_eq_zero_iff.1 hb
  simp [revCmp, sgn, val]
 | n + 1, a, b, ha, hb, da, db => by
  rcases List.eq_nil_or_concat a with rfl | ⟨a', x, rfl⟩
  ·
   simp at ha
  rcases List.eq_nil_or_concat b with rfl | ⟨b', y, rfl⟩
  ·
   simp at hb
  rw [List.concat_eq_append] at ha hb da db ⊢
  rw [List.concat_eq_append]
  have ha' : a'.length = n := by simpa using ha
  have hb' : b'.length = n := by simpa using hb
  have da' : Dig B a' := fun z hz => da z (by simp [hz])
  have db' : Dig B b' := fun z hz => db z (by simp [hz])
  have hx := da x (by simp)
  have hy := db y (by simp)
  have va := val_lt a' da'
  have vb := val_lt b' db'
  rw [ha'] at va
  rw [hb'] at vb
  rw [List.reverse_append, List.reverse_append, val_append, val_append, ha', hb']
  simp only [List.reverse_cons, List.reverse_nil, List.nil_append, List.cons_append, val, Nat.mul_zero, Nat.add_zero]
  rw [revCmp]
  by_cases h1 : x = y
  ·
   rw [if_pos h1, revCmp_val n a' b' ha' hb' da' db', h1, sgn_add]
  ·
   rw [if_neg h1]
   by_cases h2 : x < y
   ·
    rw [if_pos h2, sgn_lt (top_lt (B := B) va (by omega))]
   ·
    rw [if_neg h2, sgn_gt (top_lt (B := B) vb (by omega))]
theorem less_val (X W d y bo x bo' vo T va vb : Nat) (h : vo + X * (x + W * va) = T + X * (y + W * vb + bo)) (hd : d + y + bo = x + W * bo') : vo + X * d + X * W * va = T + X * W * (vb + bo') := by
 have h1 : X * (d + y + bo) = X * (x + W * bo') := by rw [hd]
 have e1 : X * W * va = X * (W * va) := Nat.mul_assoc _ _ _
 have e2 : X * W * (vb + bo') = X * (W * vb) + X * (W * bo') := by rw [Nat.mul_assoc, Nat.mul_add, Nat.mul_add]
 rw [e1, e2]
 simp only [Nat.mul_add] at h h1
 omega
theorem dig_mono {B : Nat} (hB : 1 < B) {x y : Nat} (h : x ≤ y) : (dig B x).length ≤ (dig B y).length := by
 have h1 := val_lt _ (zda hB y)
 rw [zc5 hB] at h1
 exact dig_length hB _ x (Nat.lt_of_le_of_lt h h1)
theorem Ev.pos {α : Type} {c : Prop} [Decidable c] {F G : Nat → Option α} {r : α} (hc : c) (h : Ev F r) : Ev (fun k => if c then F k else G k) r := Ev.congr (fun k => if_pos hc) h
theorem Ev.neg {α : Type} {c : Prop} [Decidable c] {F G : Nat → Option α} {r : α} (hc : ¬ c) (h : Ev G r) : Ev (fun k => if c then F k else G k) r := Ev.congr (fun k => if_neg hc) h
theorem Ev.plain {α β : Type} {x : Option α} {y : α} {G : Nat → α → Option β} {r : β} (hx : x = some y) (h : Ev (fun k => G k y) r) : Ev (fun k => x.bind (G k)) r := by subst hx; exact h
theorem W_add {x y m : Nat} (hx : x < 18446744073709551616 ^ m) (hy : y < 18446744073709551616 ^ m) : x + y < 18446744073709551616 ^ (m + 1) := by
 rw [Nat.pow_succ]
 omega
theorem W_mul {x y m n : Nat} (hx : x < 18446744073709551616 ^ m) (hy : y < 18446744073709551616 ^ n) : x * y < 18446744073709551616 ^ (m + n) := by
 rw [Nat.pow_add]
 exact Nat.mul_lt_mul'' hx hy
theorem W_le {x m n : Nat} (hx : x < 18446744073709551616 ^ m) (h : m ≤ n) : x < 18446744073709551616 ^ n := Nat.lt_of_lt_of_le hx (Nat.pow_le_pow_right (by decide) h)
def goodB (l : List Int) : Bool := if l.length = 0 then true else l.getD (l.length - 1) 0 != 0
theorem nGood (l : List Int) (hl : l.length < 1000000000) : zc2.f l = some (goodB l) := by
 unfold zc2.f goodB
 by_cases h : l.length = 0
 ·
  rw [if_pos (by omega), if_pos h]
 ·
  rw [if_neg (by omega), if_neg h, wsub1 l.length (by omega) (by omega), if_pos (by omega), if_pos (by omega), rd_nat]
theorem goodB_iff (l : List Int) : goodB l = true ↔ Good l := by
 unfold goodB Good
 by_cases h : l.length = 0
 ·
  rw [if_pos h]
  simp [List.length_eq_zero_iff.1 h]
 ·
  rw [if_neg h]
  have : l ≠ [] := fun e => h (by rw [e]; rfl)
  simp [this]
theorem goodB_dig (n : Nat) : goodB (dig 18446744073709551616 n) = true := (goodB_iff _).2 (dig_last (by decide) n)
theorem ntrim_l0 : ∀ (n : Nat) (l : List Int), l.length = n → n < 1000000000 → Ev (fun k => zax.l0 k l) (strip l) := by
 intro n
 induction n with
 | zero =>
  intro l hl _
  obtain rfl := List.length_eq_zero_iff.1 hl
  refine Ev.step (G := fun _ => some []) (fun k => ?_) (Ev.const _)
  rw [zax.l0, if_neg (by simp)]
 | succ n ih =>
  intro l hl hn
  have e1 := Lib.hid (wsub1 l.length (by omega) (by omega))
  by_cases hz : l.getD n 0 = 0
  ·
   refine Ev.step (G := fun k => zax.l0 k (l.take n)) (fun k => ?_) ?_
   ·
    rw [zax.l0, if_pos (by omega), e1.out, hl, Nat.add_sub_cancel, if_pos (by omega), if_pos (by omega), rd_nat, if_pos hz, if_pos (by omega), Int.toNat_natCast]
   ·
    have e : strip l = strip (l.take n) := by
     have h2 := take_snoc l n (by omega)
     rw [hz, ← hl, List.take_length] at h2
     have h3 := strip_snoc0 (l.take n)
     rw [← h2] at h3
     exact h3
    rw [e]
    exact ih (l.take n) (by rw [List.length_take]; omega) (by omega)
  ·
   refine Ev.step (G := fun _ => some l) (fun k => ?_) ?_
   ·
    rw [zax.l0, if_pos (by omega), e1.out, hl, Nat.add_sub_cancel, if_pos (by omega), if_pos (by omega), rd_nat, if_neg hz]
   ·
    have h2 := take_snoc l n (by omega)
    rw [← hl, List.take_length] at h2
    have e : strip l = l := by
     have h3 := strip_snoc (l.take n) _ hz
     rw [← h2] at h3
     exact h3
    rw [e]
    exact Ev.const _
theorem ntrim (l : List Int) (hl : l.length < 1000000000) (h : Dig 18446744073709551616 l) : Ev (fun k => zax.f k l) (dig 18446744073709551616 (val 18446744073709551616 l)) := by
 rw [← strip_dig (by decide) l h]
 exact ntrim_l0 l.length l rfl hl
theorem nOf (n : Nat) (h : n < 18446744073709551616) : Ev (fun k => zcf.f k (n : Int)) (dig 18446744073709551616 n) := by
 have h1 := ntrim [(n : Int)] (by simp) (Dig.mk (by omega) (by omega) (Dig.nil _))
 rw [show val 18446744073709551616 [(n : Int)] = n by simp [val]] at h1
 exact Ev.bind h1 (Ev.const _)
theorem nAt (l : List Int) (i : Nat) : zci.f l (i : Int) = some (l.getD i 0) := by
 unfold zci.f
 by_cases h : i < l.length
 ·
  rw [if_neg (by omega), if_pos (by omega), if_pos (by omega), rd_nat]
 ·
  rw [if_pos (by omega), List.getD_eq_getElem?_getD, List.getElem?_eq_none (by omega)]
  rfl
theorem nCmp' (a b : List Int) (ha : Dig 18446744073709551616 a) (hb : Dig 18446744073709551616 b) (ga : Good a) (gb : Good b) : natCmp a b = sgn (val 18446744073709551616 a) (val 18446744073709551616 b) := by
 unfold natCmp
 by_cases h : a.length = b.length
 ·
  rw [if_pos h, revCmp_val a.length a b rfl h.symm ha hb]
 ·
  rw [if_neg h]
  by_cases h2 : a.length < b.length
  ·
   rw [if_pos h2, sgn_lt (len_lt (by decide) ha hb gb h2)]
  ·
   rw [if_neg h2, sgn_gt (len_lt (by decide) hb ha ga (by omega))]
theorem nCmp (x y : Nat) : zcv.f (dig 18446744073709551616 x) (dig 18446744073709551616 y) = some (sgn x y) := by
 unfold zcv.f
 rw [nCmp' _ _ (zda (by decide) x) (zda (by decide) y) (dig_last (by decide) x) (dig_last (by decide) y), zc5 (by decide), zc5 (by decide)]
theorem add64 (x y c : Nat) (hc : c ≤ 1) : bits_Add64.f (x : Int) (y : Int) (c : Int) = some ((((x + y + c) % 18446744073709551616 : Nat) : Int), (((x + y + c) / 18446744073709551616 : Nat) : Int)) := by
 unfold bits_Add64.f
 rw [if_pos (by omega)]
 simp only [Int.toNat_natCast]
theorem sub64 (x y c : Nat) (hc : c ≤ 1) : bits_Sub64.f (x : Int) (y : Int) (c : Int) = some ((((x + 18446744073709551616 - y - c) % 18446744073709551616 : Nat) : Int), (((if x < y + c then 1 else 0 : Nat)) : Int)) := by
 unfold bits_Sub64.f
 rw [if_pos (by omega)]
 simp only [Int.toNat_natCast]
def Le (n m : Nat) : Prop := (dig 18446744073709551616 n).length ≤ m
theorem sub_digit (x y bo va vb : Nat) (hx : x < 18446744073709551616) (hy : y < 18446744073709551616) (hbo : bo ≤ 1) (h : y + 18446744073709551616 * vb + bo ≤ x + 18446744073709551616 * va) :
  (x + 18446744073709551616 - y - bo) % 18446744073709551616 + y + bo = x + 18446744073709551616 * (if x < y + bo then 1 else 0) ∧ vb + (if x < y + bo then 1 else 0) ≤ va ∧ (if x < y + bo then 1 else 0) ≤ 1 := by
 split <;> refine ⟨?_, ?_, ?_⟩ <;> omega
theorem nLess_l0 (a b : List Int) (ha : Dig 18446744073709551616 a) (hb : Dig 18446744073709551616 b) (hs : a.length < 1000000) (hs' : b.length ≤ a.length) (T : Nat) : ∀ (m i bo : Nat) (out : List Int), i + m = a.length → bo ≤ 1 → out.length = a.length → Dig 18446744073709551616 out → (∀ p, i ≤ p → out.getD p 0 = 0) →
  V 18446744073709551616 b i + bo ≤ V 18446744073709551616 a i → val 18446744073709551616 out + 18446744073709551616 ^ i * V 18446744073709551616 a i = T + 18446744073709551616 ^ i * (V 18446744073709551616 b i + bo) →
  Ev (fun k => zbo.l0 k a b out (bo : Int) (a.length : Int) (i : Int)) (dig 18446744073709551616 T) := by
 intro m
 induction m with
 | zero =>
  intro i bo out hi hbo ho hd hz hle hT
  refine Ev.step (G := fun k => (zax.f k out).bind fun t307 => some t307) (fun k => ?_) ?_
  ·
   rw [zbo.l0, if_neg (by omega)]
  ·
   have h := ntrim out (by omega) hd
   rw [V_end _ (show a.length ≤ i by omega)] at hT hle
   have h0 : V 18446744073709551616 b i + bo = 0 := by omega
   rw [h0, Nat.mul_zero, Nat.add_zero, Nat.add_zero] at hT
   rw [hT] at h
   exact Ev.bind h (Ev.const _)
 | succ m ih =>
  intro i bo out hi hbo ho hd hz hle hT
  have ha1 := ha.get (show 0 < 18446744073709551616 by decide) i
  have hb1 := hb.get (show 0 < 18446744073709551616 by decide) i
  have hva := zdj 18446744073709551616 a i
  have hvb := zdj 18446744073709551616 b i
  obtain ⟨x, hx⟩ := Int.eq_ofNat_of_zero_le ha1.1
  obtain ⟨y, hy⟩ := Int.eq_ofNat_of_zero_le hb1.1
  rw [hx] at hva ha1
  rw [hy] at hvb hb1
  rw [Int.toNat_natCast] at hva hvb
  rw [hva, hvb] at hle hT
  obtain ⟨d1, d2, d3⟩ := sub_digit x y bo _ _ (by omega) (by omega) hbo hle
  have hset := val_set 18446744073709551616 out i (((x + 18446744073709551616 - y - bo) % 18446744073709551616 : Nat) : Int) (by omega)
  rw [hz i (Nat.le_refl _), Int.toNat_natCast, Int.toNat_zero, Nat.mul_zero, Nat.add_zero] at hset
  have hv := less_val _ _ _ _ _ _ _ _ _ _ _ hT d1
  rw [← hset, ← Nat.pow_succ] at hv
  have ih2 := ih (i + 1) (if x < y + bo then 1 else 0) (out.set i (((x + 18446744073709551616 - y - bo) % 18446744073709551616 : Nat) : Int)) (by omega) d3 (by rw [List.length_set]; exact ho) (dig_set hd _ (by omega) (by omega)) (fun p hp => by rw [getD_set_ne (by omega)]; exact hz p (by omega)) d2 hv
  have WA := Lib.hid (wadd1 i (by omega))
  have H2 := Lib.hid ih2
  clear ih2 hv hset d1 d2 d3 hT hle hva hvb
  refine Ev.step (fun k => ?_) H2.out
  rw [zbo.l0, if_pos (by omega), if_pos (by omega), if_pos (by omega), nAt, Option.bind_some, rd_nat, hx, hy, sub64 x y bo hbo, Option.bind_some, if_pos (by omega), WA.out, Int.toNat_natCast]
theorem nLess (x y : Nat) (hx : Le x 100000) (hy : y ≤ x) : Ev (fun k => zbo.f k (dig 18446744073709551616 x) (dig 18446744073709551616 y)) (dig 18446744073709551616 (x - y)) := by
 have hl := dig_mono (B := 18446744073709551616) (by decide) hy
 unfold Le at hx
 have dx := zda (B := 18446744073709551616) (by decide) x
 have dy := zda (B := 18446744073709551616) (by decide) y
 have vx := zc5 (B := 18446744073709551616) (by decide) x
 have vy := zc5 (B := 18446744073709551616) (by decide) y
 generalize dig 18446744073709551616 x = a at *
 generalize dig 18446744073709551616 y = b at *
 have h := nLess_l0 a b dx dy (by omega) hl (x - y) a.length 0 0 (List.replicate a.length 0) (by omega) (by omega) (by simp) (Dig.rep (by decide) _) (fun p _ => by
  rw [List.getD_eq_getElem?_getD, List.getElem?_replicate]
  split <;> rfl) (by rw [V_zero, V_zero, vx, vy]; omega) (by rw [V_zero, V_zero, vx, vy, zcr]; simp; omega)
 refine Ev.congr (fun k => ?_) h
 rw [zbo.f, if_pos (by omega), Int.toNat_natCast, if_pos (by omega)]
 rfl
theorem Le_lt {x m : Nat} (hx : x < 18446744073709551616 ^ m) (h : m ≤ 100000) : Le x 100000 := Nat.le_trans (dig_length (by decide) m x hx) h
theorem mul64_parts (x1 x0 y1 y0 : Nat) (h1 : x1 < 4294967296) (h2 : x0 < 4294967296) (h3 : y1 < 4294967296) (h4 : y0 < 4294967296) :
  x1 * y1 ≤ 18446744065119617025 ∧ x1 * y0 ≤ 18446744065119617025 ∧ x0 * y1 ≤ 18446744065119617025 ∧ x0 * y0 ≤ 18446744065119617025 ∧
  (4294967296 * x1 + x0) * (4294967296 * y1 + y0) = 18446744073709551616 * (x1 * y1) + 4294967296 * (x1 * y0) + 4294967296 * (x0 * y1) + x0 * y0 := by
 refine ⟨Nat.mul_le_mul (show x1 ≤ 4294967295 by omega) (show y1 ≤ 4294967295 by omega), Nat.mul_le_mul (show x1 ≤ 4294967295 by omega) (show y0 ≤ 4294967295 by omega), Nat.mul_le_mul (show x0 ≤ 4294967295 by omega) (show y1 ≤ 4294967295 by omega), Nat.mul_le_mul (show x0 ≤ 4294967295 by omega) (show y0 ≤ 4294967295 by omega), ?_⟩
 rw [Nat.add_mul, Nat.mul_add, Nat.mul_add]
 have e1 : 4294967296 * x1 * (4294967296 * y1) = 18446744073709551616 * (x1 * y1) := by
  rw [Nat.mul_mul_mul_comm]
 have e2 : 4294967296 * x1 * y0 = 4294967296 * (x1 * y0) := Nat.mul_assoc _ _ _
 have e3 : x0 * (4294967296 * y1) = 4294967296 * (x0 * y1) := Nat.mul_left_comm _ _ _
 rw [e1, e2, e3]
 omega
theorem mul64_hi (x y P a b c d : Nat) (hP : P = 18446744073709551616 * a + 4294967296 * b + 4294967296 * c + d) (ha : a ≤ 18446744065119617025) (hb : b ≤ 18446744065119617025) (hc : c ≤ 18446744065119617025) (hd : d ≤ 18446744065119617025) :
  a + (b + d / 4294967296) / 4294967296 + ((b + d / 4294967296) % 4294967296 + c) / 4294967296 = P / 18446744073709551616 := by
 omega
theorem mul64 (x y : Nat) (hx : x < 18446744073709551616) (hy : y < 18446744073709551616) : bits_Mul64.f (x : Int) (y : Int) = some (((x * y / 18446744073709551616 : Nat) : Int), ((x * y % 18446744073709551616 : Nat) : Int)) := by
 unfold bits_Mul64.f
 rw [and32 (by omega) (by omega), and32 (by omega) (by omega)]
 obtain ⟨b1, b2, b3, b4, e⟩ := mul64_parts (x / 4294967296) (x % 4294967296) (y / 4294967296) (y % 4294967296) (by omega) (by omega) (by omega) (by omega)
 rw [show 4294967296 * (x / 4294967296) + x % 4294967296 = x by omega, show 4294967296 * (y / 4294967296) + y % 4294967296 = y by omega] at e
 have c1 : (x : Int) / 4294967296 = ((x / 4294967296 : Nat) : Int) := by omega
 have c2 : (y : Int) / 4294967296 = ((y / 4294967296 : Nat) : Int) := by omega
 have c3 : (x : Int) % 4294967296 = ((x % 4294967296 : Nat) : Int) := by omega
 have c4 : (y : Int) % 4294967296 = ((y % 4294967296 : Nat) : Int) := by omega
 rw [c1, c2, c3, c4]
 have cm : ∀ p q : Nat, (p : Int) * (q : Int) = ((p * q : Nat) : Int) := fun p q => by simp
 rw [cm, cm, cm, cm, cm]
 have hh := mul64_hi x y _ _ _ _ _ e b1 b2 b3 b4
 generalize x / 4294967296 * (y / 4294967296) = a at *
 generalize x / 4294967296 * (y % 4294967296) = b at *
 generalize x % 4294967296 * (y / 4294967296) = c at *
 generalize x % 4294967296 * (y % 4294967296) = d at *
 generalize x * y = P at *
 clear c1 c2 c3 c4 cm
 have e1 : IntKind.u64.wrap (d : Int) = (d : Int) := u64s (by omega) (by omega)
 have e2 : IntKind.u64.wrap (b : Int) = (b : Int) := u64s (by omega) (by omega)
 have e3 : IntKind.u64.wrap (c : Int) = (c : Int) := u64s (by omega) (by omega)
 have e4 : IntKind.u64.wrap (a : Int) = (a : Int) := u64s (by omega) (by omega)
 have e5 : IntKind.u64.wrap ((b : Int) + (d : Int) / 4294967296) = ((b + d / 4294967296 : Nat) : Int) := by rw [u64s (by omega) (by omega)]; omega
 rw [e1, e2, e3, e4, e5]
 clear e1 e2 e3 e4 e5
 generalize ht : b + d / 4294967296 = t at *
 rw [and32 (by omega) (by omega)]
 have e6 : IntKind.u64.wrap ((t : Int) % 4294967296 + (c : Int)) = ((t % 4294967296 + c : Nat) : Int) := by rw [u64s (by omega) (by omega)]; omega
 rw [e6]
 clear e6
 have e7 : IntKind.u64.wrap ((a : Int) + (t : Int) / 4294967296) = ((a + t / 4294967296 : Nat) : Int) := by rw [u64s (by omega) (by omega)]; omega
 rw [e7]
 clear e7
 have e8 : IntKind.u64.wrap (((a + t / 4294967296 : Nat) : Int) + ((t % 4294967296 + c : Nat) : Int) / 4294967296) = ((a + t / 4294967296 + (t % 4294967296 + c) / 4294967296 : Nat) : Int) := by rw [u64s (by omega) (by omega)]; omega
 rw [e8, hh]
 clear e8
 have e9 : IntKind.u64.wrap (P : Int) = ((P % 18446744073709551616 : Nat) : Int) := by rw [u64w]; omega
 rw [e9]
theorem mul_step (x y o c : Nat) (hx : x < 18446744073709551616) (hy : y < 18446744073709551616) (ho : o < 18446744073709551616) (hc : c < 18446744073709551616) :
  ∃ s q c1 c2 : Nat, s < 18446744073709551616 ∧ q < 18446744073709551616 ∧ o + x * y + c = 18446744073709551616 * q + s ∧
   (x * y % 18446744073709551616 + o + 0) / 18446744073709551616 = c1 ∧ ((x * y % 18446744073709551616 + o + 0) % 18446744073709551616 + c + 0) / 18446744073709551616 = c2 ∧ ((x * y % 18446744073709551616 + o + 0) % 18446744073709551616 + c + 0) % 18446744073709551616 = s ∧
   IntKind.u64.wrap (IntKind.u64.wrap (((x * y / 18446744073709551616 : Nat) : Int) + (c1 : Int)) + (c2 : Int)) = (q : Int) := by
 have hb : x * y ≤ 18446744073709551615 * 18446744073709551615 := Nat.mul_le_mul (by omega) (by omega)
 generalize x * y = P at *
 refine ⟨_, (o + P + c) / 18446744073709551616, _, _, ?_, ?_, ?_, rfl, rfl, rfl, ?_⟩
 ·
  omega
 ·
  omega
 ·
  omega
 ·
  rw [u64s (x := ((P / 18446744073709551616 : Nat) : Int) + (((P % 18446744073709551616 + o + 0) / 18446744073709551616 : Nat) : Int)) (by omega) (by omega), u64s (by omega) (by omega)]
  omega
theorem nMul_l1 (b : List Int) (hb : Dig 18446744073709551616 b) (x la : Nat) (a : List Int) (hla : a.length = la) (hs : la < 1000000) (hs' : b.length < 1000000) (hx : x < 18446744073709551616) (i : Nat) (hi : i < la) : ∀ (m j c : Nat) (out : List Int), j + m = b.length → c < 18446744073709551616 → Dig 18446744073709551616 out → out.length = la + b.length →
  ∃ (out' : List Int) (c' : Nat), Dig 18446744073709551616 out' ∧ out'.length = la + b.length ∧ c' < 18446744073709551616 ∧ (∀ p, i + b.length ≤ p → out'.getD p 0 = out.getD p 0) ∧
   val 18446744073709551616 out' + 18446744073709551616 ^ (i + b.length) * c' = val 18446744073709551616 out + 18446744073709551616 ^ (i + j) * c + 18446744073709551616 ^ (i + j) * (x * V 18446744073709551616 b j) ∧
   ∀ r, Ev (fun k => za9.l1 k b out' (i : Int) (x : Int) (c' : Int) a (la : Int) (i : Int) b (b.length : Int) (b.length : Int)) r → Ev (fun k => za9.l1 k b out (i : Int) (x : Int) (c : Int) a (la : Int) (i : Int) b (b.length : Int) (j : Int)) r := by
 intro m
 induction m with
 | zero =>
  intro j c out hj hc hd hl
  obtain rfl : j = b.length := by omega
  refine ⟨out, c, hd, hl, hc, fun _ _ => rfl, ?_, fun r h => h⟩
  rw [V_end _ (Nat.le_refl _)]
  simp
 | succ m ih =>
  intro j c out hj hc hd hl
  have hy := hb.get (show 0 < 18446744073709551616 by decide) j
  have ho := hd.get (show 0 < 18446744073709551616 by decide) (i + j)
  have hv := zdj 18446744073709551616 b j
  obtain ⟨y, hy'⟩ := Int.eq_ofNat_of_zero_le hy.1
  obtain ⟨o, ho'⟩ := Int.eq_ofNat_of_zero_le ho.1
  rw [hy'] at hy hv
  rw [ho'] at ho
  rw [Int.toNat_natCast] at hv
  obtain ⟨s, q, c1, c2, s1, s2, s3, s4, s5, s6, s7⟩ := mul_step x y o c hx (by omega) (by omega) hc
  have S7 := Lib.hid s7
  have S4 := Lib.hid s4
  have S5 := Lib.hid s5
  have S6 := Lib.hid s6
  clear s4 s5 s6 s7
  have hset := val_set 18446744073709551616 out (i + j) (s : Int) (by omega)
  rw [ho', Int.toNat_natCast, Int.toNat_natCast] at hset
  obtain ⟨out', c', h1, h2, h3, h4, h5, h6⟩ := ih (j + 1) q (out.set (i + j) (s : Int)) (by omega) s2 (dig_set hd _ (by omega) (by omega)) (by rw [List.length_set]; exact hl)
  have hmv := mul_val (18446744073709551616 ^ (i + j)) 18446744073709551616 o x y c _ _ _ _ _ _ hset hv s3
  have HMV := Lib.hid hmv
  have H5 := Lib.hid h5
  clear hmv h5 hset hv s3
  have EJ := Lib.hid (wadd i j (by omega))
  have EK := Lib.hid (wadd1 j (by omega))
  refine ⟨out', c', h1, h2, h3, fun p hp => ?_, ?_, fun r hr => ?_⟩
  ·
   rw [h4 p hp, getD_set_ne (by omega)]
  ·
   rw [H5.out, show i + (j + 1) = i + j + 1 by omega, Nat.pow_succ]
   exact HMV.out
  ·
   refine Ev.step (fun k => ?_) (h6 r hr)
   have a1 := add64 (x * y % 18446744073709551616) o 0 (by omega)
   have a2 := add64 ((x * y % 18446744073709551616 + o + 0) % 18446744073709551616) c 0 (by omega)
   rw [S4.out] at a1
   rw [S5.out, S6.out] at a2
   have A1 := Lib.hid a1
   have A2 := Lib.hid a2
   clear a1 a2
   rw [za9.l1, if_pos (by omega), if_pos (by omega), if_pos (by omega), rd_nat, hy', mul64 x y hx (by omega), Option.bind_some, EJ.out, if_pos (by omega), if_pos (by omega), rd_nat, ho']
   rw [show (0 : Int) = ((0 : Nat) : Int) from rfl, A1.out, Option.bind_some, A2.out, Option.bind_some, S7.out, EK.out, Int.toNat_natCast]
theorem nMul_l0 (a b : List Int) (ha : Dig 18446744073709551616 a) (hb : Dig 18446744073709551616 b) (hs : a.length < 1000000) (hs' : b.length < 1000000) : ∀ (m i : Nat) (out : List Int), i + m = a.length → Dig 18446744073709551616 out → out.length = a.length + b.length → (∀ p, i + b.length ≤ p → out.getD p 0 = 0) →
  Ev (fun k => za9.l0 k b out a (a.length : Int) (i : Int)) (dig 18446744073709551616 (val 18446744073709551616 out + 18446744073709551616 ^ i * (V 18446744073709551616 a i * val 18446744073709551616 b))) := by
 intro m
 induction m with
 | zero =>
  intro i out hi hd hl hz
  refine Ev.step (G := fun k => (zax.f k out).bind fun t190 => some t190) (fun k => ?_) ?_
  ·
   rw [za9.l0, if_neg (by omega)]
  ·
   rw [V_end _ (by omega), Nat.zero_mul, Nat.mul_zero, Nat.add_zero]
   exact Ev.bind (ntrim out (by omega) hd) (Ev.const _)
 | succ m ih =>
  intro i out hi hd hl hz
  have hg := ha.get (show 0 < 18446744073709551616 by decide) i
  obtain ⟨x, hx⟩ := Int.eq_ofNat_of_zero_le hg.1
  rw [hx] at hg
  obtain ⟨out', c', h1, h2, h3, h4, h5, h6⟩ := nMul_l1 b hb x a.length a rfl hs hs' (by omega) i (by omega) b.length 0 0 out (by omega) (by omega) hd hl
  have hz' := (h4 (i + b.length) (Nat.le_refl _)).trans (hz _ (Nat.le_refl _))
  have hset := val_set 18446744073709551616 out' (i + b.length) (c' : Int) (by omega)
  rw [hz', Int.toNat_natCast] at hset
  have ih2 := ih (i + 1) (out'.set (i + b.length) (c' : Int)) (by omega) (dig_set h1 _ (by omega) (by omega)) (by rw [List.length_set]; exact h2) (fun p hp => by
   rw [getD_set_ne (by omega), h4 p (by omega), hz p (by omega)])
  have EI := Lib.hid (wadd i b.length (by omega))
  have EI1 := Lib.hid (wadd1 i (by omega))
  have hva := zdj 18446744073709551616 a i
  rw [hx, Int.toNat_natCast] at hva
  have hval : val 18446744073709551616 out + 18446744073709551616 ^ i * (V 18446744073709551616 a i * val 18446744073709551616 b) = val 18446744073709551616 (out'.set (i + b.length) (c' : Int)) + 18446744073709551616 ^ (i + 1) * (V 18446744073709551616 a (i + 1) * val 18446744073709551616 b) := by
   rw [hva, Nat.add_mul, Nat.mul_add, Nat.pow_succ, Nat.mul_assoc 18446744073709551616, ← Nat.mul_assoc (18446744073709551616 ^ i) 18446744073709551616]
   rw [V_zero, Nat.add_zero, Nat.mul_zero, Nat.add_zero] at h5
   simp only [Int.toNat_zero, Nat.mul_zero, Nat.add_zero] at hset
   omega
  rw [hval]
  refine Ev.step (G := fun k => za9.l1 k b out (i : Int) (x : Int) 0 a (a.length : Int) (i : Int) b (b.length : Int) 0) (fun k => ?_) (h6 _ ?_)
  ·
   rw [za9.l0, if_pos (by omega), if_pos (by omega), if_pos (by omega), rd_nat, hx]
  ·
   refine Ev.step (fun k => ?_) ih2
   rw [za9.l1, if_neg (by omega), EI.out, if_pos (by omega), if_pos (by omega), EI1.out, Int.toNat_natCast]
theorem nMul (x y : Nat) (hx : Le x 100000) (hy : Le y 100000) : Ev (fun k => za9.f k (dig 18446744073709551616 x) (dig 18446744073709551616 y)) (dig 18446744073709551616 (x * y)) := by
 unfold Le at hx hy
 have dx := zda (B := 18446744073709551616) (by decide) x
 have dy := zda (B := 18446744073709551616) (by decide) y
 have vx := zc5 (B := 18446744073709551616) (by decide) x
 have vy := zc5 (B := 18446744073709551616) (by decide) y
 generalize dig 18446744073709551616 x = a at *
 generalize dig 18446744073709551616 y = b at *
 have h := nMul_l0 a b dx dy (by omega) (by omega) a.length 0 (List.replicate (a.length + b.length) 0) (by omega) (Dig.rep (by omega) _) (by simp) (fun p _ => by
  rw [List.getD_eq_getElem?_getD, List.getElem?_replicate]
  split <;> rfl)
 rw [V_zero, zcr, vx, vy, Nat.pow_zero, Nat.one_mul, Nat.zero_add] at h
 refine Ev.congr (fun k => ?_) h
 rw [za9.f, wadd a.length b.length (by omega), if_pos (by omega), Int.toNat_natCast, if_pos (by omega)]
 rfl
theorem nLong (x : Nat) (hx : Le x 100000) : ∃ L : Nat, zcn.f (dig 18446744073709551616 x) = some (L : Int) ∧ L ≤ 64 * (dig 18446744073709551616 x).length ∧ x < 2 ^ L ∧ (x ≠ 0 → 1 ≤ L ∧ 2 ^ (L - 1) ≤ x) := by
 unfold Le at hx
 by_cases h0 : x = 0
 ·
  subst h0
  refine ⟨0, ?_, by omega, by decide, fun h => absurd rfl h⟩
  rw [zcu]
  rfl
 ·
  have hne := dig_ne (B := 18446744073709551616) (by decide) h0
  have hd := zda (B := 18446744073709551616) (by decide) x
  have hv := zc5 (B := 18446744073709551616) (by decide) x
  have hg := dig_last (B := 18446744073709551616) (by decide) x
  generalize dig 18446744073709551616 x = l at *
  rcases List.eq_nil_or_concat l with rfl | ⟨ys, y, rfl⟩
  ·
   exact absurd rfl hne
  rw [List.concat_eq_append] at *
  have hy := hd y (by simp)
  have hys : Dig 18446744073709551616 ys := fun z hz => hd z (by simp [hz])
  have hlt := val_lt ys hys
  obtain ⟨t, rfl⟩ := Int.eq_ofNat_of_zero_le hy.1
  have ht : t ≠ 0 := by
   rcases hg with hg | hg
   ·
    simp at hg
   ·
    intro e
    subst e
    simp at hg
  have ht2 : t < 18446744073709551616 := by omega
  obtain ⟨b1, b2, b3⟩ := Lib.bitLenAux_bounds 64 t (by omega) (by omega)
  have b4 := Lib.bitLen_le t 64 (by omega) (by omega)
  have hb : Lib.bitLen t = Lib.bitLenAux 64 t := rfl
  rw [← hb] at b1 b2 b3
  generalize hbl : Lib.bitLen t = bl at *
  have hlen : (ys ++ [(t : Int)]).length = ys.length + 1 := by simp
  rw [val_append] at hv
  simp only [val, Int.toNat_natCast, Nat.mul_zero, Nat.add_zero] at hv
  have hW : (18446744073709551616 : Nat) ^ ys.length = 2 ^ (64 * ys.length) := by rw [Nat.pow_mul]
  rw [hW] at hv hlt
  refine ⟨64 * ys.length + bl, ?_, by rw [hlen]; omega, ?_, fun _ => ⟨by omega, ?_⟩⟩
  ·
   unfold zcn.f
   rw [hlen] at hx ⊢
   rw [if_neg (by omega), wsub1 (ys.length + 1) (by omega) (by omega), if_pos (by omega), if_pos (by omega), rd_nat, Nat.add_sub_cancel]
   have e : (ys ++ [(t : Int)]).getD ys.length 0 = (t : Int) := by simp
   rw [e]
   unfold bits_Len64.f
   rw [if_pos (by omega), if_pos (by omega), Int.toNat_natCast, hbl]
   show some (wrap64 (wrap64 (64 * (ys.length : Int)) + (bl : Int))) = _
   rw [w64s (x := 64 * (ys.length : Int)) (by omega) (by omega), w64s (by omega) (by omega)]
   congr 1
  ·
   rw [Nat.pow_add, ← hv]
   have : 2 ^ (64 * ys.length) * (t + 1) ≤ 2 ^ (64 * ys.length) * 2 ^ bl := Nat.mul_le_mul_left _ b3
   rw [Nat.mul_add] at this
   omega
  ·
   rw [show 64 * ys.length + bl - 1 = 64 * ys.length + (bl - 1) by omega, Nat.pow_add, ← hv]
   have : 2 ^ (64 * ys.length) * 2 ^ (bl - 1) ≤ 2 ^ (64 * ys.length) * t := Nat.mul_le_mul_left _ b2
   omega
theorem shift_digit (x c r : Nat) (hr : r < 64) (hx : x < 18446744073709551616) (hc : c < 2 ^ r) :
  ∃ d c' : Nat, d < 18446744073709551616 ∧ c' < 2 ^ r ∧ 2 ^ r * x + c = 18446744073709551616 * c' + d ∧ Go.bits .or .u64 (shl .u64 (x : Int) (r : Int)) (c : Int) = (d : Int) ∧ shr .u64 (x : Int) (wrap64 (64 - (r : Int))) = (c' : Int) := by
 have hp : 0 < 2 ^ r := Nat.two_pow_pos r
 have hq : 0 < 2 ^ (64 - r) := Nat.two_pow_pos _
 have hpq : 2 ^ r * 2 ^ (64 - r) = 18446744073709551616 := by
  rw [← Nat.pow_add, show r + (64 - r) = 64 by omega]
 have hm := Nat.mod_add_div x (2 ^ (64 - r))
 have hml := Nat.mod_lt x hq
 have h1 : 2 ^ r * (x % 2 ^ (64 - r)) + 2 ^ r ≤ 18446744073709551616 := by
  rw [← hpq, ← Nat.mul_succ]
  exact Nat.mul_le_mul_left _ hml
 have h2 : 2 ^ r * x = 18446744073709551616 * (x / 2 ^ (64 - r)) + 2 ^ r * (x % 2 ^ (64 - r)) := by
  rw [← hpq, Nat.mul_assoc, ← Nat.mul_add, Nat.add_comm, hm]
 have h3 : x / 2 ^ (64 - r) < 2 ^ r := by
  rw [Nat.div_lt_iff_lt_mul hq, hpq]
  exact hx
 have hsl : shl .u64 (x : Int) (r : Int) = ((2 ^ r * (x % 2 ^ (64 - r)) : Nat) : Int) := by
  unfold shl
  rw [show min ((r : Int)).toNat IntKind.u64.bits = r by simp [IntKind.bits] <;> omega, u64w]
  have e : (x : Int) * 2 ^ r = ((2 ^ r * x : Nat) : Int) := by rw [Int.natCast_mul, Int.mul_comm]; simp
  rw [e, h2]
  omega
 refine ⟨2 ^ r * (x % 2 ^ (64 - r)) + c, x / 2 ^ (64 - r), by omega, h3, by omega, ?_, ?_⟩
 ·
  rw [hsl]
  exact orAdd hc (by omega)
 ·
  have ew : wrap64 (64 - (r : Int)) = ((64 - r : Nat) : Int) := by rw [w64s (by omega) (by omega)]; omega
  rw [ew]
  unfold shr
  rw [Int.toNat_natCast, show min (64 - r) IntKind.u64.bits = 64 - r by simp [IntKind.bits] <;> omega]
  simp
theorem shift_val (X W r2 x c c' d va' : Nat) (T vo : Nat) (h : vo + X * c + X * (r2 * (x + W * va')) = T) (hd : r2 * x + c = W * c' + d) : vo + X * d + X * W * c' + X * W * (r2 * va') = T := by
 have h1 : X * (r2 * x + c) = X * (W * c' + d) := by rw [hd]
 have e1 : X * W * c' = X * (W * c') := Nat.mul_assoc _ _ _
 have e2 : X * W * (r2 * va') = X * (r2 * (W * va')) := by rw [Nat.mul_assoc, Nat.mul_left_comm W]
 rw [e1, e2]
 simp only [Nat.mul_add] at h h1
 omega
theorem nShifted_l0 (a : List Int) (ha : Dig 18446744073709551616 a) (hs : a.length < 1000000) (n r q T : Nat) (hn : n < 100000000) (hr : r = n % 64) (hq : q < 100000000) : ∀ (m i c : Nat) (out : List Int), i + m = a.length → c < 2 ^ r → Dig 18446744073709551616 out → out.length = q + i →
  val 18446744073709551616 out + 18446744073709551616 ^ (q + i) * c + 18446744073709551616 ^ (q + i) * (2 ^ r * V 18446744073709551616 a i) = T →
  Ev (fun k => zat.l0 k (n : Int) out (c : Int) a (a.length : Int) (i : Int)) (dig 18446744073709551616 T) := by
 have hr64 : r < 64 := by omega
 have hp64 : 2 ^ r < 18446744073709551616 := by
  have : 2 ^ r < 2 ^ 64 := Nat.pow_lt_pow_right (by decide) hr64
  omega
 have et : Int.tmod (n : Int) 64 = (r : Int) := by
  rw [Int.tmod_eq_emod_of_nonneg (by omega)]
  omega
 have ET := Lib.hid et
 clear et
 intro m
 induction m with
 | zero =>
  intro i c out hi hc hd hl hT
  refine Ev.step (G := fun k => (zax.f k (out ++ [(c : Int)])).bind fun t479 => some t479) (fun k => ?_) ?_
  ·
   rw [zat.l0, if_neg (by omega), if_pos (by omega)]
  ·
   have h := ntrim (out ++ [(c : Int)]) (by rw [List.length_append, List.length_singleton]; omega) (hd.app (Dig.mk (by omega) (by omega) (Dig.nil _)))
   rw [val_append, hl] at h
   simp only [val, Int.toNat_natCast, Nat.mul_zero, Nat.add_zero] at h
   rw [V_end _ (show a.length ≤ i by omega), Nat.mul_zero, Nat.mul_zero, Nat.add_zero] at hT
   rw [hT] at h
   exact Ev.bind h (Ev.const _)
 | succ m ih =>
  intro i c out hi hc hd hl hT
  have hg := ha.get (show 0 < 18446744073709551616 by decide) i
  obtain ⟨x, hx⟩ := Int.eq_ofNat_of_zero_le hg.1
  rw [hx] at hg
  have hva := zdj 18446744073709551616 a i
  rw [hx, Int.toNat_natCast] at hva
  rw [hva] at hT
  obtain ⟨d, c', h1, h2, h3, h4, h5⟩ := shift_digit x c r hr64 (by omega) hc
  have hv := shift_val _ _ _ _ _ _ _ _ _ _ hT h3
  have hval : val 18446744073709551616 (out ++ [(d : Int)]) = val 18446744073709551616 out + 18446744073709551616 ^ (q + i) * d := by
   rw [val_append, hl]
   simp [val]
  rw [← hval, ← Nat.pow_succ] at hv
  have H4 := Lib.hid h4
  have H5 := Lib.hid h5
  clear h4 h5 h3 hT hva hval
  have ih2 := ih (i + 1) c' (out ++ [(d : Int)]) (by omega) h2 (hd.app (Dig.mk (by omega) (by omega) (Dig.nil _))) (by rw [List.length_append, hl]; rfl) hv
  have H2 := Lib.hid ih2
  have WA := Lib.hid (wadd1 i (by omega))
  have ew := Lib.hid (show (0 : Int) ≤ wrap64 (64 - (r : Int)) by rw [w64s (by omega) (by omega)]; omega)
  clear ih2 hv
  refine Ev.step (fun k => ?_) H2.out
  rw [zat.l0, if_pos (by omega), if_pos (by omega), if_pos (by omega), ET.out, if_pos (by omega), if_pos (by omega), if_pos ew.out, rd_nat, hx, H4.out, H5.out, WA.out]
theorem nShifted (x n : Nat) (hx : Le x 100000) (hn : n < 10000000) : Ev (fun k => zat.f k (dig 18446744073709551616 x) (n : Int)) (dig 18446744073709551616 (x * 2 ^ n)) := by
 unfold Le at hx
 have dx := zda (B := 18446744073709551616) (by decide) x
 have vx := zc5 (B := 18446744073709551616) (by decide) x
 generalize dig 18446744073709551616 x = a at *
 have hW : 18446744073709551616 ^ (n / 64) * (2 ^ (n % 64) * x) = x * 2 ^ n := by
  have e : (18446744073709551616 : Nat) ^ (n / 64) = 2 ^ (64 * (n / 64)) := by rw [Nat.pow_mul]
  rw [e, ← Nat.mul_assoc, ← Nat.pow_add, show 64 * (n / 64) + n % 64 = n by omega, Nat.mul_comm]
 have h := nShifted_l0 a dx (by omega) n (n % 64) (n / 64) (x * 2 ^ n) (by omega) rfl (by omega) a.length 0 0 (List.replicate (n / 64) 0) (by omega) (Nat.two_pow_pos _) (Dig.rep (by decide) _) (by simp) (by
  rw [zcr, V_zero, vx, Nat.mul_zero, Nat.add_zero, Nat.zero_add]
  exact hW)
 refine Ev.congr (fun k => ?_) h
 have e1 : wrap64 (Int.tdiv (n : Int) 64) = ((n / 64 : Nat) : Int) := by
  rw [Int.tdiv_eq_ediv_of_nonneg (by omega), w64s (by omega) (by omega)]
  omega
 rw [zat.f, e1, wadd (n / 64) a.length (by omega), wadd1 (n / 64 + a.length) (by omega)]
 clear e1
 rw [if_pos (by omega), if_pos (by omega), Int.toNat_natCast, Int.toNat_natCast, if_pos (by omega)]
 rfl
def Free (l : List Int) (m : Nat) : Prop := ∀ p, ∃ z : Nat, l.getD p 0 = ((2 ^ (min 64 (m - 64 * p)) * z : Nat) : Int)
theorem Free.zero (n m : Nat) : Free (List.replicate n 0) m := fun p => ⟨0, by
 rw [List.getD_eq_getElem?_getD, List.getElem?_replicate]
 split <;> simp⟩
theorem Free.less {l : List Int} {m m' : Nat} (h : Free l m) (hm : m' ≤ m) : Free l m' := fun p => by
 obtain ⟨z, hz⟩ := h p
 refine ⟨2 ^ (min 64 (m - 64 * p) - min 64 (m' - 64 * p)) * z, ?_⟩
 rw [hz, ← Nat.mul_assoc, ← Nat.pow_add]
 congr 3
 omega
theorem set_bit (l : List Int) (hd : Dig 18446744073709551616 l) (n : Nat) (h : Free l (n + 1)) (hn : n / 64 < l.length) :
  ∃ o : Nat, Go.bits .or .u64 (l.getD (n / 64) 0) (shl .u64 1 ((n % 64 : Nat) : Int)) = (o : Int) ∧ o < 18446744073709551616 ∧ Free (l.set (n / 64) (o : Int)) n ∧ val 18446744073709551616 (l.set (n / 64) (o : Int)) = val 18446744073709551616 l + 2 ^ n := by
 obtain ⟨z, hz⟩ := h (n / 64)
 have hr : n % 64 < 64 := Nat.mod_lt _ (by decide)
 rw [show min 64 (n + 1 - 64 * (n / 64)) = n % 64 + 1 by omega] at hz
 have hg := hd.get (show 0 < 18446744073709551616 by decide) (n / 64)
 rw [hz] at hg
 have hp : 0 < 2 ^ (n % 64) := Nat.two_pow_pos _
 have hp2 : 2 ^ (n % 64 + 1) = 2 * 2 ^ (n % 64) := by rw [Nat.pow_succ, Nat.mul_comm]
 have hp64 : 2 ^ (n % 64 + 1) ≤ 18446744073709551616 := by
  have : 2 ^ (n % 64 + 1) ≤ 2 ^ 64 := Nat.pow_le_pow_right (by decide) hr
  omega
 have hsl : shl .u64 1 ((n % 64 : Nat) : Int) = ((2 ^ (n % 64) : Nat) : Int) := by
  unfold shl
  rw [Int.toNat_natCast, show min (n % 64) IntKind.u64.bits = n % 64 by simp [IntKind.bits] <;> omega, Int.one_mul]
  have e : (2 : Int) ^ (n % 64) = ((2 ^ (n % 64) : Nat) : Int) := by simp
  rw [e, u64s (by omega) (by omega)]
 have hlt : 2 ^ (n % 64 + 1) * z + 2 ^ (n % 64) < 18446744073709551616 := by
  have h64 : 2 ^ (n % 64 + 1) * 2 ^ (63 - n % 64) = 18446744073709551616 := by
   rw [← Nat.pow_add, show n % 64 + 1 + (63 - n % 64) = 64 by omega]
  have h1 : 2 ^ (n % 64 + 1) * z < 2 ^ (n % 64 + 1) * 2 ^ (63 - n % 64) := by rw [h64]; omega
  have h2 : z < 2 ^ (63 - n % 64) := Nat.lt_of_mul_lt_mul_left h1
  have h3 : 2 ^ (n % 64 + 1) * (z + 1) ≤ 18446744073709551616 := by rw [← h64]; exact Nat.mul_le_mul_left _ h2
  rw [Nat.mul_add] at h3
  omega
 refine ⟨2 ^ (n % 64 + 1) * z + 2 ^ (n % 64), ?_, hlt, fun p => ?_, ?_⟩
 ·
  rw [hz, hsl]
  exact orAdd (by omega) hlt
 ·
  by_cases hp1 : p = n / 64
  ·
   subst hp1
   refine ⟨2 * z + 1, ?_⟩
   rw [List.getD_eq_getElem?_getD, List.getElem?_set_self hn, show min 64 (n - 64 * (n / 64)) = n % 64 by omega]
   show (((2 ^ (n % 64 + 1) * z + 2 ^ (n % 64) : Nat)) : Int) = _
   congr 1
   rw [hp2, Nat.mul_add, Nat.mul_one, ← Nat.mul_assoc, Nat.mul_comm (2 ^ (n % 64)) 2]
  ·
   rw [getD_set_ne (Ne.symm hp1)]
   exact h.less (by omega) p
 ·
  have hs := val_set 18446744073709551616 l (n / 64) ((2 ^ (n % 64 + 1) * z + 2 ^ (n % 64) : Nat) : Int) hn
  rw [hz, Int.toNat_natCast, Int.toNat_natCast, Nat.mul_add] at hs
  have hW : 18446744073709551616 ^ (n / 64) * 2 ^ (n % 64) = 2 ^ n := by
   have e : (18446744073709551616 : Nat) ^ (n / 64) = 2 ^ (64 * (n / 64)) := by rw [Nat.pow_mul]
   rw [e, ← Nat.pow_add, show 64 * (n / 64) + n % 64 = n by omega]
  omega
theorem nDiv_l0 (x y : Nat) (hy : 0 < y) (hx : Le x 100000) (hyl : Le y 100000) : ∀ (m : Nat) (l : Nat) (out : List Int), m < 10000000 → l ≤ x → l < y * 2 ^ m → out.length = (dig 18446744073709551616 x).length → m ≤ 64 * out.length → Dig 18446744073709551616 out → Free out m → val 18446744073709551616 out * y + l = x →
  Ev (fun k => zau.l0 k (dig 18446744073709551616 y) (dig 18446744073709551616 l) out ((m : Int) - 1)) (dig 18446744073709551616 (x / y), dig 18446744073709551616 (x % y), 0) := by
 intro m
 induction m with
 | zero =>
  intro l out _ hlx hl ho _ hd hf hv
  refine Ev.step (G := fun k => (zax.f k out).bind fun t490 => some (t490, dig 18446744073709551616 l, 0)) (fun k => ?_) ?_
  ·
   rw [zau.l0, if_neg (by omega)]
  ·
   have h := ntrim out (by unfold Le at hx; omega) hd
   rw [Nat.pow_zero, Nat.mul_one] at hl
   have e1 : x / y = val 18446744073709551616 out := by
    rw [← hv, Nat.add_comm, Nat.add_mul_div_right _ _ hy, Nat.div_eq_of_lt hl, Nat.zero_add]
   have e2 : x % y = l := by
    rw [← hv, Nat.add_comm, Nat.add_mul_mod_self_right, Nat.mod_eq_of_lt hl]
   rw [e1, e2]
   exact Ev.bind h (Ev.const _)
 | succ n ih =>
  intro l out hm hlx hl ho hn hd hf hv
  have hll : Le l 100000 := Nat.le_trans (dig_mono (by decide) hlx) hx
  have sh := nShifted y n hyl (by omega)
  have e0 : ((n + 1 : Nat) : Int) - 1 = (n : Int) := by omega
  rw [e0]
  have e1 : wrap64 (Int.tdiv (n : Int) 64) = ((n / 64 : Nat) : Int) := by
   rw [Int.tdiv_eq_ediv_of_nonneg (by omega), w64s (by omega) (by omega)]
   omega
  have e2 : Int.tmod (n : Int) 64 = ((n % 64 : Nat) : Int) := by
   rw [Int.tmod_eq_emod_of_nonneg (by omega)]
   omega
  have E1 := Lib.hid e1
  have E2 := Lib.hid e2
  have E3 := Lib.hid (show wrap64 ((n : Int) - 1) = (n : Int) - 1 from w64s (by omega) (by omega))
  clear e1 e2
  refine Ev.step (G := fun k => (zat.f k (dig 18446744073709551616 y) (n : Int)).bind fun t493 => (zcv.f (dig 18446744073709551616 l) t493).bind fun t496 => if t496 ≥ 0 then ((zbo.f k (dig 18446744073709551616 l) t493).bind fun t497 => if 0 ≤ (wrap64 (Int.tdiv (n : Int) 64)) then (if (wrap64 (Int.tdiv (n : Int) 64)) < (out.length : Int) then (if 0 ≤ (Int.tmod (n : Int) 64) then (zau.l0 k (dig 18446744073709551616 y) t497 (out.set ((wrap64 (Int.tdiv (n : Int) 64)) : Int).toNat (Go.bits .or .u64 (rd out (wrap64 (Int.tdiv (n : Int) 64))) (shl .u64 1 (Int.tmod (n : Int) 64)))) (wrap64 ((n : Int) - 1))) else none) else none) else none) else zau.l0 k (dig 18446744073709551616 y) (dig 18446744073709551616 l) out (wrap64 ((n : Int) - 1))) (fun k => ?_) (Ev.bind sh (Ev.plain (nCmp l (y * 2 ^ n)) ?_))
  ·
   rw [zau.l0, if_pos (by omega)]
  ·
   by_cases hge : y * 2 ^ n ≤ l
   ·
    have hs : sgn l (y * 2 ^ n) ≥ 0 := by
     unfold sgn
     split
     ·
      omega
     ·
      rw [if_neg (by omega)]
      omega
    obtain ⟨o, o1, o2, o3, o4⟩ := set_bit out hd n hf (by omega)
    have O1 := Lib.hid o1
    have hv2 : val 18446744073709551616 (out.set (n / 64) (o : Int)) * y + (l - y * 2 ^ n) = x := by
     rw [o4, Nat.add_mul, Nat.mul_comm (2 ^ n) y]
     omega
    have hl2 : l - y * 2 ^ n < y * 2 ^ n := by
     rw [Nat.pow_succ, ← Nat.mul_assoc] at hl
     omega
    have ih2 := ih (l - y * 2 ^ n) (out.set (n / 64) (o : Int)) (by omega) (by omega) hl2 (by rw [List.length_set]; exact ho) (by rw [List.length_set]; omega) (dig_set hd _ (by omega) (by omega)) o3 hv2
    refine Ev.pos hs (Ev.bind (nLess l (y * 2 ^ n) hll hge) ?_)
    refine Ev.congr (fun k => ?_) ih2
    rw [E1.out, E2.out, E3.out, if_pos (by omega), if_pos (by omega), if_pos (by omega), Int.toNat_natCast, rd_nat, O1.out]
   ·
    have hs : ¬ sgn l (y * 2 ^ n) ≥ 0 := by
     rw [sgn_lt (by omega)]
     omega
    refine Ev.neg hs (Ev.congr (fun k => ?_) (ih l out (by omega) hlx (by omega) ho (by omega) hd (hf.less (by omega)) hv))
    rw [E3.out]
theorem nDivMod (x y : Nat) (hy : 0 < y) (hx : Le x 100000) (hyl : Le y 100000) : Ev (fun k => zau.f k (dig 18446744073709551616 x) (dig 18446744073709551616 y)) (dig 18446744073709551616 (x / y), dig 18446744073709551616 (x % y), 0) := by
 obtain ⟨L, l1, l2, l3, l4⟩ := nLong x hx
 obtain ⟨M, m1, m2, m3, m4⟩ := nLong y hyl
 obtain ⟨m5, m6⟩ := m4 (by omega)
 have hyne := dig_ne (B := 18446744073709551616) (by decide) (show y ≠ 0 by omega)
 have hyl0 : 0 < (dig 18446744073709551616 y).length := List.length_pos_iff.2 hyne
 have hxl := hx
 have hyl' := hyl
 unfold Le at hxl hyl'
 have hb : x < y * 2 ^ (L - M + 1) := by
  have h1 : 2 ^ L ≤ 2 ^ (M - 1) * 2 ^ (L - M + 1) := by
   rw [← Nat.pow_add]
   exact Nat.pow_le_pow_right (by decide) (by omega)
  exact Nat.lt_of_lt_of_le l3 (Nat.le_trans h1 (Nat.mul_le_mul_right _ m6))
 have hclone : zbb.f (dig 18446744073709551616 x) = some (dig 18446744073709551616 x) := by
  unfold zbb.f
  rw [if_pos (by omega)]
 refine Ev.congr (G := fun k => zau.l0 k (dig 18446744073709551616 y) (dig 18446744073709551616 x) (List.replicate (dig 18446744073709551616 x).length 0) ((L : Int) - (M : Int))) (fun k => ?_) ?_
 ·
  rw [zau.f, if_neg (by omega), hclone, Option.bind_some, if_pos (by omega), Int.toNat_natCast, if_pos (by omega), l1, Option.bind_some, m1, Option.bind_some, w64s (by omega) (by omega)]
 ·
  by_cases hLM : M ≤ L
  ·
   have h := nDiv_l0 x y hy hx hyl (L - M + 1) x (List.replicate (dig 18446744073709551616 x).length 0) (by omega) (Nat.le_refl _) hb (by simp) (by rw [List.length_replicate]; omega) (Dig.rep (by decide) _) (Free.zero _ _) (by rw [zcr]; omega)
   rw [show ((L - M + 1 : Nat) : Int) - 1 = (L : Int) - (M : Int) by omega] at h
   exact h
  ·
   have hxy : x < y := by
    have : 2 ^ L ≤ 2 ^ (M - 1) := Nat.pow_le_pow_right (by decide) (by omega)
    omega
   have h := nDiv_l0 x y hy hx hyl 0 x (List.replicate (dig 18446744073709551616 x).length 0) (by omega) (Nat.le_refl _) (by omega) (by simp) (by omega) (Dig.rep (by decide) _) (Free.zero _ _) (by rw [zcr]; omega)
   obtain ⟨K, hK⟩ := h
   have ht := ntrim (List.replicate (dig 18446744073709551616 x).length 0) (by rw [List.length_replicate]; omega) (Dig.rep (by decide) _)
   rw [zcr] at ht
   refine Ev.step (G := fun k => (zax.f k (List.replicate (dig 18446744073709551616 x).length 0)).bind fun t490 => some (t490, dig 18446744073709551616 x, 0)) (fun k => ?_) ?_
   ·
    rw [zau.l0, if_neg (by omega)]
   ·
    rw [Nat.div_eq_of_lt hxy, Nat.mod_eq_of_lt hxy]
    exact Ev.bind ht (Ev.const _)
theorem nGcd_l0 : ∀ (y x : Nat), Le x 100000 → Le y 100000 → Ev (fun k => zca.l0 k (dig 18446744073709551616 x) (dig 18446744073709551616 y)) (dig 18446744073709551616 (Nat.gcd x y)) := by
 intro y
 induction y using Nat.strongRecOn with
 | ind y ih =>
  intro x hx hyl
  by_cases hy : y = 0
  ·
   subst hy
   refine Ev.step (G := fun _ => some (dig 18446744073709551616 x)) (fun k => ?_) ?_
   ·
    rw [zcu, zca.l0, if_neg (by simp)]
   ·
    rw [Nat.gcd_zero_right]
    exact Ev.const _
  ·
   have hpos : 0 < y := by omega
   have hne := dig_ne (B := 18446744073709551616) (by decide) hy
   have hl0 : 0 < (dig 18446744073709551616 y).length := List.length_pos_iff.2 hne
   have hmod := Nat.mod_lt x hpos
   have ih2 := ih (x % y) hmod y hyl (Nat.le_trans (dig_mono (by decide) (Nat.le_of_lt hmod)) hyl)
   have hg : Nat.gcd x y = Nat.gcd y (x % y) := by rw [Nat.gcd_comm x y, Nat.gcd_rec y x, Nat.gcd_comm]
   have hclone : zbb.f (dig 18446744073709551616 y) = some (dig 18446744073709551616 y) := by
    unfold zbb.f
    have := hyl
    unfold Le at this
    rw [if_pos (by omega)]
   refine Ev.step (G := fun k => (zau.f k (dig 18446744073709551616 x) (dig 18446744073709551616 y)).bind fun bt505 => (zbb.f (dig 18446744073709551616 y)).bind fun t512 => zca.l0 k t512 bt505.2.1) (fun k => ?_) (Ev.bind (nDivMod x y hpos hx hyl) (Ev.plain hclone ?_))
   ·
    rw [zca.l0, if_pos (by omega)]
   ·
    rw [hg]
    exact ih2
theorem nGcd (x y : Nat) (hx : Le x 100000) (hy : Le y 100000) : Ev (fun k => zca.f k (dig 18446744073709551616 x) (dig 18446744073709551616 y)) (dig 18446744073709551616 (Nat.gcd x y)) := by
 have hclone : zbb.f (dig 18446744073709551616 x) = some (dig 18446744073709551616 x) := by
  unfold zbb.f
  have := hx
  unfold Le at this
  rw [if_pos (by omega)]
 exact Ev.plain hclone (nGcd_l0 y x hx hy)
theorem rtrim_l0 (l : List Int) (hl : l.length < 1000000000) : ∀ n : Nat, n ≤ l.length → Ev (fun k => zas.l0 k l (n : Int)) (strip (l.take n))
 | 0, h => by
  refine Ev.step (G := fun _ => some []) (fun k => ?_) (Ev.const _)
  rw [zas.l0, if_neg (by omega), if_pos (by omega), if_pos (by omega)]
  rfl
 | n + 1, h => by
  have e : wrap64 (((n + 1 : Nat) : Int) - 1) = n := by rw [w64s (by omega) (by omega)]; omega
  by_cases hz : l.getD n 0 = 0
  ·
   refine Ev.step (G := fun k => zas.l0 k l (n : Int)) (fun k => ?_) ?_
   ·
    rw [zas.l0, if_pos (by omega), e, if_pos (by omega), if_pos (by omega), rd_nat, if_pos hz]
   ·
    rw [take_snoc l n (by omega), hz, strip_snoc0]
    exact rtrim_l0 l hl n (by omega)
  ·
   refine Ev.step (G := fun _ => some (l.take (n + 1))) (fun k => ?_) ?_
   ·
    rw [zas.l0, if_pos (by omega), e, if_pos (by omega), if_pos (by omega), rd_nat, if_neg hz, if_pos (by omega), if_pos (by omega)]
    rfl
   ·
    have hs : strip (l.take (n + 1)) = l.take (n + 1) := by rw [take_snoc l n (by omega), strip_snoc _ _ hz]
    rw [hs]
    exact Ev.const _
theorem rtrim (l : List Int) (hl : l.length < 1000000000) : Ev (fun k => zas.f k l) (strip l) := by
 have := rtrim_l0 l hl l.length (Nat.le_refl _)
 rw [List.take_length] at this
 exact this
theorem rtrim_dig (l : List Int) (hl : l.length < 1000000000) (h : Dig 10000 l) : Ev (fun k => zas.f k l) (dig 10000 (val 10000 l)) := by
 rw [← strip_dig (by omega) l h]
 exact rtrim l hl
theorem rOf_l0 : ∀ (m n : Nat) (out : List Int), n < 10000 ^ m → n < 9223372036854775808 → out.length + m < 1000000000 → Ev (fun k => zaw.l0 k (n : Int) out) (out ++ dig 10000 n)
 | 0, n, out, h, h2, hl => by
  have : n = 0 := by simpa using h
  subst this
  refine Ev.step (G := fun _ => some out) (fun k => ?_) ?_
  ·
   rw [zaw.l0, if_neg (by omega)]
  ·
   rw [zcu, List.append_nil]
   exact Ev.const _
 | m + 1, n, out, h, h2, hl => by
  by_cases hn : n = 0
  ·
   subst hn
   refine Ev.step (G := fun _ => some out) (fun k => ?_) ?_
   ·
    rw [zaw.l0, if_neg (by omega)]
   ·
    rw [zcu, List.append_nil]
    exact Ev.const _
  ·
   have e1 : wrap64 (Int.tdiv (n : Int) 10000) = ((n / 10000 : Nat) : Int) := by
    rw [Int.tdiv_eq_ediv_of_nonneg (by omega), w64s (by omega) (by omega)]
    omega
   have e2 : Int.tmod (n : Int) 10000 = ((n % 10000 : Nat) : Int) := by
    rw [Int.tmod_eq_emod_of_nonneg (by omega)]
    omega
   refine Ev.step (G := fun k => zaw.l0 k ((n / 10000 : Nat) : Int) (out ++ [((n % 10000 : Nat) : Int)])) (fun k => ?_) ?_
   ·
    rw [zaw.l0, if_pos (by omega), if_pos (by omega), e1, e2]
   ·
    have ih := rOf_l0 m (n / 10000) (out ++ [((n % 10000 : Nat) : Int)]) (by rw [Nat.pow_succ] at h; omega) (by omega) (by rw [List.length_append, List.length_singleton]; omega)
    rw [dig_pos (by omega) hn]
    rw [List.append_assoc] at ih
    exact ih
theorem rOf (n : Nat) (h : n < 9223372036854775808) : Ev (fun k => zaw.f k (n : Int)) (dig 10000 n) := by
 have := rOf_l0 5 n [] (by omega) h (by simp)
 exact this
theorem rat (l : List Int) (i : Nat) : zcb.f l (i : Int) = some (l.getD i 0) := by
 unfold zcb.f
 by_cases h : i < l.length
 ·
  rw [if_pos (by omega), if_pos (by omega), rd_nat]
 ·
  rw [if_neg (by omega), List.getD_eq_getElem?_getD, List.getElem?_eq_none (by omega)]
  rfl
theorem rCmp_l0 (a b : List Int) (ha : Dig 10000 a) (hb : Dig 10000 b) (hl : a.length = b.length) (hs : a.length < 1000000000) : ∀ i : Nat, i ≤ a.length → V 10000 a i = V 10000 b i → Ev (fun k => zaz.l0 k a b ((i : Int) - 1)) (sgn (val 10000 a) (val 10000 b))
 | 0, hi, hv => by
  refine Ev.step (G := fun _ => some 0) (fun k => ?_) ?_
  ·
   rw [zaz.l0, if_neg (by omega)]
  ·
   rw [V_zero, V_zero] at hv
   rw [sgn, if_pos hv]
   exact Ev.const _
 | i + 1, hi, hv => by
  have e0 : ((i + 1 : Nat) : Int) - 1 = (i : Int) := by omega
  have ha1 := ha.get (show 0 < 10000 by omega) i
  have hb1 := hb.get (show 0 < 10000 by omega) i
  have hva := zdj 10000 a i
  have hvb := zdj 10000 b i
  rw [e0]
  rcases Int.lt_trichotomy (a.getD i 0) (b.getD i 0) with h | h | h
  ·
   have hlt : val 10000 a < val 10000 b := V_lt (by omega) ha hb i (by omega)
   refine Ev.step (G := fun _ => some (-1)) (fun k => ?_) ?_
   ·
    rw [zaz.l0, if_pos (by omega), if_pos (by omega), if_pos (by omega), if_pos (by omega), rd_nat, rd_nat, if_pos h]
   ·
    rw [sgn, if_neg (by omega), if_pos hlt]
    exact Ev.const _
  ·
   refine Ev.step (G := fun k => zaz.l0 k a b ((i : Int) - 1)) (fun k => ?_) (rCmp_l0 a b ha hb hl hs i (by omega) (by omega))
   rw [zaz.l0, if_pos (by omega), if_pos (by omega), if_pos (by omega), if_pos (by omega), rd_nat, rd_nat, if_neg (by omega), if_neg (by omega), w64s (by omega) (by omega)]
  ·
   have hlt : val 10000 b < val 10000 a := V_lt (by omega) hb ha i (by omega)
   refine Ev.step (G := fun _ => some 1) (fun k => ?_) ?_
   ·
    rw [zaz.l0, if_pos (by omega), if_pos (by omega), if_pos (by omega), if_pos (by omega), rd_nat, rd_nat, if_neg (by omega), if_pos h]
   ·
    rw [sgn, if_neg (by omega), if_neg (by omega)]
    exact Ev.const _
theorem rCmp' (a b : List Int) (ha : Dig 10000 a) (hb : Dig 10000 b) (ga : Good a) (gb : Good b) (hs : a.length < 1000000000) (hs' : b.length < 1000000000) : Ev (fun k => zaz.f k a b) (sgn (val 10000 a) (val 10000 b)) := by
 by_cases hl : a.length = b.length
 ·
  refine Ev.congr (fun k => ?_) (rCmp_l0 a b ha hb hl hs a.length (Nat.le_refl _) (by rw [V_end _ (Nat.le_refl _), V_end _ (by omega)]))
  rw [zaz.f, if_pos (by omega), w64s (by omega) (by omega)]
 ·
  by_cases h2 : a.length < b.length
  ·
   have hlt := len_lt (by omega) ha hb gb h2
   refine Ev.congr (G := fun _ => some (-1)) (fun k => ?_) ?_
   ·
    rw [zaz.f, if_neg (by omega), if_pos (by omega)]
   ·
    rw [sgn, if_neg (by omega), if_pos hlt]
    exact Ev.const _
  ·
   have hlt := len_lt (by omega) hb ha ga (by omega)
   refine Ev.congr (G := fun _ => some 1) (fun k => ?_) ?_
   ·
    rw [zaz.f, if_neg (by omega), if_neg (by omega)]
   ·
    rw [sgn, if_neg (by omega), if_neg (by omega)]
    exact Ev.const _
def Lo (n : Nat) : Prop := (dig 10000 n).length ≤ 100000
theorem rCmp (x y : Nat) (hx : Lo x) (hy : Lo y) : Ev (fun k => zaz.f k (dig 10000 x) (dig 10000 y)) (sgn x y) := by
 have := rCmp' (dig 10000 x) (dig 10000 y) (zda (by omega) x) (zda (by omega) y) (dig_last (by omega) x) (dig_last (by omega) y) (by unfold Lo at hx; omega) (by unfold Lo at hy; omega)
 rwa [zc5 (by omega), zc5 (by omega)] at this
theorem mul_digit (o x y c : Nat) (ho : o < 10000) (hx : x < 10000) (hy : y < 10000) (hc : c < 10000) : x * y ≤ 99980001 ∧ wrap64 (wrap64 ((o : Int) + wrap64 ((x : Int) * (y : Int))) + (c : Int)) = ((o + x * y + c : Nat) : Int) ∧ Int.tmod ((o + x * y + c : Nat) : Int) 10000 = (((o + x * y + c) % 10000 : Nat) : Int) ∧ wrap64 (Int.tdiv ((o + x * y + c : Nat) : Int) 10000) = (((o + x * y + c) / 10000 : Nat) : Int) ∧ (o + x * y + c) / 10000 < 10000 := by
 have h : x * y ≤ 9999 * 9999 := Nat.mul_le_mul (by omega) (by omega)
 have e : (x : Int) * (y : Int) = ((x * y : Nat) : Int) := by simp
 rw [e]
 refine ⟨by omega, ?_, ?_, ?_, by omega⟩
 ·
  rw [w64s (x := ((x * y : Nat) : Int)) (by omega) (by omega), w64s (x := (o : Int) + ((x * y : Nat) : Int)) (by omega) (by omega), w64s (by omega) (by omega)]
  omega
 ·
  rw [Int.tmod_eq_emod_of_nonneg (by omega)]
  omega
 ·
  rw [Int.tdiv_eq_ediv_of_nonneg (by omega), w64s (by omega) (by omega)]
  omega
theorem rMul_l1 (a b : List Int) (ha : Dig 10000 a) (hb : Dig 10000 b) (hs : a.length < 1000000) (hs' : b.length < 1000000) (i : Nat) (hi : i < a.length) : ∀ (m j c : Nat) (out : List Int), j + m = b.length → c < 10000 → Dig 10000 out → out.length = a.length + b.length →
  ∃ (out' : List Int) (c' : Nat), Dig 10000 out' ∧ out'.length = a.length + b.length ∧ c' < 10000 ∧ (∀ p, i + b.length ≤ p → out'.getD p 0 = out.getD p 0) ∧
   val 10000 out' + 10000 ^ (i + b.length) * c' = val 10000 out + 10000 ^ (i + j) * c + 10000 ^ (i + j) * ((a.getD i 0).toNat * V 10000 b j) ∧
   ∀ r, Ev (fun k => zam.l1 k a b out' (i : Int) (c' : Int) (a.length : Int) (i : Int) (b.length : Int) (b.length : Int)) r → Ev (fun k => zam.l1 k a b out (i : Int) (c : Int) (a.length : Int) (i : Int) (b.length : Int) (j : Int)) r := by
 intro m
 induction m with
 | zero =>
  intro j c out hj hc hd hl
  obtain rfl : j = b.length := by omega
  refine ⟨out, c, hd, hl, hc, fun _ _ => rfl, ?_, fun r h => h⟩
  rw [V_end _ (Nat.le_refl _)]
  simp
 | succ m ih =>
  intro j c out hj hc hd hl
  have hx := ha.get (show 0 < 10000 by decide) i
  have hy := hb.get (show 0 < 10000 by decide) j
  have ho := hd.get (show 0 < 10000 by decide) (i + j)
  have hv := zdj 10000 b j
  obtain ⟨x, hx'⟩ := Int.eq_ofNat_of_zero_le hx.1
  obtain ⟨y, hy'⟩ := Int.eq_ofNat_of_zero_le hy.1
  obtain ⟨o, ho'⟩ := Int.eq_ofNat_of_zero_le ho.1
  rw [hx'] at hx ⊢
  rw [hy'] at hy hv
  rw [ho'] at ho
  rw [Int.toNat_natCast] at hv ⊢
  obtain ⟨b1, e1, e2, e3, e5⟩ := mul_digit o x y c (by omega) (by omega) (by omega) hc
  have E1 := Lib.hid e1
  have E2 := Lib.hid e2
  have E3 := Lib.hid e3
  clear e1 e2 e3
  have hset := val_set 10000 out (i + j) (((o + x * y + c) % 10000 : Nat) : Int) (by omega)
  rw [ho', Int.toNat_natCast, Int.toNat_natCast] at hset
  obtain ⟨out', c', h1, h2, h3, h4, h5, h6⟩ := ih (j + 1) ((o + x * y + c) / 10000) (out.set (i + j) (((o + x * y + c) % 10000 : Nat) : Int)) (by omega) e5 (dig_set hd _ (by omega) (by omega)) (by rw [List.length_set]; exact hl)
  have EJ := Lib.hid (wadd i j (by omega))
  have EK := Lib.hid (wadd1 j (by omega))
  refine ⟨out', c', h1, h2, h3, fun p hp => ?_, ?_, fun r hr => ?_⟩
  ·
   rw [h4 p hp, getD_set_ne (by omega)]
  ·
   rw [h5, hx', Int.toNat_natCast, show i + (j + 1) = i + j + 1 by omega, Nat.pow_succ]
   exact mul_val _ _ o x y c _ _ _ _ _ _ hset hv (by omega)
  ·
   refine Ev.step (fun k => ?_) (h6 r hr)
   rw [zam.l1, if_pos (by omega), EJ.out, if_pos (by omega), if_pos (by omega), if_pos (by omega), if_pos (by omega), if_pos (by omega), if_pos (by omega), rd_nat, rd_nat, rd_nat, hx', hy', ho', E1.out, E2.out, E3.out, EK.out, Int.toNat_natCast]
theorem rMul_l0 (a b : List Int) (ha : Dig 10000 a) (hb : Dig 10000 b) (hs : a.length < 1000000) (hs' : b.length < 1000000) : ∀ (m i : Nat) (out : List Int), i + m = a.length → Dig 10000 out → out.length = a.length + b.length → (∀ p, i + b.length ≤ p → out.getD p 0 = 0) →
  Ev (fun k => zam.l0 k a b out (a.length : Int) (i : Int)) (dig 10000 (val 10000 out + 10000 ^ i * (V 10000 a i * val 10000 b))) := by
 intro m
 induction m with
 | zero =>
  intro i out hi hd hl hz
  refine Ev.step (G := fun k => (zas.f k out).bind fun t190 => some t190) (fun k => ?_) ?_
  ·
   rw [zam.l0, if_neg (by omega)]
  ·
   rw [V_end _ (by omega), Nat.zero_mul, Nat.mul_zero, Nat.add_zero]
   exact Ev.bind (rtrim_dig out (by omega) hd) (Ev.const _)
 | succ m ih =>
  intro i out hi hd hl hz
  obtain ⟨out', c', h1, h2, h3, h4, h5, h6⟩ := rMul_l1 a b ha hb hs hs' i (by omega) b.length 0 0 out (by omega) (by omega) hd hl
  have hz' := (h4 (i + b.length) (Nat.le_refl _)).trans (hz _ (Nat.le_refl _))
  have hset := val_set 10000 out' (i + b.length) (c' : Int) (by omega)
  rw [hz', Int.toNat_natCast] at hset
  have EI := Lib.hid (wadd i b.length (by omega))
  have EI1 := Lib.hid (wadd1 i (by omega))
  have EC := Lib.hid (show wrap64 (0 + (c' : Int)) = (c' : Int) by rw [Int.zero_add]; exact wid c' (by omega))
  have ih2 := ih (i + 1) (out'.set (i + b.length) (c' : Int)) (by omega) (dig_set h1 _ (by omega) (by omega)) (by rw [List.length_set]; exact h2) (fun p hp => by
   rw [getD_set_ne (by omega), h4 p (by omega), hz p (by omega)])
  have hva := zdj 10000 a i
  have hval : val 10000 out + 10000 ^ i * (V 10000 a i * val 10000 b) = val 10000 (out'.set (i + b.length) (c' : Int)) + 10000 ^ (i + 1) * (V 10000 a (i + 1) * val 10000 b) := by
   rw [hva, Nat.add_mul, Nat.mul_add, Nat.pow_succ, Nat.mul_assoc 10000, ← Nat.mul_assoc (10000 ^ i) 10000]
   rw [V_zero, Nat.add_zero, Nat.mul_zero, Nat.add_zero] at h5
   simp only [Int.toNat_zero, Nat.mul_zero, Nat.add_zero] at hset
   omega
  rw [hval]
  refine Ev.step (G := fun k => zam.l1 k a b out (i : Int) 0 (a.length : Int) (i : Int) (b.length : Int) 0) (fun k => ?_) (h6 _ ?_)
  ·
   rw [zam.l0, if_pos (by omega)]
  ·
   refine Ev.step (fun k => ?_) ih2
   rw [zam.l1, if_neg (by omega), EI.out, if_pos (by omega), if_pos (by omega), rd_nat, hz', EC.out, EI1.out, Int.toNat_natCast]
theorem rMul (x y : Nat) (hx : Lo x) (hy : Lo y) : Ev (fun k => zam.f k (dig 10000 x) (dig 10000 y)) (dig 10000 (x * y)) := by
 unfold Lo at hx hy
 have dx := zda (B := 10000) (by omega) x
 have dy := zda (B := 10000) (by omega) y
 have vx := zc5 (B := 10000) (by omega) x
 have vy := zc5 (B := 10000) (by omega) y
 generalize dig 10000 x = a at *
 generalize dig 10000 y = b at *
 have h := rMul_l0 a b dx dy (by omega) (by omega) a.length 0 (List.replicate (a.length + b.length) 0) (by omega) (Dig.rep (by omega) _) (by simp) (fun p _ => by
  rw [List.getD_eq_getElem?_getD, List.getElem?_replicate]
  split <;> rfl)
 rw [V_zero, zcr, vx, vy, Nat.pow_zero, Nat.one_mul, Nat.zero_add] at h
 refine Ev.congr (fun k => ?_) h
 rw [zam.f, wadd a.length b.length (by omega)]
 rw [if_pos (by omega), Int.toNat_natCast, if_pos (by omega)]
 rfl
theorem Lo_lt {n m : Nat} (h : n < 18446744073709551616 ^ m) (hm : m ≤ 20000) : Lo n := by
 have h2 : 18446744073709551616 ^ m ≤ (10000 ^ 5) ^ m := Nat.pow_le_pow_left (by decide) m
 rw [← Nat.pow_mul] at h2
 have := dig_length (B := 10000) (by decide) (5 * m) n (Nat.lt_of_lt_of_le h h2)
 unfold Lo
 omega
theorem rsub_digit (x y bo va vb : Nat) (hx : x < 10000) (hy : y < 10000) (hbo : bo ≤ 1) (h : y + 10000 * vb + bo ≤ x + 10000 * va) :
  ∃ d bo' : Nat, d < 10000 ∧ bo' ≤ 1 ∧ d + y + bo = x + 10000 * bo' ∧ vb + bo' ≤ va ∧
   ((wrap64 (wrap64 ((x : Int) - (y : Int)) - (bo : Int)) < 0 ∧ bo' = 1 ∧ wrap64 (wrap64 (wrap64 ((x : Int) - (y : Int)) - (bo : Int)) + 10000) = (d : Int)) ∨ (¬ wrap64 (wrap64 ((x : Int) - (y : Int)) - (bo : Int)) < 0 ∧ bo' = 0 ∧ wrap64 (wrap64 ((x : Int) - (y : Int)) - (bo : Int)) = (d : Int))) := by
 rw [w64s (x := (x : Int) - (y : Int)) (by omega) (by omega), w64s (x := (x : Int) - (y : Int) - (bo : Int)) (by omega) (by omega)]
 by_cases hlt : x < y + bo
 ·
  refine ⟨x + 10000 - y - bo, 1, by omega, by omega, by omega, by omega, .inl ⟨by omega, rfl, ?_⟩⟩
  rw [w64s (by omega) (by omega)]
  omega
 ·
  exact ⟨x - y - bo, 0, by omega, by omega, by omega, by omega, .inr ⟨by omega, rfl, by omega⟩⟩
theorem rSub_l0 (a b : List Int) (ha : Dig 10000 a) (hb : Dig 10000 b) (hs : a.length < 1000000) (hs' : b.length ≤ a.length) (T : Nat) : ∀ (m i bo : Nat) (out : List Int), i + m = a.length → bo ≤ 1 → out.length = i → Dig 10000 out →
  V 10000 b i + bo ≤ V 10000 a i → val 10000 out + 10000 ^ i * V 10000 a i = T + 10000 ^ i * (V 10000 b i + bo) →
  Ev (fun k => zb.l0 k a b out (bo : Int) (a.length : Int) (i : Int)) (dig 10000 T) := by
 intro m
 induction m with
 | zero =>
  intro i bo out hi hbo ho hd hle hT
  refine Ev.step (G := fun k => (zas.f k out).bind fun t335 => some t335) (fun k => ?_) ?_
  ·
   rw [zb.l0, if_neg (by omega)]
  ·
   have h := rtrim_dig out (by omega) hd
   rw [V_end _ (show a.length ≤ i by omega)] at hT hle
   have h0 : V 10000 b i + bo = 0 := by omega
   rw [h0, Nat.mul_zero, Nat.add_zero, Nat.add_zero] at hT
   rw [hT] at h
   exact Ev.bind h (Ev.const _)
 | succ m ih =>
  intro i bo out hi hbo ho hd hle hT
  have ha1 := ha.get (show 0 < 10000 by decide) i
  have hb1 := hb.get (show 0 < 10000 by decide) i
  have hva := zdj 10000 a i
  have hvb := zdj 10000 b i
  obtain ⟨x, hx⟩ := Int.eq_ofNat_of_zero_le ha1.1
  obtain ⟨y, hy⟩ := Int.eq_ofNat_of_zero_le hb1.1
  rw [hx] at hva ha1
  rw [hy] at hvb hb1
  rw [Int.toNat_natCast] at hva hvb
  rw [hva, hvb] at hle hT
  obtain ⟨d, bo', h1, h2, h3, h4, h5⟩ := rsub_digit x y bo _ _ (by omega) (by omega) hbo hle
  have hv := less_val _ _ _ _ _ _ _ _ _ _ _ hT h3
  rw [← Nat.pow_succ] at hv
  have hval : val 10000 (out ++ [(d : Int)]) = val 10000 out + 10000 ^ i * d := by
   rw [val_append, ho]
   simp [val]
  rw [← hval] at hv
  have H5 := Lib.hid h5
  have ih2 := ih (i + 1) bo' (out ++ [(d : Int)]) (by clear h5; omega) h2 (by rw [List.length_append, ho]; rfl) (hd.app (Dig.mk (by clear h5; omega) (by clear h5; omega) (Dig.nil _))) h4 hv
  clear h5 hv hval hT hle hva hvb h3 h4
  have H2 := Lib.hid ih2
  have WA := Lib.hid (wadd1 i (by omega))
  clear ih2
  refine Ev.step (fun k => ?_) H2.out
  rw [zb.l0, if_pos (by omega), if_pos (by omega), if_pos (by omega), rat, Option.bind_some, rd_nat, hx, hy]
  rcases H5.out with ⟨c1, c2, c3⟩ | ⟨c1, c2, c3⟩
  ·
   rw [if_pos c1, c3, c2]
   clear c1 c3
   rw [if_pos (by omega), WA.out]
   rfl
  ·
   rw [if_neg c1, c3, c2]
   clear c1 c3
   rw [if_pos (by omega), WA.out]
   rfl
theorem rSub (x y : Nat) (hx : Lo x) (hy : y ≤ x) : Ev (fun k => zb.f k (dig 10000 x) (dig 10000 y)) (dig 10000 (x - y)) := by
 have hl := dig_mono (B := 10000) (by decide) hy
 unfold Lo at hx
 have dx := zda (B := 10000) (by decide) x
 have dy := zda (B := 10000) (by decide) y
 have vx := zc5 (B := 10000) (by decide) x
 have vy := zc5 (B := 10000) (by decide) y
 generalize dig 10000 x = a at *
 generalize dig 10000 y = b at *
 have h := rSub_l0 a b dx dy (by omega) hl (x - y) a.length 0 0 [] (by omega) (by omega) rfl (Dig.nil _) (by rw [V_zero, V_zero, vx, vy]; omega) (by rw [V_zero, V_zero, vx, vy]; simp [val]; omega)
 exact h
theorem mid_wraps (low high : Nat) (h : low < high) (hh : high < 10000) : wrap64 (Int.tdiv (wrap64 ((wrap64 ((low : Int) + (high : Int))) + 1)) 2) = (((low + high + 1) / 2 : Nat) : Int) := by
 rw [w64s (x := (low : Int) + (high : Int)) (by omega) (by omega), w64s (x := (low : Int) + (high : Int) + 1) (by omega) (by omega), Int.tdiv_eq_ediv_of_nonneg (by omega), w64s (by omega) (by omega)]
 omega
theorem rDiv_l1 (a : List Int) (y L : Nat) (hy : 0 < y) (hyl : Lo y) (hLl : Lo L) (hd : L / y < 10000) (hmul : ∀ m, m < 10000 → Lo (y * m)) (out : List Int) (i : Nat) (r : List Int × List Int) : ∀ (n low high : Nat), high - low ≤ n → low ≤ L / y → L / y ≤ high → high < 10000 →
  Ev (fun k => zao.l1 k a (dig 10000 y) out (dig 10000 L) (i : Int) ((L / y : Nat) : Int) ((L / y : Nat) : Int)) r →
  Ev (fun k => zao.l1 k a (dig 10000 y) out (dig 10000 L) (i : Int) (low : Int) (high : Int)) r := by
 intro n
 induction n with
 | zero =>
  intro low high hn h1 h2 h3 h
  rw [show low = L / y by omega, show high = L / y by omega]
  exact h
 | succ n ih =>
  intro low high hn h1 h2 h3 h
  by_cases hlt : low < high
  ·
   have WM := Lib.hid (mid_wraps low high hlt h3)
   have hm1 : low < (low + high + 1) / 2 := by omega
   have hm2 : (low + high + 1) / 2 ≤ high := by omega
   have hcmp : (low + high + 1) / 2 ≤ L / y ↔ y * ((low + high + 1) / 2) ≤ L := by rw [Nat.le_div_iff_mul_le hy, Nat.mul_comm]
   generalize (low + high + 1) / 2 = m at *
   have WS := Lib.hid (wsub1 m (by omega) (by omega))
   have c := rCmp (y * m) L (hmul m (by omega)) hLl
   refine Ev.step (G := fun k => (zaw.f k (m : Int)).bind fun t541 => (zam.f k (dig 10000 y) t541).bind fun t544 => (zaz.f k t544 (dig 10000 L)).bind fun t547 => if t547 ≤ 0 then zao.l1 k a (dig 10000 y) out (dig 10000 L) (i : Int) (m : Int) (high : Int) else zao.l1 k a (dig 10000 y) out (dig 10000 L) (i : Int) (low : Int) ((m - 1 : Nat) : Int)) (fun k => ?_) (Ev.bind (rOf m (by omega)) (Ev.bind (rMul y m hyl (Lo_lt (m := 1) (by omega) (by omega))) (Ev.bind c ?_)))
   ·
    rw [zao.l1, if_pos (by omega), WM.out, WS.out]
   ·
    by_cases hle : y * m ≤ L
    ·
     have hs : sgn (y * m) L ≤ 0 := by
      unfold sgn
      split
      ·
       omega
      ·
       rw [if_pos (by omega)]
       omega
     exact Ev.pos hs (ih m high (by omega) (hcmp.2 hle) h2 h3 h)
    ·
     have hs : ¬ sgn (y * m) L ≤ 0 := by
      rw [sgn_gt (by omega)]
      omega
     refine Ev.neg hs (ih low (m - 1) (by omega) h1 ?_ (by omega) h)
     have := mt hcmp.1 hle
     omega
  ·
   rw [show low = L / y by omega, show high = L / y by omega]
   exact h
theorem rdiv_val (Q y X ai l d l' Vn Vi B : Nat) (h : Q * y + X * B * l = X * B * Vn) (hV : Vi = ai + B * Vn) (hl : d * y + l' = ai + B * l) : (Q + X * d) * y + X * l' = X * Vi := by
 have h1 : X * (d * y + l') = X * (ai + B * l) := by rw [hl]
 rw [hV, Nat.add_mul, Nat.mul_assoc]
 rw [Nat.mul_assoc, Nat.mul_assoc] at h
 simp only [Nat.mul_add] at h1 ⊢
 omega
theorem rDiv_l0 (a : List Int) (ha : Dig 10000 a) (hs : a.length ≤ 50000) (y : Nat) (hy : 0 < y) (hyl : Lo y) (hmul : ∀ m, m < y * 10000 → Lo m) : ∀ (m l : Nat) (out : List Int), m ≤ a.length → l < y → out.length = a.length → Dig 10000 out → (∀ p, p < m → out.getD p 0 = 0) →
  val 10000 out * y + 10000 ^ m * l = 10000 ^ m * V 10000 a m →
  Ev (fun k => zao.l0 k a (dig 10000 y) out (dig 10000 l) ((m : Int) - 1)) (dig 10000 (val 10000 a / y), dig 10000 (val 10000 a % y)) := by
 intro m
 induction m with
 | zero =>
  intro l out _ hl ho hd hz hv
  refine Ev.step (G := fun k => (zas.f k out).bind fun t518 => some (t518, dig 10000 l)) (fun k => ?_) ?_
  ·
   rw [zao.l0, if_neg (by omega)]
  ·
   have h := rtrim_dig out (by omega) hd
   rw [Nat.pow_zero, Nat.one_mul, Nat.one_mul, V_zero] at hv
   have e1 : val 10000 a / y = val 10000 out := by
    rw [← hv, Nat.add_comm, Nat.add_mul_div_right _ _ hy, Nat.div_eq_of_lt hl, Nat.zero_add]
   have e2 : val 10000 a % y = l := by
    rw [← hv, Nat.add_comm, Nat.add_mul_mod_self_right, Nat.mod_eq_of_lt hl]
   rw [e1, e2]
   exact Ev.bind h (Ev.const _)
 | succ i ih =>
  intro l out hm hl ho hd hz hv
  have hg := ha.get (show 0 < 10000 by decide) i
  obtain ⟨x, hx⟩ := Int.eq_ofNat_of_zero_le hg.1
  rw [hx] at hg
  have hva := zdj 10000 a i
  rw [hx, Int.toNat_natCast] at hva
  have hLlt : x + 10000 * l < y * 10000 := by omega
  have hdl : (x + 10000 * l) / y < 10000 := by
   rw [Nat.div_lt_iff_lt_mul hy]
   omega
  have hLo := hmul _ hLlt
  have hll := hmul l (by omega)
  have hll2 := hll
  unfold Lo at hll2
  have htr := rtrim_dig ((x : Int) :: dig 10000 l) (by rw [List.length_cons]; omega) (Dig.mk (by omega) (by omega) (zda (by decide) l))
  rw [val, zc5 (by decide), Int.toNat_natCast] at htr
  have hdm := Nat.div_add_mod (x + 10000 * l) y
  have hml := Nat.mod_lt (x + 10000 * l) hy
  have hmy : ∀ m, m < 10000 → Lo (y * m) := fun m hm => hmul _ (Nat.mul_lt_mul_of_pos_left hm hy)
  have hl1 := rDiv_l1 a y (x + 10000 * l) hy hyl hLo hdl hmy out i (dig 10000 (val 10000 a / y), dig 10000 (val 10000 a % y)) 9999 0 9999 (by omega) (Nat.zero_le _) (by omega) (by omega)
  generalize (x + 10000 * l) / y = q at *
  generalize (x + 10000 * l) % y = s at *
  have hset := val_set 10000 out i (q : Int) (by omega)
  rw [hz i (by omega), Int.toNat_natCast, Int.toNat_zero, Nat.mul_zero, Nat.add_zero] at hset
  rw [Nat.pow_succ] at hv
  have hnew := rdiv_val _ _ _ x l q s _ _ _ hv hva (by rw [Nat.mul_comm]; exact hdm)
  rw [← hset] at hnew
  have hle : y * q ≤ x + 10000 * l := by omega
  have hsub := rSub (x + 10000 * l) (y * q) hLo hle
  rw [show x + 10000 * l - y * q = s by omega] at hsub
  have ih2 := ih s (out.set i (q : Int)) (by omega) hml (by rw [List.length_set]; exact ho) (dig_set hd _ (by omega) (by omega)) (fun p hp => by rw [getD_set_ne (by omega)]; exact hz p (by omega)) hnew
  have E3 := Lib.hid (show wrap64 ((i : Int) - 1) = (i : Int) - 1 from w64s (by omega) (by omega))
  have e0 : ((i + 1 : Nat) : Int) - 1 = (i : Int) := by omega
  rw [e0]
  clear hset hnew hdm hva hv
  refine Ev.step (G := fun k => (zas.f k ((x : Int) :: dig 10000 l)).bind fun t528 => zao.l1 k a (dig 10000 y) out t528 (i : Int) 0 9999) (fun k => ?_) (Ev.bind htr ?_)
  ·
   rw [zao.l0, if_pos (by omega), if_pos (by omega), if_pos (by omega), Option.bind_some, rd_nat, hx]
   show (if ([(x : Int)] : List Int).length + (dig 10000 l).length < 17592186044416 then _ else _) = _
   rw [if_pos (by rw [List.length_singleton]; omega)]
   rfl
  ·
   refine hl1 ?_
   have hof := rOf q (by omega)
   have hmu := rMul y q hyl (Lo_lt (m := 1) (by omega) (by omega))
   refine Ev.step (G := fun k => (zaw.f k (q : Int)).bind fun t532 => (zam.f k (dig 10000 y) t532).bind fun t535 => (zb.f k (dig 10000 (x + 10000 * l)) t535).bind fun t538 => zao.l0 k a (dig 10000 y) (out.set i (q : Int)) t538 ((i : Int) - 1)) (fun k => ?_) (Ev.bind hof (Ev.bind hmu (Ev.bind hsub ih2)))
   rw [zao.l1, if_neg (by omega), if_pos (by omega), if_pos (by omega), E3.out, Int.toNat_natCast]
theorem rDiv (x y : Nat) (hy : 0 < y) (hx : (dig 10000 x).length ≤ 50000) (hyl : Lo y) (hmul : ∀ m, m < y * 10000 → Lo m) : Ev (fun k => zao.f k (dig 10000 x) (dig 10000 y)) (dig 10000 (x / y), dig 10000 (x % y)) := by
 have dx := zda (B := 10000) (by decide) x
 have vx := zc5 (B := 10000) (by decide) x
 generalize dig 10000 x = a at *
 have h := rDiv_l0 a dx hx y hy hyl hmul a.length 0 (List.replicate a.length 0) (Nat.le_refl _) hy (by simp) (Dig.rep (by decide) _) (fun p _ => by
  rw [List.getD_eq_getElem?_getD, List.getElem?_replicate]
  split <;> rfl) (by rw [zcr, V_end _ (Nat.le_refl _)]; simp)
 rw [vx, zcu] at h
 refine Ev.congr (fun k => ?_) h
 rw [zao.f, if_pos (by omega), Int.toNat_natCast, if_pos (by omega), w64s (by omega) (by omega)]
theorem rGcd_l0 (M : Nat) (hM : ∀ m, m < M * 10000 → (dig 10000 m).length ≤ 50000) : ∀ (y x : Nat), x ≤ M → y ≤ M → Ev (fun k => zbg.l0 k (dig 10000 x) (dig 10000 y)) (dig 10000 (Nat.gcd x y)) := by
 intro y
 induction y using Nat.strongRecOn with
 | ind y ih =>
  intro x hx hyl
  by_cases hy : y = 0
  ·
   subst hy
   refine Ev.step (G := fun _ => some (dig 10000 x)) (fun k => ?_) ?_
   ·
    rw [zcu, zbg.l0, if_neg (by simp)]
   ·
    rw [Nat.gcd_zero_right]
    exact Ev.const _
  ·
   have hpos : 0 < y := by omega
   have hne := dig_ne (B := 10000) (by decide) hy
   have hl0 : 0 < (dig 10000 y).length := List.length_pos_iff.2 hne
   have hmod := Nat.mod_lt x hpos
   have ih2 := ih (x % y) hmod y hyl (by omega)
   have hg : Nat.gcd x y = Nat.gcd y (x % y) := by rw [Nat.gcd_comm x y, Nat.gcd_rec y x, Nat.gcd_comm]
   have hlo : ∀ m, m < M * 10000 → Lo m := fun m hm => by
    have := hM m hm
    unfold Lo
    omega
   have hdv := rDiv x y hpos (hM x (by omega)) (hlo y (by omega)) (fun m hm => hlo m (Nat.lt_of_lt_of_le hm (Nat.mul_le_mul_right _ hyl)))
   refine Ev.step (G := fun k => (zao.f k (dig 10000 x) (dig 10000 y)).bind fun bt548 => zbg.l0 k (dig 10000 y) bt548.2) (fun k => ?_) (Ev.bind hdv ?_)
   ·
    rw [zbg.l0, if_pos (by omega)]
   ·
    rw [hg]
    exact ih2
theorem Lo5 {n m : Nat} (h : n < 18446744073709551616 ^ m) : (dig 10000 n).length ≤ 5 * m := by
 have h2 : 18446744073709551616 ^ m ≤ (10000 ^ 5) ^ m := Nat.pow_le_pow_left (by decide) m
 rw [← Nat.pow_mul] at h2
 exact dig_length (B := 10000) (by decide) (5 * m) n (Nat.lt_of_lt_of_le h h2)
theorem gcdLt {x y M : Nat} (hx : x < M) (hy : y < M) : Nat.gcd x y < M := by
 by_cases h : x = 0
 ·
  subst h
  rw [Nat.gcd_zero_left]
  exact hy
 ·
  exact Nat.lt_of_le_of_lt (Nat.gcd_le_left y (by omega)) hx
theorem gcdPos {x y : Nat} (hy : 0 < y) : 0 < Nat.gcd x y := Nat.gcd_pos_of_pos_right x hy
theorem divLt {x y M : Nat} (hx : x < M) : x / y < M := Nat.lt_of_le_of_lt (Nat.div_le_self _ _) hx
theorem ne_len {B n : Nat} (hB : 1 < B) (h : 0 < n) : 0 < (dig B n).length := List.length_pos_iff.2 (dig_ne hB (by omega))
theorem nOne : Ev (fun k => zbt.f k) (dig 18446744073709551616 1) := Ev.bind (F := fun k => zcf.f k 1) (nOf 1 (by omega)) (Ev.const _)
theorem nLowest {x y m : Nat} (hy : 0 < y) (hx : x < 18446744073709551616 ^ m) (hyl : y < 18446744073709551616 ^ m) (hm : m ≤ 100000) : Ev (fun k => zbh.f k (dig 18446744073709551616 x) (dig 18446744073709551616 y)) (dig 18446744073709551616 (x / Nat.gcd x y), dig 18446744073709551616 (y / Nat.gcd x y)) := by
 have hg := gcdLt hx hyl
 exact Ev.bind (nGcd x y (Le_lt hx hm) (Le_lt hyl hm)) (Ev.bind (nDivMod x _ (gcdPos hy) (Le_lt hx hm) (Le_lt hg hm)) (Ev.bind (nDivMod y _ (gcdPos hy) (Le_lt hyl hm) (Le_lt hg hm)) (Ev.const _)))
theorem nRof {x y m : Nat} (hy : 0 < y) (hx : x < 18446744073709551616 ^ m) (hyl : y < 18446744073709551616 ^ m) (hm : m ≤ 100000) : Ev (fun k => zc4.f k (dig 18446744073709551616 x) (dig 18446744073709551616 y)) (dig 18446744073709551616 (x / Nat.gcd x y), dig 18446744073709551616 (y / Nat.gcd x y), 0) := by
 have := ne_len (B := 18446744073709551616) (by decide) hy
 exact Ev.neg (by omega) (Ev.bind (nLowest hy hx hyl hm) (Ev.const _))
theorem nFloor {x y m : Nat} (hy : 0 < y) (hx : x < 18446744073709551616 ^ m) (hyl : y < 18446744073709551616 ^ m) (hm : m ≤ 100000) : Ev (fun k => zbx.f k (dig 18446744073709551616 x) (dig 18446744073709551616 y)) (dig 18446744073709551616 (x / y)) :=
 Ev.bind (nDivMod x y hy (Le_lt hx hm) (Le_lt hyl hm)) (Ev.const _)
theorem sgn_zero {x y : Nat} : sgn x y = 0 ↔ x = y := by
 unfold sgn
 constructor
 ·
  intro h
  by_cases e : x = y
  ·
   exact e
  ·
   rw [if_neg e] at h
   split at h <;> simp at h
 ·
  intro h
  rw [if_pos h]
theorem nRGood {x y m : Nat} (hx : x < 18446744073709551616 ^ m) (hy : y < 18446744073709551616 ^ m) (hm : m ≤ 100000) (hpos : 0 < y) : Ev (fun k => zbs.f k (dig 18446744073709551616 x) (dig 18446744073709551616 y)) (decide (Nat.gcd x y = 1)) := by
 have hl := ne_len (B := 18446744073709551616) (by decide) hpos
 have l1 : (dig 18446744073709551616 x).length ≤ m := dig_length (by decide) m x hx
 have l2 : (dig 18446744073709551616 y).length ≤ m := dig_length (by decide) m y hy
 have g1 := nGood (dig 18446744073709551616 x) (by omega)
 have g2 := nGood (dig 18446744073709551616 y) (by omega)
 rw [goodB_dig] at g1 g2
 refine Ev.plain g1 (Ev.pos rfl (Ev.plain g2 (Ev.pos rfl (Ev.pos (by omega) (Ev.bind (nGcd x y (Le_lt hx hm) (Le_lt hy hm)) (Ev.bind nOne (Ev.plain (nCmp _ 1) ?_)))))))
 have : (sgn (Nat.gcd x y) 1 == 0) = decide (Nat.gcd x y = 1) := by
  by_cases e : Nat.gcd x y = 1
  ·
   rw [decide_eq_true e, beq_iff_eq, sgn_zero]
   exact e
  ·
   rw [decide_eq_false e, beq_eq_false_iff_ne]
   intro h
   exact e (sgn_zero.1 h)
 rw [this]
 exact Ev.const _
theorem mx0 (n : Int) : mx n 0 = ((n.toNat : Nat) : Int) := by
 unfold mx
 omega
theorem nRint (n : Int) (h : n < 9223372036854775808) : Ev (fun k => zcj.f k n) (dig 18446744073709551616 n.toNat, dig 18446744073709551616 1) := by
 have h1 : IntKind.u64.wrap (mx n 0) = ((n.toNat : Nat) : Int) := by rw [mx0, u64s (by omega) (by omega)]
 have h2 : Ev (fun k => zcf.f k (IntKind.u64.wrap (mx n 0))) (dig 18446744073709551616 n.toNat) := by
  rw [h1]
  exact nOf _ (by omega)
 exact Ev.bind h2 (Ev.bind nOne (Ev.const _))
theorem rDivW {x y m : Nat} (hy : 0 < y) (hx : x < 18446744073709551616 ^ m) (hyl : y < 18446744073709551616 ^ m) (hm : m ≤ 5000) : Ev (fun k => zao.f k (dig 10000 x) (dig 10000 y)) (dig 10000 (x / y), dig 10000 (x % y)) :=
 rDiv x y hy (Nat.le_trans (Lo5 hx) (by omega)) (Lo_lt hyl (by omega)) (fun n hn => Lo_lt (m := m + 1) (Nat.lt_of_lt_of_le hn (by
  rw [Nat.pow_succ]
  exact Nat.mul_le_mul (Nat.le_of_lt hyl) (by omega))) (by omega))
theorem rGcdW {x y m : Nat} (hx : x < 18446744073709551616 ^ m) (hyl : y < 18446744073709551616 ^ m) (hm : m ≤ 5000) : Ev (fun k => zbg.f k (dig 10000 x) (dig 10000 y)) (dig 10000 (Nat.gcd x y)) :=
 rGcd_l0 (18446744073709551616 ^ m) (fun n hn => Nat.le_trans (Lo5 (m := m + 1) (Nat.lt_of_lt_of_le hn (by
  rw [Nat.pow_succ]
  exact Nat.mul_le_mul (Nat.le_refl _) (by omega)))) (by omega)) y x (Nat.le_of_lt hx) (Nat.le_of_lt hyl)
theorem rRof {x y m : Nat} (hy : 0 < y) (hx : x < 18446744073709551616 ^ m) (hyl : y < 18446744073709551616 ^ m) (hm : m ≤ 5000) : Ev (fun k => zcy.f k (dig 10000 x) (dig 10000 y)) (dig 10000 (x / Nat.gcd x y), dig 10000 (y / Nat.gcd x y)) := by
 have hg := gcdLt hx hyl
 exact Ev.bind (rGcdW hx hyl hm) (Ev.bind (rDivW (gcdPos hy) hx hg hm) (Ev.bind (rDivW (gcdPos hy) hyl hg hm) (Ev.const _)))
theorem lit_i64 {x : Int} (h : (Lit.int .i64 x).wf = true) : -9223372036854775808 ≤ x ∧ x < 9223372036854775808 := by
 have h1 : IntKind.i64.min ≤ x ∧ x ≤ IntKind.i64.max := by simpa [Lit.wf] using h
 have h2 : IntKind.i64.min = -9223372036854775808 := by decide
 have h3 : IntKind.i64.max = 9223372036854775807 := by decide
 omega
theorem low_rat {x y : Nat} (hy : 0 < y) : x / Nat.gcd x y = (mkRat (x : Int) y).num.toNat ∧ y / Nat.gcd x y = (mkRat (x : Int) y).den := by
 rw [Rat.num_mkRat, Rat.den_mkRat, if_neg (by omega), if_neg (by omega), Int.natAbs_natCast, Nat.gcd_comm y x]
 refine ⟨?_, rfl⟩
 rw [← Int.natCast_ediv, Int.toNat_natCast]
def Bd (r : Rat) (m : Nat) : Prop := 0 ≤ r ∧ r.num.toNat < 18446744073709551616 ^ m ∧ r.den < 18446744073709551616 ^ m
theorem mkRat_nonneg (x y : Nat) : 0 ≤ mkRat (x : Int) y := by
 rw [← Rat.num_nonneg, Rat.num_mkRat]
 split
 ·
  exact Int.le_refl _
 ·
  exact Int.ediv_nonneg (Int.natCast_nonneg _) (Int.natCast_nonneg _)
theorem Bd.mk {x y m : Nat} (hy : 0 < y) (hx : x < 18446744073709551616 ^ m) (hyl : y < 18446744073709551616 ^ m) : Bd (mkRat (x : Int) y) m := by
 obtain ⟨h1, h2⟩ := low_rat (x := x) hy
 refine ⟨mkRat_nonneg x y, ?_, ?_⟩
 ·
  rw [← h1]
  exact divLt hx
 ·
  rw [← h2]
  exact divLt hyl
theorem nnum {r : Rat} (h : 0 ≤ r) : ((r.num.toNat : Nat) : Int) = r.num := Int.toNat_of_nonneg (Rat.num_nonneg.2 h)
theorem mul_rat {r s : Rat} (hr : 0 ≤ r) (hs : 0 ≤ s) : mkRat ((r.num.toNat * s.num.toNat : Nat) : Int) (r.den * s.den) = r * s := by
 rw [Rat.mul_def', Int.natCast_mul, nnum hr, nnum hs]
theorem add_rat {r s : Rat} (hr : 0 ≤ r) (hs : 0 ≤ s) : mkRat ((r.num.toNat * s.den + s.num.toNat * r.den : Nat) : Int) (r.den * s.den) = r + s := by
 rw [Rat.add_def', Int.natCast_add, Int.natCast_mul, Int.natCast_mul, nnum hr, nnum hs]
theorem le_rat {r s : Rat} (hr : 0 ≤ r) (hs : 0 ≤ s) : s.num.toNat * r.den ≤ r.num.toNat * s.den ↔ s ≤ r := by
 rw [Rat.le_iff, ← nnum hr, ← nnum hs, ← Int.natCast_mul, ← Int.natCast_mul, Int.ofNat_le, Int.toNat_natCast, Int.toNat_natCast]
theorem lt_rat {r s : Rat} (hr : 0 ≤ r) (hs : 0 ≤ s) : r.num.toNat * s.den < s.num.toNat * r.den ↔ r < s := by
 rw [Rat.lt_iff, ← nnum hr, ← nnum hs, ← Int.natCast_mul, ← Int.natCast_mul, Int.ofNat_lt, Int.toNat_natCast, Int.toNat_natCast]
theorem eq_rat {r s : Rat} (hr : 0 ≤ r) (hs : 0 ≤ s) : r.num.toNat * s.den = s.num.toNat * r.den ↔ r = s := by
 rw [Rat.eq_iff_mul_eq_mul, ← nnum hr, ← nnum hs, ← Int.natCast_mul, ← Int.natCast_mul, Int.ofNat_inj, Int.toNat_natCast, Int.toNat_natCast]
def cmpR (r s : Rat) : Int := if r = s then 0 else if r < s then -1 else 1
theorem sgn_rat {r s : Rat} (hr : 0 ≤ r) (hs : 0 ≤ s) : sgn (r.num.toNat * s.den) (s.num.toNat * r.den) = cmpR r s := by
 unfold sgn cmpR
 by_cases h1 : r = s
 ·
  rw [if_pos ((eq_rat hr hs).2 h1), if_pos h1]
 ·
  rw [if_neg (fun h => h1 ((eq_rat hr hs).1 h)), if_neg h1]
  by_cases h2 : r < s
  ·
   rw [if_pos ((lt_rat hr hs).2 h2), if_pos h2]
  ·
   rw [if_neg (fun h => h2 ((lt_rat hr hs).1 h)), if_neg h2]
theorem Bd.mul {r s : Rat} {m n : Nat} (hr : Bd r m) (hs : Bd s n) : Bd (r * s) (m + n) := by
 have := Bd.mk (x := r.num.toNat * s.num.toNat) (y := r.den * s.den) (m := m + n) (Nat.mul_pos r.den_pos s.den_pos) (W_mul hr.2.1 hs.2.1) (W_mul hr.2.2 hs.2.2)
 rw [mul_rat hr.1 hs.1] at this
 exact this
theorem Bd.add {r s : Rat} {m n : Nat} (hr : Bd r m) (hs : Bd s n) : Bd (r + s) (m + n + 1) := by
 have h1 := W_mul hr.2.1 hs.2.2
 have h2 := W_mul hs.2.1 hr.2.2
 rw [Nat.add_comm n m] at h2
 have := Bd.mk (x := r.num.toNat * s.den + s.num.toNat * r.den) (y := r.den * s.den) (m := m + n + 1) (Nat.mul_pos r.den_pos s.den_pos) (W_add h1 h2) (W_le (W_mul hr.2.2 hs.2.2) (by omega))
 rw [add_rat hr.1 hs.1] at this
 exact this
theorem rat_gcd (r : Rat) (h : 0 ≤ r) : Nat.gcd r.num.toNat r.den = 1 := by
 have := r.reduced
 have e : r.num.natAbs = r.num.toNat := by
  have := Rat.num_nonneg.2 h
  omega
 rw [e] at this
 exact this
theorem qOf {x y m : Nat} (hy : 0 < y) (hx : x < 18446744073709551616 ^ m) (hyl : y < 18446744073709551616 ^ m) (hm : m ≤ 100000) : Ev (fun k => zc4.f k (dig 18446744073709551616 x) (dig 18446744073709551616 y)) (dig 18446744073709551616 (mkRat (x : Int) y).num.toNat, dig 18446744073709551616 (mkRat (x : Int) y).den, 0) := by
 obtain ⟨h1, h2⟩ := low_rat (x := x) hy
 have := nRof hy hx hyl hm
 rw [h1, h2] at this
 exact this
theorem qLow {x y m : Nat} (hy : 0 < y) (hx : x < 18446744073709551616 ^ m) (hyl : y < 18446744073709551616 ^ m) (hm : m ≤ 100000) : Ev (fun k => zbh.f k (dig 18446744073709551616 x) (dig 18446744073709551616 y)) (dig 18446744073709551616 (mkRat (x : Int) y).num.toNat, dig 18446744073709551616 (mkRat (x : Int) y).den) := by
 obtain ⟨h1, h2⟩ := low_rat (x := x) hy
 have := nLowest hy hx hyl hm
 rw [h1, h2] at this
 exact this
theorem qMul {r s : Rat} {m n : Nat} (hr : Bd r m) (hs : Bd s n) (h : m + n ≤ 100000) : Ev (fun k => zce.f k (dig 18446744073709551616 r.num.toNat) (dig 18446744073709551616 r.den) (dig 18446744073709551616 s.num.toNat) (dig 18446744073709551616 s.den)) (dig 18446744073709551616 (r * s).num.toNat, dig 18446744073709551616 (r * s).den) := by
 have := qLow (x := r.num.toNat * s.num.toNat) (y := r.den * s.den) (Nat.mul_pos r.den_pos s.den_pos) (W_mul hr.2.1 hs.2.1) (W_mul hr.2.2 hs.2.2) h
 rw [mul_rat hr.1 hs.1] at this
 exact Ev.bind (nMul _ _ (Le_lt hr.2.1 (by omega)) (Le_lt hs.2.1 (by omega))) (Ev.bind (nMul _ _ (Le_lt hr.2.2 (by omega)) (Le_lt hs.2.2 (by omega))) (Ev.bind this (Ev.const _)))
theorem qCross {r s : Rat} {m n : Nat} (hr : Bd r m) (hs : Bd s n) (h : m + n ≤ 90000) : Ev (fun k => zbm.f k (dig 18446744073709551616 r.num.toNat) (dig 18446744073709551616 r.den) (dig 18446744073709551616 s.num.toNat) (dig 18446744073709551616 s.den)) (dig 18446744073709551616 (r.num.toNat * s.den), dig 18446744073709551616 (s.num.toNat * r.den), dig 18446744073709551616 (r.den * s.den)) :=
 Ev.bind (nMul _ _ (Le_lt hr.2.1 (by omega)) (Le_lt hs.2.2 (by omega))) (Ev.bind (nMul _ _ (Le_lt hs.2.1 (by omega)) (Le_lt hr.2.2 (by omega))) (Ev.bind (nMul _ _ (Le_lt hr.2.2 (by omega)) (Le_lt hs.2.2 (by omega))) (Ev.const _)))
theorem qCmp {r s : Rat} {m n : Nat} (hr : Bd r m) (hs : Bd s n) (h : m + n ≤ 90000) : Ev (fun k => zcz.f k (dig 18446744073709551616 r.num.toNat) (dig 18446744073709551616 r.den) (dig 18446744073709551616 s.num.toNat) (dig 18446744073709551616 s.den)) (cmpR r s) := by
 have := nCmp (r.num.toNat * s.den) (s.num.toNat * r.den)
 rw [sgn_rat hr.1 hs.1] at this
 exact Ev.bind (qCross hr hs h) (Ev.plain this (Ev.const _))
theorem qGood {r : Rat} {m : Nat} (hr : Bd r m) (h : m ≤ 90000) : Ev (fun k => zbs.f k (dig 18446744073709551616 r.num.toNat) (dig 18446744073709551616 r.den)) true := by
 have := nRGood hr.2.1 hr.2.2 (by omega) r.den_pos
 rw [decide_eq_true (rat_gcd r hr.1)] at this
 exact this
theorem Bd.nat {n m : Nat} (h : n < 18446744073709551616 ^ m) (hm : 1 ≤ m) : Bd (n : Rat) m := ⟨by
  have := mkRat_nonneg n 1
  rw [Rat.mkRat_eq_div] at this
  rw [← Rat.num_nonneg]
  simp, by simpa using h, by
  rw [Rat.den_natCast]
  exact Nat.lt_of_lt_of_le (by decide : 1 < 18446744073709551616) (by
   have := Nat.pow_le_pow_right (n := 18446744073709551616) (by decide) hm
   rw [Nat.pow_one] at this
   exact this)⟩
theorem qInt (n : Int) (h : n < 9223372036854775808) : Ev (fun k => zcj.f k n) (dig 18446744073709551616 ((n.toNat : Nat) : Rat).num.toNat, dig 18446744073709551616 ((n.toNat : Nat) : Rat).den) := by
 have := nRint n h
 rw [Rat.num_natCast, Rat.den_natCast, Int.toNat_natCast]
 exact this
theorem dOf {x y m : Nat} (hy : 0 < y) (hx : x < 18446744073709551616 ^ m) (hyl : y < 18446744073709551616 ^ m) (hm : m ≤ 5000) : Ev (fun k => zcy.f k (dig 10000 x) (dig 10000 y)) (dig 10000 (mkRat (x : Int) y).num.toNat, dig 10000 (mkRat (x : Int) y).den) := by
 obtain ⟨h1, h2⟩ := low_rat (x := x) hy
 have := rRof hy hx hyl hm
 rw [h1, h2] at this
 exact this
theorem dig_single (x : Nat) (h0 : x ≠ 0) (h : x < 18446744073709551616) : dig 18446744073709551616 x = [(x : Int)] := by
 rw [dig_pos (by decide) h0, Nat.div_eq_of_lt h, zcu, Nat.mod_eq_of_lt h]
theorem dig_two (x : Nat) (h : 18446744073709551616 ≤ x) : 2 ≤ (dig 18446744073709551616 x).length := by
 have h1 : x / 18446744073709551616 ≠ 0 := by omega
 rw [dig_pos (by decide) (by omega), dig_pos (by decide) h1]
 simp
theorem nSmall (x : Nat) : nat_Small.f (dig 18446744073709551616 x) = some (if x ≤ 4611686018427387904 then ((x : Int), true) else (0, false)) := by
 have hat := nAt (dig 18446744073709551616 x) 0
 have h00 : ((0 : Nat) : Int) = 0 := rfl
 rw [h00] at hat
 unfold nat_Small.f
 by_cases h1 : x < 18446744073709551616
 ·
  have hx : (dig 18446744073709551616 x).getD 0 0 = (x : Int) ∧ (dig 18446744073709551616 x).length ≤ 1 := by
   by_cases h0 : x = 0
   ·
    subst h0
    rw [zcu]
    exact ⟨rfl, by simp⟩
   ·
    rw [dig_single x h0 h1]
    exact ⟨rfl, by simp⟩
  rw [hx.1] at hat
  rw [if_neg (by omega), hat, Option.bind_some, Option.bind_some]
  by_cases hs : x ≤ 4611686018427387904
  ·
   rw [if_neg (by omega), if_pos hs, w64s (by omega) (by omega)]
  ·
   rw [if_pos (by omega), if_neg hs]
 ·
  have := dig_two x (by omega)
  rw [if_pos (by omega), if_neg (by omega)]
theorem div_low {x y : Nat} (hy : 0 < y) : (mkRat (x : Int) y).num.toNat / (mkRat (x : Int) y).den = x / y := by
 obtain ⟨h1, h2⟩ := low_rat (x := x) hy
 rw [← h1, ← h2]
 have hg := gcdPos (x := x) hy
 have e1 := Nat.div_mul_cancel (Nat.gcd_dvd_left x y)
 have e2 := Nat.div_mul_cancel (Nat.gcd_dvd_right x y)
 have : x / y = (x / Nat.gcd x y * Nat.gcd x y) / (y / Nat.gcd x y * Nat.gcd x y) := by rw [e1, e2]
 rw [this, Nat.mul_div_mul_right _ _ hg]
theorem mul_nat_floor {r : Rat} (hr : 0 ≤ r) (q : Nat) : (r * ((q : Nat) : Rat)).num.toNat / (r * ((q : Nat) : Rat)).den = r.num.toNat * q / r.den := by
 have h := mul_rat hr (Rat.natCast_nonneg (a := q))
 rw [Rat.num_natCast, Rat.den_natCast, Int.toNat_natCast, Nat.mul_one] at h
 rw [← h]
 exact div_low r.den_pos
def sliceV (q : Nat) (r : Rat) : Nat := max 1 (r.num.toNat * q / r.den)
theorem le_one {r : Rat} (hr : 0 ≤ r) (h1 : r ≤ 1) : r.num.toNat ≤ r.den := by
 have := (le_rat (r := 1) (s := r) (by decide) hr).2 h1
 simpa using this
theorem floor_le_q {r : Rat} (hr : 0 ≤ r) (h1 : r ≤ 1) (q : Nat) : r.num.toNat * q / r.den ≤ q := by
 rw [Nat.div_le_iff_le_mul_add_pred r.den_pos]
 have := Nat.mul_le_mul_right q (le_one hr h1)
 omega
theorem one_nat : ((1 : Nat) : Rat) = 1 := rfl
theorem cmp_pos {r s : Rat} : cmpR r s > 0 ↔ s < r := by
 unfold cmpR
 by_cases h1 : r = s
 ·
  rw [if_pos h1]
  constructor
  ·
   intro h
   cases h
  ·
   intro h
   rw [h1] at h
   exact absurd h Rat.lt_irrefl
 ·
  rw [if_neg h1]
  by_cases h2 : r < s
  ·
   rw [if_pos h2]
   constructor
   ·
    intro h
    cases h
   ·
    intro h
    exact absurd (Rat.le_of_lt h) (Rat.not_le.2 h2)
  ·
   rw [if_neg h2]
   constructor
   ·
    intro _
    exact Rat.lt_of_le_of_ne (Rat.not_lt.1 h2) (fun e => h1 e.symm)
   ·
    intro _
    decide
theorem right_in {q : Nat} (h1 : 1 ≤ q) (h2 : q ≤ 1000) : zcm.f (q : Int) = some true := by
 unfold zcm.f
 rw [if_pos (by omega), decide_eq_true (by omega)]
theorem int_nat (q : Nat) (h : q < 9223372036854775808) : Ev (fun k => zcj.f k (q : Int)) (dig 18446744073709551616 ((q : Nat) : Rat).num.toNat, dig 18446744073709551616 ((q : Nat) : Rat).den) := by
 have := qInt (q : Int) (by omega)
 rw [Int.toNat_natCast] at this
 exact this
theorem qSlice {r : Rat} {m q : Nat} (hr : Bd r m) (hm : m ≤ 1000) (h1 : r ≤ 1) (q1 : 1 ≤ q) (q2 : q ≤ 1000) : Ev (fun k => zck.f k (q : Int) (dig 18446744073709551616 r.num.toNat) (dig 18446744073709551616 r.den)) (((sliceV q r : Nat) : Int), 0) := by
 have bq : Bd ((q : Nat) : Rat) 1 := Bd.nat (by rw [Nat.pow_one]; omega) (by omega)
 have b1 : Bd ((1 : Nat) : Rat) 1 := Bd.nat (by rw [Nat.pow_one]; omega) (by omega)
 have bm := hr.mul bq
 have hc : ¬ cmpR r ((1 : Nat) : Rat) > 0 := by
  rw [cmp_pos, one_nat]
  exact Rat.not_lt.2 h1
 have hf := nFloor (m := m + 1) (r * ((q : Nat) : Rat)).den_pos bm.2.1 bm.2.2 (by omega)
 rw [mul_nat_floor hr.1] at hf
 have hfq := floor_le_q hr.1 h1 q
 have hs := nSmall (r.num.toNat * q / r.den)
 rw [if_pos (by omega)] at hs
 refine Ev.plain (right_in q1 q2) (Ev.pos rfl (Ev.bind (qGood hr (by omega)) (Ev.pos rfl (Ev.bind (F := fun k => zcj.f k 1) (int_nat 1 (by omega)) (Ev.bind (qCmp hr b1 (by omega)) (Ev.neg hc (Ev.bind (int_nat q (by omega)) (Ev.bind (qMul hr bq (by omega)) (Ev.bind hf (Ev.plain hs ?_))))))))))
 have e : mx 1 ((r.num.toNat * q / r.den : Nat) : Int) = ((sliceV q r : Nat) : Int) := by
  unfold mx sliceV
  split <;> omega
 rw [e]
 exact Ev.const _
theorem qSliceBig {r : Rat} {m q : Nat} (hr : Bd r m) (hm : m ≤ 1000) (h1 : 1 < r) (q1 : 1 ≤ q) (q2 : q ≤ 1000) : Ev (fun k => zck.f k (q : Int) (dig 18446744073709551616 r.num.toNat) (dig 18446744073709551616 r.den)) (0, 14) := by
 have b1 : Bd ((1 : Nat) : Rat) 1 := Bd.nat (by rw [Nat.pow_one]; omega) (by omega)
 have hc : cmpR r ((1 : Nat) : Rat) > 0 := by
  rw [cmp_pos, one_nat]
  exact h1
 exact Ev.plain (right_in q1 q2) (Ev.pos rfl (Ev.bind (qGood hr (by omega)) (Ev.pos rfl (Ev.bind (F := fun k => zcj.f k 1) (int_nat 1 (by omega)) (Ev.bind (qCmp hr b1 (by omega)) (Ev.pos hc (Ev.const _)))))))
theorem sgn_le {x y : Nat} (h : x ≤ y) : sgn x y ≤ 0 := by
 rcases Nat.lt_or_eq_of_le h with h | h
 ·
  rw [sgn_lt h]
  omega
 ·
  rw [sgn_zero.2 h]
  omega
theorem dSlice_l0 {r : Rat} {m q : Nat} (hr : Bd r m) (hm : m ≤ 1000) (h1 : r ≤ 1) (q1 : 1 ≤ q) (q2 : q ≤ 1000) : ∀ (d n : Nat), d = q - n → 1 ≤ n → n ≤ sliceV q r → Ev (fun k => za1.l0 k (q : Int) (n : Int) (dig 10000 r.num.toNat) (dig 10000 r.den)) ((sliceV q r : Nat) : Int)
 | d, n, hd, h1n, hn => by
  have hfq := floor_le_q hr.1 h1 q
  have hsv : sliceV q r ≤ q := by
   unfold sliceV
   omega
  by_cases hlt : n < q
  ·
   have w1 := Lib.hid (wadd1 n (by omega))
   have of1 : Ev (fun k => zaw.f k (wrap64 ((n : Int) + 1))) (dig 10000 (n + 1)) := by
    rw [w1.out]
    exact rOf _ (by omega)
   have W1 : n + 1 < 18446744073709551616 ^ 1 := by
    rw [Nat.pow_one]
    omega
   have Wq : q < 18446744073709551616 ^ 1 := by
    rw [Nat.pow_one]
    omega
   have m1 := W_mul hr.2.2 W1
   have m2 := W_mul hr.2.1 Wq
   have hcmp := rCmp (r.den * (n + 1)) (r.num.toNat * q) (Lo_lt m1 (by omega)) (Lo_lt m2 (by omega))
   by_cases hle : r.den * (n + 1) ≤ r.num.toNat * q
   ·
    have hs := sgn_le hle
    have hfl : n + 1 ≤ r.num.toNat * q / r.den := by
     rw [Nat.le_div_iff_mul_le r.den_pos, Nat.mul_comm]
     exact hle
    have ih := dSlice_l0 hr hm h1 q1 q2 (q - (n + 1)) (n + 1) rfl (by omega) (by unfold sliceV; omega)
    refine Ev.step (fun _ => za1.l0.eq_2 ..) (Ev.pos (by omega) (Ev.bind of1 (Ev.bind (rMul _ _ (Lo_lt hr.2.2 (by omega)) (Lo_lt W1 (by omega))) (Ev.bind (rOf q (by omega)) (Ev.bind (rMul _ _ (Lo_lt hr.2.1 (by omega)) (Lo_lt Wq (by omega))) (Ev.bind hcmp (Ev.pos hs ?_)))))))
    rw [w1.out]
    exact ih
   ·
    have hfl : r.num.toNat * q / r.den < n + 1 := by
     rw [Nat.div_lt_iff_lt_mul r.den_pos, Nat.mul_comm (n + 1)]
     omega
    have hs : ¬ sgn (r.den * (n + 1)) (r.num.toNat * q) ≤ 0 := by
     rw [sgn_gt (by omega)]
     omega
    have e : (n : Int) = ((sliceV q r : Nat) : Int) := by
     unfold sliceV at hn ⊢
     omega
    refine Ev.step (fun _ => za1.l0.eq_2 ..) (Ev.pos (by omega) (Ev.bind of1 (Ev.bind (rMul _ _ (Lo_lt hr.2.2 (by omega)) (Lo_lt W1 (by omega))) (Ev.bind (rOf q (by omega)) (Ev.bind (rMul _ _ (Lo_lt hr.2.1 (by omega)) (Lo_lt Wq (by omega))) (Ev.bind hcmp (Ev.neg hs ?_)))))))
    rw [e]
    exact Ev.const _
  ·
   have e : (n : Int) = ((sliceV q r : Nat) : Int) := by omega
   refine Ev.step (fun _ => za1.l0.eq_2 ..) (Ev.neg (by omega) ?_)
   rw [e]
   exact Ev.const _
 termination_by d => d
 decreasing_by omega
theorem dSlice {r : Rat} {m q : Nat} (hr : Bd r m) (hm : m ≤ 1000) (h1 : r ≤ 1) (q1 : 1 ≤ q) (q2 : q ≤ 1000) : Ev (fun k => za1.f k (q : Int) (dig 10000 r.num.toNat) (dig 10000 r.den)) ((sliceV q r : Nat) : Int) :=
 dSlice_l0 hr hm h1 q1 q2 _ 1 rfl (by omega) (by unfold sliceV; omega)
theorem sawake : Ev (fun k => zbf.f k) true := Ev.mono (K := 40) (fun k => zbf.mono k) (by kernel_rfl)
def lims (r : Rat) : S28 := ⟨dig 18446744073709551616 r.num.toNat, dig 18446744073709551616 r.den⟩
theorem nAll_l0 {m q : Nat} (hm : m ≤ 1000) (q1 : 1 ≤ q) (q2 : q ≤ 1000) (rs : List Rat) (hl : rs.length ≤ 1000000) (h : ∀ r ∈ rs, Bd r m ∧ r ≤ 1) : ∀ (d i : Nat), i + d = rs.length →
  Ev (fun k => zbp.l0 k (q : Int) ((rs.take i).map fun r => ((sliceV q r : Nat) : Int)) (rs.map lims) (rs.length : Int) (i : Int)) (rs.map fun r => ((sliceV q r : Nat) : Int), 0)
 | 0, i, hd => by
  refine Ev.step (fun _ => zbp.l0.eq_2 ..) (Ev.neg (by omega) ?_)
  rw [List.take_of_length_le (by omega)]
  exact Ev.const _
 | d + 1, i, hd => by
  have hi : i < rs.length := by omega
  obtain ⟨hb, h1⟩ := h rs[i] (List.getElem_mem hi)
  have e : rd_T28 (rs.map lims) (i : Int) = lims rs[i] := by
   unfold rd_T28
   rw [Int.toNat_natCast, List.getD_eq_getElem?_getD, List.getElem?_map, List.getElem?_eq_getElem hi]
   rfl
  have w1 := Lib.hid (wadd1 i (by omega))
  have ih := nAll_l0 hm q1 q2 rs hl h d (i + 1) (by omega)
  have ht : rs.take (i + 1) = rs.take i ++ [rs[i]] := by rw [List.take_succ_eq_append_getElem hi]
  rw [ht, List.map_append] at ih
  refine Ev.step (fun _ => zbp.l0.eq_2 ..) (Ev.pos (by omega) (Ev.pos (by omega) (Ev.pos (by rw [List.length_map]; omega) ?_)))
  rw [e]
  refine Ev.bind (qSlice hb hm h1 q1 q2) (Ev.pos rfl (Ev.pos (by rw [List.length_map, List.length_take]; omega) ?_))
  rw [w1.out]
  exact ih
theorem nAll {m q : Nat} (hm : m ≤ 1000) (q1 : 1 ≤ q) (q2 : q ≤ 1000) (rs : List Rat) (hl : rs.length ≤ 1000000) (h : ∀ r ∈ rs, Bd r m ∧ r ≤ 1) : Ev (fun k => zbp.f k (q : Int) (rs.map lims)) (rs.map fun r => ((sliceV q r : Nat) : Int), 0) := by
 have h0 := nAll_l0 hm q1 q2 rs hl h rs.length 0 (by omega)
 refine Ev.plain (right_in q1 q2) (Ev.pos rfl ?_)
 rw [List.length_map]
 exact h0
def sumN (l : List Nat) : Nat := l.foldr (· + ·) 0
theorem sumN_cons (x : Nat) (l : List Nat) : sumN (x :: l) = x + sumN l := rfl
theorem sumN_append (a b : List Nat) : sumN (a ++ b) = sumN a + sumN b := by
 induction a with
 | nil => simp [sumN]
 | cons x a ih =>
  rw [List.cons_append, sumN_cons, sumN_cons, ih]
  omega
theorem nSum_l0 (l : List Nat) (hl : l.length ≤ 1000000) (hs : sumN l ≤ 1000000000) : ∀ (d i : Nat), i + d = l.length → Ev (fun k => zcq.l0 k ((sumN (l.take i) : Nat) : Int) (l.map fun x : Nat => (x : Int)) (l.length : Int) (i : Int)) ((sumN l : Nat) : Int)
 | 0, i, hd => by
  refine Ev.step (fun _ => zcq.l0.eq_2 ..) (Ev.neg (by omega) ?_)
  rw [List.take_of_length_le (by omega)]
  exact Ev.const _
 | d + 1, i, hd => by
  have hi : i < l.length := by omega
  have e : rd (l.map fun x : Nat => (x : Int)) (i : Int) = ((l[i] : Nat) : Int) := by
   rw [rd_nat, List.getD_eq_getElem?_getD, List.getElem?_map, List.getElem?_eq_getElem hi]
   rfl
  have ht : l.take (i + 1) = l.take i ++ [l[i]] := by rw [List.take_succ_eq_append_getElem hi]
  have hsum : sumN (l.take i) + l[i] = sumN (l.take (i + 1)) := by
   rw [ht, sumN_append]
   simp [sumN]
  have hle : sumN (l.take (i + 1)) ≤ sumN l := by
   have := sumN_append (l.take (i + 1)) (l.drop (i + 1))
   rw [List.take_append_drop] at this
   omega
  have ih := nSum_l0 l hl hs d (i + 1) (by omega)
  have w1 := Lib.hid (wadd1 i (by omega))
  have w2 := Lib.hid (wadd (sumN (l.take i)) l[i] (by omega))
  refine Ev.step (fun _ => zcq.l0.eq_2 ..) (Ev.pos (by omega) (Ev.pos (by omega) (Ev.pos (by rw [List.length_map]; omega) ?_)))
  rw [e, w2.out, w1.out, hsum]
  exact ih
theorem nSum (l : List Nat) (hl : l.length ≤ 1000000) (hs : sumN l ≤ 1000000000) : Ev (fun k => zcq.f k (l.map fun x : Nat => (x : Int))) ((sumN l : Nat) : Int) := by
 have := nSum_l0 l hl hs l.length 0 (by omega)
 refine Ev.congr (fun k => ?_) this
 unfold zcq.f
 rw [List.length_map]
 rfl
end Go.Proofs.YtfjkamhcabckeaaDoor.P
end
section
namespace Go.Proofs.YtfjkamhcabckeaaDoor.P
open Go.RowKit Go.Proofs.YtfjkamhcabckeaaDoorW.PrintWords Go.Proofs.YtfjkamhcabckeaaDoorW.PrintLast Go.Proofs.YtfjkamhcabckeaaDoorW.PrintMore
attribute [local go_sem] zdm zdh max_two min_two zc8 zc9 zdg zdi
def rat75 (x : S75) : Rat := mkRat x.f0 x.f1.toNat
def Fine (x : S75) : Prop := 0 ≤ x.f0 ∧ x.f0 < 9223372036854775808 ∧ 1 ≤ x.f1 ∧ x.f1 < 9223372036854775808
theorem rd75 (l : List S75) (i : Nat) (hi : i < l.length) : rd_T75 l (i : Int) = l[i] := by
 unfold rd_T75
 rw [Int.toNat_natCast, List.getD_eq_getElem?_getD, List.getElem?_eq_getElem hi]
 rfl
theorem fine_nat {x : S75} (h : Fine x) : ∃ n m : Nat, x.f0 = (n : Int) ∧ x.f1 = (m : Int) ∧ 0 < m ∧ n < 18446744073709551616 ^ 1 ∧ m < 18446744073709551616 ^ 1 ∧ rat75 x = mkRat (n : Int) m := by
 obtain ⟨h1, h2, h3, h4⟩ := h
 obtain ⟨n, hn⟩ := Int.eq_ofNat_of_zero_le h1
 obtain ⟨m, hm⟩ := Int.eq_ofNat_of_zero_le (show 0 ≤ x.f1 by omega)
 refine ⟨n, m, hn, hm, by omega, by rw [Nat.pow_one]; omega, by rw [Nat.pow_one]; omega, ?_⟩
 unfold rat75
 rw [hn, hm, Int.toNat_natCast]
theorem rat_bd {x : S75} (h : Fine x) : Bd (rat75 x) 1 := by
 obtain ⟨n, m, e1, e2, h1, h2, h3, e⟩ := fine_nat h
 rw [e]
 exact Bd.mk h1 h2 h3
theorem rat_le {x : S75} (h : Fine x) : rat75 x ≤ 1 ↔ ¬ x.f0 > x.f1 := by
 obtain ⟨n, m, e1, e2, h1, h2, h3, e⟩ := fine_nat h
 rw [e, e1, e2]
 have hy0 : (0 : Rat) < ((m : Nat) : Rat) := Rat.natCast_pos.2 h1
 have e4 : mkRat (n : Int) m * ((m : Nat) : Rat) = ((n : Nat) : Rat) := by
  rw [Rat.mkRat_eq_div, Rat.intCast_natCast]
  exact Rat.div_mul_cancel (Rat.ne_of_gt hy0)
 constructor
 ·
  intro hle hgt
  have h5 := Rat.mul_le_mul_of_nonneg_right hle (Rat.le_of_lt hy0)
  rw [e4, Rat.one_mul] at h5
  have := Rat.natCast_le_natCast.1 h5
  omega
 ·
  intro hng
  refine Rat.le_of_mul_le_mul_right (c := ((m : Nat) : Rat)) ?_ hy0
  rw [e4, Rat.one_mul]
  exact Rat.natCast_le_natCast.2 (by omega)
theorem oNat {n : Nat} {y : Int} (e : y = (n : Int)) (h : n < 18446744073709551616 ^ 1) (h' : y < 9223372036854775808) : Ev (fun k => zcf.f k (IntKind.u64.wrap y)) (dig 18446744073709551616 n) := by
 rw [e, u64s (by omega) (by omega)]
 exact nOf _ (by omega)
theorem madeFine {x : S75} (h : Fine x) (h1 : ¬ x.f0 > x.f1) : Ev (fun k => za0.f k x.f0 x.f1) (dig 18446744073709551616 (rat75 x).num.toNat, dig 18446744073709551616 (rat75 x).den, dig 10000 (rat75 x).num.toNat, dig 10000 (rat75 x).den, true) := by
 obtain ⟨n, m, e1, e2, h2, h3, h4, e⟩ := fine_nat h
 obtain ⟨g1, g2, g3, g4⟩ := h
 rw [e]
 refine Ev.neg (by omega) (Ev.neg (by omega) ?_)
 rw [decide_eq_false h1]
 refine Ev.step (fun _ => za0.j0.eq_2 ..) (Ev.neg (by simp) (Ev.bind (oNat e1 h3 g2) (Ev.bind (oNat e2 h4 g4) (Ev.bind (qOf h2 h3 h4 (by omega)) ?_))))
 rw [e1, e2]
 exact Ev.bind (rOf n (by omega)) (Ev.bind (rOf m (by omega)) (Ev.bind (dOf h2 h3 h4 (by omega)) (Ev.const _)))
theorem nAllBig_l0 {m q : Nat} (hm : m ≤ 1000) (q1 : 1 ≤ q) (q2 : q ≤ 1000) (rs : List Rat) (hl : rs.length ≤ 1000000) (h : ∀ r ∈ rs, Bd r m) : ∀ (d i : Nat) (acc : List Int), i + d = rs.length → acc.length = i → (∃ r ∈ rs.drop i, 1 < r) →
  Ev (fun k => zbp.l0 k (q : Int) acc (rs.map lims) (rs.length : Int) (i : Int)) (([] : List Int), 14)
 | 0, i, acc, hd, ha, hx => by
  obtain ⟨r, hr, _⟩ := hx
  rw [List.drop_eq_nil_of_le (by omega)] at hr
  cases hr
 | d + 1, i, acc, hd, ha, hx => by
  have hi : i < rs.length := by omega
  have hb := h rs[i] (List.getElem_mem hi)
  have e : rd_T28 (rs.map lims) (i : Int) = lims rs[i] := by
   unfold rd_T28
   rw [Int.toNat_natCast, List.getD_eq_getElem?_getD, List.getElem?_map, List.getElem?_eq_getElem hi]
   rfl
  have w1 := Lib.hid (wadd1 i (by omega))
  refine Ev.step (fun _ => zbp.l0.eq_2 ..) (Ev.pos (by omega) (Ev.pos (by omega) (Ev.pos (by rw [List.length_map]; omega) ?_)))
  rw [e]
  by_cases h1 : rs[i] ≤ 1
  ·
   refine Ev.bind (qSlice hb hm h1 q1 q2) (Ev.pos rfl (Ev.pos (by omega) ?_))
   rw [w1.out]
   refine nAllBig_l0 hm q1 q2 rs hl h d (i + 1) _ (by omega) (by rw [List.length_append, ha]; rfl) ?_
   obtain ⟨r, hr, h2⟩ := hx
   rw [List.drop_eq_getElem_cons hi] at hr
   rcases List.mem_cons.1 hr with rfl | hr
   ·
    exact absurd h1 (Rat.not_le.2 h2)
   ·
    exact ⟨r, hr, h2⟩
  ·
   exact Ev.bind (qSliceBig hb hm (Rat.not_le.1 h1) q1 q2) (Ev.neg (by decide) (Ev.const _))
theorem sliceV_le {r : Rat} {m q : Nat} (hb : Bd r m) (h1 : r ≤ 1) (q1 : 1 ≤ q) : sliceV q r ≤ q := by
 have := floor_le_q hb.1 h1 q
 unfold sliceV
 omega
theorem sumN_le (q : Nat) : ∀ (l : List Nat), (∀ x ∈ l, x ≤ q) → sumN l ≤ q * l.length
 | [], _ => by simp [sumN]
 | x :: l, h => by
  have h1 := sumN_le q l fun y hy => h y (by simp [hy])
  have h2 := h x (by simp)
  rw [sumN_cons, List.length_cons, Nat.mul_add, Nat.mul_one]
  omega
theorem all_l1 (l : List S75) (q : Nat) (hl : l.length ≤ 20) (q1 : 1 ≤ q) (q2 : q ≤ 1000) (h : ∀ x ∈ l, Fine x ∧ ¬ x.f0 > x.f1) (vs : List Nat) (hvs : vs = l.map fun x => sliceV q (rat75 x)) (hS : sumN vs ≤ 20000) : ∀ (d i : Nat), i + d = l.length →
  Ev (fun k => zaa.l1 k (q : Int) (vs.map fun x : Nat => (x : Int)) ((sumN (vs.take i) : Nat) : Int) l (l.length : Int) (i : Int)) true
 | 0, i, hd => by
  have hvl : vs.length = l.length := by rw [hvs, List.length_map]
  refine Ev.step (fun _ => zaa.l1.eq_2 ..) (Ev.neg (by omega) (Ev.bind (nSum vs (by omega) (by omega)) ?_))
  rw [List.take_of_length_le (by omega), beq_self_eq_true]
  exact Ev.const _
 | d + 1, i, hd => by
  have hi : i < l.length := by omega
  have hvl : vs.length = l.length := by rw [hvs, List.length_map]
  have hiv : i < vs.length := by omega
  obtain ⟨hf, hn⟩ := h l[i] (List.getElem_mem hi)
  have ev : vs[i] = sliceV q (rat75 l[i]) := by
   subst hvs
   rw [List.getElem_map]
  have er : rd (vs.map fun x : Nat => (x : Int)) (i : Int) = ((vs[i] : Nat) : Int) := by
   rw [rd_nat, List.getD_eq_getElem?_getD, List.getElem?_map, List.getElem?_eq_getElem hiv]
   rfl
  have ht : vs.take (i + 1) = vs.take i ++ [vs[i]] := by rw [List.take_succ_eq_append_getElem hiv]
  have hsum : sumN (vs.take i) + vs[i] = sumN (vs.take (i + 1)) := by
   rw [ht, sumN_append]
   simp [sumN]
  have hle : sumN (vs.take (i + 1)) ≤ sumN vs := by
   have := sumN_append (vs.take (i + 1)) (vs.drop (i + 1))
   rw [List.take_append_drop] at this
   omega
  have w1 := Lib.hid (wadd1 i (by omega))
  have w2 := Lib.hid (wadd (sumN (vs.take i)) vs[i] (by omega))
  have ih := all_l1 l q hl q1 q2 h vs hvs hS d (i + 1) (by omega)
  refine Ev.step (fun _ => zaa.l1.eq_2 ..) (Ev.pos (by omega) (Ev.pos (by omega) (Ev.pos (by omega) ?_)))
  rw [rd75 l i hi]
  refine Ev.bind (madeFine hf hn) (Ev.pos (by rw [List.length_map]; omega) (Ev.bind (dSlice (rat_bd hf) (by omega) ((rat_le hf).2 hn) q1 q2) (Ev.pos (by rw [er, ev]) ?_)))
  rw [er, w2.out, w1.out, hsum]
  exact ih
theorem all_end (l : List S75) (q : Nat) (hl : l.length ≤ 20) (q1 : 1 ≤ q) (q2 : q ≤ 1000) (h : ∀ x ∈ l, Fine x) :
  Ev (fun k => (zbp.f k (q : Int) (l.map fun x => lims (rat75 x))).bind fun bt => if (l.any fun x => decide (x.f0 > x.f1)) = true then (if bt.2 = 14 then some ((bt.1.length : Int) == 0) else none) else (if bt.2 = 0 then zaa.j3 k l (q : Int) bt.1 ((bt.1.length : Int) != (l.length : Int)) else zaa.j3 k l (q : Int) bt.1 true)) true := by
 have e1 : (l.map rat75).map lims = l.map fun x => lims (rat75 x) := by
  rw [List.map_map]
  rfl
 have hbd : ∀ r ∈ l.map rat75, Bd r 1 := by
  intro r hr
  obtain ⟨x, hx, rfl⟩ := List.mem_map.1 hr
  exact rat_bd (h x hx)
 by_cases hw : ∃ x ∈ l, x.f0 > x.f1
 ·
  have hany : (l.any fun x => decide (x.f0 > x.f1)) = true := by
   rw [List.any_eq_true]
   obtain ⟨x, hx, h1⟩ := hw
   exact ⟨x, hx, decide_eq_true h1⟩
  have hb := nAllBig_l0 (m := 1) (by omega) q1 q2 (l.map rat75) (by rw [List.length_map]; omega) hbd (l.map rat75).length 0 [] (by omega) rfl (by
   obtain ⟨x, hx, h1⟩ := hw
   exact ⟨rat75 x, by rw [List.drop_zero]; exact List.mem_map.2 ⟨x, hx, rfl⟩, Rat.not_le.1 fun h2 => (rat_le (h x hx)).1 h2 h1⟩)
  rw [e1, List.length_map] at hb
  have hA : Ev (fun k => zbp.f k (q : Int) (l.map fun x => lims (rat75 x))) (([] : List Int), 14) := by
   refine Ev.plain (right_in q1 q2) (Ev.pos rfl ?_)
   rw [List.length_map]
   exact hb
  exact Ev.bind hA (Ev.pos hany (Ev.pos rfl (Ev.const _)))
 ·
  have hno : ∀ x ∈ l, ¬ x.f0 > x.f1 := fun x hx h1 => hw ⟨x, hx, h1⟩
  have hany : ¬ (l.any fun x => decide (x.f0 > x.f1)) = true := by
   rw [List.any_eq_true]
   rintro ⟨x, hx, h1⟩
   exact hno x hx (of_decide_eq_true h1)
  have ha := nAll (m := 1) (by omega) q1 q2 (l.map rat75) (by rw [List.length_map]; omega) (by
   intro r hr
   refine ⟨hbd r hr, ?_⟩
   obtain ⟨x, hx, rfl⟩ := List.mem_map.1 hr
   exact (rat_le (h x hx)).2 (hno x hx))
  rw [e1, List.map_map] at ha
  have e2 : l.map ((fun r => ((sliceV q r : Nat) : Int)) ∘ rat75) = (l.map fun x => sliceV q (rat75 x)).map fun x : Nat => (x : Int) := by
   rw [List.map_map]
   rfl
  rw [e2] at ha
  have hS : sumN (l.map fun x => sliceV q (rat75 x)) ≤ 20000 := by
   have h1 := sumN_le q (l.map fun x => sliceV q (rat75 x)) (by
    intro y hy
    obtain ⟨x, hx, rfl⟩ := List.mem_map.1 hy
    exact sliceV_le (rat_bd (h x hx)) ((rat_le (h x hx)).2 (hno x hx)) q1)
   rw [List.length_map] at h1
   have h2 : q * l.length ≤ 1000 * 20 := Nat.mul_le_mul q2 hl
   omega
  have hl1 := all_l1 l q hl q1 q2 (fun x hx => ⟨h x hx, hno x hx⟩) _ rfl hS l.length 0 (by omega)
  refine Ev.bind ha (Ev.neg hany (Ev.pos rfl (Ev.step (fun _ => zaa.j3.eq_2 ..) (Ev.neg ?_ ?_))))
  ·
   simp
  ·
   exact hl1
theorem all_l0 (l : List S75) (q : Nat) (hl : l.length ≤ 20) (q1 : 1 ≤ q) (q2 : q ≤ 1000) (h : ∀ x ∈ l, x.f0 < 9223372036854775808 ∧ x.f1 < 9223372036854775808) : ∀ (d i : Nat), i + d = l.length → (∀ x ∈ l.take i, Fine x) →
  Ev (fun k => zaa.l0 k l (q : Int) ((l.take i).map fun x => lims (rat75 x)) ((l.take i).any fun x => decide (x.f0 > x.f1)) l (l.length : Int) (i : Int)) true
 | 0, i, hd, hf => by
  rw [List.take_of_length_le (by omega)] at hf ⊢
  exact Ev.step (fun _ => zaa.l0.eq_2 ..) (Ev.neg (by omega) (all_end l q hl q1 q2 hf))
 | d + 1, i, hd, hf => by
  have hi : i < l.length := by omega
  obtain ⟨b0, b1⟩ := h l[i] (List.getElem_mem hi)
  have ht : l.take (i + 1) = l.take i ++ [l[i]] := by rw [List.take_succ_eq_append_getElem hi]
  have ih := all_l0 l q hl q1 q2 h d (i + 1) (by omega)
  have w1 := Lib.hid (wadd1 i (by omega))
  refine Ev.step (fun _ => zaa.l0.eq_2 ..) (Ev.pos (by omega) (Ev.pos (by omega) (Ev.pos (by omega) ?_)))
  rw [rd75 l i hi]
  by_cases g0 : l[i].f0 < 0
  ·
   exact Ev.pos g0 (Ev.step (fun _ => zaa.j2.eq_2 ..) (Ev.pos rfl (Ev.const _)))
  ·
   refine Ev.neg g0 ?_
   by_cases g1 : l[i].f1 < 1
   ·
    rw [decide_eq_true g1]
    exact Ev.step (fun _ => zaa.j2.eq_2 ..) (Ev.pos rfl (Ev.const _))
   ·
    rw [decide_eq_false g1]
    have hF : Fine l[i] := ⟨by omega, b0, by omega, b1⟩
    obtain ⟨n, m, e1, e2, h2, h3, h4, e⟩ := fine_nat hF
    have ih2 := ih (by
     intro x hx
     rw [ht] at hx
     rcases List.mem_append.1 hx with hx | hx
     ·
      exact hf x hx
     ·
      rw [List.mem_singleton.1 hx]
      exact hF)
    rw [ht, List.map_append, List.any_append] at ih2
    have o3 := qOf h2 h3 h4 (by omega : 1 ≤ 100000)
    rw [← e] at o3
    refine Ev.step (fun _ => zaa.j2.eq_2 ..) (Ev.neg (by simp) (Ev.bind (oNat e1 h3 b0) (Ev.bind (oNat e2 h4 b1) (Ev.bind o3 (Ev.pos (by rw [List.length_map, List.length_take]; omega) (Ev.plain rfl ?_))))))
    rw [w1.out]
    generalize ((l.take i).any fun x => decide (x.f0 > x.f1)) = B at ih2
    have es : ([l[i]].any fun x => decide (x.f0 > x.f1)) = decide (l[i].f0 > l[i].f1) := by simp
    rw [es] at ih2
    cases B
    ·
     rw [Bool.false_or] at ih2
     exact Ev.neg (by simp) ih2
    ·
     rw [Bool.true_or] at ih2
     exact Ev.pos rfl ih2
theorem lSliceAll (a : Int) (ha : (Lit.int .u16 a).wf = true) (l : List S75) (h : ∀ x ∈ l, x.f0 < 9223372036854775808 ∧ x.f1 < 9223372036854775808) : ∃ k, zaa.f k a l = some true := by
 refine Ev.get ?_
 have ha' : 0 ≤ a ∧ a < 65536 := by
  have h1 : IntKind.u16.min ≤ a ∧ a ≤ IntKind.u16.max := by simpa [Lit.wf] using ha
  have h2 : IntKind.u16.min = 0 := by decide
  have h3 : IntKind.u16.max = 65535 := by decide
  omega
 obtain ⟨n, rfl⟩ := Int.eq_ofNat_of_zero_le ha'.1
 refine Ev.bind sawake (Ev.pos rfl ?_)
 by_cases h20 : (l.length : Int) > 20
 ·
  rw [decide_eq_true h20]
  exact Ev.step (fun _ => zaa.j0.eq_2 ..) (Ev.pos rfl (Ev.bind sawake (Ev.const _)))
 ·
  rw [decide_eq_false h20]
  have hq : wrap64 (1 + Int.tmod (wrap64 (n : Int)) 1000) = ((1 + n % 1000 : Nat) : Int) := by
   rw [wid _ (by omega), Int.tmod_eq_emod_of_nonneg (by omega), w64s (by omega) (by omega)]
   omega
  refine Ev.step (fun _ => zaa.j0.eq_2 ..) (Ev.neg (by simp) ?_)
  rw [hq]
  exact all_l0 l (1 + n % 1000) (by omega) (by omega) (by omega) h l.length 0 (by omega) (by simp)
section
open Go.ChangeShapes Go.WideShapes Go.Deep
instance : Inhabited S75 := ⟨z75⟩
theorem trod_arr2 {P : Program} {H : Type} {enc : TypeId × Value → H} {W : World} {base : Nat} {spare : Nat → Bool} {held : Bool} {t e : TypeId} {kd : IntKind} (ht : P.underlying t = some (.array 2 e)) (he : P.underlying e = some (.int kd)) (hce : P.cellsOf e = 1) {fuel : Nat} {c0 c1 : Value} {x : DataW H × List MemPlace}
  (h : DataW.trod enc P W base spare held fuel t [c0, c1] = some x) : ∃ a b : Int, c0 = .int kd a ∧ c1 = .int kd b ∧ (Lit.int kd a).wf = true ∧ (Lit.int kd b).wf = true := by
 cases fuel with
 | zero => simp [DataW.trod] at h
 | succ n =>
  rw [DataW.trod_step] at h
  unfold DataW.trodStep at h
  simp only [ht] at h
  split at h
  ·
   simp only [Option.map_eq_some_iff] at h
   obtain ⟨xs, hx, e1⟩ := h
   rw [show List.range 2 = [0, 1] from rfl, List.mapM_cons, List.mapM_cons, List.mapM_nil] at hx
   simp only [bind, Option.bind_eq_some_iff, pure, Option.some.injEq, hce] at hx
   obtain ⟨y0, h0, _, ⟨y1, h1, _, rfl, rfl⟩, rfl⟩ := hx
   obtain ⟨a, ea, rfl, wa⟩ := DataW.trod_int he h0
   obtain ⟨b, eb, rfl, wb⟩ := DataW.trod_int he h1
   simp at ea eb
   exact ⟨a, b, ea, eb, wa, wb⟩
  ·
   cases h
theorem open_l75 {H : Type} {enc : TypeId × Value → H} {W : World} {base : Nat} {spare : Nat → Bool} {held : Bool} {fuel : Nat} {A : Option Addr} {len cap : Nat} {x : DataW H × List MemPlace}
  (h : DataW.trod enc Tryd.prog W base spare held fuel 73 [.slice A len cap] = some x) : ∃ l : List S75, l.length = len ∧ l.length ≤ cap ∧ Kd.C k75 W A l.length l ∧ ∀ x ∈ l, x.f0 < 9223372036854775808 ∧ x.f1 < 9223372036854775808 := by
 have ce : Tryd.prog.cellsOf 75 = 2 := by kernel_rfl
 rcases open_slice Tryd.underlying73 h with ⟨hcs, _⟩ | ⟨a, len', cap', m, n, D, Pl, hcs, hb, hl, hm, hmm, rfl, hx⟩
 ·
  simp at hcs
  obtain ⟨rfl, rfl, rfl⟩ := hcs
  exact ⟨[], rfl, Nat.le_refl _, ⟨rfl, by decide, fun h => absurd h (by simp)⟩, by simp⟩
 ·
  simp at hcs
  obtain ⟨rfl, rfl, rfl⟩ := hcs
  have each : ∀ i, i < len → ∃ q : S75, W.cell? (a.add (i * 2)) = some (.int .i64 q.f0) ∧ W.cell? (a.add (i * 2 + 1)) = some (.int .i64 q.f1) ∧ (Lit.int .i64 q.f0).wf = true ∧ (Lit.int .i64 q.f1).wf = true := by
   intro i hi
   obtain ⟨cs', h1, h2⟩ := hx i (by rw [hmm]; split <;> omega)
   rw [ce] at h1
   obtain ⟨_, hlen, hcell⟩ := World.cells?_some h1
   match cs', hlen with
   | [v0, v1], _ =>
    have e0 := hcell 0 (by omega)
    have e1 := hcell 1 (by omega)
    rw [Deep.add_add] at e0 e1
    obtain ⟨x0, x1, rfl, rfl, w0, w1⟩ := trod_arr2 Tryd.underlying75 Tryd.underlying3 (by kernel_rfl) h2
    exact ⟨⟨x0, x1⟩, by simpa using e0, by simpa using e1, w0, w1⟩
  obtain ⟨q, hq⟩ := choose_lt each
  have hlm : len ≤ 9223372036854775807 := by
   have hmx : maxLen ≤ 9223372036854775807 := by decide
   omega
  refine ⟨(List.range len).map q, by simp, by simpa using hl, ⟨rfl, by simpa using hlm, fun _ => ⟨a, rfl, fun j p hj => ?_⟩⟩, fun x hx => ?_⟩
  ·
   have hjl : j < len := by
    have := List.getElem?_eq_some_iff.1 hj
    obtain ⟨h1, _⟩ := this
    simpa using h1
   have ep : p = q j := by
    simpa [hjl] using hj.symm
   subst ep
   refine ⟨[.int .i64 (q j).f0, .int .i64 (q j).f1], rfl, k75_mk W (q j), fun i u hu => ?_⟩
   match i, hu with
   | 0, hu => exact (hq j hjl).1.trans hu
   | 1, hu => exact (hq j hjl).2.1.trans hu
  ·
   obtain ⟨i, hi, rfl⟩ := List.mem_map.1 hx
   obtain ⟨_, _, w0, w1⟩ := hq i (List.mem_range.1 hi)
   exact ⟨(lit_i64 w0).2, (lit_i64 w1).2⟩
theorem any_SliceAll {H : Type} {enc : TypeId × Value → H} {W : World} {base : Nat} {spare : Nat → Bool} {held : Bool} {d : DataW H} {p : List MemPlace} (a : Int) (v : Value) (ha : (Lit.int .u16 a).wf = true) (hv : ∃ A len cap, v = .slice A len cap)
  (h : DataW.Trod enc Tryd.prog W base spare held 73 v d p) (hG : Glob W) : Calls Tryd.prog 12 #[.int .u16 a, v] W fun e w' => e = .returned (.bool true) ∧ Below W.heap.size W w' := by
 obtain ⟨A, len, cap, rfl⟩ := hv
 obtain ⟨fuel, hf⟩ := h
 obtain ⟨l, rfl, hc, hC, hl⟩ := open_l75 (by simpa [Value.cells] using hf)
 obtain ⟨k, hk⟩ := lSliceAll a ha l hl
 exact zaa.calls k a A cap l true W hC hc hG hk
end
end Go.Proofs.YtfjkamhcabckeaaDoor.P
end
