import Derived.Test.YtcoipojikmgdmaaDoorP0
import Derived.Test.YtcoipojikmgdmaaDoorP1
import Derived.Test.YtcoipojikmgdmaaDoorP4
import Derived.Test.YtcoipojikmgdmaaDoorP6
import Derived.Test.YtcoipojikmgdmaaDoorP7
import Derived.Test.YtcoipojikmgdmaaDoorP8
import Derived.Test.YtcoipojikmgdmaaDoorQB
namespace Go.Proofs.YtcoipojikmgdmaaDoor.P
open Go.RowKit Go.Proofs.YtcoipojikmgdmaaDoorW.PrintWords Go.Proofs.YtcoipojikmgdmaaDoorW.PrintLast Go.Proofs.YtcoipojikmgdmaaDoorW.PrintMore
attribute [local go_sem] max2_int min2_int max_two min_two max_three min_three max_four min_four
set_option linter.unusedVariables false
set_option linter.unusedSimpArgs false
theorem nAt (l : List Int) (i : Nat) : nat_Nat_at.f l (i : Int) = some (l.getD i 0) := by
  unfold nat_Nat_at.f
  by_cases h : i < l.length
  · rw [if_neg (by omega), if_pos (by omega), if_pos (by omega), rd_nat]
  · rw [if_pos (by omega), List.getD_eq_getElem?_getD, List.getElem?_eq_none (by omega)]
    rfl
theorem sgn_add (p q c : Nat) : sgn (p + c) (q + c) = sgn p q := by
  unfold sgn
  by_cases h1 : p = q
  · rw [if_pos h1, if_pos (by omega)]
  · rw [if_neg h1, if_neg (by omega)]
    by_cases h2 : p < q
    · rw [if_pos h2, if_pos (by omega)]
    · rw [if_neg h2, if_neg (by omega)]
theorem sgn_lt {p q : Nat} (h : p < q) : sgn p q = -1 := by rw [sgn, if_neg (by omega), if_pos h]
theorem sgn_gt {p q : Nat} (h : q < p) : sgn p q = 1 := by rw [sgn, if_neg (by omega), if_neg (by omega)]
theorem top_lt {B p q x y X : Nat} (hp : p < X) (h : x < y) : p + X * x < q + X * y := by
  have : X * (x + 1) ≤ X * y := Nat.mul_le_mul_left _ h
  rw [Nat.mul_add] at this
  omega
theorem revCmp_val {B : Nat} : ∀ (n : Nat) (a b : List Int), a.length = n → b.length = n → Dig B a → Dig B b → revCmp a.reverse b.reverse = sgn (val B a) (val B b)
  | 0, a, b, ha, hb, _, _ => by
    obtain rfl := List.length_eq_zero_iff.1 ha
    obtain rfl := List.length_eq_zero_iff.1 hb
    simp [revCmp, sgn, val]
  | n + 1, a, b, ha, hb, da, db => by
    rcases List.eq_nil_or_concat a with rfl | ⟨a', x, rfl⟩
    · simp at ha
    rcases List.eq_nil_or_concat b with rfl | ⟨b', y, rfl⟩
    · simp at hb
    rw [List.concat_eq_append] at ha hb da db ⊢
    rw [List.concat_eq_append]
    have ha' : a'.length = n := by simpa using ha
    have hb' : b'.length = n := by simpa using hb
    have da' : Dig B a' := fun z hz => da z (by simp [hz])
    have db' : Dig B b' := fun z hz => db z (by simp [hz])
    have hx := da x (by simp)
    have hy := db y (by simp)
    have va := val_lt a' da'
    have vb := val_lt b' db'
    rw [ha'] at va
    rw [hb'] at vb
    rw [List.reverse_append, List.reverse_append, val_append, val_append, ha', hb']
    simp only [List.reverse_cons, List.reverse_nil, List.nil_append, List.cons_append, val, Nat.mul_zero, Nat.add_zero]
    rw [revCmp]
    by_cases h1 : x = y
    · rw [if_pos h1, revCmp_val n a' b' ha' hb' da' db', h1, sgn_add]
    · rw [if_neg h1]
      by_cases h2 : x < y
      · rw [if_pos h2, sgn_lt (top_lt (B := B) va (by omega))]
      · rw [if_neg h2, sgn_gt (top_lt (B := B) vb (by omega))]
theorem nCmp' (a b : List Int) (ha : Dig 18446744073709551616 a) (hb : Dig 18446744073709551616 b) (ga : Good a) (gb : Good b) : natCmp a b = sgn (val 18446744073709551616 a) (val 18446744073709551616 b) := by
  unfold natCmp
  by_cases h : a.length = b.length
  · rw [if_pos h, revCmp_val a.length a b rfl h.symm ha hb]
  · rw [if_neg h]
    by_cases h2 : a.length < b.length
    · rw [if_pos h2, sgn_lt (len_lt (by decide) ha hb gb h2)]
    · rw [if_neg h2, sgn_gt (len_lt (by decide) hb ha ga (by omega))]
theorem nCmp (x y : Nat) : nat_Cmp.f (dig 18446744073709551616 x) (dig 18446744073709551616 y) = some (sgn x y) := by
  unfold nat_Cmp.f
  rw [nCmp' _ _ (Dig_dig (by decide) x) (Dig_dig (by decide) y) (dig_last (by decide) x) (dig_last (by decide) y), val_dig (by decide), val_dig (by decide)]
theorem add64 (x y c : Nat) (hc : c ≤ 1) : bits_Add64.f (x : Int) (y : Int) (c : Int) = some ((((x + y + c) % 18446744073709551616 : Nat) : Int), (((x + y + c) / 18446744073709551616 : Nat) : Int)) := by
  unfold bits_Add64.f
  rw [if_pos (by omega)]
  simp only [Int.toNat_natCast]
theorem sub64 (x y c : Nat) (hc : c ≤ 1) : bits_Sub64.f (x : Int) (y : Int) (c : Int) = some ((((x + 18446744073709551616 - y - c) % 18446744073709551616 : Nat) : Int), (((if x < y + c then 1 else 0 : Nat)) : Int)) := by
  unfold bits_Sub64.f
  rw [if_pos (by omega)]
  simp only [Int.toNat_natCast]
theorem add_val (X B vo s q x y c va vb : Nat) (h : x + y + c = B * q + s) : vo + X * (x + B * va + (y + B * vb) + c) = vo + X * s + X * B * (va + vb + q) := by
  have h1 : X * (x + y + c) = X * (B * q + s) := by rw [h]
  have e1 : X * B * (va + vb + q) = X * (B * va) + X * (B * vb) + X * (B * q) := by
    rw [Nat.mul_assoc, Nat.mul_add, Nat.mul_add, Nat.mul_add, Nat.mul_add]
  rw [e1]
  simp only [Nat.mul_add] at h1 ⊢
  omega
theorem nAdd_l0 (a b : List Int) (ha : Dig 18446744073709551616 a) (hb : Dig 18446744073709551616 b) (M : Nat) (hM : M < 1000000) (hs : a.length ≤ M) (hs' : b.length ≤ M) : ∀ (m i c : Nat) (out : List Int), i + m = M → c ≤ 1 → out.length = i → Dig 18446744073709551616 out →
    Ev (fun k => nat_Add.l0 k a b out (c : Int) (M : Int) (i : Int)) (dig 18446744073709551616 (val 18446744073709551616 out + 18446744073709551616 ^ i * (V 18446744073709551616 a i + V 18446744073709551616 b i + c))) := by
  intro m
  induction m with
  | zero =>
    intro i c out hi hc ho hd
    refine Ev.step (G := fun k => (nat_trim.f k (out ++ [(c : Int)])).bind fun t324 => some t324) (fun k => ?_) ?_
    · rw [nat_Add.l0, if_neg (by omega), if_pos (by omega)]
    · have h := ntrim (out ++ [(c : Int)]) (by rw [List.length_append, List.length_singleton]; omega) (hd.app (Dig.mk (by omega) (by omega) (Dig.nil _)))
      rw [val_append, ho] at h
      rw [V_end _ (show a.length ≤ i by omega), V_end _ (show b.length ≤ i by omega), Nat.zero_add]
      simp only [val, Int.toNat_natCast, Nat.mul_zero, Nat.add_zero] at h
      exact Ev.bind h (Ev.const _)
  | succ m ih =>
    intro i c out hi hc ho hd
    have ha1 := ha.get (show 0 < 18446744073709551616 by decide) i
    have hb1 := hb.get (show 0 < 18446744073709551616 by decide) i
    have hva := V_step 18446744073709551616 a i
    have hvb := V_step 18446744073709551616 b i
    obtain ⟨x, hx⟩ := Int.eq_ofNat_of_zero_le ha1.1
    obtain ⟨y, hy⟩ := Int.eq_ofNat_of_zero_le hb1.1
    rw [hx] at hva ha1
    rw [hy] at hvb hb1
    rw [Int.toNat_natCast] at hva hvb
    have hq : (x + y + c) / 18446744073709551616 ≤ 1 := by omega
    have ih2 := ih (i + 1) ((x + y + c) / 18446744073709551616) (out ++ [(((x + y + c) % 18446744073709551616 : Nat) : Int)]) (by omega) hq (by rw [List.length_append, ho]; rfl) (hd.app (Dig.mk (by omega) (by omega) (Dig.nil _)))
    rw [val_append, ho, Nat.pow_succ] at ih2
    simp only [val, Int.toNat_natCast, Nat.mul_zero, Nat.add_zero] at ih2
    have ev := add_val (18446744073709551616 ^ i) 18446744073709551616 (val 18446744073709551616 out) ((x + y + c) % 18446744073709551616) ((x + y + c) / 18446744073709551616) x y c (V 18446744073709551616 a (i + 1)) (V 18446744073709551616 b (i + 1)) (by omega)
    rw [← hva, ← hvb] at ev
    rw [ev]
    have WA := Lib.hid (wadd1 i (by omega))
    have H2 := Lib.hid ih2
    clear ih2 ev hva hvb
    refine Ev.step (fun k => ?_) H2.out
    rw [nat_Add.l0, if_pos (by omega), nAt, nAt, hx, hy, Option.bind_some, Option.bind_some, add64 x y c hc, Option.bind_some, if_pos (by omega), WA.out]
/-- A limb list that is short enough. -/
def Le (n m : Nat) : Prop := (dig 18446744073709551616 n).length ≤ m
theorem nAdd (x y : Nat) (hx : Le x 100000) (hy : Le y 100000) : Ev (fun k => nat_Add.f k (dig 18446744073709551616 x) (dig 18446744073709551616 y)) (dig 18446744073709551616 (x + y)) := by
  unfold Le at hx hy
  have dx := Dig_dig (B := 18446744073709551616) (by decide) x
  have dy := Dig_dig (B := 18446744073709551616) (by decide) y
  have vx := val_dig (B := 18446744073709551616) (by decide) x
  have vy := val_dig (B := 18446744073709551616) (by decide) y
  generalize dig 18446744073709551616 x = a at *
  generalize dig 18446744073709551616 y = b at *
  have h := nAdd_l0 a b dx dy (max a.length b.length) (by omega) (by omega) (by omega) (max a.length b.length) 0 0 [] (by omega) (by omega) rfl (Dig.nil _)
  rw [V_zero, V_zero, vx, vy] at h
  simp only [val, Nat.pow_zero, Nat.one_mul, Nat.zero_add, Nat.add_zero] at h
  refine Ev.congr (fun k => ?_) h
  have e : mx (a.length : Int) (b.length : Int) = ((max a.length b.length : Nat) : Int) := by
    unfold mx
    split <;> omega
  rw [nat_Add.f, e]
  rfl
theorem less_val (X W d y bo x bo' vo T va vb : Nat) (h : vo + X * (x + W * va) = T + X * (y + W * vb + bo)) (hd : d + y + bo = x + W * bo') : vo + X * d + X * W * va = T + X * W * (vb + bo') := by
  have h1 : X * (d + y + bo) = X * (x + W * bo') := by rw [hd]
  have e1 : X * W * va = X * (W * va) := Nat.mul_assoc _ _ _
  have e2 : X * W * (vb + bo') = X * (W * vb) + X * (W * bo') := by rw [Nat.mul_assoc, Nat.mul_add, Nat.mul_add]
  rw [e1, e2]
  simp only [Nat.mul_add] at h h1
  omega
theorem sub_digit (x y bo va vb : Nat) (hx : x < 18446744073709551616) (hy : y < 18446744073709551616) (hbo : bo ≤ 1) (h : y + 18446744073709551616 * vb + bo ≤ x + 18446744073709551616 * va) :
    (x + 18446744073709551616 - y - bo) % 18446744073709551616 + y + bo = x + 18446744073709551616 * (if x < y + bo then 1 else 0) ∧ vb + (if x < y + bo then 1 else 0) ≤ va ∧ (if x < y + bo then 1 else 0) ≤ 1 := by
  split <;> refine ⟨?_, ?_, ?_⟩ <;> omega
theorem nLess_l0 (a b : List Int) (ha : Dig 18446744073709551616 a) (hb : Dig 18446744073709551616 b) (hs : a.length < 1000000) (hs' : b.length ≤ a.length) (T : Nat) : ∀ (m i bo : Nat) (out : List Int), i + m = a.length → bo ≤ 1 → out.length = a.length → Dig 18446744073709551616 out → (∀ p, i ≤ p → out.getD p 0 = 0) →
    V 18446744073709551616 b i + bo ≤ V 18446744073709551616 a i → val 18446744073709551616 out + 18446744073709551616 ^ i * V 18446744073709551616 a i = T + 18446744073709551616 ^ i * (V 18446744073709551616 b i + bo) →
    Ev (fun k => nat_less.l0 k a b out (bo : Int) (a.length : Int) (i : Int)) (dig 18446744073709551616 T) := by
  intro m
  induction m with
  | zero =>
    intro i bo out hi hbo ho hd hz hle hT
    refine Ev.step (G := fun k => (nat_trim.f k out).bind fun t307 => some t307) (fun k => ?_) ?_
    · rw [nat_less.l0, if_neg (by omega)]
    · have h := ntrim out (by omega) hd
      rw [V_end _ (show a.length ≤ i by omega)] at hT hle
      have h0 : V 18446744073709551616 b i + bo = 0 := by omega
      rw [h0, Nat.mul_zero, Nat.add_zero, Nat.add_zero] at hT
      rw [hT] at h
      exact Ev.bind h (Ev.const _)
  | succ m ih =>
    intro i bo out hi hbo ho hd hz hle hT
    have ha1 := ha.get (show 0 < 18446744073709551616 by decide) i
    have hb1 := hb.get (show 0 < 18446744073709551616 by decide) i
    have hva := V_step 18446744073709551616 a i
    have hvb := V_step 18446744073709551616 b i
    obtain ⟨x, hx⟩ := Int.eq_ofNat_of_zero_le ha1.1
    obtain ⟨y, hy⟩ := Int.eq_ofNat_of_zero_le hb1.1
    rw [hx] at hva ha1
    rw [hy] at hvb hb1
    rw [Int.toNat_natCast] at hva hvb
    rw [hva, hvb] at hle hT
    obtain ⟨d1, d2, d3⟩ := sub_digit x y bo _ _ (by omega) (by omega) hbo hle
    have hset := val_set 18446744073709551616 out i (((x + 18446744073709551616 - y - bo) % 18446744073709551616 : Nat) : Int) (by omega)
    rw [hz i (Nat.le_refl _), Int.toNat_natCast, Int.toNat_zero, Nat.mul_zero, Nat.add_zero] at hset
    have hv := less_val _ _ _ _ _ _ _ _ _ _ _ hT d1
    rw [← hset, ← Nat.pow_succ] at hv
    have ih2 := ih (i + 1) (if x < y + bo then 1 else 0) (out.set i (((x + 18446744073709551616 - y - bo) % 18446744073709551616 : Nat) : Int)) (by omega) d3 (by rw [List.length_set]; exact ho) (dig_set hd _ (by omega) (by omega)) (fun p hp => by rw [getD_set_ne (by omega)]; exact hz p (by omega)) d2 hv
    have WA := Lib.hid (wadd1 i (by omega))
    have H2 := Lib.hid ih2
    clear ih2 hv hset d1 d2 d3 hT hle hva hvb
    refine Ev.step (fun k => ?_) H2.out
    rw [nat_less.l0, if_pos (by omega), if_pos (by omega), if_pos (by omega), nAt, Option.bind_some, rd_nat, hx, hy, sub64 x y bo hbo, Option.bind_some, if_pos (by omega), WA.out, Int.toNat_natCast]
theorem dig_mono {B : Nat} (hB : 1 < B) {x y : Nat} (h : x ≤ y) : (dig B x).length ≤ (dig B y).length := by
  have h1 := val_lt _ (Dig_dig hB y)
  rw [val_dig hB] at h1
  exact dig_length hB _ x (Nat.lt_of_le_of_lt h h1)
theorem nLess (x y : Nat) (hx : Le x 100000) (hy : y ≤ x) : Ev (fun k => nat_less.f k (dig 18446744073709551616 x) (dig 18446744073709551616 y)) (dig 18446744073709551616 (x - y)) := by
  have hl := dig_mono (B := 18446744073709551616) (by decide) hy
  unfold Le at hx
  have dx := Dig_dig (B := 18446744073709551616) (by decide) x
  have dy := Dig_dig (B := 18446744073709551616) (by decide) y
  have vx := val_dig (B := 18446744073709551616) (by decide) x
  have vy := val_dig (B := 18446744073709551616) (by decide) y
  generalize dig 18446744073709551616 x = a at *
  generalize dig 18446744073709551616 y = b at *
  have h := nLess_l0 a b dx dy (by omega) hl (x - y) a.length 0 0 (List.replicate a.length 0) (by omega) (by omega) (by simp) (Dig.rep (by decide) _) (fun p _ => by
    rw [List.getD_eq_getElem?_getD, List.getElem?_replicate]
    split <;> rfl) (by rw [V_zero, V_zero, vx, vy]; omega) (by rw [V_zero, V_zero, vx, vy, val_replicate]; simp; omega)
  refine Ev.congr (fun k => ?_) h
  rw [nat_less.f, if_pos (by omega), Int.toNat_natCast, if_pos (by omega)]
  rfl
theorem nSub (x y : Nat) (hx : Le x 100000) (hy : y ≤ x) : Ev (fun k => nat_Sub.f k (dig 18446744073709551616 x) (dig 18446744073709551616 y)) (dig 18446744073709551616 (x - y), 0) := by
  have hc : ¬ sgn x y < 0 := by
    unfold sgn
    split
    · omega
    · rw [if_neg (by omega)]
      omega
  refine Ev.congr (G := fun k => (nat_less.f k (dig 18446744073709551616 x) (dig 18446744073709551616 y)).bind fun t311 => some (t311, 0)) (fun k => ?_) (Ev.bind (nLess x y hx hy) (Ev.const _))
  rw [nat_Sub.f, nCmp, Option.bind_some, if_neg hc]
theorem nSubLow (x y : Nat) (h : x < y) : Ev (fun k => nat_Sub.f k (dig 18446744073709551616 x) (dig 18446744073709551616 y)) (([] : List Int), 14) := by
  refine Ev.of (fun k => ?_)
  rw [nat_Sub.f, nCmp, Option.bind_some, sgn_lt h, if_pos (by omega)]
theorem mul64_parts (x1 x0 y1 y0 : Nat) (h1 : x1 < 4294967296) (h2 : x0 < 4294967296) (h3 : y1 < 4294967296) (h4 : y0 < 4294967296) :
    x1 * y1 ≤ 18446744065119617025 ∧ x1 * y0 ≤ 18446744065119617025 ∧ x0 * y1 ≤ 18446744065119617025 ∧ x0 * y0 ≤ 18446744065119617025 ∧
    (4294967296 * x1 + x0) * (4294967296 * y1 + y0) = 18446744073709551616 * (x1 * y1) + 4294967296 * (x1 * y0) + 4294967296 * (x0 * y1) + x0 * y0 := by
  refine ⟨Nat.mul_le_mul (show x1 ≤ 4294967295 by omega) (show y1 ≤ 4294967295 by omega), Nat.mul_le_mul (show x1 ≤ 4294967295 by omega) (show y0 ≤ 4294967295 by omega), Nat.mul_le_mul (show x0 ≤ 4294967295 by omega) (show y1 ≤ 4294967295 by omega), Nat.mul_le_mul (show x0 ≤ 4294967295 by omega) (show y0 ≤ 4294967295 by omega), ?_⟩
  rw [Nat.add_mul, Nat.mul_add, Nat.mul_add]
  have e1 : 4294967296 * x1 * (4294967296 * y1) = 18446744073709551616 * (x1 * y1) := by
    rw [Nat.mul_mul_mul_comm]
  have e2 : 4294967296 * x1 * y0 = 4294967296 * (x1 * y0) := Nat.mul_assoc _ _ _
  have e3 : x0 * (4294967296 * y1) = 4294967296 * (x0 * y1) := Nat.mul_left_comm _ _ _
  rw [e1, e2, e3]
  omega
theorem mul64_hi (x y P a b c d : Nat) (hP : P = 18446744073709551616 * a + 4294967296 * b + 4294967296 * c + d) (ha : a ≤ 18446744065119617025) (hb : b ≤ 18446744065119617025) (hc : c ≤ 18446744065119617025) (hd : d ≤ 18446744065119617025) :
    a + (b + d / 4294967296) / 4294967296 + ((b + d / 4294967296) % 4294967296 + c) / 4294967296 = P / 18446744073709551616 := by
  omega
theorem mul64 (x y : Nat) (hx : x < 18446744073709551616) (hy : y < 18446744073709551616) : bits_Mul64.f (x : Int) (y : Int) = some (((x * y / 18446744073709551616 : Nat) : Int), ((x * y % 18446744073709551616 : Nat) : Int)) := by
  unfold bits_Mul64.f
  rw [and32 (by omega) (by omega), and32 (by omega) (by omega)]
  obtain ⟨b1, b2, b3, b4, e⟩ := mul64_parts (x / 4294967296) (x % 4294967296) (y / 4294967296) (y % 4294967296) (by omega) (by omega) (by omega) (by omega)
  rw [show 4294967296 * (x / 4294967296) + x % 4294967296 = x by omega, show 4294967296 * (y / 4294967296) + y % 4294967296 = y by omega] at e
  have c1 : (x : Int) / 4294967296 = ((x / 4294967296 : Nat) : Int) := by omega
  have c2 : (y : Int) / 4294967296 = ((y / 4294967296 : Nat) : Int) := by omega
  have c3 : (x : Int) % 4294967296 = ((x % 4294967296 : Nat) : Int) := by omega
  have c4 : (y : Int) % 4294967296 = ((y % 4294967296 : Nat) : Int) := by omega
  rw [c1, c2, c3, c4]
  have cm : ∀ p q : Nat, (p : Int) * (q : Int) = ((p * q : Nat) : Int) := fun p q => by simp
  rw [cm, cm, cm, cm, cm]
  have hh := mul64_hi x y _ _ _ _ _ e b1 b2 b3 b4
  generalize x / 4294967296 * (y / 4294967296) = a at *
  generalize x / 4294967296 * (y % 4294967296) = b at *
  generalize x % 4294967296 * (y / 4294967296) = c at *
  generalize x % 4294967296 * (y % 4294967296) = d at *
  generalize x * y = P at *
  clear c1 c2 c3 c4 cm
  have e1 : IntKind.u64.wrap (d : Int) = (d : Int) := u64s (by omega) (by omega)
  have e2 : IntKind.u64.wrap (b : Int) = (b : Int) := u64s (by omega) (by omega)
  have e3 : IntKind.u64.wrap (c : Int) = (c : Int) := u64s (by omega) (by omega)
  have e4 : IntKind.u64.wrap (a : Int) = (a : Int) := u64s (by omega) (by omega)
  have e5 : IntKind.u64.wrap ((b : Int) + (d : Int) / 4294967296) = ((b + d / 4294967296 : Nat) : Int) := by rw [u64s (by omega) (by omega)]; omega
  rw [e1, e2, e3, e4, e5]
  clear e1 e2 e3 e4 e5
  generalize ht : b + d / 4294967296 = t at *
  rw [and32 (by omega) (by omega)]
  have e6 : IntKind.u64.wrap ((t : Int) % 4294967296 + (c : Int)) = ((t % 4294967296 + c : Nat) : Int) := by rw [u64s (by omega) (by omega)]; omega
  rw [e6]
  clear e6
  have e7 : IntKind.u64.wrap ((a : Int) + (t : Int) / 4294967296) = ((a + t / 4294967296 : Nat) : Int) := by rw [u64s (by omega) (by omega)]; omega
  rw [e7]
  clear e7
  have e8 : IntKind.u64.wrap (((a + t / 4294967296 : Nat) : Int) + ((t % 4294967296 + c : Nat) : Int) / 4294967296) = ((a + t / 4294967296 + (t % 4294967296 + c) / 4294967296 : Nat) : Int) := by rw [u64s (by omega) (by omega)]; omega
  rw [e8, hh]
  clear e8
  have e9 : IntKind.u64.wrap (P : Int) = ((P % 18446744073709551616 : Nat) : Int) := by rw [u64w]; omega
  rw [e9]
/-- One step of the product: what is written, and what is carried. -/
theorem mul_step (x y o c : Nat) (hx : x < 18446744073709551616) (hy : y < 18446744073709551616) (ho : o < 18446744073709551616) (hc : c < 18446744073709551616) :
    ∃ s q c1 c2 : Nat, s < 18446744073709551616 ∧ q < 18446744073709551616 ∧ o + x * y + c = 18446744073709551616 * q + s ∧
      (x * y % 18446744073709551616 + o + 0) / 18446744073709551616 = c1 ∧ ((x * y % 18446744073709551616 + o + 0) % 18446744073709551616 + c + 0) / 18446744073709551616 = c2 ∧ ((x * y % 18446744073709551616 + o + 0) % 18446744073709551616 + c + 0) % 18446744073709551616 = s ∧
      IntKind.u64.wrap (IntKind.u64.wrap (((x * y / 18446744073709551616 : Nat) : Int) + (c1 : Int)) + (c2 : Int)) = (q : Int) := by
  have hb : x * y ≤ 18446744073709551615 * 18446744073709551615 := Nat.mul_le_mul (by omega) (by omega)
  generalize x * y = P at *
  refine ⟨_, (o + P + c) / 18446744073709551616, _, _, ?_, ?_, ?_, rfl, rfl, rfl, ?_⟩
  · omega
  · omega
  · omega
  · rw [u64s (x := ((P / 18446744073709551616 : Nat) : Int) + (((P % 18446744073709551616 + o + 0) / 18446744073709551616 : Nat) : Int)) (by omega) (by omega), u64s (by omega) (by omega)]
    omega
set_option maxHeartbeats 1000000 in
theorem nMul_l1 (b : List Int) (hb : Dig 18446744073709551616 b) (x la : Nat) (a : List Int) (hla : a.length = la) (hs : la < 1000000) (hs' : b.length < 1000000) (hx : x < 18446744073709551616) (i : Nat) (hi : i < la) : ∀ (m j c : Nat) (out : List Int), j + m = b.length → c < 18446744073709551616 → Dig 18446744073709551616 out → out.length = la + b.length →
    ∃ (out' : List Int) (c' : Nat), Dig 18446744073709551616 out' ∧ out'.length = la + b.length ∧ c' < 18446744073709551616 ∧ (∀ p, i + b.length ≤ p → out'.getD p 0 = out.getD p 0) ∧
      val 18446744073709551616 out' + 18446744073709551616 ^ (i + b.length) * c' = val 18446744073709551616 out + 18446744073709551616 ^ (i + j) * c + 18446744073709551616 ^ (i + j) * (x * V 18446744073709551616 b j) ∧
      ∀ r, Ev (fun k => nat_Mul.l1 k b out' (i : Int) (x : Int) (c' : Int) a (la : Int) (i : Int) b (b.length : Int) (b.length : Int)) r → Ev (fun k => nat_Mul.l1 k b out (i : Int) (x : Int) (c : Int) a (la : Int) (i : Int) b (b.length : Int) (j : Int)) r := by
  intro m
  induction m with
  | zero =>
    intro j c out hj hc hd hl
    obtain rfl : j = b.length := by omega
    refine ⟨out, c, hd, hl, hc, fun _ _ => rfl, ?_, fun r h => h⟩
    rw [V_end _ (Nat.le_refl _)]
    simp
  | succ m ih =>
    intro j c out hj hc hd hl
    have hy := hb.get (show 0 < 18446744073709551616 by decide) j
    have ho := hd.get (show 0 < 18446744073709551616 by decide) (i + j)
    have hv := V_step 18446744073709551616 b j
    obtain ⟨y, hy'⟩ := Int.eq_ofNat_of_zero_le hy.1
    obtain ⟨o, ho'⟩ := Int.eq_ofNat_of_zero_le ho.1
    rw [hy'] at hy hv
    rw [ho'] at ho
    rw [Int.toNat_natCast] at hv
    obtain ⟨s, q, c1, c2, s1, s2, s3, s4, s5, s6, s7⟩ := mul_step x y o c hx (by omega) (by omega) hc
    have S7 := Lib.hid s7
    have S4 := Lib.hid s4
    have S5 := Lib.hid s5
    have S6 := Lib.hid s6
    clear s4 s5 s6 s7
    have hset := val_set 18446744073709551616 out (i + j) (s : Int) (by omega)
    rw [ho', Int.toNat_natCast, Int.toNat_natCast] at hset
    obtain ⟨out', c', h1, h2, h3, h4, h5, h6⟩ := ih (j + 1) q (out.set (i + j) (s : Int)) (by omega) s2 (dig_set hd _ (by omega) (by omega)) (by rw [List.length_set]; exact hl)
    have hmv := mul_val (18446744073709551616 ^ (i + j)) 18446744073709551616 o x y c _ _ _ _ _ _ hset hv s3
    have HMV := Lib.hid hmv
    have H5 := Lib.hid h5
    clear hmv h5 hset hv s3
    have EJ := Lib.hid (wadd i j (by omega))
    have EK := Lib.hid (wadd1 j (by omega))
    refine ⟨out', c', h1, h2, h3, fun p hp => ?_, ?_, fun r hr => ?_⟩
    · rw [h4 p hp, getD_set_ne (by omega)]
    · rw [H5.out, show i + (j + 1) = i + j + 1 by omega, Nat.pow_succ]
      exact HMV.out
    · refine Ev.step (fun k => ?_) (h6 r hr)
      have a1 := add64 (x * y % 18446744073709551616) o 0 (by omega)
      have a2 := add64 ((x * y % 18446744073709551616 + o + 0) % 18446744073709551616) c 0 (by omega)
      rw [S4.out] at a1
      rw [S5.out, S6.out] at a2
      have A1 := Lib.hid a1
      have A2 := Lib.hid a2
      clear a1 a2
      rw [nat_Mul.l1, if_pos (by omega), if_pos (by omega), if_pos (by omega), rd_nat, hy', mul64 x y hx (by omega), Option.bind_some, EJ.out, if_pos (by omega), if_pos (by omega), rd_nat, ho']
      rw [show (0 : Int) = ((0 : Nat) : Int) from rfl, A1.out, Option.bind_some, A2.out, Option.bind_some, S7.out, EK.out, Int.toNat_natCast]
set_option maxHeartbeats 1000000 in
theorem nMul_l0 (a b : List Int) (ha : Dig 18446744073709551616 a) (hb : Dig 18446744073709551616 b) (hs : a.length < 1000000) (hs' : b.length < 1000000) : ∀ (m i : Nat) (out : List Int), i + m = a.length → Dig 18446744073709551616 out → out.length = a.length + b.length → (∀ p, i + b.length ≤ p → out.getD p 0 = 0) →
    Ev (fun k => nat_Mul.l0 k b out a (a.length : Int) (i : Int)) (dig 18446744073709551616 (val 18446744073709551616 out + 18446744073709551616 ^ i * (V 18446744073709551616 a i * val 18446744073709551616 b))) := by
  intro m
  induction m with
  | zero =>
    intro i out hi hd hl hz
    refine Ev.step (G := fun k => (nat_trim.f k out).bind fun t190 => some t190) (fun k => ?_) ?_
    · rw [nat_Mul.l0, if_neg (by omega)]
    · rw [V_end _ (by omega), Nat.zero_mul, Nat.mul_zero, Nat.add_zero]
      exact Ev.bind (ntrim out (by omega) hd) (Ev.const _)
  | succ m ih =>
    intro i out hi hd hl hz
    have hg := ha.get (show 0 < 18446744073709551616 by decide) i
    obtain ⟨x, hx⟩ := Int.eq_ofNat_of_zero_le hg.1
    rw [hx] at hg
    obtain ⟨out', c', h1, h2, h3, h4, h5, h6⟩ := nMul_l1 b hb x a.length a rfl hs hs' (by omega) i (by omega) b.length 0 0 out (by omega) (by omega) hd hl
    have hz' := (h4 (i + b.length) (Nat.le_refl _)).trans (hz _ (Nat.le_refl _))
    have hset := val_set 18446744073709551616 out' (i + b.length) (c' : Int) (by omega)
    rw [hz', Int.toNat_natCast] at hset
    have ih2 := ih (i + 1) (out'.set (i + b.length) (c' : Int)) (by omega) (dig_set h1 _ (by omega) (by omega)) (by rw [List.length_set]; exact h2) (fun p hp => by
      rw [getD_set_ne (by omega), h4 p (by omega), hz p (by omega)])
    have EI := Lib.hid (wadd i b.length (by omega))
    have EI1 := Lib.hid (wadd1 i (by omega))
    have hva := V_step 18446744073709551616 a i
    rw [hx, Int.toNat_natCast] at hva
    have hval : val 18446744073709551616 out + 18446744073709551616 ^ i * (V 18446744073709551616 a i * val 18446744073709551616 b) = val 18446744073709551616 (out'.set (i + b.length) (c' : Int)) + 18446744073709551616 ^ (i + 1) * (V 18446744073709551616 a (i + 1) * val 18446744073709551616 b) := by
      rw [hva, Nat.add_mul, Nat.mul_add, Nat.pow_succ, Nat.mul_assoc 18446744073709551616, ← Nat.mul_assoc (18446744073709551616 ^ i) 18446744073709551616]
      rw [V_zero, Nat.add_zero, Nat.mul_zero, Nat.add_zero] at h5
      simp only [Int.toNat_zero, Nat.mul_zero, Nat.add_zero] at hset
      omega
    rw [hval]
    refine Ev.step (G := fun k => nat_Mul.l1 k b out (i : Int) (x : Int) 0 a (a.length : Int) (i : Int) b (b.length : Int) 0) (fun k => ?_) (h6 _ ?_)
    · rw [nat_Mul.l0, if_pos (by omega), if_pos (by omega), if_pos (by omega), rd_nat, hx]
    · refine Ev.step (fun k => ?_) ih2
      rw [nat_Mul.l1, if_neg (by omega), EI.out, if_pos (by omega), if_pos (by omega), EI1.out, Int.toNat_natCast]
theorem nMul (x y : Nat) (hx : Le x 100000) (hy : Le y 100000) : Ev (fun k => nat_Mul.f k (dig 18446744073709551616 x) (dig 18446744073709551616 y)) (dig 18446744073709551616 (x * y)) := by
  unfold Le at hx hy
  have dx := Dig_dig (B := 18446744073709551616) (by decide) x
  have dy := Dig_dig (B := 18446744073709551616) (by decide) y
  have vx := val_dig (B := 18446744073709551616) (by decide) x
  have vy := val_dig (B := 18446744073709551616) (by decide) y
  generalize dig 18446744073709551616 x = a at *
  generalize dig 18446744073709551616 y = b at *
  have h := nMul_l0 a b dx dy (by omega) (by omega) a.length 0 (List.replicate (a.length + b.length) 0) (by omega) (Dig.rep (by omega) _) (by simp) (fun p _ => by
    rw [List.getD_eq_getElem?_getD, List.getElem?_replicate]
    split <;> rfl)
  rw [V_zero, val_replicate, vx, vy, Nat.pow_zero, Nat.one_mul, Nat.zero_add] at h
  refine Ev.congr (fun k => ?_) h
  rw [nat_Mul.f, wadd a.length b.length (by omega), if_pos (by omega), Int.toNat_natCast, if_pos (by omega)]
  rfl
theorem lsame_l0 (l : List Int) (hl : l.length < 1000000000) : ∀ (m i : Nat), i + m = l.length → Ev (fun k => roundellaw02_same.l0 k l l (l.length : Int) (i : Int)) true := by
  intro m
  induction m with
  | zero =>
    intro i hi
    refine Ev.step (G := fun _ => some true) (fun k => ?_) (Ev.const _)
    rw [roundellaw02_same.l0, if_neg (by omega)]
  | succ m ih =>
    intro i hi
    have EI := Lib.hid (wadd1 i (by omega))
    refine Ev.step (fun k => ?_) (ih (i + 1) (by omega))
    rw [roundellaw02_same.l0, if_pos (by omega), if_pos (by omega), if_pos (by omega), if_pos (by omega), if_pos rfl, EI.out]
theorem lsame (l : List Int) (hl : l.length < 1000000000) : Ev (fun k => roundellaw02_same.f k l l) true := by
  refine Ev.congr (fun k => ?_) (lsame_l0 l hl l.length 0 (by omega))
  rw [roundellaw02_same.f, if_pos rfl]
  rfl
theorem Ev.pos {α : Type} {c : Prop} [Decidable c] {F G : Nat → Option α} {r : α} (hc : c) (h : Ev F r) : Ev (fun k => if c then F k else G k) r := Ev.congr (fun k => if_pos hc) h
theorem Ev.neg {α : Type} {c : Prop} [Decidable c] {F G : Nat → Option α} {r : α} (hc : ¬ c) (h : Ev G r) : Ev (fun k => if c then F k else G k) r := Ev.congr (fun k => if_neg hc) h
theorem Ev.plain {α β : Type} {x : Option α} {y : α} {G : Nat → α → Option β} {r : β} (hx : x = some y) (h : Ev (fun k => G k y) r) : Ev (fun k => x.bind (G k)) r := by subst hx; exact h
theorem rsub_digit (x y bo va vb : Nat) (hx : x < 10000) (hy : y < 10000) (hbo : bo ≤ 1) (h : y + 10000 * vb + bo ≤ x + 10000 * va) :
    ∃ d bo' : Nat, d < 10000 ∧ bo' ≤ 1 ∧ d + y + bo = x + 10000 * bo' ∧ vb + bo' ≤ va ∧
      ((wrap64 (wrap64 ((x : Int) - (y : Int)) - (bo : Int)) < 0 ∧ bo' = 1 ∧ wrap64 (wrap64 (wrap64 ((x : Int) - (y : Int)) - (bo : Int)) + 10000) = (d : Int)) ∨ (¬ wrap64 (wrap64 ((x : Int) - (y : Int)) - (bo : Int)) < 0 ∧ bo' = 0 ∧ wrap64 (wrap64 ((x : Int) - (y : Int)) - (bo : Int)) = (d : Int))) := by
  rw [w64s (x := (x : Int) - (y : Int)) (by omega) (by omega), w64s (x := (x : Int) - (y : Int) - (bo : Int)) (by omega) (by omega)]
  by_cases hlt : x < y + bo
  · refine ⟨x + 10000 - y - bo, 1, by omega, by omega, by omega, by omega, .inl ⟨by omega, rfl, ?_⟩⟩
    rw [w64s (by omega) (by omega)]
    omega
  · exact ⟨x - y - bo, 0, by omega, by omega, by omega, by omega, .inr ⟨by omega, rfl, by omega⟩⟩
theorem rSub_l0 (a b : List Int) (ha : Dig 10000 a) (hb : Dig 10000 b) (hs : a.length < 1000000) (hs' : b.length ≤ a.length) (T : Nat) : ∀ (m i bo : Nat) (out : List Int), i + m = a.length → bo ≤ 1 → out.length = i → Dig 10000 out →
    V 10000 b i + bo ≤ V 10000 a i → val 10000 out + 10000 ^ i * V 10000 a i = T + 10000 ^ i * (V 10000 b i + bo) →
    Ev (fun k => roundelref02_Sub.l0 k a b out (bo : Int) (a.length : Int) (i : Int)) (dig 10000 T) := by
  intro m
  induction m with
  | zero =>
    intro i bo out hi hbo ho hd hle hT
    refine Ev.step (G := fun k => (roundelref02_trim.f k out).bind fun t335 => some t335) (fun k => ?_) ?_
    · rw [roundelref02_Sub.l0, if_neg (by omega)]
    · have h := rtrim_dig out (by omega) hd
      rw [V_end _ (show a.length ≤ i by omega)] at hT hle
      have h0 : V 10000 b i + bo = 0 := by omega
      rw [h0, Nat.mul_zero, Nat.add_zero, Nat.add_zero] at hT
      rw [hT] at h
      exact Ev.bind h (Ev.const _)
  | succ m ih =>
    intro i bo out hi hbo ho hd hle hT
    have ha1 := ha.get (show 0 < 10000 by decide) i
    have hb1 := hb.get (show 0 < 10000 by decide) i
    have hva := V_step 10000 a i
    have hvb := V_step 10000 b i
    obtain ⟨x, hx⟩ := Int.eq_ofNat_of_zero_le ha1.1
    obtain ⟨y, hy⟩ := Int.eq_ofNat_of_zero_le hb1.1
    rw [hx] at hva ha1
    rw [hy] at hvb hb1
    rw [Int.toNat_natCast] at hva hvb
    rw [hva, hvb] at hle hT
    obtain ⟨d, bo', h1, h2, h3, h4, h5⟩ := rsub_digit x y bo _ _ (by omega) (by omega) hbo hle
    have hv := less_val _ _ _ _ _ _ _ _ _ _ _ hT h3
    rw [← Nat.pow_succ] at hv
    have hval : val 10000 (out ++ [(d : Int)]) = val 10000 out + 10000 ^ i * d := by
      rw [val_append, ho]
      simp [val]
    rw [← hval] at hv
    have H5 := Lib.hid h5
    have ih2 := ih (i + 1) bo' (out ++ [(d : Int)]) (by clear h5; omega) h2 (by rw [List.length_append, ho]; rfl) (hd.app (Dig.mk (by clear h5; omega) (by clear h5; omega) (Dig.nil _))) h4 hv
    clear h5 hv hval hT hle hva hvb h3 h4
    have H2 := Lib.hid ih2
    have WA := Lib.hid (wadd1 i (by omega))
    clear ih2
    refine Ev.step (fun k => ?_) H2.out
    rw [roundelref02_Sub.l0, if_pos (by omega), if_pos (by omega), if_pos (by omega), rat, Option.bind_some, rd_nat, hx, hy]
    rcases H5.out with ⟨c1, c2, c3⟩ | ⟨c1, c2, c3⟩
    · rw [if_pos c1, c3, c2]
      clear c1 c3
      rw [if_pos (by omega), WA.out]
      rfl
    · rw [if_neg c1, c3, c2]
      clear c1 c3
      rw [if_pos (by omega), WA.out]
      rfl
theorem rSub (x y : Nat) (hx : Lo x) (hy : y ≤ x) : Ev (fun k => roundelref02_Sub.f k (dig 10000 x) (dig 10000 y)) (dig 10000 (x - y)) := by
  have hl := dig_mono (B := 10000) (by decide) hy
  unfold Lo at hx
  have dx := Dig_dig (B := 10000) (by decide) x
  have dy := Dig_dig (B := 10000) (by decide) y
  have vx := val_dig (B := 10000) (by decide) x
  have vy := val_dig (B := 10000) (by decide) y
  generalize dig 10000 x = a at *
  generalize dig 10000 y = b at *
  have h := rSub_l0 a b dx dy (by omega) hl (x - y) a.length 0 0 [] (by omega) (by omega) rfl (Dig.nil _) (by rw [V_zero, V_zero, vx, vy]; omega) (by rw [V_zero, V_zero, vx, vy]; simp [val]; omega)
  exact h
theorem W_add {x y m : Nat} (hx : x < 18446744073709551616 ^ m) (hy : y < 18446744073709551616 ^ m) : x + y < 18446744073709551616 ^ (m + 1) := by
  rw [Nat.pow_succ]
  omega
theorem W_mul {x y m n : Nat} (hx : x < 18446744073709551616 ^ m) (hy : y < 18446744073709551616 ^ n) : x * y < 18446744073709551616 ^ (m + n) := by
  rw [Nat.pow_add]
  exact Nat.mul_lt_mul'' hx hy
theorem W_le {x m n : Nat} (hx : x < 18446744073709551616 ^ m) (h : m ≤ n) : x < 18446744073709551616 ^ n := Nat.lt_of_lt_of_le hx (Nat.pow_le_pow_right (by decide) h)
theorem Le_lt {x m : Nat} (hx : x < 18446744073709551616 ^ m) (h : m ≤ 100000) : Le x 100000 := Nat.le_trans (dig_length (by decide) m x hx) h
theorem Is_lt {x m : Nat} (hx : x < 18446744073709551616 ^ m) (h : m ≤ 10000) : Ev (fun k => roundellaw02_Is.f k (dig 18446744073709551616 x) (dig 10000 x)) true := nIs x (Nat.le_trans (dig_length (by decide) m x hx) h)
/-- The laws' naturals are few. -/
def fewB (a b : List Int) : Bool := decide (a.length ≤ 12) && decide (b.length ≤ 12) && goodB a && goodB b
theorem few_eq (a b : List Int) (ha : a.length < 1000000000) (hb : b.length < 1000000000) : roundellaw02_few.f a b = some (fewB a b) := by
  unfold roundellaw02_few.f fewB
  by_cases h1 : a.length ≤ 12
  · rw [if_pos (by omega), decide_eq_true h1]
    by_cases h2 : b.length ≤ 12
    · rw [if_pos (by omega), decide_eq_true h2, rGood a (by omega), rGood b (by omega)]
      cases goodB a <;> cases goodB b <;> rfl
    · rw [if_neg (by omega), decide_eq_false h2]
      rfl
  · rw [if_neg (by omega), decide_eq_false h1]
    rfl
theorem few_long (a b : List Int) (h : ¬ (a.length ≤ 12 ∧ b.length ≤ 12)) : roundellaw02_few.f a b = some false := by
  unfold roundellaw02_few.f
  by_cases h1 : a.length ≤ 12
  · rw [if_pos (by omega), if_neg (by omega)]
  · rw [if_neg (by omega)]
/-- Either they are not few, or they are two naturals. -/
theorem few_cases (a b : List Int) (da : Dig 18446744073709551616 a) (db : Dig 18446744073709551616 b) : roundellaw02_few.f a b = some false ∨ (roundellaw02_few.f a b = some true ∧ ∃ x y, x < 18446744073709551616 ^ 12 ∧ y < 18446744073709551616 ^ 12 ∧ a = dig 18446744073709551616 x ∧ b = dig 18446744073709551616 y ∧ a.length ≤ 12 ∧ b.length ≤ 12) := by
  by_cases h : a.length ≤ 12 ∧ b.length ≤ 12
  · obtain ⟨h1, h2⟩ := h
    rw [few_eq a b (by omega) (by omega)]
    cases hg : fewB a b with
    | false => exact .inl rfl
    | true =>
      right
      simp only [fewB, Bool.and_eq_true] at hg
      have e1 := good_dig (by decide) da ((goodB_iff a).1 hg.1.2)
      have e2 := good_dig (by decide) db ((goodB_iff b).1 hg.2)
      exact ⟨rfl, _, _, W_le (val_lt a da) h1, W_le (val_lt b db) h2, e1, e2, h1, h2⟩
  · exact .inl (few_long a b h)
theorem limbs_dig {x m : Nat} (hx : x < 18446744073709551616 ^ m) (h : m ≤ 10000) : Ev (fun k => roundelref02_Limbs.f k (dig 18446744073709551616 x)) (dig 10000 x) := by
  have := rLimbs (dig 18446744073709551616 x) (Dig_dig (by decide) x) (Nat.le_trans (dig_length (by decide) m x hx) h)
  rwa [val_dig (by decide)] at this

end Go.Proofs.YtcoipojikmgdmaaDoor.P
