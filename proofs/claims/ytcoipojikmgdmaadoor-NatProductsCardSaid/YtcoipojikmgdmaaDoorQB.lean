import Derived.Test.YtcoipojikmgdmaaDoorP0
import Derived.Test.YtcoipojikmgdmaaDoorP1
import Derived.Test.YtcoipojikmgdmaaDoorP2
import Derived.Test.YtcoipojikmgdmaaDoorP3
import Derived.Test.YtcoipojikmgdmaaDoorP4
import Derived.Test.YtcoipojikmgdmaaDoorP5
import Derived.Test.YtcoipojikmgdmaaDoorP6
import Derived.Test.YtcoipojikmgdmaaDoorQA
namespace Go.Proofs.YtcoipojikmgdmaaDoor.P
open Go.RowKit Go.Proofs.YtcoipojikmgdmaaDoorW.PrintWords Go.Proofs.YtcoipojikmgdmaaDoorW.PrintLast Go.Proofs.YtcoipojikmgdmaaDoorW.PrintMore
attribute [local go_sem] max2_int min2_int max_two min_two max_three min_three max_four min_four
set_option linter.unusedVariables false
set_option linter.unusedSimpArgs false
theorem Lo_lt {n m : Nat} (h : n < 18446744073709551616 ^ m) (hm : m ≤ 20000) : Lo n := by
  have h2 : 18446744073709551616 ^ m ≤ (10000 ^ 5) ^ m := Nat.pow_le_pow_left (by decide) m
  rw [← Nat.pow_mul] at h2
  have := dig_length (B := 10000) (by decide) (5 * m) n (Nat.lt_of_lt_of_le h h2)
  unfold Lo
  omega
theorem V_bound {B : Nat} (hB : 0 < B) {l : List Int} (h : Dig B l) (i : Nat) : V B l i < B ^ l.length := by
  have h1 : Dig B (l.drop i) := fun x hx => h x (List.mem_of_mem_drop hx)
  have h2 := val_lt _ h1
  refine Nat.lt_of_lt_of_le h2 (Nat.pow_le_pow_right hB ?_)
  rw [List.length_drop]
  omega
theorem limb_wraps (p : Nat) (hp : p < 18446744073709551616) : IntKind.u64.wrap (Int.tdiv (p : Int) 65536) = ((p / 65536 : Nat) : Int) ∧ wrap64 (Int.tmod (p : Int) 65536) = ((p % 65536 : Nat) : Int) := by
  constructor
  · rw [Int.tdiv_eq_ediv_of_nonneg (by omega), u64s (by omega) (by omega)]
    omega
  · rw [Int.tmod_eq_emod_of_nonneg (by omega), w64s (by omega) (by omega)]
    omega
theorem rLimbs_l2 (l : List Int) (i : Int) (kk : Nat) (hk : kk ≤ 3) (n : Nat) (r : List Int) (h0 : Lo n) : ∀ (m p j : Nat), j + m = kk → p < 18446744073709551616 → Lo (n * 65536) → Ev (fun k => roundelref02_Limbs.l1 k l (dig 10000 (n * 65536 + (p / 65536 ^ m) % 65536)) i (wrap64 ((kk : Int) - 1))) r →
    Ev (fun k => roundelref02_Limbs.l2 k l (dig 10000 n) i (kk : Int) (p : Int) (kk : Int) (j : Int)) r := by
  intro m
  induction m with
  | zero =>
    intro p j hj hp h1 h
    obtain ⟨w1, w2⟩ := limb_wraps p hp
    have W2 := Lib.hid w2
    clear w1 w2
    have hs : Lo (p % 65536) := Lo_lt (m := 1) (by omega) (by omega)
    have h65 : Ev (fun k => roundelref02_Of.f k 65536) (dig 10000 65536) := rOf 65536 (by omega)
    refine Ev.step (G := fun k => (roundelref02_Of.f k 65536).bind fun t209 => (roundelref02_Mul.f k (dig 10000 n) t209).bind fun t212 => (roundelref02_Of.f k ((p % 65536 : Nat) : Int)).bind fun t215 => (roundelref02_Add.f k t212 t215).bind fun t218 => roundelref02_Limbs.l1 k l t218 i (wrap64 ((kk : Int) - 1))) (fun k => ?_) ?_
    · rw [roundelref02_Limbs.l2, if_neg (by omega), W2.out]
    · refine Ev.bind h65 (Ev.bind (rMul n 65536 h0 (Lo_lt (m := 1) (by omega) (by omega))) (Ev.bind (rOf (p % 65536) (by omega)) (Ev.bind (rAdd (n * 65536) (p % 65536) h1 hs) ?_)))
      rw [Nat.pow_zero, Nat.div_one] at h
      exact h
  | succ m ih =>
    intro p j hj hp h1 h
    obtain ⟨w1, w2⟩ := limb_wraps p hp
    have W1 := Lib.hid w1
    clear w1 w2
    have WA := Lib.hid (wadd1 j (by omega))
    refine Ev.step (fun k => ?_) (ih (p / 65536) (j + 1) (by omega) (by omega) h1 (by rw [show p / 65536 / 65536 ^ m = p / 65536 ^ (m + 1) by rw [Nat.div_div_eq_div_mul, Nat.pow_succ, Nat.mul_comm]]; exact h))
    rw [roundelref02_Limbs.l2, if_pos (by omega), W1.out, WA.out]
theorem rLimbs_l1 (l : List Int) (i x : Nat) (hi : i < l.length) (hx : l.getD i 0 = (x : Int)) (hx1 : x < 18446744073709551616) (kk : Nat) (hk : kk ≤ 3) (n n' : Nat) (hn : n' = n * 65536 + (x / 65536 ^ kk) % 65536) (h0 : Lo n) (h1 : Lo (n * 65536)) (r : List Int)
    (h : Ev (fun k => roundelref02_Limbs.l1 k l (dig 10000 n') (i : Int) (wrap64 ((kk : Int) - 1))) r) : Ev (fun k => roundelref02_Limbs.l1 k l (dig 10000 n) (i : Int) (kk : Int)) r := by
  subst hn
  refine Ev.step (fun k => ?_) (rLimbs_l2 l (i : Int) kk hk n r h0 kk x 0 (by omega) hx1 h1 h)
  rw [roundelref02_Limbs.l1, if_pos (by omega), if_pos (by omega), if_pos (by omega), rd_nat, hx]
  rfl
theorem rLimbs_l0 (l : List Int) (hd : Dig 18446744073709551616 l) (hl : l.length ≤ 10000) : ∀ i : Nat, i ≤ l.length → Ev (fun k => roundelref02_Limbs.l0 k l (dig 10000 (V 18446744073709551616 l i)) ((i : Int) - 1)) (dig 10000 (val 18446744073709551616 l)) := by
  intro i
  induction i with
  | zero =>
    intro _
    refine Ev.step (G := fun _ => some (dig 10000 (V 18446744073709551616 l 0))) (fun k => ?_) (Ev.const _)
    rw [roundelref02_Limbs.l0, if_neg (by omega)]
  | succ i ih =>
    intro hi
    have hg := hd.get (show 0 < 18446744073709551616 by decide) i
    obtain ⟨x, hx⟩ := Int.eq_ofNat_of_zero_le hg.1
    rw [hx] at hg
    have hx1 : x < 18446744073709551616 := by omega
    have hv := V_step 18446744073709551616 l i
    rw [hx, Int.toNat_natCast] at hv
    have hb := V_bound (show 0 < 18446744073709551616 by decide) hd i
    have hlo : ∀ m, m ≤ V 18446744073709551616 l i → Lo m := fun m hm => Lo_lt (Nat.lt_of_le_of_lt hm hb) (by omega)
    clear hb
    generalize V 18446744073709551616 l i = v at *
    generalize V 18446744073709551616 l (i + 1) = n at *
    have e0 : ((i + 1 : Nat) : Int) - 1 = (i : Int) := by omega
    rw [e0]
    have ih2 := ih (by omega)
    refine Ev.step (G := fun k => roundelref02_Limbs.l1 k l (dig 10000 n) (i : Int) 3) (fun k => ?_) ?_
    · rw [roundelref02_Limbs.l0, if_pos (by omega)]
    · refine rLimbs_l1 l i x (by omega) hx hx1 3 (by omega) n (n * 65536 + x / 281474976710656) (by omega) (hlo _ (by omega)) (hlo _ (by omega)) _ ?_
      rw [show wrap64 ((3 : Nat) - 1) = ((2 : Nat) : Int) from w64s (by omega) (by omega)]
      refine rLimbs_l1 l i x (by omega) hx hx1 2 (by omega) _ (n * 4294967296 + x / 4294967296) (by omega) (hlo _ (by omega)) (hlo _ (by omega)) _ ?_
      rw [show wrap64 ((2 : Nat) - 1) = ((1 : Nat) : Int) from w64s (by omega) (by omega)]
      refine rLimbs_l1 l i x (by omega) hx hx1 1 (by omega) _ (n * 281474976710656 + x / 65536) (by omega) (hlo _ (by omega)) (hlo _ (by omega)) _ ?_
      rw [show wrap64 ((1 : Nat) - 1) = ((0 : Nat) : Int) from w64s (by omega) (by omega)]
      refine rLimbs_l1 l i x (by omega) hx hx1 0 (by omega) _ v (by omega) (hlo _ (by omega)) (hlo _ (by omega)) _ ?_
      refine Ev.step (fun k => ?_) ih2
      rw [show wrap64 ((0 : Nat) - 1) = -1 from w64s (by omega) (by omega), roundelref02_Limbs.l1, if_neg (by omega), w64s (by omega) (by omega)]
theorem rLimbs (l : List Int) (hd : Dig 18446744073709551616 l) (hl : l.length ≤ 10000) : Ev (fun k => roundelref02_Limbs.f k l) (dig 10000 (val 18446744073709551616 l)) := by
  have h := rLimbs_l0 l hd hl l.length (Nat.le_refl _)
  rw [V_end _ (Nat.le_refl _), dig_zero] at h
  refine Ev.congr (fun k => ?_) h
  rw [roundelref02_Limbs.f, w64s (by omega) (by omega)]
/-! The module's own naturals: limbs. -/
theorem lit_u64 {x : Int} (h : (Lit.int .u64 x).wf = true) : 0 ≤ x ∧ x < 18446744073709551616 := by
  have h1 : IntKind.u64.min ≤ x ∧ x ≤ IntKind.u64.max := by simpa [Lit.wf] using h
  have h2 : IntKind.u64.min = 0 := by decide
  have h3 : IntKind.u64.max = 18446744073709551615 := by decide
  omega
theorem dig_lit {l : List Int} (h : ∀ x ∈ l, (Lit.int .u64 x).wf = true) : Dig 18446744073709551616 l := fun x hx => lit_u64 (h x hx)
def goodB (l : List Int) : Bool := if l.length = 0 then true else l.getD (l.length - 1) 0 != 0
theorem nGood (l : List Int) (hl : l.length < 1000000000) : nat_Good.f l = some (goodB l) := by
  unfold nat_Good.f goodB
  by_cases h : l.length = 0
  · rw [if_pos (by omega), if_pos h]
  · rw [if_neg (by omega), if_neg h, wsub1 l.length (by omega) (by omega), if_pos (by omega), if_pos (by omega), rd_nat]
theorem rGood (l : List Int) (hl : l.length < 1000000000) : roundelref02_Good.f l = some (goodB l) := by
  unfold roundelref02_Good.f goodB
  by_cases h : l.length = 0
  · rw [if_pos (by omega), if_pos h]
  · rw [if_neg (by omega), if_neg h, wsub1 l.length (by omega) (by omega), if_pos (by omega), if_pos (by omega), rd_nat]
theorem goodB_iff (l : List Int) : goodB l = true ↔ Good l := by
  unfold goodB Good
  by_cases h : l.length = 0
  · rw [if_pos h]
    simp [List.length_eq_zero_iff.1 h]
  · rw [if_neg h]
    have : l ≠ [] := fun e => h (by rw [e]; rfl)
    simp [this]
theorem goodB_dig (n : Nat) : goodB (dig 18446744073709551616 n) = true := (goodB_iff _).2 (dig_last (by decide) n)
theorem copied_eq (l : List Int) (hl : l.length < 1000000000) : roundellaw02_copied.f l = some l := by
  unfold roundellaw02_copied.f
  rw [Option.bind_some, if_pos (by simp; omega)]
  rfl
theorem ntrim_l0 : ∀ (n : Nat) (l : List Int), l.length = n → n < 1000000000 → Ev (fun k => nat_trim.l0 k l) (strip l) := by
  intro n
  induction n with
  | zero =>
    intro l hl _
    obtain rfl := List.length_eq_zero_iff.1 hl
    refine Ev.step (G := fun _ => some []) (fun k => ?_) (Ev.const _)
    rw [nat_trim.l0, if_neg (by simp)]
  | succ n ih =>
    intro l hl hn
    have e1 := Lib.hid (wsub1 l.length (by omega) (by omega))
    by_cases hz : l.getD n 0 = 0
    · refine Ev.step (G := fun k => nat_trim.l0 k (l.take n)) (fun k => ?_) ?_
      · rw [nat_trim.l0, if_pos (by omega), e1.out, hl, Nat.add_sub_cancel, if_pos (by omega), if_pos (by omega), rd_nat, if_pos hz, if_pos (by omega), Int.toNat_natCast]
      · have e : strip l = strip (l.take n) := by
          have h2 := take_snoc l n (by omega)
          rw [hz, ← hl, List.take_length] at h2
          have h3 := strip_snoc0 (l.take n)
          rw [← h2] at h3
          exact h3
        rw [e]
        exact ih (l.take n) (by rw [List.length_take]; omega) (by omega)
    · refine Ev.step (G := fun _ => some l) (fun k => ?_) ?_
      · rw [nat_trim.l0, if_pos (by omega), e1.out, hl, Nat.add_sub_cancel, if_pos (by omega), if_pos (by omega), rd_nat, if_neg hz]
      · have h2 := take_snoc l n (by omega)
        rw [← hl, List.take_length] at h2
        have e : strip l = l := by
          have h3 := strip_snoc (l.take n) _ hz
          rw [← h2] at h3
          exact h3
        rw [e]
        exact Ev.const _
theorem ntrim (l : List Int) (hl : l.length < 1000000000) (h : Dig 18446744073709551616 l) : Ev (fun k => nat_trim.f k l) (dig 18446744073709551616 (val 18446744073709551616 l)) := by
  rw [← strip_dig (by decide) l h]
  exact ntrim_l0 l.length l rfl hl
theorem nOf (n : Nat) (h : n < 18446744073709551616) : Ev (fun k => nat_Of.f k (n : Int)) (dig 18446744073709551616 n) := by
  have h1 := ntrim [(n : Int)] (by simp) (Dig.mk (by omega) (by omega) (Dig.nil _))
  rw [show val 18446744073709551616 [(n : Int)] = n by simp [val]] at h1
  exact Ev.bind h1 (Ev.const _)
theorem nIs (n : Nat) (hl : (dig 18446744073709551616 n).length ≤ 10000) : Ev (fun k => roundellaw02_Is.f k (dig 18446744073709551616 n) (dig 10000 n)) true := by
  have hL := rLimbs (dig 18446744073709551616 n) (Dig_dig (by decide) n) hl
  rw [val_dig (by decide)] at hL
  have hlo : Lo n := Lo_lt (m := (dig 18446744073709551616 n).length) (by
    have := val_lt _ (Dig_dig (B := 18446744073709551616) (by decide) n)
    rwa [val_dig (by decide)] at this) (by omega)
  refine Ev.congr (G := fun k => (roundelref02_Limbs.f k (dig 18446744073709551616 n)).bind fun t226 => (roundelref02_Cmp.f k t226 (dig 10000 n)).bind fun t229 => some (t229 == 0)) (fun k => ?_) ?_
  · rw [roundellaw02_Is.f, rGood _ (by omega), goodB_dig]
    rfl
  · refine Ev.bind hL (Ev.bind (rCmp n n hlo hlo) ?_)
    rw [sgn, if_pos rfl]
    exact Ev.const _
theorem Ev.mono {α : Type} {F : Nat → Option α} (h : ∀ k, LeO (F k) (F (k + 1))) {K : Nat} {r : α} (hK : F K = some r) : Ev F r := by
  refine ⟨K, fun k hk => ?_⟩
  obtain ⟨m, rfl⟩ : ∃ m, k = K + m := ⟨k - K, by omega⟩
  clear hk
  induction m with
  | zero => exact hK
  | succ m ih => exact h (K + m) r ih
theorem nawake : Ev (fun k => roundellaw02_awake.f k) true := Ev.mono (K := 12) (fun k => roundellaw02_awake.mono k) (by kernel_rfl)

end Go.Proofs.YtcoipojikmgdmaaDoor.P
