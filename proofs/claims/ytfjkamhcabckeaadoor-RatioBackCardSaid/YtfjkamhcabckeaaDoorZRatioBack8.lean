-- Written by a program of this session (wip/tools/shake.py) out of its own texts and of the kit's printed ones; not trusted: Lean checks it.
import Derived.Test.YtfjkamhcabckeaaDoorZRatioBack7
set_option maxHeartbeats 8000000
set_option maxRecDepth 100000
set_option linter.unusedVariables false
set_option linter.unusedSimpArgs false
section
namespace Go.Proofs.YtfjkamhcabckeaaDoor.P
open Go.RowKit Go.Proofs.YtfjkamhcabckeaaDoorW.PrintWords Go.Proofs.YtfjkamhcabckeaaDoorW.PrintLast Go.Proofs.YtfjkamhcabckeaaDoorW.PrintMore
attribute [local go_sem] zc7 zc8 max_two min_two zct zcu zc6 zc9
theorem mid_wraps (low high : Nat) (h : low < high) (hh : high < 10000) : wrap64 (Int.tdiv (wrap64 ((wrap64 ((low : Int) + (high : Int))) + 1)) 2) = (((low + high + 1) / 2 : Nat) : Int) := by
 rw [w64s (x := (low : Int) + (high : Int)) (by omega) (by omega), w64s (x := (low : Int) + (high : Int) + 1) (by omega) (by omega), Int.tdiv_eq_ediv_of_nonneg (by omega), w64s (by omega) (by omega)]
 omega
theorem rDiv_l1 (a : List Int) (y L : Nat) (hy : 0 < y) (hyl : Lo y) (hLl : Lo L) (hd : L / y < 10000) (hmul : ∀ m, m < 10000 → Lo (y * m)) (out : List Int) (i : Nat) (r : List Int × List Int) : ∀ (n low high : Nat), high - low ≤ n → low ≤ L / y → L / y ≤ high → high < 10000 →
  Ev (fun k => zai.l1 k a (dig 10000 y) out (dig 10000 L) (i : Int) ((L / y : Nat) : Int) ((L / y : Nat) : Int)) r →
  Ev (fun k => zai.l1 k a (dig 10000 y) out (dig 10000 L) (i : Int) (low : Int) (high : Int)) r := by
 intro n
 induction n with
 | zero =>
  intro low high hn h1 h2 h3 h
  rw [show low = L / y by omega, show high = L / y by omega]
  exact h
 | succ n ih =>
  intro low high hn h1 h2 h3 h
  by_cases hlt : low < high
  ·
   have WM := Lib.hid (mid_wraps low high hlt h3)
   have hm1 : low < (low + high + 1) / 2 := by omega
   have hm2 : (low + high + 1) / 2 ≤ high := by omega
   have hcmp : (low + high + 1) / 2 ≤ L / y ↔ y * ((low + high + 1) / 2) ≤ L := by rw [Nat.le_div_iff_mul_le hy, Nat.mul_comm]
   generalize (low + high + 1) / 2 = m at *
   have WS := Lib.hid (wsub1 m (by omega) (by omega))
   have c := rCmp (y * m) L (hmul m (by omega)) hLl
   refine Ev.step (G := fun k => (zax.f k (m : Int)).bind fun t541 => (zaj.f k (dig 10000 y) t541).bind fun t544 => (za4.f k t544 (dig 10000 L)).bind fun t547 => if t547 ≤ 0 then zai.l1 k a (dig 10000 y) out (dig 10000 L) (i : Int) (m : Int) (high : Int) else zai.l1 k a (dig 10000 y) out (dig 10000 L) (i : Int) (low : Int) ((m - 1 : Nat) : Int)) (fun k => ?_) (Ev.bind (rOf m (by omega)) (Ev.bind (rMul y m hyl (Lo_lt (m := 1) (by omega) (by omega))) (Ev.bind c ?_)))
   ·
    rw [zai.l1, if_pos (by omega), WM.out, WS.out]
   ·
    by_cases hle : y * m ≤ L
    ·
     have hs : sgn (y * m) L ≤ 0 := by
      unfold sgn
      split
      ·
       omega
      ·
       rw [if_pos (by omega)]
       omega
     exact Ev.pos hs (ih m high (by omega) (hcmp.2 hle) h2 h3 h)
    ·
     have hs : ¬ sgn (y * m) L ≤ 0 := by
      rw [sgn_gt (by omega)]
      omega
     refine Ev.neg hs (ih low (m - 1) (by omega) h1 ?_ (by omega) h)
     have := mt hcmp.1 hle
     omega
  ·
   rw [show low = L / y by omega, show high = L / y by omega]
   exact h
theorem rdiv_val (Q y X ai l d l' Vn Vi B : Nat) (h : Q * y + X * B * l = X * B * Vn) (hV : Vi = ai + B * Vn) (hl : d * y + l' = ai + B * l) : (Q + X * d) * y + X * l' = X * Vi := by
 have h1 : X * (d * y + l') = X * (ai + B * l) := by rw [hl]
 rw [hV, Nat.add_mul, Nat.mul_assoc]
 rw [Nat.mul_assoc, Nat.mul_assoc] at h
 simp only [Nat.mul_add] at h1 ⊢
 omega
theorem rDiv_l0 (a : List Int) (ha : Dig 10000 a) (hs : a.length ≤ 50000) (y : Nat) (hy : 0 < y) (hyl : Lo y) (hmul : ∀ m, m < y * 10000 → Lo m) : ∀ (m l : Nat) (out : List Int), m ≤ a.length → l < y → out.length = a.length → Dig 10000 out → (∀ p, p < m → out.getD p 0 = 0) →
  val 10000 out * y + 10000 ^ m * l = 10000 ^ m * V 10000 a m →
  Ev (fun k => zai.l0 k a (dig 10000 y) out (dig 10000 l) ((m : Int) - 1)) (dig 10000 (val 10000 a / y), dig 10000 (val 10000 a % y)) := by
 intro m
 induction m with
 | zero =>
  intro l out _ hl ho hd hz hv
  refine Ev.step (G := fun k => (zam.f k out).bind fun t518 => some (t518, dig 10000 l)) (fun k => ?_) ?_
  ·
   rw [zai.l0, if_neg (by omega)]
  ·
   have h := rtrim_dig out (by omega) hd
   rw [Nat.pow_zero, Nat.one_mul, Nat.one_mul, zda] at hv
   have e1 : val 10000 a / y = val 10000 out := by
    rw [← hv, Nat.add_comm, Nat.add_mul_div_right _ _ hy, Nat.div_eq_of_lt hl, Nat.zero_add]
   have e2 : val 10000 a % y = l := by
    rw [← hv, Nat.add_comm, Nat.add_mul_mod_self_right, Nat.mod_eq_of_lt hl]
   rw [e1, e2]
   exact Ev.bind h (Ev.const _)
 | succ i ih =>
  intro l out hm hl ho hd hz hv
  have hg := ha.get (show 0 < 10000 by decide) i
  obtain ⟨x, hx⟩ := Int.eq_ofNat_of_zero_le hg.1
  rw [hx] at hg
  have hva := zc1 10000 a i
  rw [hx, Int.toNat_natCast] at hva
  have hLlt : x + 10000 * l < y * 10000 := by omega
  have hdl : (x + 10000 * l) / y < 10000 := by
   rw [Nat.div_lt_iff_lt_mul hy]
   omega
  have hLo := hmul _ hLlt
  have hll := hmul l (by omega)
  have hll2 := hll
  unfold Lo at hll2
  have htr := rtrim_dig ((x : Int) :: dig 10000 l) (by rw [List.length_cons]; omega) (Dig.mk (by omega) (by omega) (zcl (by decide) l))
  rw [val, zcm (by decide), Int.toNat_natCast] at htr
  have hdm := Nat.div_add_mod (x + 10000 * l) y
  have hml := Nat.mod_lt (x + 10000 * l) hy
  have hmy : ∀ m, m < 10000 → Lo (y * m) := fun m hm => hmul _ (Nat.mul_lt_mul_of_pos_left hm hy)
  have hl1 := rDiv_l1 a y (x + 10000 * l) hy hyl hLo hdl hmy out i (dig 10000 (val 10000 a / y), dig 10000 (val 10000 a % y)) 9999 0 9999 (by omega) (Nat.zero_le _) (by omega) (by omega)
  generalize (x + 10000 * l) / y = q at *
  generalize (x + 10000 * l) % y = s at *
  have hset := val_set 10000 out i (q : Int) (by omega)
  rw [hz i (by omega), Int.toNat_natCast, Int.toNat_zero, Nat.mul_zero, Nat.add_zero] at hset
  rw [Nat.pow_succ] at hv
  have hnew := rdiv_val _ _ _ x l q s _ _ _ hv hva (by rw [Nat.mul_comm]; exact hdm)
  rw [← hset] at hnew
  have hle : y * q ≤ x + 10000 * l := by omega
  have hsub := rSub (x + 10000 * l) (y * q) hLo hle
  rw [show x + 10000 * l - y * q = s by omega] at hsub
  have ih2 := ih s (out.set i (q : Int)) (by omega) hml (by rw [List.length_set]; exact ho) (dig_set hd _ (by omega) (by omega)) (fun p hp => by rw [getD_set_ne (by omega)]; exact hz p (by omega)) hnew
  have E3 := Lib.hid (show wrap64 ((i : Int) - 1) = (i : Int) - 1 from w64s (by omega) (by omega))
  have e0 : ((i + 1 : Nat) : Int) - 1 = (i : Int) := by omega
  rw [e0]
  clear hset hnew hdm hva hv
  refine Ev.step (G := fun k => (zam.f k ((x : Int) :: dig 10000 l)).bind fun t528 => zai.l1 k a (dig 10000 y) out t528 (i : Int) 0 9999) (fun k => ?_) (Ev.bind htr ?_)
  ·
   rw [zai.l0, if_pos (by omega), if_pos (by omega), if_pos (by omega), Option.bind_some, rd_nat, hx]
   show (if ([(x : Int)] : List Int).length + (dig 10000 l).length < 17592186044416 then _ else _) = _
   rw [if_pos (by rw [List.length_singleton]; omega)]
   rfl
  ·
   refine hl1 ?_
   have hof := rOf q (by omega)
   have hmu := rMul y q hyl (Lo_lt (m := 1) (by omega) (by omega))
   refine Ev.step (G := fun k => (zax.f k (q : Int)).bind fun t532 => (zaj.f k (dig 10000 y) t532).bind fun t535 => (za9.f k (dig 10000 (x + 10000 * l)) t535).bind fun t538 => zai.l0 k a (dig 10000 y) (out.set i (q : Int)) t538 ((i : Int) - 1)) (fun k => ?_) (Ev.bind hof (Ev.bind hmu (Ev.bind hsub ih2)))
   rw [zai.l1, if_neg (by omega), if_pos (by omega), if_pos (by omega), E3.out, Int.toNat_natCast]
theorem rDiv (x y : Nat) (hy : 0 < y) (hx : (dig 10000 x).length ≤ 50000) (hyl : Lo y) (hmul : ∀ m, m < y * 10000 → Lo m) : Ev (fun k => zai.f k (dig 10000 x) (dig 10000 y)) (dig 10000 (x / y), dig 10000 (x % y)) := by
 have dx := zcl (B := 10000) (by decide) x
 have vx := zcm (B := 10000) (by decide) x
 generalize dig 10000 x = a at *
 have h := rDiv_l0 a dx hx y hy hyl hmul a.length 0 (List.replicate a.length 0) (Nat.le_refl _) hy (by simp) (Dig.rep (by decide) _) (fun p _ => by
  rw [List.getD_eq_getElem?_getD, List.getElem?_replicate]
  split <;> rfl) (by rw [zci, V_end _ (Nat.le_refl _)]; simp)
 rw [vx, zch] at h
 refine Ev.congr (fun k => ?_) h
 rw [zai.f, if_pos (by omega), Int.toNat_natCast, if_pos (by omega), w64s (by omega) (by omega)]
theorem rGcd_l0 (M : Nat) (hM : ∀ m, m < M * 10000 → (dig 10000 m).length ≤ 50000) : ∀ (y x : Nat), x ≤ M → y ≤ M → Ev (fun k => zbc.l0 k (dig 10000 x) (dig 10000 y)) (dig 10000 (Nat.gcd x y)) := by
 intro y
 induction y using Nat.strongRecOn with
 | ind y ih =>
  intro x hx hyl
  by_cases hy : y = 0
  ·
   subst hy
   refine Ev.step (G := fun _ => some (dig 10000 x)) (fun k => ?_) ?_
   ·
    rw [zch, zbc.l0, if_neg (by simp)]
   ·
    rw [Nat.gcd_zero_right]
    exact Ev.const _
  ·
   have hpos : 0 < y := by omega
   have hne := dig_ne (B := 10000) (by decide) hy
   have hl0 : 0 < (dig 10000 y).length := List.length_pos_iff.2 hne
   have hmod := Nat.mod_lt x hpos
   have ih2 := ih (x % y) hmod y hyl (by omega)
   have hg : Nat.gcd x y = Nat.gcd y (x % y) := by rw [Nat.gcd_comm x y, Nat.gcd_rec y x, Nat.gcd_comm]
   have hlo : ∀ m, m < M * 10000 → Lo m := fun m hm => by
    have := hM m hm
    unfold Lo
    omega
   have hdv := rDiv x y hpos (hM x (by omega)) (hlo y (by omega)) (fun m hm => hlo m (Nat.lt_of_lt_of_le hm (Nat.mul_le_mul_right _ hyl)))
   refine Ev.step (G := fun k => (zai.f k (dig 10000 x) (dig 10000 y)).bind fun bt548 => zbc.l0 k (dig 10000 y) bt548.2) (fun k => ?_) (Ev.bind hdv ?_)
   ·
    rw [zbc.l0, if_pos (by omega)]
   ·
    rw [hg]
    exact ih2
theorem Lo5 {n m : Nat} (h : n < 18446744073709551616 ^ m) : (dig 10000 n).length ≤ 5 * m := by
 have h2 : 18446744073709551616 ^ m ≤ (10000 ^ 5) ^ m := Nat.pow_le_pow_left (by decide) m
 rw [← Nat.pow_mul] at h2
 exact dig_length (B := 10000) (by decide) (5 * m) n (Nat.lt_of_lt_of_le h h2)
theorem gcdLt {x y M : Nat} (hx : x < M) (hy : y < M) : Nat.gcd x y < M := by
 by_cases h : x = 0
 ·
  subst h
  rw [Nat.gcd_zero_left]
  exact hy
 ·
  exact Nat.lt_of_le_of_lt (Nat.gcd_le_left y (by omega)) hx
theorem gcdPos {x y : Nat} (hy : 0 < y) : 0 < Nat.gcd x y := Nat.gcd_pos_of_pos_right x hy
theorem divLt {x y M : Nat} (hx : x < M) : x / y < M := Nat.lt_of_le_of_lt (Nat.div_le_self _ _) hx
theorem ne_len {B n : Nat} (hB : 1 < B) (h : 0 < n) : 0 < (dig B n).length := List.length_pos_iff.2 (dig_ne hB (by omega))
theorem nOne : Ev (fun k => zcg.f k) (dig 18446744073709551616 1) := Ev.bind (F := fun k => zck.f k 1) (nOf 1 (by omega)) (Ev.const _)
theorem nLowest {x y m : Nat} (hy : 0 < y) (hx : x < 18446744073709551616 ^ m) (hyl : y < 18446744073709551616 ^ m) (hm : m ≤ 100000) : Ev (fun k => zbh.f k (dig 18446744073709551616 x) (dig 18446744073709551616 y)) (dig 18446744073709551616 (x / Nat.gcd x y), dig 18446744073709551616 (y / Nat.gcd x y)) := by
 have hg := gcdLt hx hyl
 exact Ev.bind (nGcd x y (Le_lt hx hm) (Le_lt hyl hm)) (Ev.bind (nDivMod x _ (gcdPos hy) (Le_lt hx hm) (Le_lt hg hm)) (Ev.bind (nDivMod y _ (gcdPos hy) (Le_lt hyl hm) (Le_lt hg hm)) (Ev.const _)))
theorem nRof {x y m : Nat} (hy : 0 < y) (hx : x < 18446744073709551616 ^ m) (hyl : y < 18446744073709551616 ^ m) (hm : m ≤ 100000) : Ev (fun k => zb8.f k (dig 18446744073709551616 x) (dig 18446744073709551616 y)) (dig 18446744073709551616 (x / Nat.gcd x y), dig 18446744073709551616 (y / Nat.gcd x y), 0) := by
 have := ne_len (B := 18446744073709551616) (by decide) hy
 exact Ev.neg (by omega) (Ev.bind (nLowest hy hx hyl hm) (Ev.const _))
theorem nFloor {x y m : Nat} (hy : 0 < y) (hx : x < 18446744073709551616 ^ m) (hyl : y < 18446744073709551616 ^ m) (hm : m ≤ 100000) : Ev (fun k => zbo.f k (dig 18446744073709551616 x) (dig 18446744073709551616 y)) (dig 18446744073709551616 (x / y)) :=
 Ev.bind (nDivMod x y hy (Le_lt hx hm) (Le_lt hyl hm)) (Ev.const _)
theorem mx0 (n : Int) : mx n 0 = ((n.toNat : Nat) : Int) := by
 unfold mx
 omega
theorem nRint (n : Int) (h : n < 9223372036854775808) : Ev (fun k => ratio_Int.f k n) (dig 18446744073709551616 n.toNat, dig 18446744073709551616 1) := by
 have h1 : IntKind.u64.wrap (mx n 0) = ((n.toNat : Nat) : Int) := by rw [mx0, u64s (by omega) (by omega)]
 have h2 : Ev (fun k => zck.f k (IntKind.u64.wrap (mx n 0))) (dig 18446744073709551616 n.toNat) := by
  rw [h1]
  exact nOf _ (by omega)
 exact Ev.bind h2 (Ev.bind nOne (Ev.const _))
theorem rDivW {x y m : Nat} (hy : 0 < y) (hx : x < 18446744073709551616 ^ m) (hyl : y < 18446744073709551616 ^ m) (hm : m ≤ 5000) : Ev (fun k => zai.f k (dig 10000 x) (dig 10000 y)) (dig 10000 (x / y), dig 10000 (x % y)) :=
 rDiv x y hy (Nat.le_trans (Lo5 hx) (by omega)) (Lo_lt hyl (by omega)) (fun n hn => Lo_lt (m := m + 1) (Nat.lt_of_lt_of_le hn (by
  rw [Nat.pow_succ]
  exact Nat.mul_le_mul (Nat.le_of_lt hyl) (by omega))) (by omega))
theorem rGcdW {x y m : Nat} (hx : x < 18446744073709551616 ^ m) (hyl : y < 18446744073709551616 ^ m) (hm : m ≤ 5000) : Ev (fun k => zbc.f k (dig 10000 x) (dig 10000 y)) (dig 10000 (Nat.gcd x y)) :=
 rGcd_l0 (18446744073709551616 ^ m) (fun n hn => Nat.le_trans (Lo5 (m := m + 1) (Nat.lt_of_lt_of_le hn (by
  rw [Nat.pow_succ]
  exact Nat.mul_le_mul (Nat.le_refl _) (by omega)))) (by omega)) y x (Nat.le_of_lt hx) (Nat.le_of_lt hyl)
theorem rRof {x y m : Nat} (hy : 0 < y) (hx : x < 18446744073709551616 ^ m) (hyl : y < 18446744073709551616 ^ m) (hm : m ≤ 5000) : Ev (fun k => zcd.f k (dig 10000 x) (dig 10000 y)) (dig 10000 (x / Nat.gcd x y), dig 10000 (y / Nat.gcd x y)) := by
 have hg := gcdLt hx hyl
 exact Ev.bind (rGcdW hx hyl hm) (Ev.bind (rDivW (gcdPos hy) hx hg hm) (Ev.bind (rDivW (gcdPos hy) hyl hg hm) (Ev.const _)))
theorem rawake : Ev (fun k => zbt.f k) true := Ev.mono (K := 12) (fun k => zbt.mono k) (by kernel_rfl)
theorem good_val {a : List Int} {m : Nat} (da : Dig 18446744073709551616 a) (hg : goodB a = true) (hl : a.length ≤ m) : val 18446744073709551616 a < 18446744073709551616 ^ m ∧ a = dig 18446744073709551616 (val 18446744073709551616 a) :=
 ⟨W_le (val_lt a da) hl, good_dig (by decide) da ((goodB_iff a).1 hg)⟩
theorem app_nil_lt (l : List Int) (h : l.length ≤ 100000) : ([] : List Int).length + l.length < 17592186044416 := by
 simp
 omega
theorem made_good (a b : List Int) (da : Dig 18446744073709551616 a) (db : Dig 18446744073709551616 b) (ha : goodB a = true) (hb : goodB b = true) (h1 : a.length ≤ 4) (h2 : b.length ≤ 4) (h3 : b.length ≠ 0) :
  ∃ x y, x < 18446744073709551616 ^ 4 ∧ y < 18446744073709551616 ^ 4 ∧ 0 < y ∧ a = dig 18446744073709551616 x ∧ b = dig 18446744073709551616 y ∧ Ev (fun k => zah.f k a b) (dig 18446744073709551616 (x / Nat.gcd x y), dig 18446744073709551616 (y / Nat.gcd x y), dig 10000 (x / Nat.gcd x y), dig 10000 (y / Nat.gcd x y), true) := by
 have g1 := rGood a (by omega)
 have g2 := rGood b (by omega)
 rw [ha] at g1
 rw [hb] at g2
 obtain ⟨hx, ea⟩ := good_val (m := 4) da ha h1
 obtain ⟨hy, eb⟩ := good_val (m := 4) db hb h2
 generalize val 18446744073709551616 a = x at hx ea
 generalize val 18446744073709551616 b = y at hy eb
 have l1 := app_nil_lt a (by omega)
 have l2 := app_nil_lt b (by omega)
 have hpos : 0 < y := by
  rcases Nat.eq_zero_or_pos y with h0 | h0
  ·
   subst h0
   rw [eb, zch] at h3
   exact absurd rfl h3
  ·
   exact h0
 refine ⟨x, y, hx, hy, hpos, ea, eb, Ev.neg (by omega) (Ev.neg (by omega) (Ev.neg (by omega) (Ev.plain g1 (Ev.pos rfl (Ev.plain g2 ?_)))))⟩
 refine Ev.step (fun _ => zah.j0.eq_2 ..) (Ev.neg (by simp) (Ev.plain rfl (Ev.pos l1 (Ev.plain rfl (Ev.pos l2 ?_)))))
 rw [List.nil_append, List.nil_append, ea, eb]
 exact Ev.bind (nRof hpos hx hy (by omega)) (Ev.bind (limbs_dig hx (by omega)) (Ev.bind (limbs_dig hy (by omega)) (Ev.bind (rRof hpos hx hy (by omega)) (Ev.const _))))
theorem made_cases (a b : List Int) (da : Dig 18446744073709551616 a) (db : Dig 18446744073709551616 b) : Ev (fun k => zah.f k a b) (([] : List Int), ([] : List Int), ([] : List Int), ([] : List Int), false) ∨
  ∃ x y, x < 18446744073709551616 ^ 4 ∧ y < 18446744073709551616 ^ 4 ∧ 0 < y ∧ a = dig 18446744073709551616 x ∧ b = dig 18446744073709551616 y ∧ Ev (fun k => zah.f k a b) (dig 18446744073709551616 (x / Nat.gcd x y), dig 18446744073709551616 (y / Nat.gcd x y), dig 10000 (x / Nat.gcd x y), dig 10000 (y / Nat.gcd x y), true) := by
 have off : Ev (fun k => zah.j0 k true a b) (([] : List Int), ([] : List Int), ([] : List Int), ([] : List Int), false) := Ev.step (fun _ => zah.j0.eq_2 ..) (Ev.pos rfl (Ev.const _))
 by_cases h1 : (a.length : Int) > 4
 ·
  exact .inl (Ev.pos h1 off)
 ·
  by_cases h2 : (b.length : Int) > 4
  ·
   exact .inl (Ev.neg h1 (Ev.pos h2 off))
  ·
   by_cases h3 : (b.length : Int) = 0
   ·
    exact .inl (Ev.neg h1 (Ev.neg h2 (Ev.pos h3 off)))
   ·
    have g1 := rGood a (by omega)
    have g2 := rGood b (by omega)
    cases ha : goodB a with
    | false =>
     rw [ha] at g1
     exact .inl (Ev.neg h1 (Ev.neg h2 (Ev.neg h3 (Ev.plain g1 (Ev.neg (by simp) off)))))
    | true =>
     rw [ha] at g1
     cases hb : goodB b with
     | false =>
      rw [hb] at g2
      exact .inl (Ev.neg h1 (Ev.neg h2 (Ev.neg h3 (Ev.plain g1 (Ev.pos rfl (Ev.plain g2 off))))))
     | true => exact .inr (made_good a b da db ha hb (by omega) (by omega) (by omega))
theorem low_rat {x y : Nat} (hy : 0 < y) : x / Nat.gcd x y = (mkRat (x : Int) y).num.toNat ∧ y / Nat.gcd x y = (mkRat (x : Int) y).den := by
 rw [Rat.num_mkRat, Rat.den_mkRat, if_neg (by omega), if_neg (by omega), Int.natAbs_natCast, Nat.gcd_comm y x]
 refine ⟨?_, rfl⟩
 rw [← Int.natCast_ediv, Int.toNat_natCast]
def Bd (r : Rat) (m : Nat) : Prop := 0 ≤ r ∧ r.num.toNat < 18446744073709551616 ^ m ∧ r.den < 18446744073709551616 ^ m
theorem mkRat_nonneg (x y : Nat) : 0 ≤ mkRat (x : Int) y := by
 rw [← Rat.num_nonneg, Rat.num_mkRat]
 split
 ·
  exact Int.le_refl _
 ·
  exact Int.ediv_nonneg (Int.natCast_nonneg _) (Int.natCast_nonneg _)
theorem Bd.mk {x y m : Nat} (hy : 0 < y) (hx : x < 18446744073709551616 ^ m) (hyl : y < 18446744073709551616 ^ m) : Bd (mkRat (x : Int) y) m := by
 obtain ⟨h1, h2⟩ := low_rat (x := x) hy
 refine ⟨mkRat_nonneg x y, ?_, ?_⟩
 ·
  rw [← h1]
  exact divLt hx
 ·
  rw [← h2]
  exact divLt hyl
theorem nnum {r : Rat} (h : 0 ≤ r) : ((r.num.toNat : Nat) : Int) = r.num := Int.toNat_of_nonneg (Rat.num_nonneg.2 h)
theorem mul_rat {r s : Rat} (hr : 0 ≤ r) (hs : 0 ≤ s) : mkRat ((r.num.toNat * s.num.toNat : Nat) : Int) (r.den * s.den) = r * s := by
 rw [Rat.mul_def', Int.natCast_mul, nnum hr, nnum hs]
theorem add_rat {r s : Rat} (hr : 0 ≤ r) (hs : 0 ≤ s) : mkRat ((r.num.toNat * s.den + s.num.toNat * r.den : Nat) : Int) (r.den * s.den) = r + s := by
 rw [Rat.add_def', Int.natCast_add, Int.natCast_mul, Int.natCast_mul, nnum hr, nnum hs]
theorem le_rat {r s : Rat} (hr : 0 ≤ r) (hs : 0 ≤ s) : s.num.toNat * r.den ≤ r.num.toNat * s.den ↔ s ≤ r := by
 rw [Rat.le_iff, ← nnum hr, ← nnum hs, ← Int.natCast_mul, ← Int.natCast_mul, Int.ofNat_le, Int.toNat_natCast, Int.toNat_natCast]
theorem lt_rat {r s : Rat} (hr : 0 ≤ r) (hs : 0 ≤ s) : r.num.toNat * s.den < s.num.toNat * r.den ↔ r < s := by
 rw [Rat.lt_iff, ← nnum hr, ← nnum hs, ← Int.natCast_mul, ← Int.natCast_mul, Int.ofNat_lt, Int.toNat_natCast, Int.toNat_natCast]
theorem eq_rat {r s : Rat} (hr : 0 ≤ r) (hs : 0 ≤ s) : r.num.toNat * s.den = s.num.toNat * r.den ↔ r = s := by
 rw [Rat.eq_iff_mul_eq_mul, ← nnum hr, ← nnum hs, ← Int.natCast_mul, ← Int.natCast_mul, Int.ofNat_inj, Int.toNat_natCast, Int.toNat_natCast]
theorem sub_rat {r s : Rat} (hr : 0 ≤ r) (hs : 0 ≤ s) (h : s ≤ r) : mkRat ((r.num.toNat * s.den - s.num.toNat * r.den : Nat) : Int) (r.den * s.den) = r - s := by
 rw [Rat.sub_def', Int.ofNat_sub ((le_rat hr hs).2 h), Int.natCast_mul, Int.natCast_mul, nnum hr, nnum hs]
theorem rat_frac (r : Rat) : r * (r.den : Rat) = (r.num : Rat) := by
 have h : (r.den : Rat) ≠ 0 := by
  intro h
  have := congrArg Rat.num h
  simp at this
  exact r.den_nz this
 have e := Rat.mkRat_self r
 rw [Rat.mkRat_eq_div] at e
 have e2 : r * (r.den : Rat) = ((r.num : Rat) / (r.den : Rat)) * (r.den : Rat) := by rw [e]
 rw [e2, Rat.div_mul_cancel h]
theorem den_ne (r : Rat) : (r.den : Rat) ≠ 0 := by
 intro h
 have := congrArg Rat.num h
 simp at this
 exact r.den_nz this
theorem div_rat {r s : Rat} (hr : 0 ≤ r) (hs : 0 < s) : mkRat ((r.num.toNat * s.den : Nat) : Int) (r.den * s.num.toNat) = r / s := by
 have hs' : 0 ≤ s := Rat.le_of_lt hs
 have e1 := rat_frac r
 have e2 := rat_frac s
 have n1 := den_ne r
 have n2 := den_ne s
 have n3 : s ≠ 0 := Rat.ne_of_gt hs
 have c1 : ((r.num.toNat : Nat) : Rat) = (r.num : Rat) := by rw [← Rat.intCast_natCast, nnum hr]
 have c2 : ((s.num.toNat : Nat) : Rat) = (s.num : Rat) := by rw [← Rat.intCast_natCast, nnum hs']
 rw [Rat.mkRat_eq_div, Rat.intCast_natCast, Rat.natCast_mul, Rat.natCast_mul, c1, c2, ← e1, ← e2]
 generalize (r.den : Rat) = a at n1
 generalize (s.den : Rat) = b at n2
 grind
def cmpR (r s : Rat) : Int := if r = s then 0 else if r < s then -1 else 1
theorem sgn_rat {r s : Rat} (hr : 0 ≤ r) (hs : 0 ≤ s) : sgn (r.num.toNat * s.den) (s.num.toNat * r.den) = cmpR r s := by
 unfold sgn cmpR
 by_cases h1 : r = s
 ·
  rw [if_pos ((eq_rat hr hs).2 h1), if_pos h1]
 ·
  rw [if_neg (fun h => h1 ((eq_rat hr hs).1 h)), if_neg h1]
  by_cases h2 : r < s
  ·
   rw [if_pos ((lt_rat hr hs).2 h2), if_pos h2]
  ·
   rw [if_neg (fun h => h2 ((lt_rat hr hs).1 h)), if_neg h2]
theorem Bd.mul {r s : Rat} {m n : Nat} (hr : Bd r m) (hs : Bd s n) : Bd (r * s) (m + n) := by
 have := Bd.mk (x := r.num.toNat * s.num.toNat) (y := r.den * s.den) (m := m + n) (Nat.mul_pos r.den_pos s.den_pos) (W_mul hr.2.1 hs.2.1) (W_mul hr.2.2 hs.2.2)
 rw [mul_rat hr.1 hs.1] at this
 exact this
theorem Bd.add {r s : Rat} {m n : Nat} (hr : Bd r m) (hs : Bd s n) : Bd (r + s) (m + n + 1) := by
 have h1 := W_mul hr.2.1 hs.2.2
 have h2 := W_mul hs.2.1 hr.2.2
 rw [Nat.add_comm n m] at h2
 have := Bd.mk (x := r.num.toNat * s.den + s.num.toNat * r.den) (y := r.den * s.den) (m := m + n + 1) (Nat.mul_pos r.den_pos s.den_pos) (W_add h1 h2) (W_le (W_mul hr.2.2 hs.2.2) (by omega))
 rw [add_rat hr.1 hs.1] at this
 exact this
theorem num_pos {s : Rat} (h : 0 < s) : 0 < s.num.toNat := by
 have h1 := nnum (Rat.le_of_lt h)
 have h2 : s.num ≠ 0 := fun e => Rat.ne_of_gt h (Rat.num_eq_zero.1 e)
 have h3 := Rat.num_nonneg.2 (Rat.le_of_lt h)
 omega
theorem qOf {x y m : Nat} (hy : 0 < y) (hx : x < 18446744073709551616 ^ m) (hyl : y < 18446744073709551616 ^ m) (hm : m ≤ 100000) : Ev (fun k => zb8.f k (dig 18446744073709551616 x) (dig 18446744073709551616 y)) (dig 18446744073709551616 (mkRat (x : Int) y).num.toNat, dig 18446744073709551616 (mkRat (x : Int) y).den, 0) := by
 obtain ⟨h1, h2⟩ := low_rat (x := x) hy
 have := nRof hy hx hyl hm
 rw [h1, h2] at this
 exact this
theorem qLow {x y m : Nat} (hy : 0 < y) (hx : x < 18446744073709551616 ^ m) (hyl : y < 18446744073709551616 ^ m) (hm : m ≤ 100000) : Ev (fun k => zbh.f k (dig 18446744073709551616 x) (dig 18446744073709551616 y)) (dig 18446744073709551616 (mkRat (x : Int) y).num.toNat, dig 18446744073709551616 (mkRat (x : Int) y).den) := by
 obtain ⟨h1, h2⟩ := low_rat (x := x) hy
 have := nLowest hy hx hyl hm
 rw [h1, h2] at this
 exact this
theorem qMul {r s : Rat} {m n : Nat} (hr : Bd r m) (hs : Bd s n) (h : m + n ≤ 100000) : Ev (fun k => zcp.f k (dig 18446744073709551616 r.num.toNat) (dig 18446744073709551616 r.den) (dig 18446744073709551616 s.num.toNat) (dig 18446744073709551616 s.den)) (dig 18446744073709551616 (r * s).num.toNat, dig 18446744073709551616 (r * s).den) := by
 have := qLow (x := r.num.toNat * s.num.toNat) (y := r.den * s.den) (Nat.mul_pos r.den_pos s.den_pos) (W_mul hr.2.1 hs.2.1) (W_mul hr.2.2 hs.2.2) h
 rw [mul_rat hr.1 hs.1] at this
 exact Ev.bind (nMul _ _ (Le_lt hr.2.1 (by omega)) (Le_lt hs.2.1 (by omega))) (Ev.bind (nMul _ _ (Le_lt hr.2.2 (by omega)) (Le_lt hs.2.2 (by omega))) (Ev.bind this (Ev.const _)))
theorem qCross {r s : Rat} {m n : Nat} (hr : Bd r m) (hs : Bd s n) (h : m + n ≤ 90000) : Ev (fun k => zbd.f k (dig 18446744073709551616 r.num.toNat) (dig 18446744073709551616 r.den) (dig 18446744073709551616 s.num.toNat) (dig 18446744073709551616 s.den)) (dig 18446744073709551616 (r.num.toNat * s.den), dig 18446744073709551616 (s.num.toNat * r.den), dig 18446744073709551616 (r.den * s.den)) :=
 Ev.bind (nMul _ _ (Le_lt hr.2.1 (by omega)) (Le_lt hs.2.2 (by omega))) (Ev.bind (nMul _ _ (Le_lt hs.2.1 (by omega)) (Le_lt hr.2.2 (by omega))) (Ev.bind (nMul _ _ (Le_lt hr.2.2 (by omega)) (Le_lt hs.2.2 (by omega))) (Ev.const _)))
theorem qAdd {r s : Rat} {m n : Nat} (hr : Bd r m) (hs : Bd s n) (h : m + n ≤ 90000) : Ev (fun k => ratio_Add.f k (dig 18446744073709551616 r.num.toNat) (dig 18446744073709551616 r.den) (dig 18446744073709551616 s.num.toNat) (dig 18446744073709551616 s.den)) (dig 18446744073709551616 (r + s).num.toNat, dig 18446744073709551616 (r + s).den) := by
 have h1 := W_mul hr.2.1 hs.2.2
 have h2 := W_mul hs.2.1 hr.2.2
 rw [Nat.add_comm n m] at h2
 have := qLow (x := r.num.toNat * s.den + s.num.toNat * r.den) (y := r.den * s.den) (m := m + n + 1) (Nat.mul_pos r.den_pos s.den_pos) (W_add h1 h2) (W_le (W_mul hr.2.2 hs.2.2) (by omega)) (by omega)
 rw [add_rat hr.1 hs.1] at this
 exact Ev.bind (qCross hr hs h) (Ev.bind (nAdd _ _ (Le_lt h1 (by omega)) (Le_lt h2 (by omega))) (Ev.bind this (Ev.const _)))
theorem qSub {r s : Rat} {m n : Nat} (hr : Bd r m) (hs : Bd s n) (h : m + n ≤ 90000) (hle : s ≤ r) : Ev (fun k => ratio_Sub.f k (dig 18446744073709551616 r.num.toNat) (dig 18446744073709551616 r.den) (dig 18446744073709551616 s.num.toNat) (dig 18446744073709551616 s.den)) (dig 18446744073709551616 (r - s).num.toNat, dig 18446744073709551616 (r - s).den, 0) := by
 have h1 := W_mul hr.2.1 hs.2.2
 have := qLow (x := r.num.toNat * s.den - s.num.toNat * r.den) (y := r.den * s.den) (m := m + n) (Nat.mul_pos r.den_pos s.den_pos) (Nat.lt_of_le_of_lt (Nat.sub_le _ _) h1) (W_mul hr.2.2 hs.2.2) (by omega)
 rw [sub_rat hr.1 hs.1 hle] at this
 exact Ev.bind (qCross hr hs h) (Ev.bind (nSub _ _ (Le_lt h1 (by omega)) ((le_rat hr.1 hs.1).2 hle)) (Ev.pos rfl (Ev.bind this (Ev.const _))))
theorem qDiv {r s : Rat} {m n : Nat} (hr : Bd r m) (hs : Bd s n) (h : m + n ≤ 90000) (hpos : 0 < s) : Ev (fun k => zco.f k (dig 18446744073709551616 r.num.toNat) (dig 18446744073709551616 r.den) (dig 18446744073709551616 s.num.toNat) (dig 18446744073709551616 s.den)) (dig 18446744073709551616 (r / s).num.toNat, dig 18446744073709551616 (r / s).den, 0) := by
 have := qOf (x := r.num.toNat * s.den) (y := r.den * s.num.toNat) (m := m + n) (Nat.mul_pos r.den_pos (num_pos hpos)) (W_mul hr.2.1 hs.2.2) (W_mul hr.2.2 hs.2.1) (by omega)
 rw [div_rat hr.1 hpos] at this
 exact Ev.bind (nMul _ _ (Le_lt hr.2.1 (by omega)) (Le_lt hs.2.2 (by omega))) (Ev.bind (nMul _ _ (Le_lt hr.2.2 (by omega)) (Le_lt hs.2.1 (by omega))) (Ev.bind this (Ev.const _)))
theorem qCmp {r s : Rat} {m n : Nat} (hr : Bd r m) (hs : Bd s n) (h : m + n ≤ 90000) : Ev (fun k => ratio_Cmp.f k (dig 18446744073709551616 r.num.toNat) (dig 18446744073709551616 r.den) (dig 18446744073709551616 s.num.toNat) (dig 18446744073709551616 s.den)) (cmpR r s) := by
 have := nCmp (r.num.toNat * s.den) (s.num.toNat * r.den)
 rw [sgn_rat hr.1 hs.1] at this
 exact Ev.bind (qCross hr hs h) (Ev.plain this (Ev.const _))
theorem Bd.nat {n m : Nat} (h : n < 18446744073709551616 ^ m) (hm : 1 ≤ m) : Bd (n : Rat) m := ⟨by
  have := mkRat_nonneg n 1
  rw [Rat.mkRat_eq_div] at this
  rw [← Rat.num_nonneg]
  simp, by simpa using h, by
  rw [Rat.den_natCast]
  exact Nat.lt_of_lt_of_le (by decide : 1 < 18446744073709551616) (by
   have := Nat.pow_le_pow_right (n := 18446744073709551616) (by decide) hm
   rw [Nat.pow_one] at this
   exact this)⟩
theorem qInt (n : Int) (h : n < 9223372036854775808) : Ev (fun k => ratio_Int.f k n) (dig 18446744073709551616 ((n.toNat : Nat) : Rat).num.toNat, dig 18446744073709551616 ((n.toNat : Nat) : Rat).den) := by
 have := nRint n h
 rw [Rat.num_natCast, Rat.den_natCast, Int.toNat_natCast]
 exact this
theorem made_rat (a b : List Int) (da : Dig 18446744073709551616 a) (db : Dig 18446744073709551616 b) : Ev (fun k => zah.f k a b) (([] : List Int), ([] : List Int), ([] : List Int), ([] : List Int), false) ∨
  (b ≠ [] ∧ ∃ r, Bd r 4 ∧ Ev (fun k => zah.f k a b) (dig 18446744073709551616 r.num.toNat, dig 18446744073709551616 r.den, dig 10000 r.num.toNat, dig 10000 r.den, true)) := by
 rcases made_cases a b da db with h | ⟨x, y, hx, hy, hpos, ea, eb, hm⟩
 ·
  exact .inl h
 ·
  obtain ⟨h1, h2⟩ := low_rat (x := x) hpos
  rw [h1, h2] at hm
  refine .inr ⟨?_, _, Bd.mk hpos hx hy, hm⟩
  intro e
  have := ne_len (B := 18446744073709551616) (by decide) hpos
  rw [← eb, e] at this
  exact absurd this (by simp)
end Go.Proofs.YtfjkamhcabckeaaDoor.P
end
section
namespace Go.Proofs.YtfjkamhcabckeaaDoor.P
open Go.RowKit Go.Proofs.YtfjkamhcabckeaaDoorW.PrintWords Go.Proofs.YtfjkamhcabckeaaDoorW.PrintLast Go.Proofs.YtfjkamhcabckeaaDoorW.PrintMore
attribute [local go_sem] zc7 zc8 max_two min_two zct zcu zc6 zc9
def rN (r : Rat) : List Int := dig 18446744073709551616 r.num.toNat
def rD (r : Rat) : List Int := dig 18446744073709551616 r.den
def Rt (w : World) (A : Option Addr) (c : Nat) (a : List Int) (A' : Option Addr) (c' : Nat) (b : List Int) : Prop := a.length ≤ c ∧ Kd.C (Kd.int .u64) w A a.length a ∧ b.length ≤ c' ∧ Kd.C (Kd.int .u64) w A' b.length b
theorem Rt.below {w w' : World} {A A' : Option Addr} {c c' : Nat} {a b : List Int} (h : Rt w A c a A' c' b) (hb : Below w.heap.size w w') : Rt w' A c a A' c' b := ⟨h.1, Kd.za3 h.2.1 hb, h.2.2.1, Kd.za3 h.2.2.2 hb⟩
def RV (w : World) (P : Nat → Prop) (A : Option Addr) (c : Nat) (a : List Int) (A' : Option Addr) (c' : Nat) (b : List Int) : Prop := Kd.V (Kd.int .u64) 57 w 0 P (.slice A a.length c) a ∧ Kd.V (Kd.int .u64) 57 w 0 P (.slice A' b.length c') b
theorem RV.rt {w : World} {P : Nat → Prop} {A A' : Option Addr} {c c' : Nat} {a b : List Int} (h : RV w P A c a A' c' b) : Rt w A c a A' c' b := by
 obtain ⟨_, l1, C1⟩ := Kd.zaq h.1
 obtain ⟨_, l2, C2⟩ := Kd.zaq h.2
 exact ⟨l1, C1, l2, C2⟩
theorem RV.mono {w : World} {P Q : Nat → Prop} {A A' : Option Addr} {c c' : Nat} {a b : List Int} (h : RV w P A c a A' c' b) (hq : ∀ k, P k → Q k) : RV w Q A c a A' c' b := ⟨Kd.zan h.1 hq, Kd.zan h.2 hq⟩
theorem RV.old {w w' : World} {P : Nat → Prop} {A A' : Option Addr} {c c' : Nat} {a b : List Int} (h : RV w P A c a A' c' b) (hb : Below w.heap.size w w') : RV w' (fun k => P k ∧ k < w.heap.size) A c a A' c' b := ⟨Kd.V_old h.1 hb, Kd.V_old h.2 hb⟩
theorem RV.far {w : World} {P : Nat → Prop} {A A' : Option Addr} {c c' : Nat} {a b : List Int} {p : Addr} (h : RV w P A c a A' c' b) (hp : ∀ k, P k → k ≠ p.block) (u : Value) : RV (w.setCell p u) P A c a A' c' b := ⟨Kd.V_far h.1 hp u, Kd.V_far h.2 hp u⟩
theorem RV.of {w : World} {ba bb : Nat} {P : Nat → Prop} {v u : Value} {a b : List Int} (h1 : Kd.V (Kd.int .u64) 57 w ba P v a) (h2 : Kd.V (Kd.int .u64) 57 w bb P u b) : ∃ A c A' c', v = .slice A a.length c ∧ u = .slice A' b.length c' ∧ RV w P A c a A' c' b := by
 obtain ⟨A, c, rfl⟩ := Kd.za7 h1
 obtain ⟨A', c', rfl⟩ := Kd.za7 h2
 exact ⟨A, c, A', c', rfl, rfl, h1, h2⟩
theorem Rt.of {w : World} {ba bb : Nat} {P Q : Nat → Prop} {v u : Value} {a b : List Int} (h1 : Kd.V (Kd.int .u64) 57 w ba P v a) (h2 : Kd.V (Kd.int .u64) 57 w bb Q u b) : ∃ A c A' c', v = .slice A a.length c ∧ u = .slice A' b.length c' ∧ Rt w A c a A' c' b := by
 obtain ⟨A, c, rfl⟩ := Kd.za7 h1
 obtain ⟨A', c', rfl⟩ := Kd.za7 h2
 obtain ⟨_, l1, C1⟩ := Kd.zaq h1
 obtain ⟨_, l2, C2⟩ := Kd.zaq h2
 exact ⟨A, c, A', c', rfl, rfl, l1, C1, l2, C2⟩
section
variable {w : World} {A0 A1 A2 A3 : Option Addr} {c0 c1 c2 c3 : Nat} {r s : Rat} {m n : Nat}
theorem t_Add (h1 : Rt w A0 c0 (rN r) A1 c1 (rD r)) (h2 : Rt w A2 c2 (rN s) A3 c3 (rD s)) (hr : Bd r m) (hs : Bd s n) (h : m + n ≤ 90000) :
  Calls Tryd.prog 34 #[.agg #[.slice A0 (rN r).length c0, .slice A1 (rD r).length c1], .agg #[.slice A2 (rN s).length c2, .slice A3 (rD s).length c3]] w fun e w' => ∃ A c A' c', e = .returned (.agg #[.slice A (rN (r + s)).length c, .slice A' (rD (r + s)).length c']) ∧ RV w' (fun k => w.heap.size ≤ k) A c (rN (r + s)) A' c' (rD (r + s)) ∧ Below w.heap.size w w' := by
 obtain ⟨k, hk⟩ := (qAdd hr hs h).get
 refine (ratio_Add.calls k A0 c0 (rN r) A1 c1 (rD r) A2 c2 (rN s) A3 c3 (rD s) (rN (r + s)) (rD (r + s)) w h1.2.1 h1.1 h1.2.2.2 h1.2.2.1 h2.2.1 h2.1 h2.2.2.2 h2.2.2.1 hk).mono ?_
 rintro e w' ⟨v0, v1, rfl, hv0, hv1, hb⟩
 obtain ⟨A, c, A', c', rfl, rfl, hR⟩ := RV.of hv0 hv1
 exact ⟨A, c, A', c', rfl, hR, hb⟩
theorem t_Mul (h1 : Rt w A0 c0 (rN r) A1 c1 (rD r)) (h2 : Rt w A2 c2 (rN s) A3 c3 (rD s)) (hr : Bd r m) (hs : Bd s n) (h : m + n ≤ 100000) :
  Calls Tryd.prog 29 #[.agg #[.slice A0 (rN r).length c0, .slice A1 (rD r).length c1], .agg #[.slice A2 (rN s).length c2, .slice A3 (rD s).length c3]] w fun e w' => ∃ A c A' c', e = .returned (.agg #[.slice A (rN (r * s)).length c, .slice A' (rD (r * s)).length c']) ∧ RV w' (fun k => w.heap.size ≤ k) A c (rN (r * s)) A' c' (rD (r * s)) ∧ Below w.heap.size w w' := by
 obtain ⟨k, hk⟩ := (qMul hr hs h).get
 refine (zcp.calls k A0 c0 (rN r) A1 c1 (rD r) A2 c2 (rN s) A3 c3 (rD s) (rN (r * s)) (rD (r * s)) w h1.2.1 h1.1 h1.2.2.2 h1.2.2.1 h2.2.1 h2.1 h2.2.2.2 h2.2.2.1 hk).mono ?_
 rintro e w' ⟨v0, v1, rfl, hv0, hv1, hb⟩
 obtain ⟨A, c, A', c', rfl, rfl, hR⟩ := RV.of hv0 hv1
 exact ⟨A, c, A', c', rfl, hR, hb⟩
theorem t_Sub (h1 : Rt w A0 c0 (rN r) A1 c1 (rD r)) (h2 : Rt w A2 c2 (rN s) A3 c3 (rD s)) (hr : Bd r m) (hs : Bd s n) (h : m + n ≤ 90000) (hle : s ≤ r) :
  Calls Tryd.prog 33 #[.agg #[.slice A0 (rN r).length c0, .slice A1 (rD r).length c1], .agg #[.slice A2 (rN s).length c2, .slice A3 (rD s).length c3]] w fun e w' => ∃ A c A' c', e = .returned (.tuple #[.agg #[.slice A (rN (r - s)).length c, .slice A' (rD (r - s)).length c'], .int .i64 0]) ∧ RV w' (fun k => w.heap.size ≤ k) A c (rN (r - s)) A' c' (rD (r - s)) ∧ Below w.heap.size w w' := by
 obtain ⟨k, hk⟩ := (qSub hr hs h hle).get
 refine (ratio_Sub.calls k A0 c0 (rN r) A1 c1 (rD r) A2 c2 (rN s) A3 c3 (rD s) (rN (r - s)) (rD (r - s)) 0 w h1.2.1 h1.1 h1.2.2.2 h1.2.2.1 h2.2.1 h2.1 h2.2.2.2 h2.2.2.1 hk).mono ?_
 rintro e w' ⟨v0, v1, rfl, hv0, hv1, hb⟩
 obtain ⟨A, c, A', c', rfl, rfl, hR⟩ := RV.of hv0 hv1
 exact ⟨A, c, A', c', rfl, hR, hb⟩
theorem t_Div (h1 : Rt w A0 c0 (rN r) A1 c1 (rD r)) (h2 : Rt w A2 c2 (rN s) A3 c3 (rD s)) (hr : Bd r m) (hs : Bd s n) (h : m + n ≤ 90000) (hpos : 0 < s) :
  Calls Tryd.prog 31 #[.agg #[.slice A0 (rN r).length c0, .slice A1 (rD r).length c1], .agg #[.slice A2 (rN s).length c2, .slice A3 (rD s).length c3]] w fun e w' => ∃ A c A' c', e = .returned (.tuple #[.agg #[.slice A (rN (r / s)).length c, .slice A' (rD (r / s)).length c'], .int .i64 0]) ∧ RV w' (fun k => w.heap.size ≤ k) A c (rN (r / s)) A' c' (rD (r / s)) ∧ Below w.heap.size w w' := by
 obtain ⟨k, hk⟩ := (qDiv hr hs h hpos).get
 refine (zco.calls k A0 c0 (rN r) A1 c1 (rD r) A2 c2 (rN s) A3 c3 (rD s) (rN (r / s)) (rD (r / s)) 0 w h1.2.1 h1.1 h1.2.2.2 h1.2.2.1 h2.2.1 h2.1 h2.2.2.2 h2.2.2.1 hk).mono ?_
 rintro e w' ⟨v0, v1, rfl, hv0, hv1, hb⟩
 obtain ⟨A, c, A', c', rfl, rfl, hR⟩ := RV.of hv0 hv1
 exact ⟨A, c, A', c', rfl, hR, hb⟩
theorem t_Cmp (h1 : Rt w A0 c0 (rN r) A1 c1 (rD r)) (h2 : Rt w A2 c2 (rN s) A3 c3 (rD s)) (hr : Bd r m) (hs : Bd s n) (h : m + n ≤ 90000) :
  Calls Tryd.prog 35 #[.agg #[.slice A0 (rN r).length c0, .slice A1 (rD r).length c1], .agg #[.slice A2 (rN s).length c2, .slice A3 (rD s).length c3]] w fun e w' => e = .returned (.int .i64 (cmpR r s)) ∧ Below w.heap.size w w' := by
 obtain ⟨k, hk⟩ := (qCmp hr hs h).get
 exact ratio_Cmp.calls k A0 c0 (rN r) A1 c1 (rD r) A2 c2 (rN s) A3 c3 (rD s) (cmpR r s) w h1.2.1 h1.1 h1.2.2.2 h1.2.2.1 h2.2.1 h2.1 h2.2.2.2 h2.2.2.1 hk
theorem t_Int (z : Int) (hz : z < 9223372036854775808) (w : World) :
  Calls Tryd.prog 22 #[.int .i64 z] w fun e w' => ∃ A c A' c', e = .returned (.agg #[.slice A (rN ((z.toNat : Nat) : Rat)).length c, .slice A' (rD ((z.toNat : Nat) : Rat)).length c']) ∧ RV w' (fun k => w.heap.size ≤ k) A c (rN ((z.toNat : Nat) : Rat)) A' c' (rD ((z.toNat : Nat) : Rat)) ∧ Below w.heap.size w w' := by
 obtain ⟨k, hk⟩ := (qInt z hz).get
 refine (ratio_Int.calls k z (rN ((z.toNat : Nat) : Rat)) (rD ((z.toNat : Nat) : Rat)) w hk).mono ?_
 rintro e w' ⟨v0, v1, rfl, hv0, hv1, hb⟩
 obtain ⟨A, c, A', c', rfl, rfl, hR⟩ := RV.of hv0 hv1
 exact ⟨A, c, A', c', rfl, hR, hb⟩
theorem t_Floor (h1 : Rt w A0 c0 (rN r) A1 c1 (rD r)) (hr : Bd r m) (hm : m ≤ 100000) :
  Calls Tryd.prog 27 #[.agg #[.slice A0 (rN r).length c0, .slice A1 (rD r).length c1]] w fun e w' => ∃ A c, e = .returned (.slice A (dig 18446744073709551616 (r.num.toNat / r.den)).length c) ∧ (dig 18446744073709551616 (r.num.toNat / r.den)).length ≤ c ∧ Kd.C (Kd.int .u64) w' A (dig 18446744073709551616 (r.num.toNat / r.den)).length (dig 18446744073709551616 (r.num.toNat / r.den)) ∧ Below w.heap.size w w' := by
 obtain ⟨k, hk⟩ := (nFloor r.den_pos hr.2.1 hr.2.2 hm).get
 refine (zbo.calls k A0 c0 (rN r) A1 c1 (rD r) _ w h1.2.1 h1.1 h1.2.2.2 h1.2.2.1 hk).mono ?_
 rintro e w' ⟨v0, rfl, hv0, hb⟩
 obtain ⟨A, c, rfl⟩ := Kd.za7 hv0
 obtain ⟨_, l1, C1⟩ := Kd.zaq hv0
 exact ⟨A, c, rfl, l1, C1, hb⟩
theorem t_nOf (x : Nat) (hx : x < 18446744073709551616) (w : World) :
  Calls Tryd.prog 36 #[.int .u64 (x : Int)] w fun e w' => ∃ A c, e = .returned (.slice A (dig 18446744073709551616 x).length c) ∧ (dig 18446744073709551616 x).length ≤ c ∧ Kd.C (Kd.int .u64) w' A (dig 18446744073709551616 x).length (dig 18446744073709551616 x) ∧ Below w.heap.size w w' := by
 obtain ⟨k, hk⟩ := (nOf x hx).get
 refine (zck.calls k (x : Int) _ w hk).mono ?_
 rintro e w' ⟨v0, rfl, hv0, hb⟩
 obtain ⟨A, c, rfl⟩ := Kd.za7 hv0
 obtain ⟨_, l1, C1⟩ := Kd.zaq hv0
 exact ⟨A, c, rfl, l1, C1, hb⟩
theorem t_Of {x y : Nat} (hy : 0 < y) (hx : x < 18446744073709551616 ^ m) (hyl : y < 18446744073709551616 ^ m) (hm : m ≤ 100000) (l0 : (dig 18446744073709551616 x).length ≤ c0) (C0 : Kd.C (Kd.int .u64) w A0 (dig 18446744073709551616 x).length (dig 18446744073709551616 x)) (l1 : (dig 18446744073709551616 y).length ≤ c1) (C1 : Kd.C (Kd.int .u64) w A1 (dig 18446744073709551616 y).length (dig 18446744073709551616 y)) :
  Calls Tryd.prog 24 #[.slice A0 (dig 18446744073709551616 x).length c0, .slice A1 (dig 18446744073709551616 y).length c1] w fun e w' => ∃ A c A' c', e = .returned (.tuple #[.agg #[.slice A (rN (mkRat (x : Int) y)).length c, .slice A' (rD (mkRat (x : Int) y)).length c'], .int .i64 0]) ∧ RV w' (fun k => w.heap.size ≤ k) A c (rN (mkRat (x : Int) y)) A' c' (rD (mkRat (x : Int) y)) ∧ Below w.heap.size w w' := by
 obtain ⟨k, hk⟩ := (qOf hy hx hyl hm).get
 refine (zb8.calls k A0 c0 _ A1 c1 _ (rN (mkRat (x : Int) y)) (rD (mkRat (x : Int) y)) 0 w C0 l0 C1 l1 hk).mono ?_
 rintro e w' ⟨v0, v1, rfl, hv0, hv1, hb⟩
 obtain ⟨A, c, A', c', rfl, rfl, hR⟩ := RV.of hv0 hv1
 exact ⟨A, c, A', c', rfl, hR, hb⟩
end
end Go.Proofs.YtfjkamhcabckeaaDoor.P
end
section
namespace Go.Proofs.YtfjkamhcabckeaaDoor.P
open Go.RowKit Go.Proofs.YtfjkamhcabckeaaDoorW.PrintWords Go.Proofs.YtfjkamhcabckeaaDoorW.PrintLast Go.Proofs.YtfjkamhcabckeaaDoorW.PrintMore
attribute [local go_sem] zc7 zc8 max_two min_two zct zcu zc6 zc9
theorem t_made {w : World} {A0 A1 : Option Addr} {c0 c1 : Nat} {a b l2 l3 : List Int} {r : Rat} (h : Rt w A0 c0 a A1 c1 b) (hm : Ev (fun k => zah.f k a b) (rN r, rD r, l2, l3, true)) :
  Calls Tryd.prog 25 #[.agg #[.slice A0 a.length c0, .slice A1 b.length c1]] w fun e w' => ∃ A c A' c' A2 c2 A3 c3, e = .returned (.tuple #[.agg #[.slice A (rN r).length c, .slice A' (rD r).length c'], .agg #[.slice A2 l2.length c2, .slice A3 l3.length c3], .bool true]) ∧ Rt w' A c (rN r) A' c' (rD r) ∧ Below w.heap.size w w' := by
 obtain ⟨k, hk⟩ := hm.get
 refine (zah.calls k A0 c0 a A1 c1 b (rN r) (rD r) l2 l3 true w h.2.1 h.1 h.2.2.2 h.2.2.1 hk).mono ?_
 rintro e w' ⟨v0, v1, v2, v3, rfl, hv0, hv1, hv2, hv3, hb⟩
 obtain ⟨A, c, A', c', rfl, rfl, hR⟩ := Rt.of hv0 hv1
 obtain ⟨A2, c2, rfl⟩ := Kd.zbn hv2
 obtain ⟨A3, c3, rfl⟩ := Kd.zbn hv3
 exact ⟨A, c, A', c', A2, c2, A3, c3, rfl, hR, hb⟩
theorem t_made_any {w : World} {A0 A1 : Option Addr} {c0 c1 : Nat} {a b l0 l1 l2 l3 : List Int} {ok : Bool} (h : Rt w A0 c0 a A1 c1 b) (hm : Ev (fun k => zah.f k a b) (l0, l1, l2, l3, ok)) :
  Calls Tryd.prog 25 #[.agg #[.slice A0 a.length c0, .slice A1 b.length c1]] w fun e w' => ∃ A c A' c' A2 c2 A3 c3, e = .returned (.tuple #[.agg #[.slice A l0.length c, .slice A' l1.length c'], .agg #[.slice A2 l2.length c2, .slice A3 l3.length c3], .bool ok]) ∧ Below w.heap.size w w' := by
 obtain ⟨k, hk⟩ := hm.get
 refine (zah.calls k A0 c0 a A1 c1 b l0 l1 l2 l3 ok w h.2.1 h.1 h.2.2.2 h.2.2.1 hk).mono ?_
 rintro e w' ⟨v0, v1, v2, v3, rfl, hv0, hv1, hv2, hv3, hb⟩
 obtain ⟨A, c, rfl⟩ := Kd.za7 hv0
 obtain ⟨A', c', rfl⟩ := Kd.za7 hv1
 obtain ⟨A2, c2, rfl⟩ := Kd.zbn hv2
 obtain ⟨A3, c3, rfl⟩ := Kd.zbn hv3
 exact ⟨A, c, A', c', A2, c2, A3, c3, rfl, hb⟩
theorem cmp_self (r : Rat) : cmpR r r = 0 := by rw [cmpR, if_pos rfl]
theorem floor_low (r : Rat) (h : 0 ≤ r) : ((r.num.toNat / r.den : Nat) : Rat) ≤ r ∧ r < ((r.num.toNat / r.den : Nat) : Rat) + 1 := by
 have e := rat_frac r
 have hd : (0 : Rat) < (r.den : Rat) := by
  have := r.den_pos
  exact_mod_cast Rat.natCast_pos.2 this
 have hn : (r.num : Rat) = ((r.num.toNat : Nat) : Rat) := by rw [← Rat.intCast_natCast, nnum h]
 have hdm := Nat.div_add_mod r.num.toNat r.den
 have hlt := Nat.mod_lt r.num.toNat r.den_pos
 rw [hn] at e
 generalize r.num.toNat / r.den = q at *
 have h1 : ((r.num.toNat : Nat) : Rat) = (r.den : Rat) * (q : Rat) + ((r.num.toNat % r.den : Nat) : Rat) := by
  rw [← Rat.natCast_mul, ← Rat.natCast_add, hdm]
 have h2 : ((r.num.toNat % r.den : Nat) : Rat) < (r.den : Rat) := Rat.natCast_lt_natCast.2 hlt
 have h3 : (0 : Rat) ≤ ((r.num.toNat % r.den : Nat) : Rat) := Rat.natCast_nonneg
 rw [h1] at e
 generalize ((r.num.toNat % r.den : Nat) : Rat) = m at *
 generalize (r.den : Rat) = d at *
 generalize (q : Rat) = q at *
 constructor
 ·
  refine Rat.le_of_mul_le_mul_right (c := d) ?_ hd
  grind
 ·
  refine Rat.lt_of_mul_lt_mul_right (c := d) ?_ (Rat.le_of_lt hd)
  grind
theorem t_one (w : World) :
  Calls Tryd.prog 36 #[.int .u64 1] w fun e w' => ∃ A c, e = .returned (.slice A (dig 18446744073709551616 1).length c) ∧ (dig 18446744073709551616 1).length ≤ c ∧ Kd.C (Kd.int .u64) w' A (dig 18446744073709551616 1).length (dig 18446744073709551616 1) ∧ Below w.heap.size w w' := t_nOf 1 (by omega) w
theorem t_Low {w : World} {A0 A1 : Option Addr} {c0 c1 : Nat} {r : Rat} (hr : Bd r 4) (l0 : (dig 18446744073709551616 (r.num.toNat / r.den)).length ≤ c0) (C0 : Kd.C (Kd.int .u64) w A0 (dig 18446744073709551616 (r.num.toNat / r.den)).length (dig 18446744073709551616 (r.num.toNat / r.den))) (l1 : (dig 18446744073709551616 1).length ≤ c1) (C1 : Kd.C (Kd.int .u64) w A1 (dig 18446744073709551616 1).length (dig 18446744073709551616 1)) :
  Calls Tryd.prog 24 #[.slice A0 (dig 18446744073709551616 (r.num.toNat / r.den)).length c0, .slice A1 (dig 18446744073709551616 1).length c1] w fun e w' => ∃ A c A' c', e = .returned (.tuple #[.agg #[.slice A (rN ((r.num.toNat / r.den : Nat) : Rat)).length c, .slice A' (rD ((r.num.toNat / r.den : Nat) : Rat)).length c'], .int .i64 0]) ∧ RV w' (fun k => w.heap.size ≤ k) A c (rN ((r.num.toNat / r.den : Nat) : Rat)) A' c' (rD ((r.num.toNat / r.den : Nat) : Rat)) ∧ Below w.heap.size w w' := by
 have := t_Of (x := r.num.toNat / r.den) (y := 1) (m := 4) (by omega) (divLt hr.2.1) (W_le (m := 1) (by rw [Nat.pow_one]; omega) (by omega)) (by omega) l0 C0 l1 C1
 have e2 : mkRat ((r.num.toNat / r.den : Nat) : Int) 1 = ((r.num.toNat / r.den : Nat) : Rat) := by
  have e5 : ((1 : Nat) : Rat) = 1 := rfl
  rw [Rat.mkRat_eq_div, Rat.intCast_natCast, e5]
  grind
 rw [e2] at this
 exact this
theorem floor_cmp {r : Rat} (h : 0 ≤ r) : cmpR ((r.num.toNat / r.den : Nat) : Rat) r ≤ 0 ∧ cmpR r (((r.num.toNat / r.den : Nat) : Rat) + ((1 : Nat) : Rat)) < 0 := by
 obtain ⟨f1, f2⟩ := floor_low r h
 constructor
 ·
  unfold cmpR
  by_cases he : ((r.num.toNat / r.den : Nat) : Rat) = r
  ·
   rw [if_pos he]
   decide
  ·
   rw [if_neg he, if_pos (Rat.lt_of_le_of_ne f1 he)]
   decide
 ·
  have e3 : ((1 : Nat) : Rat) = 1 := rfl
  rw [e3, cmpR, if_neg (Rat.ne_of_lt f2), if_pos f2]
  decide
theorem t_Int1 (w : World) :
  Calls Tryd.prog 22 #[.int .i64 1] w fun e w' => ∃ A c A' c', e = .returned (.agg #[.slice A (rN ((1 : Nat) : Rat)).length c, .slice A' (rD ((1 : Nat) : Rat)).length c']) ∧ RV w' (fun k => w.heap.size ≤ k) A c (rN ((1 : Nat) : Rat)) A' c' (rD ((1 : Nat) : Rat)) ∧ Below w.heap.size w w' := t_Int 1 (by omega) w
def rbT5 : Bool × List (List Nat × List Nat) := (true, [([], []), ([], []), ([0, 1], [0, 1]), ([], []), ([2, 3, 2], [2, 3]), ([4], [4]), ([5], [5]), ([5], [5]), ([], []), ([8, 6, 4, 0, 1, 2, 3, 4, 5, 6, 8], [6, 8]), ([7, 9, 0, 1, 2, 3, 4, 5, 6, 7, 8, 9], [7])])
def rbB5 : List Nat := [0, 0, 3, 0, 15, 31, 63, 63, 0, 383, 1023]
theorem rbtab5 : rtab .any (opsOf Tryd.f6 5) = rbT5 := by kernel_rfl
theorem rbbits5 : waitsOk rbT5.2 rbB5 = true := by kernel_rfl
def rbT9 : Bool × List (List Nat × List Nat) := (true, [([], []), ([], []), ([0, 1], [0, 1]), ([], []), ([2, 3, 2], [2, 3]), ([4], [4]), ([5], [5]), ([5], [5]), ([], []), ([8, 6, 4, 0, 1, 2, 3, 4, 5, 6, 8], [6, 8]), ([7, 9, 0, 1, 2, 3, 4, 5, 6, 7, 8, 9], [7])])
def rbB9 : List Nat := [0, 0, 3, 0, 15, 31, 63, 63, 0, 383, 1023]
theorem rbtab9 : rtab .any (opsOf Tryd.f6 9) = rbT9 := by kernel_rfl
theorem rbbits9 : waitsOk rbT9.2 rbB9 = true := by kernel_rfl
def rbT13 : Bool × List (List Nat × List Nat) := (true, [([], []), ([0], [0]), ([1], [1]), ([2], [2]), ([2], [2]), ([3, 4, 2, 2], [2, 3, 4]), ([5, 2], [2, 5]), ([2, 6], [2, 6]), ([7, 5], [7]), ([8], [8]), ([8], [8]), ([8, 8], [8]), ([10, 11, 11, 8], [8, 10, 11]), ([9, 12, 12, 8], [8, 9, 12]), ([13, 8], [8, 13]), ([8, 14], [8, 14]), ([15, 13, 0, 1, 2, 3, 4, 5, 6, 7, 8, 9, 10, 11, 12, 13, 14, 15], [15])])
def rbB13 : List Nat := [0, 1, 3, 7, 7, 31, 63, 127, 255, 511, 511, 511, 3583, 8191, 16383, 32767, 65535]
theorem rbtab13 : rtab .any (opsOf Tryd.f6 13) = rbT13 := by kernel_rfl
theorem rbbits13 : waitsOk rbT13.2 rbB13 = true := by kernel_rfl
theorem RatioBack_on {w : World} {A0 A1 A2 A3 : Option Addr} {c0 c1 c2 c3 : Nat} {a b c d la lb lc ld : List Int} {r s : Rat} (h1 : Rt w A0 c0 a A1 c1 b) (h2 : Rt w A2 c2 c A3 c3 d) (hG : Glob w) (hr : Bd r 4) (hs : Bd s 4) (hm : Ev (fun k => zah.f k a b) (rN r, rD r, la, lb, true)) (hn : Ev (fun k => zah.f k c d) (rN s, rD s, lc, ld, true)) :
  Calls Tryd.prog 6 #[.agg #[.slice A0 a.length c0, .slice A1 b.length c1], .agg #[.slice A2 c.length c2, .slice A3 d.length c3]] w fun e w' => e = .returned (.bool true) ∧ Below w.heap.size w w' := by
 have H1 := Aside0.mk h1
 have H2 := Aside0.mk h2
 have HG := Aside0.mk hG
 have HR := Aside0.mk hr
 have HS := Aside0.mk hs
 have HM := Aside0.mk hm
 have HN := Aside0.mk hn
 obtain ⟨ka, hka⟩ := rawake.get
 have HKA := Aside0.mk hka
 clear h1 h2 hG hr hs hm hn hka
 go_enter Tryd.func6, Tryd.ntmps6
 go_wp2_with fail
 have hbW := za1 (za1 (Below.refl w.heap.size w) (.cells #[.slice A0 a.length c0, .slice A1 b.length c1] 24)) (.cells #[.slice A2 c.length c2, .slice A3 d.length c3] 24)
 have hfb := blk_new (w.alloc (.cells #[.slice A0 a.length c0, .slice A1 b.length c1] 24)) (.cells #[.slice A2 c.length c2, .slice A3 d.length c3] 24)
 rw [show (w.alloc (.cells #[.slice A0 a.length c0, .slice A1 b.length c1] 24)).heap.size = w.heap.size + 1 by simp] at hfb
 generalize (w.alloc (.cells #[.slice A0 a.length c0, .slice A1 b.length c1] 24)).alloc (.cells #[.slice A2 c.length c2, .slice A3 d.length c3] 24) = W2 at hbW hfb ⊢
 have HW2 := Aside0.mk hbW
 have HFB := Aside0.mk hfb
 have HR2 := Aside0.mk (H1.out.below hbW)
 clear hbW hfb
 refine (t_made HR2.out HM.out).mono ?_
 rintro e w3 ⟨B0, e0, B1, e1, B2, e2, B3, e3, rfl, hR3, hb3⟩
 have HR3 := Aside0.mk (hR3.below (za1 (za1 (Below.refl w3.heap.size w3) (.cells #[.slice B0 (rN r).length e0, .slice B1 (rD r).length e1] 28)) (.cells #[.slice B2 la.length e2, .slice B3 lb.length e3] 40)))
 have HW3 := Aside0.mk (za1 (za1 (zaa HW2.out hb3) (.cells #[.slice B0 (rN r).length e0, .slice B1 (rD r).length e1] 28)) (.cells #[.slice B2 la.length e2, .slice B3 lb.length e3] 40))
 have hfb := zar (zar ((hb3.block _ (zay HFB.out)).trans HFB.out) (.cells #[.slice B0 (rN r).length e0, .slice B1 (rD r).length e1] 28)) (.cells #[.slice B2 la.length e2, .slice B3 lb.length e3] 40)
 have HBR := Aside0.mk (zar (blk_new w3 (.cells #[.slice B0 (rN r).length e0, .slice B1 (rD r).length e1] 28)) (.cells #[.slice B2 la.length e2, .slice B3 lb.length e3] 40))
 have p0 : ((w3.alloc (.cells #[.slice B0 (rN r).length e0, .slice B1 (rD r).length e1] 28)).alloc (.cells #[.slice B2 la.length e2, .slice B3 lb.length e3] 40)).cell? ⟨w.heap.size + 1, 0, none⟩ = some (.slice A2 c.length c2) := (zab hfb 0).trans rfl
 have p1 : ((w3.alloc (.cells #[.slice B0 (rN r).length e0, .slice B1 (rD r).length e1] 28)).alloc (.cells #[.slice B2 la.length e2, .slice B3 lb.length e3] 40)).cell? ⟨w.heap.size + 1, 1, none⟩ = some (.slice A3 d.length c3) := (zab hfb 1).trans rfl
 clear hR3 hb3 hfb HR2
 go_wp2_with fail
 clear p0 p1
 generalize (w3.alloc (.cells #[.slice B0 (rN r).length e0, .slice B1 (rD r).length e1] 28)).alloc (.cells #[.slice B2 la.length e2, .slice B3 lb.length e3] 40) = W3 at HR3 HW3 HBR ⊢
 refine (t_made (H2.out.below HW3.out) HN.out).mono ?_
 rintro e w4 ⟨D0, g0, D1, g1, D2, g2, D3, g3, rfl, hR4, hb4⟩
 have HS4 := Aside0.mk (hR4.below (za1 (za1 (Below.refl w4.heap.size w4) (.cells #[.slice D0 (rN s).length g0, .slice D1 (rD s).length g1] 28)) (.cells #[.slice D2 lc.length g2, .slice D3 ld.length g3] 40)))
 have HR4 := Aside0.mk ((HR3.out.below hb4).below (za1 (za1 (Below.refl w4.heap.size w4) (.cells #[.slice D0 (rN s).length g0, .slice D1 (rD s).length g1] 28)) (.cells #[.slice D2 lc.length g2, .slice D3 ld.length g3] 40)))
 have HW4 := Aside0.mk (za1 (za1 (zaa HW3.out hb4) (.cells #[.slice D0 (rN s).length g0, .slice D1 (rD s).length g1] 28)) (.cells #[.slice D2 lc.length g2, .slice D3 ld.length g3] 40))
 have HBR4 := Aside0.mk (zar (zar ((hb4.block _ (zay HBR.out)).trans HBR.out) (.cells #[.slice D0 (rN s).length g0, .slice D1 (rD s).length g1] 28)) (.cells #[.slice D2 lc.length g2, .slice D3 ld.length g3] 40))
 have HBS4 := Aside0.mk (zar (blk_new w4 (.cells #[.slice D0 (rN s).length g0, .slice D1 (rD s).length g1] 28)) (.cells #[.slice D2 lc.length g2, .slice D3 ld.length g3] 40))
 clear hR4 hb4 HR3 HBR
 go_wp2_with fail
 generalize (w4.alloc (.cells #[.slice D0 (rN s).length g0, .slice D1 (rD s).length g1] 28)).alloc (.cells #[.slice D2 lc.length g2, .slice D3 ld.length g3] 40) = W4 at HS4 HR4 HW4 HBR4 HBS4 ⊢
 refine (zbt.calls ka true W4 (HG.out.below HW4.out) HKA.out).mono ?_
 rintro e w5 ⟨rfl, hb5⟩
 have HR5 := Aside0.mk (HR4.out.below hb5)
 have HS5 := Aside0.mk (HS4.out.below hb5)
 have HW5 := Aside0.mk (zaa HW4.out hb5)
 have HBR5 := Aside0.mk ((hb5.block _ (zay HBR4.out)).trans HBR4.out)
 have HBS5 := Aside0.mk ((hb5.block _ (zay HBS4.out)).trans HBS4.out)
 clear hb5 HR4 HS4 HW4 HBR4 HBS4
 generalize w3.heap.size = xr at HBR5 ⊢
 generalize w4.heap.size = xs at HBS5 ⊢
 go_wp2_with fail
 have e1' : r + s - s = r := Rat.add_sub_cancel
 have hle : s ≤ r + s := by
  have := HR.out.1
  grind
 have HSUB : Aside0 (∀ (W : World) (A A' C C' : Option Addr) (q q' t t' : Nat), Rt W A q (rN (r + s)) A' q' (rD (r + s)) → Rt W C t (rN s) C' t' (rD s) → Calls Tryd.prog 33 #[.agg #[.slice A (rN (r + s)).length q, .slice A' (rD (r + s)).length q'], .agg #[.slice C (rN s).length t, .slice C' (rD s).length t']] W fun e w' => ∃ A c A' c', e = .returned (.tuple #[.agg #[.slice A (rN r).length c, .slice A' (rD r).length c'], .int .i64 0]) ∧ RV w' (fun k => W.heap.size ≤ k) A c (rN r) A' c' (rD r) ∧ Below W.heap.size W w') := ⟨fun W A A' C C' q q' t t' h1 h2 => by
  have := t_Sub h1 h2 (HR.out.add HS.out) HS.out (by omega) hle
  rw [e1'] at this
  exact this⟩
 have HSK : Aside0 (∀ W, Below w5.heap.size w5 W → W.cell? ⟨xr, 0, none⟩ = some (.slice B0 (rN r).length e0) ∧ W.cell? ⟨xr, 1, none⟩ = some (.slice B1 (rD r).length e1) ∧ W.cell? ⟨xs, 0, none⟩ = some (.slice D0 (rN s).length g0) ∧ W.cell? ⟨xs, 1, none⟩ = some (.slice D1 (rD s).length g1)) := ⟨fun W h => by
  have h1 := (h.block _ (zay HBR5.out)).trans HBR5.out
  have h2 := (h.block _ (zay HBS5.out)).trans HBS5.out
  exact ⟨(zab h1 0).trans rfl, (zab h1 1).trans rfl, (zab h2 0).trans rfl, (zab h2 1).trans rfl⟩⟩
 have HBw50 : Aside0 (Below w5.heap.size w5 w5.drew) := ⟨(Below.refl w5.heap.size w5).drew⟩
 clear e1' hle
 refine start_ (n := 11) (S := fun W => W.cell? ⟨xr, 0, none⟩ = some (.slice B0 (rN r).length e0) ∧ W.cell? ⟨xr, 1, none⟩ = some (.slice B1 (rD r).length e1) ∧ W.cell? ⟨xs, 0, none⟩ = some (.slice D0 (rN s).length g0) ∧ W.cell? ⟨xs, 1, none⟩ = some (.slice D1 (rD s).length g1)) (ds := []) #[false, false, false, false, false, false, false, false, false, false, false] (by kernel_rfl) rfl rfl (HSK.out _ HBw50.out) (fun hHeld => ?_); refine zcq rbtab5 rbbits5 (fun HT_ HW_ => ?_)
 refine take_ (i := 0) (N := some 40) (v := ?_) (a' := ?_) #[true, false, false, false, false, false, false, false, false, false, false] rfl rfl (zbm HT_.out HW_.out (by kernel_rfl)) (fun _ _ _ h => h) (Or.inl ⟨by rfl, ?_⟩) hHeld ?_ ?_
 rotate_left
 ·
  rintro w' ⟨s0, s1, s2, s3⟩
  go_simp
  with_reducible rfl
 rotate_left
 ·
  simp only [Act.put, List.setIfInBounds_toArray, List.set_cons_zero, List.set_cons_succ, i64_w, i32_w]
  rfl
 refine take_ (i := 1) (N := some 41) (v := ?_) (a' := ?_) #[true, true, false, false, false, false, false, false, false, false, false] rfl rfl (zbm HT_.out HW_.out (by kernel_rfl)) (fun _ _ _ h => h) (Or.inl ⟨by rfl, ?_⟩) hHeld ?_ ?_
 rotate_left
 ·
  rintro w' ⟨s0, s1, s2, s3⟩
  go_simp
  with_reducible rfl
 rotate_left
 ·
  simp only [Act.put, List.setIfInBounds_toArray, List.set_cons_zero, List.set_cons_succ, i64_w, i32_w]
  rfl
 refine take_ (i := 3) (N := some 43) (v := ?_) (a' := ?_) #[true, true, false, true, false, false, false, false, false, false, false] rfl rfl (zbm HT_.out HW_.out (by kernel_rfl)) (fun _ _ _ h => h) (Or.inl ⟨by rfl, ?_⟩) hHeld ?_ ?_
 rotate_left
 ·
  rintro w' ⟨s0, s1, s2, s3⟩
  go_simp
  with_reducible rfl
 rotate_left
 ·
  simp only [Act.put, List.setIfInBounds_toArray, List.set_cons_zero, List.set_cons_succ, i64_w, i32_w]
  rfl
 refine join_ (σ := Value × Value × Nat) 2 #[true, true, true, true, true, true, true, true, true, false, false] (fun s_ => [(42, s_.1), (44, .tuple #[s_.2.1, .int .i64 0]), (39, .tuple #[s_.2.1, .int .i64 0]), (45, s_.2.1), (46, .int .i64 0), (11, .pointer (some ⟨s_.2.2, 0, none⟩))]) (fun s_ w' => (w'.cell? ⟨xr, 0, none⟩ = some (.slice B0 (rN r).length e0) ∧ w'.cell? ⟨xr, 1, none⟩ = some (.slice B1 (rD r).length e1) ∧ w'.cell? ⟨xs, 0, none⟩ = some (.slice D0 (rN s).length g0) ∧ w'.cell? ⟨xs, 1, none⟩ = some (.slice D1 (rD s).length g1)) ∧ (∃ A c A' c', s_.2.1 = .agg #[.slice A (rN r).length c, .slice A' (rD r).length c'] ∧ RV w' (fun k => k ≠ s_.2.2) A c (rN r) A' c' (rD r)) ∧ w'.heap[s_.2.2]? = some (.cells #[.slice none 0 0, .slice none 0 0] 28 (0, 0)) ∧ w5.heap.size ≤ s_.2.2 ∧ Below w5.heap.size w5 w') ?_ ?_
 rotate_left
 ·
  intro hJ
  refine two_ (i := 2) (j := 8) (Ni := some 42) (Nj := some 11) #[true, true, true, true, false, false, false, false, false, false, false] #[true, true, false, true, false, false, false, false, true, false, false] rfl rfl rfl rfl (two_of HT_.out (by kernel_rfl)) (by decide) (by decide) (fun K hK => ?_) (fun K hK => ?_)
  ·
   skip
   refine goes_ Tryd.func34 (by kernel_rfl) rfl #[.agg #[.slice B0 (rN r).length e0, .slice B1 (rD r).length e1], .agg #[.slice D0 (rN s).length g0, .slice D1 (rD s).length g1]] (by rfl) rfl rfl (by (try simp only [List.map_toArray, List.map_cons, List.map_nil]); first | done | rfl) ?_
   refine (t_Add (HR5.out.below HBw50.out) (HS5.out.below HBw50.out) HR.out HS.out (by omega)).mono ?_
   rintro e u1 ⟨E0, i0, E1, i1, rfl, hx, hb⟩
   refine ⟨_, rfl, ?_⟩
   have HXu1 := Aside0.mk hx.rt
   have HBu1 : Aside0 (Below w5.heap.size w5 u1) := ⟨zaa HBw50.out hb⟩
   have hzu1 := hb.size
   clear hx hb
   refine hK.out _ _ (HSK.out _ HBu1.out) (fun hHeld => ?_)
   clear hK K
   refine norm_ (a' := ?_) ?_ ?_
   rotate_left
   ·
    show Act.put _ (some 42) _ = _
    simp only [Act.put, List.setIfInBounds_toArray, List.set_cons_zero, List.set_cons_succ, i64_w, i32_w]
    rfl
   refine two_ (i := 4) (j := 8) (Ni := some 44) (Nj := some 11) #[true, true, true, true, true, false, false, false, false, false, false] #[true, true, true, true, false, false, false, false, true, false, false] rfl rfl rfl rfl (two_of HT_.out (by kernel_rfl)) (by decide) (by decide) (fun K hK => ?_) (fun K hK => ?_)
   ·
    skip
    refine goes_ Tryd.func33 (by kernel_rfl) rfl #[.agg #[.slice E0 _ i0, .slice E1 _ i1], .agg #[.slice D0 (rN s).length g0, .slice D1 (rD s).length g1]] (by rfl) rfl rfl (by (try simp only [List.map_toArray, List.map_cons, List.map_nil]); first | done | rfl) ?_
    refine (HSUB.out _ _ _ _ _ _ _ _ _ HXu1.out (HS5.out.below HBu1.out)).mono ?_
    rintro e u2 ⟨E2, i2, E3, i3, rfl, hy, hb⟩
    refine ⟨_, rfl, ?_⟩
    have HYu2 := Aside0.mk hy
    have HBu2 : Aside0 (Below w5.heap.size w5 u2) := ⟨zaa HBu1.out hb⟩
    have hzu2 := hb.size
    clear hy hb
    refine hK.out _ _ (HSK.out _ HBu2.out) (fun hHeld => ?_)
    clear hK K
    refine norm_ (a' := ?_) ?_ ?_
    rotate_left
    ·
     show Act.put _ (some 44) _ = _
     simp only [Act.put, List.setIfInBounds_toArray, List.set_cons_zero, List.set_cons_succ, i64_w, i32_w]
     rfl
    refine pure_ (i := 5) (N := some 39) (v := ?_) (a' := ?_) #[true, true, true, true, true, true, false, false, false, false, false] rfl rfl (za0 HT_.out (by kernel_rfl)) (fun _ _ _ h => h) (Or.inl ⟨by rfl, ?_⟩) ?_ ?_
    rotate_left
    ·
     intro w'
     go_simp
     with_reducible rfl
    rotate_left
    ·
     simp only [Act.put, List.setIfInBounds_toArray, List.set_cons_zero, List.set_cons_succ, i64_w, i32_w]
     rfl
    refine pure_ (i := 6) (N := some 45) (v := ?_) (a' := ?_) #[true, true, true, true, true, true, true, false, false, false, false] rfl rfl (za0 HT_.out (by kernel_rfl)) (fun _ _ _ h => h) (Or.inl ⟨by rfl, ?_⟩) ?_ ?_
    rotate_left
    ·
     intro w'
     go_simp
     with_reducible rfl
    rotate_left
    ·
     simp only [Act.put, List.setIfInBounds_toArray, List.set_cons_zero, List.set_cons_succ, i64_w, i32_w]
     rfl
    refine pure_ (i := 7) (N := some 46) (v := ?_) (a' := ?_) #[true, true, true, true, true, true, true, true, false, false, false] rfl rfl (za0 HT_.out (by kernel_rfl)) (fun _ _ _ h => h) (Or.inl ⟨by rfl, ?_⟩) ?_ ?_
    rotate_left
    ·
     intro w'
     go_simp
     with_reducible rfl
    rotate_left
    ·
     simp only [Act.put, List.setIfInBounds_toArray, List.set_cons_zero, List.set_cons_succ, i64_w, i32_w]
     rfl
    refine one_ (i := 8) (N := some 11) #[true, true, true, true, true, true, true, true, true, false, false] rfl rfl (zb4 HT_.out (by kernel_rfl)) (by decide) (fun K hK => ?_)
    refine zc0 ?hg (N := 11) ?hd (cs := #[.slice none 0 0, .slice none 0 0]) (t := 28) ?hr ?_; (case hd => rfl); (case hg => rfl); (case hr => first | (go_simp; done) | (go_simp; rfl))
    intro gb hgb u3 hbox hb
    have HBu3 : Aside0 (Below w5.heap.size w5 u3) := ⟨zaa HBu2.out hb⟩
    have HBXu3 := Aside0.mk hbox
    have hgl := zay hbox
    have hge : w5.heap.size ≤ gb := by rw [hgb]; exact (HBu2.out).size
    have hzu3 := hb.size
    have HYu3 := Aside0.mk ((HYu2.out.old hb).mono (Q := fun k => k ≠ gb) (fun k hk => by have := hk.2; omega))
    clear hbox hb
    refine hK.out _ _ (HSK.out _ HBu3.out) (fun hHeld => ?_)
    clear hK K
    refine norm_ (a' := ?_) ?_ ?_
    rotate_left
    ·
     show Act.put _ (some 11) _ = _
     simp only [Act.put, List.setIfInBounds_toArray, List.set_cons_zero, List.set_cons_succ, i64_w, i32_w]
     rfl
    exact norm_ (by first | (simp only [putAll, Act.put, List.setIfInBounds_toArray, List.set_cons_zero, List.set_cons_succ]; done) | (simp only [putAll, Act.put, List.setIfInBounds_toArray, List.set_cons_zero, List.set_cons_succ]; rfl)) (hJ (_, _, gb) u3 ⟨hHeld, ⟨E2, i2, E3, i3, rfl, HYu3.out⟩, HBXu3.out, hge, HBu3.out⟩)
   ·
    skip
    refine zc0 ?hg (N := 11) ?hd (cs := #[.slice none 0 0, .slice none 0 0]) (t := 28) ?hr ?_; (case hd => rfl); (case hg => rfl); (case hr => first | (go_simp; done) | (go_simp; rfl))
    intro gb hgb u2 hbox hb
    have HBu2 : Aside0 (Below w5.heap.size w5 u2) := ⟨zaa HBu1.out hb⟩
    have HBXu2 := Aside0.mk hbox
    have hgl := zay hbox
    have hge : w5.heap.size ≤ gb := by rw [hgb]; exact (HBu1.out).size
    have hzu2 := hb.size
    have HXu2 := Aside0.mk (HXu1.out.below hb)
    clear hbox hb
    refine hK.out _ _ (HSK.out _ HBu2.out) (fun hHeld => ?_)
    clear hK K
    refine norm_ (a' := ?_) ?_ ?_
    rotate_left
    ·
     show Act.put _ (some 11) _ = _
     simp only [Act.put, List.setIfInBounds_toArray, List.set_cons_zero, List.set_cons_succ, i64_w, i32_w]
     rfl
    refine one_ (i := 4) (N := some 44) #[true, true, true, true, true, false, false, false, true, false, false] rfl rfl (zb4 HT_.out (by kernel_rfl)) (by decide) (fun K hK => ?_)
    refine goes_ Tryd.func33 (by kernel_rfl) rfl #[.agg #[.slice E0 _ i0, .slice E1 _ i1], .agg #[.slice D0 (rN s).length g0, .slice D1 (rD s).length g1]] (by rfl) rfl rfl (by (try simp only [List.map_toArray, List.map_cons, List.map_nil]); first | done | rfl) ?_
    refine (HSUB.out _ _ _ _ _ _ _ _ _ HXu2.out (HS5.out.below HBu2.out)).mono ?_
    rintro e u3 ⟨E2, i2, E3, i3, rfl, hy, hb⟩
    refine ⟨_, rfl, ?_⟩
    have HYu3 := Aside0.mk hy
    have HBu3 : Aside0 (Below w5.heap.size w5 u3) := ⟨zaa HBu2.out hb⟩
    have hzu3 := hb.size
    have HBXu3 := Aside0.mk ((hb.block _ (zay HBXu2.out)).trans HBXu2.out)
    clear hy hb
    refine hK.out _ _ (HSK.out _ HBu3.out) (fun hHeld => ?_)
    clear hK K
    refine norm_ (a' := ?_) ?_ ?_
    rotate_left
    ·
     show Act.put _ (some 44) _ = _
     simp only [Act.put, List.setIfInBounds_toArray, List.set_cons_zero, List.set_cons_succ, i64_w, i32_w]
     rfl
    refine pure_ (i := 5) (N := some 39) (v := ?_) (a' := ?_) #[true, true, true, true, true, true, false, false, true, false, false] rfl rfl (za0 HT_.out (by kernel_rfl)) (fun _ _ _ h => h) (Or.inl ⟨by rfl, ?_⟩) ?_ ?_
    rotate_left
    ·
     intro w'
     go_simp
     with_reducible rfl
    rotate_left
    ·
     simp only [Act.put, List.setIfInBounds_toArray, List.set_cons_zero, List.set_cons_succ, i64_w, i32_w]
     rfl
    refine pure_ (i := 6) (N := some 45) (v := ?_) (a' := ?_) #[true, true, true, true, true, true, true, false, true, false, false] rfl rfl (za0 HT_.out (by kernel_rfl)) (fun _ _ _ h => h) (Or.inl ⟨by rfl, ?_⟩) ?_ ?_
    rotate_left
    ·
     intro w'
     go_simp
     with_reducible rfl
    rotate_left
    ·
     simp only [Act.put, List.setIfInBounds_toArray, List.set_cons_zero, List.set_cons_succ, i64_w, i32_w]
     rfl
    refine pure_ (i := 7) (N := some 46) (v := ?_) (a' := ?_) #[true, true, true, true, true, true, true, true, true, false, false] rfl rfl (za0 HT_.out (by kernel_rfl)) (fun _ _ _ h => h) (Or.inl ⟨by rfl, ?_⟩) ?_ ?_
    rotate_left
    ·
     intro w'
     go_simp
     with_reducible rfl
    rotate_left
    ·
     simp only [Act.put, List.setIfInBounds_toArray, List.set_cons_zero, List.set_cons_succ, i64_w, i32_w]
     rfl
    exact norm_ (by first | (simp only [putAll, Act.put, List.setIfInBounds_toArray, List.set_cons_zero, List.set_cons_succ]; done) | (simp only [putAll, Act.put, List.setIfInBounds_toArray, List.set_cons_zero, List.set_cons_succ]; rfl)) (hJ (_, _, gb) u3 ⟨hHeld, ⟨E2, i2, E3, i3, rfl, (HYu3.out.mono (fun k hk => by have h : u2.heap.size ≤ k := hk; show k ≠ gb; omega))⟩, HBXu3.out, hge, HBu3.out⟩)
  ·
   skip
   refine zc0 ?hg (N := 11) ?hd (cs := #[.slice none 0 0, .slice none 0 0]) (t := 28) ?hr ?_; (case hd => rfl); (case hg => rfl); (case hr => first | (go_simp; done) | (go_simp; rfl))
   intro gb hgb u1 hbox hb
   have HBu1 : Aside0 (Below w5.heap.size w5 u1) := ⟨zaa HBw50.out hb⟩
   have HBXu1 := Aside0.mk hbox
   have hgl := zay hbox
   have hge : w5.heap.size ≤ gb := by rw [hgb]; exact (HBw50.out).size
   have hzu1 := hb.size
   clear hbox hb
   refine hK.out _ _ (HSK.out _ HBu1.out) (fun hHeld => ?_)
   clear hK K
   refine norm_ (a' := ?_) ?_ ?_
   rotate_left
   ·
    show Act.put _ (some 11) _ = _
    simp only [Act.put, List.setIfInBounds_toArray, List.set_cons_zero, List.set_cons_succ, i64_w, i32_w]
    rfl
   refine one_ (i := 2) (N := some 42) #[true, true, true, true, false, false, false, false, true, false, false] rfl rfl (zb4 HT_.out (by kernel_rfl)) (by decide) (fun K hK => ?_)
   refine goes_ Tryd.func34 (by kernel_rfl) rfl #[.agg #[.slice B0 (rN r).length e0, .slice B1 (rD r).length e1], .agg #[.slice D0 (rN s).length g0, .slice D1 (rD s).length g1]] (by rfl) rfl rfl (by (try simp only [List.map_toArray, List.map_cons, List.map_nil]); first | done | rfl) ?_
   refine (t_Add (HR5.out.below HBu1.out) (HS5.out.below HBu1.out) HR.out HS.out (by omega)).mono ?_
   rintro e u2 ⟨E0, i0, E1, i1, rfl, hx, hb⟩
   refine ⟨_, rfl, ?_⟩
   have HXu2 := Aside0.mk hx.rt
   have HBu2 : Aside0 (Below w5.heap.size w5 u2) := ⟨zaa HBu1.out hb⟩
   have hzu2 := hb.size
   have HBXu2 := Aside0.mk ((hb.block _ (zay HBXu1.out)).trans HBXu1.out)
   clear hx hb
   refine hK.out _ _ (HSK.out _ HBu2.out) (fun hHeld => ?_)
   clear hK K
   refine norm_ (a' := ?_) ?_ ?_
   rotate_left
   ·
    show Act.put _ (some 42) _ = _
    simp only [Act.put, List.setIfInBounds_toArray, List.set_cons_zero, List.set_cons_succ, i64_w, i32_w]
    rfl
   refine one_ (i := 4) (N := some 44) #[true, true, true, true, true, false, false, false, true, false, false] rfl rfl (zb4 HT_.out (by kernel_rfl)) (by decide) (fun K hK => ?_)
   refine goes_ Tryd.func33 (by kernel_rfl) rfl #[.agg #[.slice E0 _ i0, .slice E1 _ i1], .agg #[.slice D0 (rN s).length g0, .slice D1 (rD s).length g1]] (by rfl) rfl rfl (by (try simp only [List.map_toArray, List.map_cons, List.map_nil]); first | done | rfl) ?_
   refine (HSUB.out _ _ _ _ _ _ _ _ _ HXu2.out (HS5.out.below HBu2.out)).mono ?_
   rintro e u3 ⟨E2, i2, E3, i3, rfl, hy, hb⟩
   refine ⟨_, rfl, ?_⟩
   have HYu3 := Aside0.mk hy
   have HBu3 : Aside0 (Below w5.heap.size w5 u3) := ⟨zaa HBu2.out hb⟩
   have hzu3 := hb.size
   have HBXu3 := Aside0.mk ((hb.block _ (zay HBXu2.out)).trans HBXu2.out)
   clear hy hb
   refine hK.out _ _ (HSK.out _ HBu3.out) (fun hHeld => ?_)
   clear hK K
   refine norm_ (a' := ?_) ?_ ?_
   rotate_left
   ·
    show Act.put _ (some 44) _ = _
    simp only [Act.put, List.setIfInBounds_toArray, List.set_cons_zero, List.set_cons_succ, i64_w, i32_w]
    rfl
   refine pure_ (i := 5) (N := some 39) (v := ?_) (a' := ?_) #[true, true, true, true, true, true, false, false, true, false, false] rfl rfl (za0 HT_.out (by kernel_rfl)) (fun _ _ _ h => h) (Or.inl ⟨by rfl, ?_⟩) ?_ ?_
   rotate_left
   ·
    intro w'
    go_simp
    with_reducible rfl
   rotate_left
   ·
    simp only [Act.put, List.setIfInBounds_toArray, List.set_cons_zero, List.set_cons_succ, i64_w, i32_w]
    rfl
   refine pure_ (i := 6) (N := some 45) (v := ?_) (a' := ?_) #[true, true, true, true, true, true, true, false, true, false, false] rfl rfl (za0 HT_.out (by kernel_rfl)) (fun _ _ _ h => h) (Or.inl ⟨by rfl, ?_⟩) ?_ ?_
   rotate_left
   ·
    intro w'
    go_simp
    with_reducible rfl
   rotate_left
   ·
    simp only [Act.put, List.setIfInBounds_toArray, List.set_cons_zero, List.set_cons_succ, i64_w, i32_w]
    rfl
   refine pure_ (i := 7) (N := some 46) (v := ?_) (a' := ?_) #[true, true, true, true, true, true, true, true, true, false, false] rfl rfl (za0 HT_.out (by kernel_rfl)) (fun _ _ _ h => h) (Or.inl ⟨by rfl, ?_⟩) ?_ ?_
   rotate_left
   ·
    intro w'
    go_simp
    with_reducible rfl
   rotate_left
   ·
    simp only [Act.put, List.setIfInBounds_toArray, List.set_cons_zero, List.set_cons_succ, i64_w, i32_w]
    rfl
   exact norm_ (by first | (simp only [putAll, Act.put, List.setIfInBounds_toArray, List.set_cons_zero, List.set_cons_succ]; done) | (simp only [putAll, Act.put, List.setIfInBounds_toArray, List.set_cons_zero, List.set_cons_succ]; rfl)) (hJ (_, _, gb) u3 ⟨hHeld, ⟨E2, i2, E3, i3, rfl, (HYu3.out.mono (fun k hk => by have h : u2.heap.size ≤ k := hk; show k ≠ gb; omega))⟩, HBXu3.out, hge, HBu3.out⟩)
 ·
  skip
  rintro ⟨v42_, y_, gd⟩ w8 ⟨hHeld, ⟨k0, k1, k2, k3, hy, hRV⟩, hbox, hge, hb8⟩
  dsimp only at hy hbox hge hRV
  subst hy
  have q0 : w8.cell? ⟨gd, 0, none⟩ = some (.slice none 0 0) := (zab hbox 0).trans rfl
  have q1 : w8.cell? ⟨gd, 1, none⟩ = some (.slice none 0 0) := (zab hbox 1).trans rfl
  have q2 := zal hbox 0
  have q3 := zal hbox 1
  have HBF := Aside0.mk ((hb8.setCell (p := ⟨gd, 0, none⟩) hge (.slice k0 (rN r).length k1)).setCell (p := ⟨gd, 1, none⟩) hge (.slice k2 (rD r).length k3))
  have HRF := Aside0.mk (((hRV.far (p := ⟨gd, 0, none⟩) (fun k hk => hk) (.slice k0 (rN r).length k1)).far (p := ⟨gd, 1, none⟩) (fun k hk => hk) (.slice k2 (rD r).length k3)).rt)
  have HXF := Aside0.mk (zb1 (zb1 hbox 0 (.slice k0 (rN r).length k1) rfl) 1 (.slice k2 (rD r).length k3) rfl)
  clear hRV hbox hb8
  refine norm_ (a' := ?_) ?_ ?_
  rotate_left
  ·
   simp only [putAll, Act.put, List.setIfInBounds_toArray, List.set_cons_zero, List.set_cons_succ]
   rfl
  refine one_ (i := 9) (N := none) #[true, true, true, true, true, true, true, true, true, true, false] rfl rfl (zb4 HT_.out (by kernel_rfl)) (by decide) (fun K hK => ?_)
  refine skip_ (w1 := ?_) (by rfl) rfl ?_ ?_
  rotate_left
  ·
   go_simp
   rfl
  refine hK.out _ _ (HSK.out _ HBF.out) (fun hHeld => ?_)
  clear hK K q0 q1 q2 q3
  generalize (w8.setCell ⟨gd, 0, none⟩ (.slice k0 (rN r).length k1)).setCell ⟨gd, 1, none⟩ (.slice k2 (rD r).length k3) = w9 at HBF HRF HXF hHeld ⊢
  have HBw9 := HBF
  have HRw9 := HRF
  have HXw9 := HXF
  clear HBF HRF HXF
  refine pure_ (i := 10) (N := some 12) (v := ?_) (a' := ?_) #[true, true, true, true, true, true, true, true, true, true, true] rfl rfl (za0 HT_.out (by kernel_rfl)) (fun _ _ _ h => h) (Or.inl ⟨by rfl, ?_⟩) ?_ ?_
  rotate_left
  ·
   intro w'
   go_simp
   with_reducible rfl
  rotate_left
  ·
   simp only [Act.put, List.setIfInBounds_toArray, List.set_cons_zero, List.set_cons_succ, i64_w, i32_w]
   rfl
  refine done_ (done_of HT_.out (by kernel_rfl)) ?_
  have hsk9 := HSK.out _ HBw9.out
  obtain ⟨s0, s1, _, _⟩ := hsk9
  have x0 : w9.cell? ⟨gd, 0, none⟩ = some (.slice k0 (rN r).length k1) := (zab HXw9.out 0).trans rfl
  have x1 : w9.cell? ⟨gd, 1, none⟩ = some (.slice k2 (rD r).length k3) := (zab HXw9.out 1).trans rfl
  have hcm := t_Cmp HRw9.out (HR5.out.below HBw9.out) HR.out HR.out (by omega)
  rw [cmp_self] at hcm
  have HCM := Aside0.mk hcm
  clear hcm hHeld HT_ HW_
  go_wp2_with fail
  refine HCM.out.mono ?_
  rintro e w10 ⟨rfl, hb10⟩
  have HB10 := Aside0.mk (zaa HBw9.out hb10)
  clear hb10 HCM s0 s1 x0 x1
  obtain ⟨s0, s1, s2, s3⟩ := HSK.out _ HB10.out
  by_cases h0 : s = 0
  ·
   have hln : (rN s).length = 0 := by
    rw [h0]
    unfold rN
    rw [show dig 18446744073709551616 (0 : Rat).num.toNat = [] from zch _]
    rfl
   have dl : decide (((rN s).length : Int) > 0) = false := decide_eq_false (by omega)
   have dl' : decide (0 < (rN s).length) = false := decide_eq_false (by omega)
   have HLN := Aside0.mk hln
   have H0 := Aside0.mk h0
   clear hln h0
   go_wp2_with fail
   clear s0 s1 s2 s3
   obtain ⟨s0, s1, _, _⟩ := HSK.out _ HB10.out
   go_wp2_with fail
   refine (t_Floor (HR5.out.below HB10.out) HR.out (by omega)).mono ?_
   rintro e z1 ⟨G0, n0, rfl, hl0, hC0, hb1⟩
   have HZ1 := Aside0.mk (zaa HB10.out hb1)
   have Hl0 := Aside0.mk hl0
   have HC0 := Aside0.mk hC0
   clear hl0 hC0 hb1 s0 s1
   go_wp2_with fail
   refine (t_one _).mono ?_
   rintro e z2 ⟨G1, n1, rfl, hl1, hC1, hb2⟩
   have HZ2 := Aside0.mk (zaa HZ1.out hb2)
   have Hl1 := Aside0.mk hl1
   have HC1 := Aside0.mk hC1
   have HC0' := Aside0.mk (Kd.za3 HC0.out hb2)
   clear hl1 hC1 hb2 HC0
   go_wp2_with fail
   have hlow := t_Low HR.out Hl0.out HC0'.out Hl1.out HC1.out
   obtain ⟨hf1, hf2⟩ := floor_cmp HR.out.1
   have hbl : Bd ((r.num.toNat / r.den : Nat) : Rat) 4 := Bd.nat (divLt HR.out.2.1) (by omega)
   have hb1 : Bd ((1 : Nat) : Rat) 1 := Bd.nat (by rw [Nat.pow_one]; omega) (by omega)
   generalize ((r.num.toNat / r.den : Nat) : Rat) = low at hlow hf1 hf2 hbl
   have HBL := Aside0.mk hbl
   have HB1 := Aside0.mk hb1
   have HLO := Aside0.mk hlow
   clear hlow hbl hb1
   refine HLO.out.mono ?_
   rintro e z3 ⟨F0, j0, F1, j1, rfl, hf, hb3⟩
   have HZ3 := Aside0.mk (za1 (zaa HZ2.out hb3) (.cells #[.slice F0 (rN low).length j0, .slice F1 (rD low).length j1] 28))
   have HLW := Aside0.mk (hf.rt.below (za1 (Below.refl z3.heap.size z3) (.cells #[.slice F0 (rN low).length j0, .slice F1 (rD low).length j1] 28)))
   have HLX := Aside0.mk (blk_new z3 (.cells #[.slice F0 (rN low).length j0, .slice F1 (rD low).length j1] 28))
   clear hf hb3 HLO
   go_wp2_with fail
   generalize z3.alloc (.cells #[.slice F0 (rN low).length j0, .slice F1 (rD low).length j1] 28) = wy at HZ3 HLW HLX ⊢
   generalize z3.heap.size = xl at HLX ⊢
   obtain ⟨cc1, hcc1⟩ : ∃ z, cmpR low r = z := ⟨_, rfl⟩
   obtain ⟨cc2, hcc2⟩ : ∃ z, cmpR r (low + ((1 : Nat) : Rat)) = z := ⟨_, rfl⟩
   rw [hcc1] at hf1
   rw [hcc2] at hf2
   have HBRy := Aside0.mk ((HZ3.out.block _ (zay HBR5.out)).trans HBR5.out)
   have HRy := Aside0.mk (HR5.out.below HZ3.out)
   have HC1 : Aside0 (∀ W, Below wy.heap.size wy W → Calls Tryd.prog 35 #[.agg #[.slice F0 (rN low).length j0, .slice F1 (rD low).length j1], .agg #[.slice B0 (rN r).length e0, .slice B1 (rD r).length e1]] W fun e w' => e = .returned (.int .i64 cc1) ∧ Below W.heap.size W w') := ⟨fun W h => by
    have := t_Cmp (HLW.out.below h) (HRy.out.below h) HBL.out HR.out (by omega)
    rw [hcc1] at this
    exact this⟩
   have HC2 : Aside0 (∀ (W : World) (J0 J1 : Option Addr) (q0 q1 : Nat), Below wy.heap.size wy W → Rt W J0 q0 (rN (low + ((1 : Nat) : Rat))) J1 q1 (rD (low + ((1 : Nat) : Rat))) → Calls Tryd.prog 35 #[.agg #[.slice B0 (rN r).length e0, .slice B1 (rD r).length e1], .agg #[.slice J0 (rN (low + ((1 : Nat) : Rat))).length q0, .slice J1 (rD (low + ((1 : Nat) : Rat))).length q1]] W fun e w' => e = .returned (.int .i64 cc2) ∧ Below W.heap.size W w') := ⟨fun W J0 J1 q0 q1 h hj => by
    have := t_Cmp (HRy.out.below h) hj HR.out (HBL.out.add HB1.out) (by omega)
    rw [hcc2] at this
    exact this⟩
   have HSL : Aside0 (∀ W, Below wy.heap.size wy W → W.cell? ⟨xr, 0, none⟩ = some (.slice B0 (rN r).length e0) ∧ W.cell? ⟨xr, 1, none⟩ = some (.slice B1 (rD r).length e1) ∧ W.cell? ⟨xl, 0, none⟩ = some (.slice F0 (rN low).length j0) ∧ W.cell? ⟨xl, 1, none⟩ = some (.slice F1 (rD low).length j1)) := ⟨fun W h => by
    have h1 := (h.block _ (zay HBRy.out)).trans HBRy.out
    have h2 := (h.block _ (zay HLX.out)).trans HLX.out
    exact ⟨(zab h1 0).trans rfl, (zab h1 1).trans rfl, (zab h2 0).trans rfl, (zab h2 1).trans rfl⟩⟩
   have HBy0 : Aside0 (Below wy.heap.size wy wy.drew) := ⟨(Below.refl wy.heap.size wy).drew⟩
   have dc1 : decide (cc1 ≤ 0) = true := decide_eq_true hf1
   have dc2 : decide (cc2 < 0) = true := decide_eq_true hf2
   clear hcc1 hcc2 hf1 hf2
   refine start_ (n := 17) (S := fun W => W.cell? ⟨xr, 0, none⟩ = some (.slice B0 (rN r).length e0) ∧ W.cell? ⟨xr, 1, none⟩ = some (.slice B1 (rD r).length e1) ∧ W.cell? ⟨xl, 0, none⟩ = some (.slice F0 (rN low).length j0) ∧ W.cell? ⟨xl, 1, none⟩ = some (.slice F1 (rD low).length j1)) (ds := []) #[false, false, false, false, false, false, false, false, false, false, false, false, false, false, false, false, false] (by kernel_rfl) rfl rfl (HSL.out _ HBy0.out) (fun hHeld => ?_); refine zcq rbtab13 rbbits13 (fun HT_ HW_ => ?_)
   refine pure_ (i := 0) (N := some 82) (v := ?_) (a' := ?_) #[true, false, false, false, false, false, false, false, false, false, false, false, false, false, false, false, false] rfl rfl (za0 HT_.out (by kernel_rfl)) (fun _ _ _ h => h) (Or.inl ⟨by rfl, ?_⟩) ?_ ?_
   rotate_left
   ·
    intro w'
    go_simp
    with_reducible rfl
   rotate_left
   ·
    simp only [Act.put, List.setIfInBounds_toArray, List.set_cons_zero, List.set_cons_succ, i64_w, i32_w]
    rfl
   refine pure_ (i := 1) (N := some 83) (v := ?_) (a' := ?_) #[true, true, false, false, false, false, false, false, false, false, false, false, false, false, false, false, false] rfl rfl (za0 HT_.out (by kernel_rfl)) (fun _ _ _ h => h) (Or.inl ⟨by rfl, ?_⟩) ?_ ?_
   rotate_left
   ·
    intro w'
    go_simp
    with_reducible rfl
   rotate_left
   ·
    simp only [Act.put, List.setIfInBounds_toArray, List.set_cons_zero, List.set_cons_succ, i64_w, i32_w]
    rfl
   refine pure_ (i := 2) (N := some 84) (v := ?_) (a' := ?_) #[true, true, true, false, false, false, false, false, false, false, false, false, false, false, false, false, false] rfl rfl (za0 HT_.out (by kernel_rfl)) (fun _ _ _ h => h) (Or.inl ⟨by rfl, ?_⟩) ?_ ?_
   rotate_left
   ·
    intro w'
    go_simp
    with_reducible rfl
   rotate_left
   ·
    simp only [Act.put, List.setIfInBounds_toArray, List.set_cons_zero, List.set_cons_succ, i64_w, i32_w]
    rfl
   refine take_ (i := 3) (N := some 85) (v := ?_) (a' := ?_) #[true, true, true, true, false, false, false, false, false, false, false, false, false, false, false, false, false] rfl rfl (zbm HT_.out HW_.out (by kernel_rfl)) (fun _ _ _ h => h) (Or.inl ⟨by rfl, ?_⟩) hHeld ?_ ?_
   rotate_left
   ·
    rintro w' ⟨s0, s1, s2, s3⟩
    go_simp
    with_reducible rfl
   rotate_left
   ·
    simp only [Act.put, List.setIfInBounds_toArray, List.set_cons_zero, List.set_cons_succ, i64_w, i32_w]
    rfl
   refine take_ (i := 4) (N := some 86) (v := ?_) (a' := ?_) #[true, true, true, true, true, false, false, false, false, false, false, false, false, false, false, false, false] rfl rfl (zbm HT_.out HW_.out (by kernel_rfl)) (fun _ _ _ h => h) (Or.inl ⟨by rfl, ?_⟩) hHeld ?_ ?_
   rotate_left
   ·
    rintro w' ⟨s0, s1, s2, s3⟩
    go_simp
    with_reducible rfl
   rotate_left
   ·
    simp only [Act.put, List.setIfInBounds_toArray, List.set_cons_zero, List.set_cons_succ, i64_w, i32_w]
    rfl
   refine one_ (i := 5) (N := some 87) #[true, true, true, true, true, true, false, false, false, false, false, false, false, false, false, false, false] rfl rfl (zb4 HT_.out (by kernel_rfl)) (by decide) (fun K hK => ?_)
   refine goes_ Tryd.func35 (by kernel_rfl) rfl #[.agg #[.slice F0 (rN low).length j0, .slice F1 (rD low).length j1], .agg #[.slice B0 (rN r).length e0, .slice B1 (rD r).length e1]] (by rfl) rfl rfl (by (try simp only [List.map_toArray, List.map_cons, List.map_nil]); first | done | rfl) ?_
   refine (HC1.out _ HBy0.out).mono ?_
   rintro e wy1 ⟨rfl, hb⟩
   skip
   refine ⟨_, rfl, ?_⟩
   have HBy1 : Aside0 (Below wy.heap.size wy wy1) := ⟨zaa HBy0.out hb⟩
   clear hb
   refine hK.out _ _ (HSL.out _ HBy1.out) (fun hHeld => ?_)
   clear hK K
   refine norm_ (a' := ?_) ?_ ?_
   rotate_left
   ·
    show Act.put _ (some 87) _ = _
    simp only [Act.put, List.setIfInBounds_toArray, List.set_cons_zero, List.set_cons_succ, i64_w, i32_w]
    rfl
   refine pure_ (i := 6) (N := some 88) (v := ?_) (a' := ?_) #[true, true, true, true, true, true, true, false, false, false, false, false, false, false, false, false, false] rfl rfl (za0 HT_.out (by kernel_rfl)) (fun _ _ _ h => h) (Or.inl ⟨by rfl, ?_⟩) ?_ ?_
   rotate_left
   ·
    intro w'
    go_simp
    with_reducible rfl
   rotate_left
   ·
    simp only [Act.put, List.setIfInBounds_toArray, List.set_cons_zero, List.set_cons_succ, i64_w, i32_w]
    rfl
   refine pure_ (i := 7) (N := some 89) (v := ?_) (a' := ?_) #[true, true, true, true, true, true, true, true, false, false, false, false, false, false, false, false, false] rfl rfl (za0 HT_.out (by kernel_rfl)) (fun _ _ _ h => h) (Or.inl ⟨by rfl, ?_⟩) ?_ ?_
   rotate_left
   ·
    intro w'
    go_simp
    with_reducible rfl
   rotate_left
   ·
    simp only [Act.put, List.setIfInBounds_toArray, List.set_cons_zero, List.set_cons_succ, i64_w, i32_w]
    rfl
   refine pure_ (i := 8) (N := some 90) (v := ?_) (a' := ?_) #[true, true, true, true, true, true, true, true, true, false, false, false, false, false, false, false, false] rfl rfl (za0 HT_.out (by kernel_rfl)) (fun _ _ _ h => h) (Or.inl ⟨by rfl, ?_⟩) ?_ ?_
   rotate_left
   ·
    intro w'
    go_simp
    with_reducible rfl
   rotate_left
   ·
    simp only [Act.put, List.setIfInBounds_toArray, List.set_cons_zero, List.set_cons_succ, i64_w, i32_w]
    rfl
   refine take_ (i := 9) (N := some 91) (v := ?_) (a' := ?_) #[true, true, true, true, true, true, true, true, true, true, false, false, false, false, false, false, false] rfl rfl (zbm HT_.out HW_.out (by kernel_rfl)) (fun _ _ _ h => h) (Or.inl ⟨by rfl, ?_⟩) hHeld ?_ ?_
   rotate_left
   ·
    rintro w' ⟨s0, s1, s2, s3⟩
    go_simp
    with_reducible rfl
   rotate_left
   ·
    simp only [Act.put, List.setIfInBounds_toArray, List.set_cons_zero, List.set_cons_succ, i64_w, i32_w]
    rfl
   refine take_ (i := 10) (N := some 92) (v := ?_) (a' := ?_) #[true, true, true, true, true, true, true, true, true, true, true, false, false, false, false, false, false] rfl rfl (zbm HT_.out HW_.out (by kernel_rfl)) (fun _ _ _ h => h) (Or.inl ⟨by rfl, ?_⟩) hHeld ?_ ?_
   rotate_left
   ·
    rintro w' ⟨s0, s1, s2, s3⟩
    go_simp
    with_reducible rfl
   rotate_left
   ·
    simp only [Act.put, List.setIfInBounds_toArray, List.set_cons_zero, List.set_cons_succ, i64_w, i32_w]
    rfl
   refine one_ (i := 11) (N := some 93) #[true, true, true, true, true, true, true, true, true, true, true, true, false, false, false, false, false] rfl rfl (zb4 HT_.out (by kernel_rfl)) (by decide) (fun K hK => ?_)
   refine goes_ Tryd.func22 (by kernel_rfl) rfl #[.int .i64 1] (by rfl) rfl rfl (by (try simp only [List.map_toArray, List.map_cons, List.map_nil]); first | done | rfl) ?_
   refine (t_Int1 wy1).mono ?_
   rintro e wy2 ⟨I0, p0, I1, p1, rfl, hi, hb⟩
   have HI2 := Aside0.mk hi.rt
   clear hi
   refine ⟨_, rfl, ?_⟩
   have HBy2 : Aside0 (Below wy.heap.size wy wy2) := ⟨zaa HBy1.out hb⟩
   clear hb
   refine hK.out _ _ (HSL.out _ HBy2.out) (fun hHeld => ?_)
   clear hK K
   refine norm_ (a' := ?_) ?_ ?_
   rotate_left
   ·
    show Act.put _ (some 93) _ = _
    simp only [Act.put, List.setIfInBounds_toArray, List.set_cons_zero, List.set_cons_succ, i64_w, i32_w]
    rfl
   refine one_ (i := 12) (N := some 94) #[true, true, true, true, true, true, true, true, true, true, true, true, true, false, false, false, false] rfl rfl (zb4 HT_.out (by kernel_rfl)) (by decide) (fun K hK => ?_)
   refine goes_ Tryd.func34 (by kernel_rfl) rfl #[.agg #[.slice F0 (rN low).length j0, .slice F1 (rD low).length j1], .agg #[.slice I0 _ p0, .slice I1 _ p1]] (by rfl) rfl rfl (by (try simp only [List.map_toArray, List.map_cons, List.map_nil]); first | done | rfl) ?_
   refine (t_Add (HLW.out.below HBy2.out) HI2.out HBL.out HB1.out (by omega)).mono ?_
   rintro e wy3 ⟨J0, q0, J1, q1, rfl, hj, hb⟩
   have HJ3 := Aside0.mk hj.rt
   clear hj
   refine ⟨_, rfl, ?_⟩
   have HBy3 : Aside0 (Below wy.heap.size wy wy3) := ⟨zaa HBy2.out hb⟩
   clear hb
   refine hK.out _ _ (HSL.out _ HBy3.out) (fun hHeld => ?_)
   clear hK K
   refine norm_ (a' := ?_) ?_ ?_
   rotate_left
   ·
    show Act.put _ (some 94) _ = _
    simp only [Act.put, List.setIfInBounds_toArray, List.set_cons_zero, List.set_cons_succ, i64_w, i32_w]
    rfl
   refine one_ (i := 13) (N := some 95) #[true, true, true, true, true, true, true, true, true, true, true, true, true, true, false, false, false] rfl rfl (zb4 HT_.out (by kernel_rfl)) (by decide) (fun K hK => ?_)
   refine goes_ Tryd.func35 (by kernel_rfl) rfl #[.agg #[.slice B0 (rN r).length e0, .slice B1 (rD r).length e1], .agg #[.slice J0 _ q0, .slice J1 _ q1]] (by rfl) rfl rfl (by (try simp only [List.map_toArray, List.map_cons, List.map_nil]); first | done | rfl) ?_
   refine (HC2.out _ _ _ _ _ HBy3.out HJ3.out).mono ?_
   rintro e wy4 ⟨rfl, hb⟩
   skip
   refine ⟨_, rfl, ?_⟩
   have HBy4 : Aside0 (Below wy.heap.size wy wy4) := ⟨zaa HBy3.out hb⟩
   clear hb
   refine hK.out _ _ (HSL.out _ HBy4.out) (fun hHeld => ?_)
   clear hK K
   refine norm_ (a' := ?_) ?_ ?_
   rotate_left
   ·
    show Act.put _ (some 95) _ = _
    simp only [Act.put, List.setIfInBounds_toArray, List.set_cons_zero, List.set_cons_succ, i64_w, i32_w]
    rfl
   refine pure_ (i := 14) (N := some 96) (v := ?_) (a' := ?_) #[true, true, true, true, true, true, true, true, true, true, true, true, true, true, true, false, false] rfl rfl (za0 HT_.out (by kernel_rfl)) (fun _ _ _ h => h) (Or.inl ⟨by rfl, ?_⟩) ?_ ?_
   rotate_left
   ·
    intro w'
    go_simp
    with_reducible rfl
   rotate_left
   ·
    simp only [Act.put, List.setIfInBounds_toArray, List.set_cons_zero, List.set_cons_succ, i64_w, i32_w]
    rfl
   refine pure_ (i := 15) (N := some 97) (v := ?_) (a' := ?_) #[true, true, true, true, true, true, true, true, true, true, true, true, true, true, true, true, false] rfl rfl (za0 HT_.out (by kernel_rfl)) (fun _ _ _ h => h) (Or.inl ⟨by rfl, ?_⟩) ?_ ?_
   rotate_left
   ·
    intro w'
    go_simp
    with_reducible rfl
   rotate_left
   ·
    simp only [Act.put, List.setIfInBounds_toArray, List.set_cons_zero, List.set_cons_succ, i64_w, i32_w]
    rfl
   refine pure_ (i := 16) (N := some 4) (v := ?_) (a' := ?_) #[true, true, true, true, true, true, true, true, true, true, true, true, true, true, true, true, true] rfl rfl (za0 HT_.out (by kernel_rfl)) (fun _ _ _ h => h) (Or.inl ⟨by rfl, ?_⟩) ?_ ?_
   rotate_left
   ·
    intro w'
    go_simp
    with_reducible rfl
   rotate_left
   ·
    simp only [Act.put, List.setIfInBounds_toArray, List.set_cons_zero, List.set_cons_succ, i64_w, i32_w]
    rfl
   refine done_ (done_of HT_.out (by kernel_rfl)) ?_
   go_wp2
   go_ret
   exact ⟨by first | rfl | simp, zaa HW5.out (zaa HZ3.out HBy4.out)⟩
  ·
   have hpos : 0 < s := Rat.lt_of_le_of_ne HS.out.1 (fun e => h0 e.symm)
   have hl := ne_len (B := 18446744073709551616) (by decide) (num_pos hpos)
   have dl : decide (((rN s).length : Int) > 0) = true := decide_eq_true (by show ((dig 18446744073709551616 s.num.toNat).length : Int) > 0; omega)
   have dl' : decide (0 < (rN s).length) = true := decide_eq_true (by show 0 < (dig 18446744073709551616 s.num.toNat).length; omega)
   have e4 : r * s / s = r := Rat.mul_div_cancel h0
   have HDIV : Aside0 (∀ (W : World) (A A' C C' : Option Addr) (q q' t t' : Nat), Rt W A q (rN (r * s)) A' q' (rD (r * s)) → Rt W C t (rN s) C' t' (rD s) → Calls Tryd.prog 31 #[.agg #[.slice A (rN (r * s)).length q, .slice A' (rD (r * s)).length q'], .agg #[.slice C (rN s).length t, .slice C' (rD s).length t']] W fun e w' => ∃ A c A' c', e = .returned (.tuple #[.agg #[.slice A (rN r).length c, .slice A' (rD r).length c'], .int .i64 0]) ∧ RV w' (fun k => W.heap.size ≤ k) A c (rN r) A' c' (rD r) ∧ Below W.heap.size W w') := ⟨fun W A A' C C' q q' t t' h1 h2 => by
    have := t_Div h1 h2 (HR.out.mul HS.out) HS.out (by omega) hpos
    rw [e4] at this
    exact this⟩
   have HR10 := Aside0.mk (HR5.out.below HB10.out)
   have HS10 := Aside0.mk (HS5.out.below HB10.out)
   have HSK10 : Aside0 (∀ W, Below w10.heap.size w10 W → W.cell? ⟨xr, 0, none⟩ = some (.slice B0 (rN r).length e0) ∧ W.cell? ⟨xr, 1, none⟩ = some (.slice B1 (rD r).length e1) ∧ W.cell? ⟨xs, 0, none⟩ = some (.slice D0 (rN s).length g0) ∧ W.cell? ⟨xs, 1, none⟩ = some (.slice D1 (rD s).length g1)) := ⟨fun W h => HSK.out _ (zaa HB10.out h)⟩
   have HBw100 : Aside0 (Below w10.heap.size w10 w10.drew) := ⟨(Below.refl w10.heap.size w10).drew⟩
   clear h0 hpos hl e4
   go_wp2_with fail
   clear s0 s1 s2 s3
   refine start_ (n := 11) (S := fun W => W.cell? ⟨xr, 0, none⟩ = some (.slice B0 (rN r).length e0) ∧ W.cell? ⟨xr, 1, none⟩ = some (.slice B1 (rD r).length e1) ∧ W.cell? ⟨xs, 0, none⟩ = some (.slice D0 (rN s).length g0) ∧ W.cell? ⟨xs, 1, none⟩ = some (.slice D1 (rD s).length g1)) (ds := []) #[false, false, false, false, false, false, false, false, false, false, false] (by kernel_rfl) rfl rfl (HSK10.out _ HBw100.out) (fun hHeld => ?_); refine zcq rbtab9 rbbits9 (fun HT_ HW_ => ?_)
   refine take_ (i := 0) (N := some 60) (v := ?_) (a' := ?_) #[true, false, false, false, false, false, false, false, false, false, false] rfl rfl (zbm HT_.out HW_.out (by kernel_rfl)) (fun _ _ _ h => h) (Or.inl ⟨by rfl, ?_⟩) hHeld ?_ ?_
   rotate_left
   ·
    rintro w' ⟨s0, s1, s2, s3⟩
    go_simp
    with_reducible rfl
   rotate_left
   ·
    simp only [Act.put, List.setIfInBounds_toArray, List.set_cons_zero, List.set_cons_succ, i64_w, i32_w]
    rfl
   refine take_ (i := 1) (N := some 61) (v := ?_) (a' := ?_) #[true, true, false, false, false, false, false, false, false, false, false] rfl rfl (zbm HT_.out HW_.out (by kernel_rfl)) (fun _ _ _ h => h) (Or.inl ⟨by rfl, ?_⟩) hHeld ?_ ?_
   rotate_left
   ·
    rintro w' ⟨s0, s1, s2, s3⟩
    go_simp
    with_reducible rfl
   rotate_left
   ·
    simp only [Act.put, List.setIfInBounds_toArray, List.set_cons_zero, List.set_cons_succ, i64_w, i32_w]
    rfl
   refine take_ (i := 3) (N := some 63) (v := ?_) (a' := ?_) #[true, true, false, true, false, false, false, false, false, false, false] rfl rfl (zbm HT_.out HW_.out (by kernel_rfl)) (fun _ _ _ h => h) (Or.inl ⟨by rfl, ?_⟩) hHeld ?_ ?_
   rotate_left
   ·
    rintro w' ⟨s0, s1, s2, s3⟩
    go_simp
    with_reducible rfl
   rotate_left
   ·
    simp only [Act.put, List.setIfInBounds_toArray, List.set_cons_zero, List.set_cons_succ, i64_w, i32_w]
    rfl
   refine join_ (σ := Value × Value × Nat) 2 #[true, true, true, true, true, true, true, true, true, false, false] (fun s_ => [(62, s_.1), (64, .tuple #[s_.2.1, .int .i64 0]), (59, .tuple #[s_.2.1, .int .i64 0]), (65, s_.2.1), (66, .int .i64 0), (13, .pointer (some ⟨s_.2.2, 0, none⟩))]) (fun s_ w' => (w'.cell? ⟨xr, 0, none⟩ = some (.slice B0 (rN r).length e0) ∧ w'.cell? ⟨xr, 1, none⟩ = some (.slice B1 (rD r).length e1) ∧ w'.cell? ⟨xs, 0, none⟩ = some (.slice D0 (rN s).length g0) ∧ w'.cell? ⟨xs, 1, none⟩ = some (.slice D1 (rD s).length g1)) ∧ (∃ A c A' c', s_.2.1 = .agg #[.slice A (rN r).length c, .slice A' (rD r).length c'] ∧ RV w' (fun k => k ≠ s_.2.2) A c (rN r) A' c' (rD r)) ∧ w'.heap[s_.2.2]? = some (.cells #[.slice none 0 0, .slice none 0 0] 28 (0, 0)) ∧ w10.heap.size ≤ s_.2.2 ∧ Below w10.heap.size w10 w') ?_ ?_
   rotate_left
   ·
    intro hJ
    refine two_ (i := 2) (j := 8) (Ni := some 62) (Nj := some 13) #[true, true, true, true, false, false, false, false, false, false, false] #[true, true, false, true, false, false, false, false, true, false, false] rfl rfl rfl rfl (two_of HT_.out (by kernel_rfl)) (by decide) (by decide) (fun K hK => ?_) (fun K hK => ?_)
    ·
     skip
     refine goes_ Tryd.func29 (by kernel_rfl) rfl #[.agg #[.slice B0 (rN r).length e0, .slice B1 (rD r).length e1], .agg #[.slice D0 (rN s).length g0, .slice D1 (rD s).length g1]] (by rfl) rfl rfl (by (try simp only [List.map_toArray, List.map_cons, List.map_nil]); first | done | rfl) ?_
     refine (t_Mul (HR10.out.below HBw100.out) (HS10.out.below HBw100.out) HR.out HS.out (by omega)).mono ?_
     rintro e v1 ⟨E0, i0, E1, i1, rfl, hx, hb⟩
     refine ⟨_, rfl, ?_⟩
     have HXv1 := Aside0.mk hx.rt
     have HBv1 : Aside0 (Below w10.heap.size w10 v1) := ⟨zaa HBw100.out hb⟩
     have hzv1 := hb.size
     clear hx hb
     refine hK.out _ _ (HSK10.out _ HBv1.out) (fun hHeld => ?_)
     clear hK K
     refine norm_ (a' := ?_) ?_ ?_
     rotate_left
     ·
      show Act.put _ (some 62) _ = _
      simp only [Act.put, List.setIfInBounds_toArray, List.set_cons_zero, List.set_cons_succ, i64_w, i32_w]
      rfl
     refine two_ (i := 4) (j := 8) (Ni := some 64) (Nj := some 13) #[true, true, true, true, true, false, false, false, false, false, false] #[true, true, true, true, false, false, false, false, true, false, false] rfl rfl rfl rfl (two_of HT_.out (by kernel_rfl)) (by decide) (by decide) (fun K hK => ?_) (fun K hK => ?_)
     ·
      skip
      refine goes_ Tryd.func31 (by kernel_rfl) rfl #[.agg #[.slice E0 _ i0, .slice E1 _ i1], .agg #[.slice D0 (rN s).length g0, .slice D1 (rD s).length g1]] (by rfl) rfl rfl (by (try simp only [List.map_toArray, List.map_cons, List.map_nil]); first | done | rfl) ?_
      refine (HDIV.out _ _ _ _ _ _ _ _ _ HXv1.out (HS10.out.below HBv1.out)).mono ?_
      rintro e v2 ⟨E2, i2, E3, i3, rfl, hy, hb⟩
      refine ⟨_, rfl, ?_⟩
      have HYv2 := Aside0.mk hy
      have HBv2 : Aside0 (Below w10.heap.size w10 v2) := ⟨zaa HBv1.out hb⟩
      have hzv2 := hb.size
      clear hy hb
      refine hK.out _ _ (HSK10.out _ HBv2.out) (fun hHeld => ?_)
      clear hK K
      refine norm_ (a' := ?_) ?_ ?_
      rotate_left
      ·
       show Act.put _ (some 64) _ = _
       simp only [Act.put, List.setIfInBounds_toArray, List.set_cons_zero, List.set_cons_succ, i64_w, i32_w]
       rfl
      refine pure_ (i := 5) (N := some 59) (v := ?_) (a' := ?_) #[true, true, true, true, true, true, false, false, false, false, false] rfl rfl (za0 HT_.out (by kernel_rfl)) (fun _ _ _ h => h) (Or.inl ⟨by rfl, ?_⟩) ?_ ?_
      rotate_left
      ·
       intro w'
       go_simp
       with_reducible rfl
      rotate_left
      ·
       simp only [Act.put, List.setIfInBounds_toArray, List.set_cons_zero, List.set_cons_succ, i64_w, i32_w]
       rfl
      refine pure_ (i := 6) (N := some 65) (v := ?_) (a' := ?_) #[true, true, true, true, true, true, true, false, false, false, false] rfl rfl (za0 HT_.out (by kernel_rfl)) (fun _ _ _ h => h) (Or.inl ⟨by rfl, ?_⟩) ?_ ?_
      rotate_left
      ·
       intro w'
       go_simp
       with_reducible rfl
      rotate_left
      ·
       simp only [Act.put, List.setIfInBounds_toArray, List.set_cons_zero, List.set_cons_succ, i64_w, i32_w]
       rfl
      refine pure_ (i := 7) (N := some 66) (v := ?_) (a' := ?_) #[true, true, true, true, true, true, true, true, false, false, false] rfl rfl (za0 HT_.out (by kernel_rfl)) (fun _ _ _ h => h) (Or.inl ⟨by rfl, ?_⟩) ?_ ?_
      rotate_left
      ·
       intro w'
       go_simp
       with_reducible rfl
      rotate_left
      ·
       simp only [Act.put, List.setIfInBounds_toArray, List.set_cons_zero, List.set_cons_succ, i64_w, i32_w]
       rfl
      refine one_ (i := 8) (N := some 13) #[true, true, true, true, true, true, true, true, true, false, false] rfl rfl (zb4 HT_.out (by kernel_rfl)) (by decide) (fun K hK => ?_)
      refine zc0 ?hg (N := 13) ?hd (cs := #[.slice none 0 0, .slice none 0 0]) (t := 28) ?hr ?_; (case hd => rfl); (case hg => rfl); (case hr => first | (go_simp; done) | (go_simp; rfl))
      intro gb hgb v3 hbox hb
      have HBv3 : Aside0 (Below w10.heap.size w10 v3) := ⟨zaa HBv2.out hb⟩
      have HBXv3 := Aside0.mk hbox
      have hgl := zay hbox
      have hge : w10.heap.size ≤ gb := by rw [hgb]; exact (HBv2.out).size
      have hzv3 := hb.size
      have HYv3 := Aside0.mk ((HYv2.out.old hb).mono (Q := fun k => k ≠ gb) (fun k hk => by have := hk.2; omega))
      clear hbox hb
      refine hK.out _ _ (HSK10.out _ HBv3.out) (fun hHeld => ?_)
      clear hK K
      refine norm_ (a' := ?_) ?_ ?_
      rotate_left
      ·
       show Act.put _ (some 13) _ = _
       simp only [Act.put, List.setIfInBounds_toArray, List.set_cons_zero, List.set_cons_succ, i64_w, i32_w]
       rfl
      exact norm_ (by first | (simp only [putAll, Act.put, List.setIfInBounds_toArray, List.set_cons_zero, List.set_cons_succ]; done) | (simp only [putAll, Act.put, List.setIfInBounds_toArray, List.set_cons_zero, List.set_cons_succ]; rfl)) (hJ (_, _, gb) v3 ⟨hHeld, ⟨E2, i2, E3, i3, rfl, HYv3.out⟩, HBXv3.out, hge, HBv3.out⟩)
     ·
      skip
      refine zc0 ?hg (N := 13) ?hd (cs := #[.slice none 0 0, .slice none 0 0]) (t := 28) ?hr ?_; (case hd => rfl); (case hg => rfl); (case hr => first | (go_simp; done) | (go_simp; rfl))
      intro gb hgb v2 hbox hb
      have HBv2 : Aside0 (Below w10.heap.size w10 v2) := ⟨zaa HBv1.out hb⟩
      have HBXv2 := Aside0.mk hbox
      have hgl := zay hbox
      have hge : w10.heap.size ≤ gb := by rw [hgb]; exact (HBv1.out).size
      have hzv2 := hb.size
      have HXv2 := Aside0.mk (HXv1.out.below hb)
      clear hbox hb
      refine hK.out _ _ (HSK10.out _ HBv2.out) (fun hHeld => ?_)
      clear hK K
      refine norm_ (a' := ?_) ?_ ?_
      rotate_left
      ·
       show Act.put _ (some 13) _ = _
       simp only [Act.put, List.setIfInBounds_toArray, List.set_cons_zero, List.set_cons_succ, i64_w, i32_w]
       rfl
      refine one_ (i := 4) (N := some 64) #[true, true, true, true, true, false, false, false, true, false, false] rfl rfl (zb4 HT_.out (by kernel_rfl)) (by decide) (fun K hK => ?_)
      refine goes_ Tryd.func31 (by kernel_rfl) rfl #[.agg #[.slice E0 _ i0, .slice E1 _ i1], .agg #[.slice D0 (rN s).length g0, .slice D1 (rD s).length g1]] (by rfl) rfl rfl (by (try simp only [List.map_toArray, List.map_cons, List.map_nil]); first | done | rfl) ?_
      refine (HDIV.out _ _ _ _ _ _ _ _ _ HXv2.out (HS10.out.below HBv2.out)).mono ?_
      rintro e v3 ⟨E2, i2, E3, i3, rfl, hy, hb⟩
      refine ⟨_, rfl, ?_⟩
      have HYv3 := Aside0.mk hy
      have HBv3 : Aside0 (Below w10.heap.size w10 v3) := ⟨zaa HBv2.out hb⟩
      have hzv3 := hb.size
      have HBXv3 := Aside0.mk ((hb.block _ (zay HBXv2.out)).trans HBXv2.out)
      clear hy hb
      refine hK.out _ _ (HSK10.out _ HBv3.out) (fun hHeld => ?_)
      clear hK K
      refine norm_ (a' := ?_) ?_ ?_
      rotate_left
      ·
       show Act.put _ (some 64) _ = _
       simp only [Act.put, List.setIfInBounds_toArray, List.set_cons_zero, List.set_cons_succ, i64_w, i32_w]
       rfl
      refine pure_ (i := 5) (N := some 59) (v := ?_) (a' := ?_) #[true, true, true, true, true, true, false, false, true, false, false] rfl rfl (za0 HT_.out (by kernel_rfl)) (fun _ _ _ h => h) (Or.inl ⟨by rfl, ?_⟩) ?_ ?_
      rotate_left
      ·
       intro w'
       go_simp
       with_reducible rfl
      rotate_left
      ·
       simp only [Act.put, List.setIfInBounds_toArray, List.set_cons_zero, List.set_cons_succ, i64_w, i32_w]
       rfl
      refine pure_ (i := 6) (N := some 65) (v := ?_) (a' := ?_) #[true, true, true, true, true, true, true, false, true, false, false] rfl rfl (za0 HT_.out (by kernel_rfl)) (fun _ _ _ h => h) (Or.inl ⟨by rfl, ?_⟩) ?_ ?_
      rotate_left
      ·
       intro w'
       go_simp
       with_reducible rfl
      rotate_left
      ·
       simp only [Act.put, List.setIfInBounds_toArray, List.set_cons_zero, List.set_cons_succ, i64_w, i32_w]
       rfl
      refine pure_ (i := 7) (N := some 66) (v := ?_) (a' := ?_) #[true, true, true, true, true, true, true, true, true, false, false] rfl rfl (za0 HT_.out (by kernel_rfl)) (fun _ _ _ h => h) (Or.inl ⟨by rfl, ?_⟩) ?_ ?_
      rotate_left
      ·
       intro w'
       go_simp
       with_reducible rfl
      rotate_left
      ·
       simp only [Act.put, List.setIfInBounds_toArray, List.set_cons_zero, List.set_cons_succ, i64_w, i32_w]
       rfl
      exact norm_ (by first | (simp only [putAll, Act.put, List.setIfInBounds_toArray, List.set_cons_zero, List.set_cons_succ]; done) | (simp only [putAll, Act.put, List.setIfInBounds_toArray, List.set_cons_zero, List.set_cons_succ]; rfl)) (hJ (_, _, gb) v3 ⟨hHeld, ⟨E2, i2, E3, i3, rfl, (HYv3.out.mono (fun k hk => by have h : v2.heap.size ≤ k := hk; show k ≠ gb; omega))⟩, HBXv3.out, hge, HBv3.out⟩)
    ·
     skip
     refine zc0 ?hg (N := 13) ?hd (cs := #[.slice none 0 0, .slice none 0 0]) (t := 28) ?hr ?_; (case hd => rfl); (case hg => rfl); (case hr => first | (go_simp; done) | (go_simp; rfl))
     intro gb hgb v1 hbox hb
     have HBv1 : Aside0 (Below w10.heap.size w10 v1) := ⟨zaa HBw100.out hb⟩
     have HBXv1 := Aside0.mk hbox
     have hgl := zay hbox
     have hge : w10.heap.size ≤ gb := by rw [hgb]; exact (HBw100.out).size
     have hzv1 := hb.size
     clear hbox hb
     refine hK.out _ _ (HSK10.out _ HBv1.out) (fun hHeld => ?_)
     clear hK K
     refine norm_ (a' := ?_) ?_ ?_
     rotate_left
     ·
      show Act.put _ (some 13) _ = _
      simp only [Act.put, List.setIfInBounds_toArray, List.set_cons_zero, List.set_cons_succ, i64_w, i32_w]
      rfl
     refine one_ (i := 2) (N := some 62) #[true, true, true, true, false, false, false, false, true, false, false] rfl rfl (zb4 HT_.out (by kernel_rfl)) (by decide) (fun K hK => ?_)
     refine goes_ Tryd.func29 (by kernel_rfl) rfl #[.agg #[.slice B0 (rN r).length e0, .slice B1 (rD r).length e1], .agg #[.slice D0 (rN s).length g0, .slice D1 (rD s).length g1]] (by rfl) rfl rfl (by (try simp only [List.map_toArray, List.map_cons, List.map_nil]); first | done | rfl) ?_
     refine (t_Mul (HR10.out.below HBv1.out) (HS10.out.below HBv1.out) HR.out HS.out (by omega)).mono ?_
     rintro e v2 ⟨E0, i0, E1, i1, rfl, hx, hb⟩
     refine ⟨_, rfl, ?_⟩
     have HXv2 := Aside0.mk hx.rt
     have HBv2 : Aside0 (Below w10.heap.size w10 v2) := ⟨zaa HBv1.out hb⟩
     have hzv2 := hb.size
     have HBXv2 := Aside0.mk ((hb.block _ (zay HBXv1.out)).trans HBXv1.out)
     clear hx hb
     refine hK.out _ _ (HSK10.out _ HBv2.out) (fun hHeld => ?_)
     clear hK K
     refine norm_ (a' := ?_) ?_ ?_
     rotate_left
     ·
      show Act.put _ (some 62) _ = _
      simp only [Act.put, List.setIfInBounds_toArray, List.set_cons_zero, List.set_cons_succ, i64_w, i32_w]
      rfl
     refine one_ (i := 4) (N := some 64) #[true, true, true, true, true, false, false, false, true, false, false] rfl rfl (zb4 HT_.out (by kernel_rfl)) (by decide) (fun K hK => ?_)
     refine goes_ Tryd.func31 (by kernel_rfl) rfl #[.agg #[.slice E0 _ i0, .slice E1 _ i1], .agg #[.slice D0 (rN s).length g0, .slice D1 (rD s).length g1]] (by rfl) rfl rfl (by (try simp only [List.map_toArray, List.map_cons, List.map_nil]); first | done | rfl) ?_
     refine (HDIV.out _ _ _ _ _ _ _ _ _ HXv2.out (HS10.out.below HBv2.out)).mono ?_
     rintro e v3 ⟨E2, i2, E3, i3, rfl, hy, hb⟩
     refine ⟨_, rfl, ?_⟩
     have HYv3 := Aside0.mk hy
     have HBv3 : Aside0 (Below w10.heap.size w10 v3) := ⟨zaa HBv2.out hb⟩
     have hzv3 := hb.size
     have HBXv3 := Aside0.mk ((hb.block _ (zay HBXv2.out)).trans HBXv2.out)
     clear hy hb
     refine hK.out _ _ (HSK10.out _ HBv3.out) (fun hHeld => ?_)
     clear hK K
     refine norm_ (a' := ?_) ?_ ?_
     rotate_left
     ·
      show Act.put _ (some 64) _ = _
      simp only [Act.put, List.setIfInBounds_toArray, List.set_cons_zero, List.set_cons_succ, i64_w, i32_w]
      rfl
     refine pure_ (i := 5) (N := some 59) (v := ?_) (a' := ?_) #[true, true, true, true, true, true, false, false, true, false, false] rfl rfl (za0 HT_.out (by kernel_rfl)) (fun _ _ _ h => h) (Or.inl ⟨by rfl, ?_⟩) ?_ ?_
     rotate_left
     ·
      intro w'
      go_simp
      with_reducible rfl
     rotate_left
     ·
      simp only [Act.put, List.setIfInBounds_toArray, List.set_cons_zero, List.set_cons_succ, i64_w, i32_w]
      rfl
     refine pure_ (i := 6) (N := some 65) (v := ?_) (a' := ?_) #[true, true, true, true, true, true, true, false, true, false, false] rfl rfl (za0 HT_.out (by kernel_rfl)) (fun _ _ _ h => h) (Or.inl ⟨by rfl, ?_⟩) ?_ ?_
     rotate_left
     ·
      intro w'
      go_simp
      with_reducible rfl
     rotate_left
     ·
      simp only [Act.put, List.setIfInBounds_toArray, List.set_cons_zero, List.set_cons_succ, i64_w, i32_w]
      rfl
     refine pure_ (i := 7) (N := some 66) (v := ?_) (a' := ?_) #[true, true, true, true, true, true, true, true, true, false, false] rfl rfl (za0 HT_.out (by kernel_rfl)) (fun _ _ _ h => h) (Or.inl ⟨by rfl, ?_⟩) ?_ ?_
     rotate_left
     ·
      intro w'
      go_simp
      with_reducible rfl
     rotate_left
     ·
      simp only [Act.put, List.setIfInBounds_toArray, List.set_cons_zero, List.set_cons_succ, i64_w, i32_w]
      rfl
     exact norm_ (by first | (simp only [putAll, Act.put, List.setIfInBounds_toArray, List.set_cons_zero, List.set_cons_succ]; done) | (simp only [putAll, Act.put, List.setIfInBounds_toArray, List.set_cons_zero, List.set_cons_succ]; rfl)) (hJ (_, _, gb) v3 ⟨hHeld, ⟨E2, i2, E3, i3, rfl, (HYv3.out.mono (fun k hk => by have h : v2.heap.size ≤ k := hk; show k ≠ gb; omega))⟩, HBXv3.out, hge, HBv3.out⟩)
   ·
    skip
    rintro ⟨v42_, y_, gq⟩ w11 ⟨hHeld, ⟨m0, m1, m2, m3, hy, hRV⟩, hbox, hge, hb8⟩
    dsimp only at hy hbox hge hRV
    subst hy
    have q0 : w11.cell? ⟨gq, 0, none⟩ = some (.slice none 0 0) := (zab hbox 0).trans rfl
    have q1 : w11.cell? ⟨gq, 1, none⟩ = some (.slice none 0 0) := (zab hbox 1).trans rfl
    have q2 := zal hbox 0
    have q3 := zal hbox 1
    have HBF := Aside0.mk ((hb8.setCell (p := ⟨gq, 0, none⟩) hge (.slice m0 (rN r).length m1)).setCell (p := ⟨gq, 1, none⟩) hge (.slice m2 (rD r).length m3))
    have HRF := Aside0.mk (((hRV.far (p := ⟨gq, 0, none⟩) (fun k hk => hk) (.slice m0 (rN r).length m1)).far (p := ⟨gq, 1, none⟩) (fun k hk => hk) (.slice m2 (rD r).length m3)).rt)
    have HXF := Aside0.mk (zb1 (zb1 hbox 0 (.slice m0 (rN r).length m1) rfl) 1 (.slice m2 (rD r).length m3) rfl)
    clear hRV hbox hb8
    refine norm_ (a' := ?_) ?_ ?_
    rotate_left
    ·
     simp only [putAll, Act.put, List.setIfInBounds_toArray, List.set_cons_zero, List.set_cons_succ]
     rfl
    refine one_ (i := 9) (N := none) #[true, true, true, true, true, true, true, true, true, true, false] rfl rfl (zb4 HT_.out (by kernel_rfl)) (by decide) (fun K hK => ?_)
    refine skip_ (w1 := ?_) (by rfl) rfl ?_ ?_
    rotate_left
    ·
     go_simp
     rfl
    refine hK.out _ _ (HSK10.out _ HBF.out) (fun hHeld => ?_)
    clear hK K q0 q1 q2 q3
    generalize (w11.setCell ⟨gq, 0, none⟩ (.slice m0 (rN r).length m1)).setCell ⟨gq, 1, none⟩ (.slice m2 (rD r).length m3) = w12 at HBF HRF HXF hHeld ⊢
    have HBw12 := HBF
    have HRw12 := HRF
    have HXw12 := HXF
    clear HBF HRF HXF
    refine pure_ (i := 10) (N := some 14) (v := ?_) (a' := ?_) #[true, true, true, true, true, true, true, true, true, true, true] rfl rfl (za0 HT_.out (by kernel_rfl)) (fun _ _ _ h => h) (Or.inl ⟨by rfl, ?_⟩) ?_ ?_
    rotate_left
    ·
     intro w'
     go_simp
     with_reducible rfl
    rotate_left
    ·
     simp only [Act.put, List.setIfInBounds_toArray, List.set_cons_zero, List.set_cons_succ, i64_w, i32_w]
     rfl
    refine done_ (done_of HT_.out (by kernel_rfl)) ?_
    have HB12 := Aside0.mk (zaa HB10.out HBw12.out)
    obtain ⟨s0, s1, _, _⟩ := HSK.out _ HB12.out
    have x0 : w12.cell? ⟨gq, 0, none⟩ = some (.slice m0 (rN r).length m1) := (zab HXw12.out 0).trans rfl
    have x1 : w12.cell? ⟨gq, 1, none⟩ = some (.slice m2 (rD r).length m3) := (zab HXw12.out 1).trans rfl
    have hcm := t_Cmp HRw12.out (HR5.out.below HB12.out) HR.out HR.out (by omega)
    rw [cmp_self] at hcm
    have HCM := Aside0.mk hcm
    clear hcm hHeld HT_ HW_
    go_wp2_with fail
    refine HCM.out.mono ?_
    rintro e w13 ⟨rfl, hb13⟩
    have HB13 := Aside0.mk (zaa HB12.out hb13)
    clear hb13 HCM s0 s1 x0 x1
    obtain ⟨s0, s1, _, _⟩ := HSK.out _ HB13.out
    go_wp2_with fail
    refine (t_Floor (HR5.out.below HB13.out) HR.out (by omega)).mono ?_
    rintro e z1 ⟨G0, n0, rfl, hl0, hC0, hb1⟩
    have HZ1 := Aside0.mk (zaa HB13.out hb1)
    have Hl0 := Aside0.mk hl0
    have HC0 := Aside0.mk hC0
    clear hl0 hC0 hb1 s0 s1
    go_wp2_with fail
    refine (t_one _).mono ?_
    rintro e z2 ⟨G1, n1, rfl, hl1, hC1, hb2⟩
    have HZ2 := Aside0.mk (zaa HZ1.out hb2)
    have Hl1 := Aside0.mk hl1
    have HC1 := Aside0.mk hC1
    have HC0' := Aside0.mk (Kd.za3 HC0.out hb2)
    clear hl1 hC1 hb2 HC0
    go_wp2_with fail
    have hlow := t_Low HR.out Hl0.out HC0'.out Hl1.out HC1.out
    obtain ⟨hf1, hf2⟩ := floor_cmp HR.out.1
    have hbl : Bd ((r.num.toNat / r.den : Nat) : Rat) 4 := Bd.nat (divLt HR.out.2.1) (by omega)
    have hb1 : Bd ((1 : Nat) : Rat) 1 := Bd.nat (by rw [Nat.pow_one]; omega) (by omega)
    generalize ((r.num.toNat / r.den : Nat) : Rat) = low at hlow hf1 hf2 hbl
    have HBL := Aside0.mk hbl
    have HB1 := Aside0.mk hb1
    have HLO := Aside0.mk hlow
    clear hlow hbl hb1
    refine HLO.out.mono ?_
    rintro e z3 ⟨F0, j0, F1, j1, rfl, hf, hb3⟩
    have HZ3 := Aside0.mk (za1 (zaa HZ2.out hb3) (.cells #[.slice F0 (rN low).length j0, .slice F1 (rD low).length j1] 28))
    have HLW := Aside0.mk (hf.rt.below (za1 (Below.refl z3.heap.size z3) (.cells #[.slice F0 (rN low).length j0, .slice F1 (rD low).length j1] 28)))
    have HLX := Aside0.mk (blk_new z3 (.cells #[.slice F0 (rN low).length j0, .slice F1 (rD low).length j1] 28))
    clear hf hb3 HLO
    go_wp2_with fail
    generalize z3.alloc (.cells #[.slice F0 (rN low).length j0, .slice F1 (rD low).length j1] 28) = wy at HZ3 HLW HLX ⊢
    generalize z3.heap.size = xl at HLX ⊢
    obtain ⟨cc1, hcc1⟩ : ∃ z, cmpR low r = z := ⟨_, rfl⟩
    obtain ⟨cc2, hcc2⟩ : ∃ z, cmpR r (low + ((1 : Nat) : Rat)) = z := ⟨_, rfl⟩
    rw [hcc1] at hf1
    rw [hcc2] at hf2
    have HBRy := Aside0.mk ((HZ3.out.block _ (zay HBR5.out)).trans HBR5.out)
    have HRy := Aside0.mk (HR5.out.below HZ3.out)
    have HC1 : Aside0 (∀ W, Below wy.heap.size wy W → Calls Tryd.prog 35 #[.agg #[.slice F0 (rN low).length j0, .slice F1 (rD low).length j1], .agg #[.slice B0 (rN r).length e0, .slice B1 (rD r).length e1]] W fun e w' => e = .returned (.int .i64 cc1) ∧ Below W.heap.size W w') := ⟨fun W h => by
     have := t_Cmp (HLW.out.below h) (HRy.out.below h) HBL.out HR.out (by omega)
     rw [hcc1] at this
     exact this⟩
    have HC2 : Aside0 (∀ (W : World) (J0 J1 : Option Addr) (q0 q1 : Nat), Below wy.heap.size wy W → Rt W J0 q0 (rN (low + ((1 : Nat) : Rat))) J1 q1 (rD (low + ((1 : Nat) : Rat))) → Calls Tryd.prog 35 #[.agg #[.slice B0 (rN r).length e0, .slice B1 (rD r).length e1], .agg #[.slice J0 (rN (low + ((1 : Nat) : Rat))).length q0, .slice J1 (rD (low + ((1 : Nat) : Rat))).length q1]] W fun e w' => e = .returned (.int .i64 cc2) ∧ Below W.heap.size W w') := ⟨fun W J0 J1 q0 q1 h hj => by
     have := t_Cmp (HRy.out.below h) hj HR.out (HBL.out.add HB1.out) (by omega)
     rw [hcc2] at this
     exact this⟩
    have HSL : Aside0 (∀ W, Below wy.heap.size wy W → W.cell? ⟨xr, 0, none⟩ = some (.slice B0 (rN r).length e0) ∧ W.cell? ⟨xr, 1, none⟩ = some (.slice B1 (rD r).length e1) ∧ W.cell? ⟨xl, 0, none⟩ = some (.slice F0 (rN low).length j0) ∧ W.cell? ⟨xl, 1, none⟩ = some (.slice F1 (rD low).length j1)) := ⟨fun W h => by
     have h1 := (h.block _ (zay HBRy.out)).trans HBRy.out
     have h2 := (h.block _ (zay HLX.out)).trans HLX.out
     exact ⟨(zab h1 0).trans rfl, (zab h1 1).trans rfl, (zab h2 0).trans rfl, (zab h2 1).trans rfl⟩⟩
    have HBy0 : Aside0 (Below wy.heap.size wy wy.drew) := ⟨(Below.refl wy.heap.size wy).drew⟩
    have dc1 : decide (cc1 ≤ 0) = true := decide_eq_true hf1
    have dc2 : decide (cc2 < 0) = true := decide_eq_true hf2
    clear hcc1 hcc2 hf1 hf2
    refine start_ (n := 17) (S := fun W => W.cell? ⟨xr, 0, none⟩ = some (.slice B0 (rN r).length e0) ∧ W.cell? ⟨xr, 1, none⟩ = some (.slice B1 (rD r).length e1) ∧ W.cell? ⟨xl, 0, none⟩ = some (.slice F0 (rN low).length j0) ∧ W.cell? ⟨xl, 1, none⟩ = some (.slice F1 (rD low).length j1)) (ds := []) #[false, false, false, false, false, false, false, false, false, false, false, false, false, false, false, false, false] (by kernel_rfl) rfl rfl (HSL.out _ HBy0.out) (fun hHeld => ?_); refine zcq rbtab13 rbbits13 (fun HT_ HW_ => ?_)
    refine pure_ (i := 0) (N := some 82) (v := ?_) (a' := ?_) #[true, false, false, false, false, false, false, false, false, false, false, false, false, false, false, false, false] rfl rfl (za0 HT_.out (by kernel_rfl)) (fun _ _ _ h => h) (Or.inl ⟨by rfl, ?_⟩) ?_ ?_
    rotate_left
    ·
     intro w'
     go_simp
     with_reducible rfl
    rotate_left
    ·
     simp only [Act.put, List.setIfInBounds_toArray, List.set_cons_zero, List.set_cons_succ, i64_w, i32_w]
     rfl
    refine pure_ (i := 1) (N := some 83) (v := ?_) (a' := ?_) #[true, true, false, false, false, false, false, false, false, false, false, false, false, false, false, false, false] rfl rfl (za0 HT_.out (by kernel_rfl)) (fun _ _ _ h => h) (Or.inl ⟨by rfl, ?_⟩) ?_ ?_
    rotate_left
    ·
     intro w'
     go_simp
     with_reducible rfl
    rotate_left
    ·
     simp only [Act.put, List.setIfInBounds_toArray, List.set_cons_zero, List.set_cons_succ, i64_w, i32_w]
     rfl
    refine pure_ (i := 2) (N := some 84) (v := ?_) (a' := ?_) #[true, true, true, false, false, false, false, false, false, false, false, false, false, false, false, false, false] rfl rfl (za0 HT_.out (by kernel_rfl)) (fun _ _ _ h => h) (Or.inl ⟨by rfl, ?_⟩) ?_ ?_
    rotate_left
    ·
     intro w'
     go_simp
     with_reducible rfl
    rotate_left
    ·
     simp only [Act.put, List.setIfInBounds_toArray, List.set_cons_zero, List.set_cons_succ, i64_w, i32_w]
     rfl
    refine take_ (i := 3) (N := some 85) (v := ?_) (a' := ?_) #[true, true, true, true, false, false, false, false, false, false, false, false, false, false, false, false, false] rfl rfl (zbm HT_.out HW_.out (by kernel_rfl)) (fun _ _ _ h => h) (Or.inl ⟨by rfl, ?_⟩) hHeld ?_ ?_
    rotate_left
    ·
     rintro w' ⟨s0, s1, s2, s3⟩
     go_simp
     with_reducible rfl
    rotate_left
    ·
     simp only [Act.put, List.setIfInBounds_toArray, List.set_cons_zero, List.set_cons_succ, i64_w, i32_w]
     rfl
    refine take_ (i := 4) (N := some 86) (v := ?_) (a' := ?_) #[true, true, true, true, true, false, false, false, false, false, false, false, false, false, false, false, false] rfl rfl (zbm HT_.out HW_.out (by kernel_rfl)) (fun _ _ _ h => h) (Or.inl ⟨by rfl, ?_⟩) hHeld ?_ ?_
    rotate_left
    ·
     rintro w' ⟨s0, s1, s2, s3⟩
     go_simp
     with_reducible rfl
    rotate_left
    ·
     simp only [Act.put, List.setIfInBounds_toArray, List.set_cons_zero, List.set_cons_succ, i64_w, i32_w]
     rfl
    refine one_ (i := 5) (N := some 87) #[true, true, true, true, true, true, false, false, false, false, false, false, false, false, false, false, false] rfl rfl (zb4 HT_.out (by kernel_rfl)) (by decide) (fun K hK => ?_)
    refine goes_ Tryd.func35 (by kernel_rfl) rfl #[.agg #[.slice F0 (rN low).length j0, .slice F1 (rD low).length j1], .agg #[.slice B0 (rN r).length e0, .slice B1 (rD r).length e1]] (by rfl) rfl rfl (by (try simp only [List.map_toArray, List.map_cons, List.map_nil]); first | done | rfl) ?_
    refine (HC1.out _ HBy0.out).mono ?_
    rintro e wy1 ⟨rfl, hb⟩
    skip
    refine ⟨_, rfl, ?_⟩
    have HBy1 : Aside0 (Below wy.heap.size wy wy1) := ⟨zaa HBy0.out hb⟩
    clear hb
    refine hK.out _ _ (HSL.out _ HBy1.out) (fun hHeld => ?_)
    clear hK K
    refine norm_ (a' := ?_) ?_ ?_
    rotate_left
    ·
     show Act.put _ (some 87) _ = _
     simp only [Act.put, List.setIfInBounds_toArray, List.set_cons_zero, List.set_cons_succ, i64_w, i32_w]
     rfl
    refine pure_ (i := 6) (N := some 88) (v := ?_) (a' := ?_) #[true, true, true, true, true, true, true, false, false, false, false, false, false, false, false, false, false] rfl rfl (za0 HT_.out (by kernel_rfl)) (fun _ _ _ h => h) (Or.inl ⟨by rfl, ?_⟩) ?_ ?_
    rotate_left
    ·
     intro w'
     go_simp
     with_reducible rfl
    rotate_left
    ·
     simp only [Act.put, List.setIfInBounds_toArray, List.set_cons_zero, List.set_cons_succ, i64_w, i32_w]
     rfl
    refine pure_ (i := 7) (N := some 89) (v := ?_) (a' := ?_) #[true, true, true, true, true, true, true, true, false, false, false, false, false, false, false, false, false] rfl rfl (za0 HT_.out (by kernel_rfl)) (fun _ _ _ h => h) (Or.inl ⟨by rfl, ?_⟩) ?_ ?_
    rotate_left
    ·
     intro w'
     go_simp
     with_reducible rfl
    rotate_left
    ·
     simp only [Act.put, List.setIfInBounds_toArray, List.set_cons_zero, List.set_cons_succ, i64_w, i32_w]
     rfl
    refine pure_ (i := 8) (N := some 90) (v := ?_) (a' := ?_) #[true, true, true, true, true, true, true, true, true, false, false, false, false, false, false, false, false] rfl rfl (za0 HT_.out (by kernel_rfl)) (fun _ _ _ h => h) (Or.inl ⟨by rfl, ?_⟩) ?_ ?_
    rotate_left
    ·
     intro w'
     go_simp
     with_reducible rfl
    rotate_left
    ·
     simp only [Act.put, List.setIfInBounds_toArray, List.set_cons_zero, List.set_cons_succ, i64_w, i32_w]
     rfl
    refine take_ (i := 9) (N := some 91) (v := ?_) (a' := ?_) #[true, true, true, true, true, true, true, true, true, true, false, false, false, false, false, false, false] rfl rfl (zbm HT_.out HW_.out (by kernel_rfl)) (fun _ _ _ h => h) (Or.inl ⟨by rfl, ?_⟩) hHeld ?_ ?_
    rotate_left
    ·
     rintro w' ⟨s0, s1, s2, s3⟩
     go_simp
     with_reducible rfl
    rotate_left
    ·
     simp only [Act.put, List.setIfInBounds_toArray, List.set_cons_zero, List.set_cons_succ, i64_w, i32_w]
     rfl
    refine take_ (i := 10) (N := some 92) (v := ?_) (a' := ?_) #[true, true, true, true, true, true, true, true, true, true, true, false, false, false, false, false, false] rfl rfl (zbm HT_.out HW_.out (by kernel_rfl)) (fun _ _ _ h => h) (Or.inl ⟨by rfl, ?_⟩) hHeld ?_ ?_
    rotate_left
    ·
     rintro w' ⟨s0, s1, s2, s3⟩
     go_simp
     with_reducible rfl
    rotate_left
    ·
     simp only [Act.put, List.setIfInBounds_toArray, List.set_cons_zero, List.set_cons_succ, i64_w, i32_w]
     rfl
    refine one_ (i := 11) (N := some 93) #[true, true, true, true, true, true, true, true, true, true, true, true, false, false, false, false, false] rfl rfl (zb4 HT_.out (by kernel_rfl)) (by decide) (fun K hK => ?_)
    refine goes_ Tryd.func22 (by kernel_rfl) rfl #[.int .i64 1] (by rfl) rfl rfl (by (try simp only [List.map_toArray, List.map_cons, List.map_nil]); first | done | rfl) ?_
    refine (t_Int1 wy1).mono ?_
    rintro e wy2 ⟨I0, p0, I1, p1, rfl, hi, hb⟩
    have HI2 := Aside0.mk hi.rt
    clear hi
    refine ⟨_, rfl, ?_⟩
    have HBy2 : Aside0 (Below wy.heap.size wy wy2) := ⟨zaa HBy1.out hb⟩
    clear hb
    refine hK.out _ _ (HSL.out _ HBy2.out) (fun hHeld => ?_)
    clear hK K
    refine norm_ (a' := ?_) ?_ ?_
    rotate_left
    ·
     show Act.put _ (some 93) _ = _
     simp only [Act.put, List.setIfInBounds_toArray, List.set_cons_zero, List.set_cons_succ, i64_w, i32_w]
     rfl
    refine one_ (i := 12) (N := some 94) #[true, true, true, true, true, true, true, true, true, true, true, true, true, false, false, false, false] rfl rfl (zb4 HT_.out (by kernel_rfl)) (by decide) (fun K hK => ?_)
    refine goes_ Tryd.func34 (by kernel_rfl) rfl #[.agg #[.slice F0 (rN low).length j0, .slice F1 (rD low).length j1], .agg #[.slice I0 _ p0, .slice I1 _ p1]] (by rfl) rfl rfl (by (try simp only [List.map_toArray, List.map_cons, List.map_nil]); first | done | rfl) ?_
    refine (t_Add (HLW.out.below HBy2.out) HI2.out HBL.out HB1.out (by omega)).mono ?_
    rintro e wy3 ⟨J0, q0, J1, q1, rfl, hj, hb⟩
    have HJ3 := Aside0.mk hj.rt
    clear hj
    refine ⟨_, rfl, ?_⟩
    have HBy3 : Aside0 (Below wy.heap.size wy wy3) := ⟨zaa HBy2.out hb⟩
    clear hb
    refine hK.out _ _ (HSL.out _ HBy3.out) (fun hHeld => ?_)
    clear hK K
    refine norm_ (a' := ?_) ?_ ?_
    rotate_left
    ·
     show Act.put _ (some 94) _ = _
     simp only [Act.put, List.setIfInBounds_toArray, List.set_cons_zero, List.set_cons_succ, i64_w, i32_w]
     rfl
    refine one_ (i := 13) (N := some 95) #[true, true, true, true, true, true, true, true, true, true, true, true, true, true, false, false, false] rfl rfl (zb4 HT_.out (by kernel_rfl)) (by decide) (fun K hK => ?_)
    refine goes_ Tryd.func35 (by kernel_rfl) rfl #[.agg #[.slice B0 (rN r).length e0, .slice B1 (rD r).length e1], .agg #[.slice J0 _ q0, .slice J1 _ q1]] (by rfl) rfl rfl (by (try simp only [List.map_toArray, List.map_cons, List.map_nil]); first | done | rfl) ?_
    refine (HC2.out _ _ _ _ _ HBy3.out HJ3.out).mono ?_
    rintro e wy4 ⟨rfl, hb⟩
    skip
    refine ⟨_, rfl, ?_⟩
    have HBy4 : Aside0 (Below wy.heap.size wy wy4) := ⟨zaa HBy3.out hb⟩
    clear hb
    refine hK.out _ _ (HSL.out _ HBy4.out) (fun hHeld => ?_)
    clear hK K
    refine norm_ (a' := ?_) ?_ ?_
    rotate_left
    ·
     show Act.put _ (some 95) _ = _
     simp only [Act.put, List.setIfInBounds_toArray, List.set_cons_zero, List.set_cons_succ, i64_w, i32_w]
     rfl
    refine pure_ (i := 14) (N := some 96) (v := ?_) (a' := ?_) #[true, true, true, true, true, true, true, true, true, true, true, true, true, true, true, false, false] rfl rfl (za0 HT_.out (by kernel_rfl)) (fun _ _ _ h => h) (Or.inl ⟨by rfl, ?_⟩) ?_ ?_
    rotate_left
    ·
     intro w'
     go_simp
     with_reducible rfl
    rotate_left
    ·
     simp only [Act.put, List.setIfInBounds_toArray, List.set_cons_zero, List.set_cons_succ, i64_w, i32_w]
     rfl
    refine pure_ (i := 15) (N := some 97) (v := ?_) (a' := ?_) #[true, true, true, true, true, true, true, true, true, true, true, true, true, true, true, true, false] rfl rfl (za0 HT_.out (by kernel_rfl)) (fun _ _ _ h => h) (Or.inl ⟨by rfl, ?_⟩) ?_ ?_
    rotate_left
    ·
     intro w'
     go_simp
     with_reducible rfl
    rotate_left
    ·
     simp only [Act.put, List.setIfInBounds_toArray, List.set_cons_zero, List.set_cons_succ, i64_w, i32_w]
     rfl
    refine pure_ (i := 16) (N := some 4) (v := ?_) (a' := ?_) #[true, true, true, true, true, true, true, true, true, true, true, true, true, true, true, true, true] rfl rfl (za0 HT_.out (by kernel_rfl)) (fun _ _ _ h => h) (Or.inl ⟨by rfl, ?_⟩) ?_ ?_
    rotate_left
    ·
     intro w'
     go_simp
     with_reducible rfl
    rotate_left
    ·
     simp only [Act.put, List.setIfInBounds_toArray, List.set_cons_zero, List.set_cons_succ, i64_w, i32_w]
     rfl
    refine done_ (done_of HT_.out (by kernel_rfl)) ?_
    go_wp2
    go_ret
    exact ⟨by first | rfl | simp, zaa HW5.out (zaa HZ3.out HBy4.out)⟩
theorem RatioBack_off {w : World} {A0 A1 A2 A3 : Option Addr} {c0 c1 c2 c3 : Nat} {a b c d l0 l1 l2 l3 m0 m1 m2 m3 : List Int} {k1 k2 : Bool} (h1 : Rt w A0 c0 a A1 c1 b) (h2 : Rt w A2 c2 c A3 c3 d) (hG : Glob w) (hm : Ev (fun k => zah.f k a b) (l0, l1, l2, l3, k1)) (hn : Ev (fun k => zah.f k c d) (m0, m1, m2, m3, k2)) (hk : (k1 && k2) = false) :
  Calls Tryd.prog 6 #[.agg #[.slice A0 a.length c0, .slice A1 b.length c1], .agg #[.slice A2 c.length c2, .slice A3 d.length c3]] w fun e w' => e = .returned (.bool true) ∧ Below w.heap.size w w' := by
 have H1 := Aside0.mk h1
 have H2 := Aside0.mk h2
 have HG := Aside0.mk hG
 have HM := Aside0.mk hm
 have HN := Aside0.mk hn
 obtain ⟨ka, hka⟩ := rawake.get
 have HKA := Aside0.mk hka
 clear h1 h2 hG hm hn hka
 go_enter Tryd.func6, Tryd.ntmps6
 go_wp2_with fail
 have hbW := za1 (za1 (Below.refl w.heap.size w) (.cells #[.slice A0 a.length c0, .slice A1 b.length c1] 24)) (.cells #[.slice A2 c.length c2, .slice A3 d.length c3] 24)
 have hfb := blk_new (w.alloc (.cells #[.slice A0 a.length c0, .slice A1 b.length c1] 24)) (.cells #[.slice A2 c.length c2, .slice A3 d.length c3] 24)
 rw [show (w.alloc (.cells #[.slice A0 a.length c0, .slice A1 b.length c1] 24)).heap.size = w.heap.size + 1 by simp] at hfb
 generalize (w.alloc (.cells #[.slice A0 a.length c0, .slice A1 b.length c1] 24)).alloc (.cells #[.slice A2 c.length c2, .slice A3 d.length c3] 24) = W2 at hbW hfb ⊢
 have HW2 := Aside0.mk hbW
 have HFB := Aside0.mk hfb
 have HR2 := Aside0.mk (H1.out.below hbW)
 clear hbW hfb
 refine (t_made_any HR2.out HM.out).mono ?_
 rintro e w3 ⟨B0, e0, B1, e1, B2, e2, B3, e3, rfl, hb3⟩
 have HW3 := Aside0.mk (za1 (za1 (zaa HW2.out hb3) (.cells #[.slice B0 l0.length e0, .slice B1 l1.length e1] 28)) (.cells #[.slice B2 l2.length e2, .slice B3 l3.length e3] 40))
 have hfb := zar (zar ((hb3.block _ (zay HFB.out)).trans HFB.out) (.cells #[.slice B0 l0.length e0, .slice B1 l1.length e1] 28)) (.cells #[.slice B2 l2.length e2, .slice B3 l3.length e3] 40)
 have p0 : ((w3.alloc (.cells #[.slice B0 l0.length e0, .slice B1 l1.length e1] 28)).alloc (.cells #[.slice B2 l2.length e2, .slice B3 l3.length e3] 40)).cell? ⟨w.heap.size + 1, 0, none⟩ = some (.slice A2 c.length c2) := (zab hfb 0).trans rfl
 have p1 : ((w3.alloc (.cells #[.slice B0 l0.length e0, .slice B1 l1.length e1] 28)).alloc (.cells #[.slice B2 l2.length e2, .slice B3 l3.length e3] 40)).cell? ⟨w.heap.size + 1, 1, none⟩ = some (.slice A3 d.length c3) := (zab hfb 1).trans rfl
 clear hb3 hfb HR2
 go_wp2_with fail
 clear p0 p1
 generalize (w3.alloc (.cells #[.slice B0 l0.length e0, .slice B1 l1.length e1] 28)).alloc (.cells #[.slice B2 l2.length e2, .slice B3 l3.length e3] 40) = W3 at HW3 ⊢
 refine (t_made_any (H2.out.below HW3.out) HN.out).mono ?_
 rintro e w4 ⟨D0, g0, D1, g1, D2, g2, D3, g3, rfl, hb4⟩
 have HW4 := Aside0.mk (za1 (za1 (zaa HW3.out hb4) (.cells #[.slice D0 m0.length g0, .slice D1 m1.length g1] 28)) (.cells #[.slice D2 m2.length g2, .slice D3 m3.length g3] 40))
 clear hb4
 go_wp2_with fail
 generalize (w4.alloc (.cells #[.slice D0 m0.length g0, .slice D1 m1.length g1] 28)).alloc (.cells #[.slice D2 m2.length g2, .slice D3 m3.length g3] 40) = W4 at HW4 ⊢
 refine (zbt.calls ka true W4 (HG.out.below HW4.out) HKA.out).mono ?_
 rintro e w5 ⟨rfl, hb5⟩
 have HW5 := Aside0.mk (zaa HW4.out hb5)
 clear hb5
 cases k1 <;> cases k2
 case true.true => exact absurd hk (by decide)
 all_goals
  clear hk
  go_wp2_with fail
  refine (zbt.calls ka true w5 (HG.out.below HW5.out) HKA.out).mono ?_
  rintro e w6 ⟨rfl, hb6⟩
  have HW6 := Aside0.mk (zaa HW5.out hb6)
  clear hb6
  go_wp2_with fail
  go_ret
  exact ⟨rfl, HW6.out⟩
theorem cRatioBack (a0 a1 a2 a3 : Option Addr) (len0 cap0 len1 cap1 len2 cap2 len3 cap3 : Nat) (z0 z1 z2 z3 : List Int) (w : World)
  (w0 : ((a0 = none ∧ len0 = 0 ∧ cap0 = 0 ∧ z0 = []) ∨ ∃ x, a0 = some x ∧ len0 ≤ cap0 ∧ cap0 ≤ maxLen ∧ z0.length = cap0 ∧ (∀ i, i < z0.length → w.cell? (x.add i) = some (.int .u64 (z0.getD i 0))) ∧ ∀ n ∈ z0, (Lit.int .u64 n).wf = true))
  (w1 : ((a1 = none ∧ len1 = 0 ∧ cap1 = 0 ∧ z1 = []) ∨ ∃ x, a1 = some x ∧ len1 ≤ cap1 ∧ cap1 ≤ maxLen ∧ z1.length = cap1 ∧ (∀ i, i < z1.length → w.cell? (x.add i) = some (.int .u64 (z1.getD i 0))) ∧ ∀ n ∈ z1, (Lit.int .u64 n).wf = true))
  (w2 : ((a2 = none ∧ len2 = 0 ∧ cap2 = 0 ∧ z2 = []) ∨ ∃ x, a2 = some x ∧ len2 ≤ cap2 ∧ cap2 ≤ maxLen ∧ z2.length = cap2 ∧ (∀ i, i < z2.length → w.cell? (x.add i) = some (.int .u64 (z2.getD i 0))) ∧ ∀ n ∈ z2, (Lit.int .u64 n).wf = true))
  (w3 : ((a3 = none ∧ len3 = 0 ∧ cap3 = 0 ∧ z3 = []) ∨ ∃ x, a3 = some x ∧ len3 ≤ cap3 ∧ cap3 ≤ maxLen ∧ z3.length = cap3 ∧ (∀ i, i < z3.length → w.cell? (x.add i) = some (.int .u64 (z3.getD i 0))) ∧ ∀ n ∈ z3, (Lit.int .u64 n).wf = true)) (hG : Glob w) :
  Calls Tryd.prog 6 #[.agg #[.slice a0 len0 cap0, .slice a1 len1 cap1], .agg #[.slice a2 len2 cap2, .slice a3 len3 cap3]] w fun e w' => e = .returned (.bool true) ∧ Below w.heap.size w w' := by
 obtain ⟨l0, rfl, hr0, hm0, hw0, hc0⟩ := ReadsInt.ofRowC w0
 obtain ⟨l1, rfl, hr1, hm1, hw1, hc1⟩ := ReadsInt.ofRowC w1
 obtain ⟨l2, rfl, hr2, hm2, hw2, hc2⟩ := ReadsInt.ofRowC w2
 obtain ⟨l3, rfl, hr3, hm3, hw3, hc3⟩ := ReadsInt.ofRowC w3
 have R1 : Rt w a0 cap0 l0 a1 cap1 l1 := ⟨hc0, Kd.C_of_reads (d := (0 : Int)) (h1 := fun _ => rfl) hr0, hc1, Kd.C_of_reads (d := (0 : Int)) (h1 := fun _ => rfl) hr1⟩
 have R2 : Rt w a2 cap2 l2 a3 cap3 l3 := ⟨hc2, Kd.C_of_reads (d := (0 : Int)) (h1 := fun _ => rfl) hr2, hc3, Kd.C_of_reads (d := (0 : Int)) (h1 := fun _ => rfl) hr3⟩
 rcases made_rat l0 l1 (dig_lit hw0) (dig_lit hw1) with hm | ⟨_, r, hr, hm⟩
 ·
  rcases made_rat l2 l3 (dig_lit hw2) (dig_lit hw3) with hn | ⟨_, s, hs, hn⟩
  ·
   exact RatioBack_off R1 R2 hG hm hn rfl
  ·
   exact RatioBack_off R1 R2 hG hm hn rfl
 ·
  rcases made_rat l2 l3 (dig_lit hw2) (dig_lit hw3) with hn | ⟨_, s, hs, hn⟩
  ·
   exact RatioBack_off R1 R2 hG hm hn rfl
  ·
   exact RatioBack_on R1 R2 hG hr hs hm hn
end Go.Proofs.YtfjkamhcabckeaaDoor.P
end
