-- Written by a program of this session (wip/tools/shake.py) out of its own texts and of the kit's printed ones; not trusted: Lean checks it.
import Derived.Test.YthiicmanfpmipaaGreatDoorZFillCaps6
set_option maxHeartbeats 8000000
set_option maxRecDepth 100000
set_option linter.unusedVariables false
set_option linter.unusedSimpArgs false
section
namespace Go.Proofs.YthiicmanfpmipaaGreatDoor.P
open Go.RowKit Go.Proofs.YthiicmanfpmipaaGreatDoorW.PrintWords Go.Proofs.YthiicmanfpmipaaGreatDoorW.PrintLast Go.Proofs.YthiicmanfpmipaaGreatDoorW.PrintMore
attribute [local go_sem] zcf zci zcu zct zb6 zb2 zch zce
def padD : Nat → Nat → List UInt8
 | 0, _ => []
 | k + 1, r => padD k (r / 10) ++ [UInt8.ofNat (48 + r % 10)]
theorem padD_length : ∀ k r, (padD k r).length = k
 | 0, _ => rfl
 | k + 1, r => by simp [padD, padD_length k]
theorem decD_app : ∀ (k q r : Nat), 0 < q → r < 10 ^ k → Lib.decDigits (q * 10 ^ k + r) = Lib.decDigits q ++ padD k r
 | 0, q, r, _, h => by
  have : r = 0 := by simpa using h
  subst this; simp [padD]
 | k + 1, q, r, h0, h => by
  have hp : 1 ≤ q * 10 ^ (k + 1) := Nat.mul_pos h0 (Nat.pow_pos (by omega))
  have hp2 : 10 ≤ q * 10 ^ (k + 1) := by rw [Nat.pow_succ, ← Nat.mul_assoc]; have := Nat.mul_pos h0 (Nat.pow_pos (n := k) (show 0 < 10 by omega)); omega
  rw [Lib.decDigits, dif_neg (by omega)]
  have e1 : (q * 10 ^ (k + 1) + r) / 10 = q * 10 ^ k + r / 10 := by
   rw [Nat.pow_succ, ← Nat.mul_assoc]; omega
  have e2 : (q * 10 ^ (k + 1) + r) % 10 = r % 10 := by
   rw [Nat.pow_succ, ← Nat.mul_assoc]; omega
  rw [e1, e2, decD_app k q (r / 10) h0 (by rw [Nat.pow_succ] at h; omega)]
  simp [padD]
theorem padD_small : ∀ (k r : Nat), 0 < k → r < 10 ^ k → padD k r = List.replicate (k - (Lib.decDigits r).length) 48 ++ Lib.decDigits r
 | 0, _, h, _ => by omega
 | k + 1, r, _, h => by
  by_cases hr : r < 10
  ·
   rw [Lib.decDigits, dif_pos hr]
   have : ∀ k, padD k 0 = List.replicate k 48 := by
    intro k
    induction k with
    | zero => rfl
    | succ k ih => simp only [padD, Nat.zero_div, ih, List.replicate_succ']; rfl
   simp [padD, Nat.div_eq_of_lt hr, this, Nat.mod_eq_of_lt hr]
  ·
   rw [Lib.decDigits, dif_neg hr, padD, padD_small k (r / 10) (by
    rcases Nat.eq_zero_or_pos k with rfl | h2
    ·
     simp at h; omega
    ·
     exact h2) (by rw [Nat.pow_succ] at h; omega)]
   simp
def decT (n : Nat) : ByteArray := ⟨(Lib.decDigits n).toArray⟩
theorem decT_list (n : Nat) : (decT n).data.toList = Lib.decDigits n := by simp [decT]
theorem decT_size (n : Nat) : (decT n).size = (Lib.decDigits n).length := by simp [decT, ByteArray.size]
theorem ba_ext {a b : ByteArray} (h : a.data.toList = b.data.toList) : a = b := by
 obtain ⟨⟨a⟩⟩ := a
 obtain ⟨⟨b⟩⟩ := b
 simp at h
 rw [h]
theorem rev_l0 (l : List ByteArray) (hl : l.length < 1000000000) : ∀ (m i : Nat) (s : List ByteArray), 2 * i + m = l.length → s.length = l.length →
  (∀ p : Nat, p < l.length → s.getD p ByteArray.empty = if p < i ∨ i + m ≤ p then l.getD (l.length - 1 - p) ByteArray.empty else l.getD p ByteArray.empty) →
  Ev (fun k => zaf.l0 k s (i : Int) ((i : Int) + (m : Int) - 1)) l.reverse := by
 intro m
 induction m using Nat.strongRecOn with
 | ind m ih =>
  intro i s hm hs h
  by_cases h2 : 2 ≤ m
  ·
   obtain ⟨j, rfl⟩ : ∃ j, m = j + 2 := ⟨m - 2, by omega⟩
   have e1 : ((i : Int) + ((j + 2 : Nat) : Int) - 1).toNat = i + j + 1 := by omega
   refine Ev.step (G := fun k => zaf.l0 k ((s.set i (s.getD (i + j + 1) ByteArray.empty)).set (i + j + 1) (s.getD i ByteArray.empty)) ((i + 1 : Nat) : Int) (((i + 1 : Nat) : Int) + (j : Int) - 1)) (fun k => ?_) (ih j (by omega) (i + 1) _ (by omega) (by simp [hs]) (fun p hp => ?_))
   ·
    rw [zaf.l0, if_pos (by omega), if_pos (by omega), if_pos (by omega), if_pos (by omega), if_pos (by omega), w64s (by omega) (by omega), w64s (by omega) (by omega)]
    simp only [rdOf, e1, Int.toNat_natCast]
    rw [show ((i : Int) + 1) = ((i + 1 : Nat) : Int) by omega, show ((i : Int) + ((j + 2 : Nat) : Int) - 1 - 1) = (((i + 1 : Nat) : Int) + (j : Int) - 1) by omega]
   ·
    have key : ((s.set i (s.getD (i + j + 1) ByteArray.empty)).set (i + j + 1) (s.getD i ByteArray.empty)).getD p ByteArray.empty = if p = i + j + 1 then s.getD i ByteArray.empty else if p = i then s.getD (i + j + 1) ByteArray.empty else s.getD p ByteArray.empty := by
     rw [List.getD_eq_getElem?_getD, List.getElem?_set]
     by_cases hp1 : i + j + 1 = p
     ·
      have hl1 : i + j + 1 < (s.set i (s.getD (i + j + 1) ByteArray.empty)).length := by
       rw [List.length_set]
       omega
      subst hp1
      rw [if_pos rfl, if_pos hl1, if_pos rfl]
      rfl
     ·
      rw [if_neg hp1, if_neg (fun h => hp1 h.symm), List.getElem?_set]
      by_cases hp2 : i = p
      ·
       subst hp2
       rw [if_pos rfl, if_pos (show i < s.length by omega), if_pos rfl]
       rfl
      ·
       rw [if_neg hp2, if_neg (fun h => hp2 h.symm), List.getD_eq_getElem?_getD]
    rw [key]
    by_cases hp1 : p = i + j + 1
    ·
     subst hp1
     rw [if_pos rfl, if_pos (by omega), h i (by omega), if_neg (by omega)]
     congr 1
     omega
    ·
     rw [if_neg hp1]
     by_cases hp2 : p = i
     ·
      subst hp2
      rw [if_pos rfl, if_pos (by omega), h _ (by omega), if_neg (by omega)]
      congr 1
      omega
     ·
      rw [if_neg hp2, h p hp]
      by_cases hp3 : p < i ∨ i + (j + 2) ≤ p
      ·
       rw [if_pos hp3, if_pos (by omega)]
      ·
       rw [if_neg hp3, if_neg (by omega)]
  ·
   refine Ev.step (G := fun _ => some s) (fun k => ?_) ?_
   ·
    rw [zaf.l0, if_neg (by omega)]
   ·
    have e : s = l.reverse := by
     apply List.ext_getElem (by simp [hs])
     intro p h1 h2'
     have hp : p < l.length := by omega
     have := h p hp
     rw [List.getD_eq_getElem?_getD, List.getElem?_eq_getElem h1] at this
     simp only [Option.getD_some] at this
     rw [this, List.getElem_reverse]
     by_cases hc : p < i ∨ i + m ≤ p
     ·
      rw [if_pos hc, List.getD_eq_getElem?_getD, List.getElem?_eq_getElem (by omega)]
      rfl
     ·
      rw [if_neg hc, List.getD_eq_getElem?_getD, List.getElem?_eq_getElem hp]
      have : l.length - 1 - p = p := by omega
      simp only [Option.getD_some, this]
    rw [e]
    exact Ev.const _
theorem sRev (l : List ByteArray) (hl : l.length < 1000000000) : Ev (fun k => zaf.f k l) l.reverse := by
 have h := rev_l0 l hl l.length 0 l (by omega) rfl (fun p hp => by rw [if_neg (by omega)])
 refine Ev.congr (fun k => ?_) h
 unfold zaf.f
 rw [w64s (by omega) (by omega)]
 simp
theorem inter_nil {α : Type} : ∀ xs : List (List α), ([] : List α).intercalate xs = xs.flatten
 | [] => rfl
 | [x] => by simp [List.intercalate]
 | x :: y :: xs => by
  have h := inter_nil (y :: xs)
  simp [List.intercalate] at h ⊢
  exact h
def catB (l : List ByteArray) : ByteArray := ⟨(l.map (·.data.toList)).flatten.toArray⟩
theorem sJoin0 (l : List ByteArray) (h1 : l.length ≤ 140737488355328) (h2 : (l.map (·.data.toList)).flatten.length ≤ 140737488355328) : strings_Join.f l (⟨#[]⟩ : ByteArray) = some (catB l) := by
 unfold strings_Join.f
 have e : Lib.join (l.map (·.data.toList)) (⟨#[]⟩ : ByteArray).data.toList = (l.map (·.data.toList)).flatten := inter_nil _
 rw [if_pos h1, e, if_pos h2]
 rfl
theorem repL (b : UInt8) : ∀ n, Lib.repeatL [b] n = List.replicate n b
 | 0 => rfl
 | n + 1 => by rw [Lib.repeatL, repL b n, List.replicate_succ]; rfl
theorem shortP_val (d : Nat) (hd : 0 < d) : ∀ (l : List Int), Dig 18446744073709551616 l → ∃ (r : Nat), (shortP d l.reverse 0).2 = (r : Int) ∧ r < d ∧ Dig 18446744073709551616 (shortP d l.reverse 0).1 ∧ val 18446744073709551616 (shortP d l.reverse 0).1 * d + r = val 18446744073709551616 l
 | [], _ => ⟨0, rfl, hd, by intro x hx; simp [shortP] at hx, by simp [shortP, val]⟩
 | x :: l, h => by
  obtain ⟨⟨hx0, hx1⟩, hl⟩ := h.cons
  obtain ⟨r, e, hr, hD, hv⟩ := shortP_val d hd l hl
  obtain ⟨x, rfl⟩ := Int.eq_ofNat_of_zero_le hx0
  have ex : ((r : Int) * 18446744073709551616 + (x : Int)) = ((r * 18446744073709551616 + x : Nat) : Int) := by omega
  have q1 : ((r * 18446744073709551616 + x : Nat) : Int) / (d : Int) = (((r * 18446744073709551616 + x) / d : Nat) : Int) := (Int.natCast_ediv _ _).symm
  have q2 : ((r * 18446744073709551616 + x : Nat) : Int) % (d : Int) = (((r * 18446744073709551616 + x) % d : Nat) : Int) := (Int.natCast_emod _ _).symm
  rw [List.reverse_cons, shortP_snoc, e, ex, q1, q2]
  have hq : (r * 18446744073709551616 + x) / d < 18446744073709551616 := by
   rw [Nat.div_lt_iff_lt_mul hd]
   have : (r + 1) * 18446744073709551616 ≤ d * 18446744073709551616 := Nat.mul_le_mul_right _ hr
   omega
  have hdm := Nat.div_add_mod (r * 18446744073709551616 + x) d
  refine ⟨(r * 18446744073709551616 + x) % d, rfl, Nat.mod_lt _ hd, Dig.mk (Int.natCast_nonneg _) (Int.ofNat_lt.2 hq) hD, ?_⟩
  simp only [val]
  rw [Int.toNat_natCast]
  generalize (r * 18446744073709551616 + x) / d = q at *
  generalize (r * 18446744073709551616 + x) % d = m at *
  generalize val 18446744073709551616 (shortP (↑d) l.reverse 0).fst = v at *
  rw [Int.toNat_natCast, ← hv, Nat.add_mul, Nat.mul_add, Nat.mul_assoc, Nat.mul_comm q d]
  omega
theorem nShort (x d : Nat) (hd : 0 < d) (hd1 : d < 18446744073709551616) (hx : Le x 100000) : Ev (fun k => zcn.f k (dig 18446744073709551616 x) (d : Int)) (dig 18446744073709551616 (x / d), ((x % d : Nat) : Int)) := by
 have hD := zc7 (B := 18446744073709551616) (by decide) x
 obtain ⟨r, e, hr, hDo, hv⟩ := shortP_val d hd _ hD
 rw [zcx (by decide)] at hv
 have e1 : val 18446744073709551616 (shortP d (dig 18446744073709551616 x).reverse 0).1 = x / d := by
  generalize val 18446744073709551616 (shortP d (dig 18446744073709551616 x).reverse 0).1 = q at hv
  subst hv
  rw [Nat.mul_comm, Nat.mul_add_div hd, Nat.div_eq_of_lt hr]
  rfl
 have e2 : r = x % d := by
  generalize val 18446744073709551616 (shortP d (dig 18446744073709551616 x).reverse 0).1 = q at hv
  subst hv
  rw [Nat.mul_comm, Nat.mul_add_mod, Nat.mod_eq_of_lt hr]
 have hlen : (shortP d (dig 18446744073709551616 x).reverse 0).1.length = (dig 18446744073709551616 x).length := by rw [shortP_length, List.length_reverse]
 unfold Le at hx
 have ht := ntrim _ (by rw [hlen]; omega) hDo
 rw [e1] at ht
 have hl : limbs64 (dig 18446744073709551616 x) = true := List.all_eq_true.2 fun y hy => by
  have := hD y hy
  simp
  omega
 refine Ev.congr (G := fun k => (zbl.f k (shortP d (dig 18446744073709551616 x).reverse 0).1).bind fun t => some (t, ((x % d : Nat) : Int))) (fun k => ?_) (Ev.bind ht (Ev.const _))
 unfold zcn.f
 rw [if_pos ⟨by omega, by omega, hl, by omega⟩, e, e2]
theorem decD_len18 (x : Nat) (h : x / 1000000000000000000 ≠ 0) : (Lib.decDigits x).length = (Lib.decDigits (x / 1000000000000000000)).length + 18 := by
 have := decD_app 18 (x / 1000000000000000000) (x % 1000000000000000000) (by omega) (Nat.mod_lt _ (by decide))
 rw [show x / 1000000000000000000 * 10 ^ 18 + x % 1000000000000000000 = x by omega] at this
 rw [this, List.length_append, padD_length]
theorem nText_l0 : ∀ (x : Nat) (ps : List ByteArray), Le x 100000 → (∀ p ∈ ps, p.size = 18) → (Lib.decDigits x).length + 18 * ps.length ≤ 100000000 →
  Ev (fun k => zcg.l0 k (dig 18446744073709551616 x) ps) ⟨(Lib.decDigits x ++ (ps.reverse.map (·.data.toList)).flatten).toArray⟩ := by
 intro x
 induction x using Nat.strongRecOn with
 | ind x ih =>
  intro ps hx hp hb
  have hs := nShort x 1000000000000000000 (by decide) (by decide) hx
  have hf : zbv.f ((x % 1000000000000000000 : Nat) : Int) 10 = some (decT (x % 1000000000000000000)) := by
   unfold zbv.f
   rw [if_pos rfl, if_pos (by omega), if_pos (by omega)]
   rfl
  have hcount : ∀ qs : List ByteArray, (∀ p ∈ qs, p.size = 18) → (qs.map (·.data.toList)).flatten.length = 18 * qs.length := by
   intro qs
   induction qs with
   | nil => intro _; rfl
   | cons q qs ih2 =>
    intro h
    have h1 := h q (by simp)
    have h2 := ih2 fun p hp => h p (by simp [hp])
    have h3 : q.data.size = 18 := h1
    simp only [List.map_cons, List.flatten_cons, List.length_append, h2, List.length_cons, Array.length_toList]
    omega
  by_cases hq : x / 1000000000000000000 = 0
  ·
   have hxs : x % 1000000000000000000 = x := by omega
   refine Ev.step (fun k => zcg.l0.eq_2 ..) (Ev.bind hs (Ev.plain hf ?_))
   rw [hxs, hq, zcv]
   refine Ev.pos (by simp) (Ev.pos (by omega) ?_)
   refine Ev.bind (sRev _ (by simp; omega)) ?_
   have hc := hcount ps.reverse (fun p h => hp p (by simpa using h))
   have ej := sJoin0 (ps ++ [decT x]).reverse (by simp; omega) (by
    rw [List.reverse_append]
    simp only [List.reverse_cons, List.reverse_nil, List.nil_append, List.singleton_append, List.map_cons, List.flatten_cons, List.length_append, hc, decT_list, List.length_reverse]
    omega)
   refine Ev.plain ej ?_
   have e : catB (ps ++ [decT x]).reverse = ⟨(Lib.decDigits x ++ (ps.reverse.map (·.data.toList)).flatten).toArray⟩ := by
    unfold catB
    rw [List.reverse_append]
    simp [decT]
   rw [e]
   exact Ev.const _
  ·
   have hl18 := decD_len18 x hq
   have hlen : (Lib.decDigits (x % 1000000000000000000)).length ≤ 18 ∧ 1 ≤ (Lib.decDigits (x % 1000000000000000000)).length := by
    have h1 := padD_small 18 (x % 1000000000000000000) (by decide) (Nat.mod_lt _ (by decide))
    have h2 := congrArg List.length h1
    rw [padD_length, List.length_append, List.length_replicate] at h2
    have := Lib.nDigits_pos (x % 1000000000000000000)
    rw [Lib.decDigits_length] at h2 ⊢
    omega
   have hd1 := dig_ne (B := 18446744073709551616) (by decide) hq
   have hd2 : 0 < (dig 18446744073709551616 (x / 1000000000000000000)).length := List.length_pos_iff.2 hd1
   have hw : wrap64 (18 - ((decT (x % 1000000000000000000)).size : Int)) = ((18 - (Lib.decDigits (x % 1000000000000000000)).length : Nat) : Int) := by
    rw [decT_size, w64s (by omega) (by omega)]
    omega
   have hr : strings_Repeat.f (⟨#[48]⟩ : ByteArray) (wrap64 (18 - ((decT (x % 1000000000000000000)).size : Int))) = some ⟨(List.replicate (18 - (Lib.decDigits (x % 1000000000000000000)).length) 48).toArray⟩ := by
    rw [hw]
    unfold strings_Repeat.f
    rw [if_pos (by omega), if_pos (by omega), Int.toNat_natCast, if_pos (by show 1 * _ ≤ _; omega)]
    rw [show (⟨#[48]⟩ : ByteArray).data.toList = [48] from rfl, repL]
   have hpart : ((⟨(List.replicate (18 - (Lib.decDigits (x % 1000000000000000000)).length) 48).toArray⟩ : ByteArray) ++ decT (x % 1000000000000000000)) = ⟨(padD 18 (x % 1000000000000000000)).toArray⟩ := by
    rw [padD_small 18 _ (by decide) (Nat.mod_lt _ (by decide))]
    apply ba_ext
    simp [decT]
   have hih := ih (x / 1000000000000000000) (by omega) (ps ++ [(⟨(padD 18 (x % 1000000000000000000)).toArray⟩ : ByteArray)]) (Nat.le_trans (dig_mono (by decide) (Nat.div_le_self _ _)) hx) (fun p h => by
    rcases List.mem_append.1 h with h | h
    ·
     exact hp p h
    ·
     simp at h
     subst h
     simp [ByteArray.size, padD_length]) (by simp only [List.length_append, List.length_singleton]; omega)
   refine Ev.step (fun k => zcg.l0.eq_2 ..) (Ev.bind hs (Ev.plain hf (Ev.neg (by simp only; omega) ?_)))
   refine Ev.plain hr ?_
   refine Ev.pos (by rw [decT_size]; simp [ByteArray.size]; omega) (Ev.pos (by omega) ?_)
   rw [hpart]
   have e : (Lib.decDigits (x / 1000000000000000000) ++ ((ps ++ [(⟨(padD 18 (x % 1000000000000000000)).toArray⟩ : ByteArray)]).reverse.map (·.data.toList)).flatten) = Lib.decDigits x ++ (ps.reverse.map (·.data.toList)).flatten := by
    have := decD_app 18 (x / 1000000000000000000) (x % 1000000000000000000) (by omega) (Nat.mod_lt _ (by decide))
    rw [show x / 1000000000000000000 * 10 ^ 18 + x % 1000000000000000000 = x by omega] at this
    rw [this]
    simp
   rw [e] at hih
   exact hih
theorem dec_lt {x m : Nat} (hx : x < 18446744073709551616 ^ m) : (Lib.decDigits x).length ≤ 20 * m + 1 := by
 rw [Lib.decDigits_length]
 rcases Nat.lt_or_ge (20 * m + 1) (Lib.nDigits x) with h | h
 ·
  have h1 : 10 ^ (Lib.nDigits x - 1) ≤ x := by
   have hn := Lib.nDigits_pos x
   rcases Nat.lt_or_ge x (10 ^ (Lib.nDigits x - 1)) with h2 | h2
   ·
    exfalso
    have : ∀ (k : Nat) (u : Nat), u < 10 ^ k → Lib.nDigits u ≤ max 1 k := by
     intro k
     induction k with
     | zero =>
      intro u hu
      have : u = 0 := by simpa using hu
      subst this
      rw [Lib.nDigits_small (by decide)]
      omega
     | succ k ih =>
      intro u hu
      by_cases hu2 : u < 10
      ·
       rw [Lib.nDigits_small hu2]; omega
      ·
       rw [Lib.nDigits_big hu2]
       have := ih (u / 10) (by rw [Nat.pow_succ] at hu; omega)
       have hk : k ≠ 0 := by rintro rfl; simp at hu; omega
       omega
    have := this _ _ h2
    omega
   ·
    exact h2
  have h2 : 18446744073709551616 ^ m ≤ 10 ^ (20 * m) := by
   rw [Nat.pow_mul]
   exact Nat.pow_le_pow_left (by decide) m
  have h3 : 10 ^ (20 * m) ≤ 10 ^ (Lib.nDigits x - 1) := Nat.pow_le_pow_right (by decide) (by omega)
  omega
 ·
  exact h
theorem nText {x m : Nat} (hx : x < 18446744073709551616 ^ m) (hm : m ≤ 100000) : Ev (fun k => zcg.f k (dig 18446744073709551616 x)) (decT x) := by
 have h := nText_l0 x [] (Le_lt hx hm) (by simp) (by have := dec_lt hx; simp; omega)
 simp only [List.reverse_nil, List.map_nil, List.flatten_nil, List.append_nil] at h
 exact h
theorem gcdLt {x y M : Nat} (hx : x < M) (hy : y < M) : Nat.gcd x y < M := by
 by_cases h : x = 0
 ·
  subst h
  rw [Nat.gcd_zero_left]
  exact hy
 ·
  exact Nat.lt_of_le_of_lt (Nat.gcd_le_left y (by omega)) hx
theorem gcdPos {x y : Nat} (hy : 0 < y) : 0 < Nat.gcd x y := Nat.gcd_pos_of_pos_right x hy
theorem divLt {x y M : Nat} (hx : x < M) : x / y < M := Nat.lt_of_le_of_lt (Nat.div_le_self _ _) hx
theorem ne_len {B n : Nat} (hB : 1 < B) (h : 0 < n) : 0 < (dig B n).length := List.length_pos_iff.2 (dig_ne hB (by omega))
theorem nOne : Ev (fun k => zcs.f k) (dig 18446744073709551616 1) := Ev.bind (F := fun k => zdd.f k 1) (nOf 1 (by omega)) (Ev.const _)
theorem nLowest {x y m : Nat} (hy : 0 < y) (hx : x < 18446744073709551616 ^ m) (hyl : y < 18446744073709551616 ^ m) (hm : m ≤ 100000) : Ev (fun k => zcc.f k (dig 18446744073709551616 x) (dig 18446744073709551616 y)) (dig 18446744073709551616 (x / Nat.gcd x y), dig 18446744073709551616 (y / Nat.gcd x y)) := by
 have hg := gcdLt hx hyl
 exact Ev.bind (nGcd x y (Le_lt hx hm) (Le_lt hyl hm)) (Ev.bind (nDivMod x _ (gcdPos hy) (Le_lt hx hm) (Le_lt hg hm)) (Ev.bind (nDivMod y _ (gcdPos hy) (Le_lt hyl hm) (Le_lt hg hm)) (Ev.const _)))
theorem nRof {x y m : Nat} (hy : 0 < y) (hx : x < 18446744073709551616 ^ m) (hyl : y < 18446744073709551616 ^ m) (hm : m ≤ 100000) : Ev (fun k => zdi.f k (dig 18446744073709551616 x) (dig 18446744073709551616 y)) (dig 18446744073709551616 (x / Nat.gcd x y), dig 18446744073709551616 (y / Nat.gcd x y), 0) := by
 have := ne_len (B := 18446744073709551616) (by decide) hy
 exact Ev.neg (by omega) (Ev.bind (nLowest hy hx hyl hm) (Ev.const _))
theorem sgn_zero {x y : Nat} : sgn x y = 0 ↔ x = y := by
 unfold sgn
 constructor
 ·
  intro h
  by_cases e : x = y
  ·
   exact e
  ·
   rw [if_neg e] at h
   split at h <;> simp at h
 ·
  intro h
  rw [if_pos h]
def rT (x y : Nat) : ByteArray := if y = 1 then decT x else ⟨(Lib.decDigits x ++ 47 :: Lib.decDigits y).toArray⟩
theorem cat3 (a b : ByteArray) (x y : Nat) (ha : a = decT x) (hb : b = decT y) : (a ++ (⟨#[47]⟩ : ByteArray)) ++ b = ⟨(Lib.decDigits x ++ 47 :: Lib.decDigits y).toArray⟩ := by
 subst ha hb
 apply ba_ext
 simp [decT]
theorem cat_size (a : ByteArray) : (a ++ (⟨#[47]⟩ : ByteArray)).size = a.size + 1 := by
 rw [ByteArray.size_append]
 rfl
theorem nRtext {x y m : Nat} (hx : x < 18446744073709551616 ^ m) (hy : y < 18446744073709551616 ^ m) (hm : m ≤ 100000) : Ev (fun k => za0.f k (dig 18446744073709551616 x) (dig 18446744073709551616 y)) (rT x y) := by
 have h1 := dec_lt hx
 have h2 := dec_lt hy
 have s1 := decT_size x
 have s2 := decT_size y
 refine Ev.bind (F := fun k => zcs.f k) nOne (Ev.plain (nCmp y 1) ?_)
 by_cases e : y = 1
 ·
  subst e
  refine Ev.pos (sgn_zero.2 rfl) (Ev.bind (nText hx hm) ?_)
  rw [rT, if_pos rfl]
  exact Ev.const _
 ·
  refine Ev.neg (fun h => e (sgn_zero.1 h)) (Ev.bind (nText hx hm) (Ev.pos (by omega) (Ev.bind (nText hy hm) (Ev.pos (by rw [cat_size]; omega) ?_))))
  rw [rT, if_neg e, cat3 _ _ x y rfl rfl]
  exact Ev.const _
theorem nRGood {x y m : Nat} (hx : x < 18446744073709551616 ^ m) (hy : y < 18446744073709551616 ^ m) (hm : m ≤ 100000) (hpos : 0 < y) : Ev (fun k => zc6.f k (dig 18446744073709551616 x) (dig 18446744073709551616 y)) (decide (Nat.gcd x y = 1)) := by
 have hl := ne_len (B := 18446744073709551616) (by decide) hpos
 have l1 : (dig 18446744073709551616 x).length ≤ m := dig_length (by decide) m x hx
 have l2 : (dig 18446744073709551616 y).length ≤ m := dig_length (by decide) m y hy
 have g1 := nGood (dig 18446744073709551616 x) (by omega)
 have g2 := nGood (dig 18446744073709551616 y) (by omega)
 rw [goodB_dig] at g1 g2
 refine Ev.plain g1 (Ev.pos rfl (Ev.plain g2 (Ev.pos rfl (Ev.pos (by omega) (Ev.bind (nGcd x y (Le_lt hx hm) (Le_lt hy hm)) (Ev.bind nOne (Ev.plain (nCmp _ 1) ?_)))))))
 have : (sgn (Nat.gcd x y) 1 == 0) = decide (Nat.gcd x y = 1) := by
  by_cases e : Nat.gcd x y = 1
  ·
   rw [decide_eq_true e, beq_iff_eq, sgn_zero]
   exact e
  ·
   rw [decide_eq_false e, beq_eq_false_iff_ne]
   intro h
   exact e (sgn_zero.1 h)
 rw [this]
 exact Ev.const _
theorem mx0 (n : Int) : mx n 0 = ((n.toNat : Nat) : Int) := by
 unfold mx
 omega
theorem nRint (n : Int) (h : n < 9223372036854775808) : Ev (fun k => zb9.f k n) (dig 18446744073709551616 n.toNat, dig 18446744073709551616 1) := by
 have h1 : IntKind.u64.wrap (mx n 0) = ((n.toNat : Nat) : Int) := by rw [mx0, u64s (by omega) (by omega)]
 have h2 : Ev (fun k => zdd.f k (IntKind.u64.wrap (mx n 0))) (dig 18446744073709551616 n.toNat) := by
  rw [h1]
  exact nOf _ (by omega)
 exact Ev.bind h2 (Ev.bind nOne (Ev.const _))
theorem rDivW {x y m : Nat} (hy : 0 < y) (hx : x < 18446744073709551616 ^ m) (hyl : y < 18446744073709551616 ^ m) (hm : m ≤ 5000) : Ev (fun k => zan.f k (dig 10000 x) (dig 10000 y)) (dig 10000 (x / y), dig 10000 (x % y)) :=
 rDiv x y hy (Nat.le_trans (Lo5 hx) (by omega)) (Lo_lt hyl (by omega)) (fun n hn => Lo_lt (m := m + 1) (Nat.lt_of_lt_of_le hn (by
  rw [Nat.pow_succ]
  exact Nat.mul_le_mul (Nat.le_of_lt hyl) (by omega))) (by omega))
theorem rGcdW {x y m : Nat} (hx : x < 18446744073709551616 ^ m) (hyl : y < 18446744073709551616 ^ m) (hm : m ≤ 5000) : Ev (fun k => zbg.f k (dig 10000 x) (dig 10000 y)) (dig 10000 (Nat.gcd x y)) :=
 rGcd_l0 (18446744073709551616 ^ m) (fun n hn => Nat.le_trans (Lo5 (m := m + 1) (Nat.lt_of_lt_of_le hn (by
  rw [Nat.pow_succ]
  exact Nat.mul_le_mul (Nat.le_refl _) (by omega)))) (by omega)) y x (Nat.le_of_lt hx) (Nat.le_of_lt hyl)
theorem rRof {x y m : Nat} (hy : 0 < y) (hx : x < 18446744073709551616 ^ m) (hyl : y < 18446744073709551616 ^ m) (hm : m ≤ 5000) : Ev (fun k => zcj.f k (dig 10000 x) (dig 10000 y)) (dig 10000 (x / Nat.gcd x y), dig 10000 (y / Nat.gcd x y)) := by
 have hg := gcdLt hx hyl
 exact Ev.bind (rGcdW hx hyl hm) (Ev.bind (rDivW (gcdPos hy) hx hg hm) (Ev.bind (rDivW (gcdPos hy) hyl hg hm) (Ev.const _)))
theorem low_rat {x y : Nat} (hy : 0 < y) : x / Nat.gcd x y = (mkRat (x : Int) y).num.toNat ∧ y / Nat.gcd x y = (mkRat (x : Int) y).den := by
 rw [Rat.num_mkRat, Rat.den_mkRat, if_neg (by omega), if_neg (by omega), Int.natAbs_natCast, Nat.gcd_comm y x]
 refine ⟨?_, rfl⟩
 rw [← Int.natCast_ediv, Int.toNat_natCast]
def Bd (r : Rat) (m : Nat) : Prop := 0 ≤ r ∧ r.num.toNat < 18446744073709551616 ^ m ∧ r.den < 18446744073709551616 ^ m
theorem Bd.le {r : Rat} {m n : Nat} (h : Bd r m) (hn : m ≤ n) : Bd r n := ⟨h.1, W_le h.2.1 hn, W_le h.2.2 hn⟩
theorem mkRat_nonneg (x y : Nat) : 0 ≤ mkRat (x : Int) y := by
 rw [← Rat.num_nonneg, Rat.num_mkRat]
 split
 ·
  exact Int.le_refl _
 ·
  exact Int.ediv_nonneg (Int.natCast_nonneg _) (Int.natCast_nonneg _)
theorem Bd.mk {x y m : Nat} (hy : 0 < y) (hx : x < 18446744073709551616 ^ m) (hyl : y < 18446744073709551616 ^ m) : Bd (mkRat (x : Int) y) m := by
 obtain ⟨h1, h2⟩ := low_rat (x := x) hy
 refine ⟨mkRat_nonneg x y, ?_, ?_⟩
 ·
  rw [← h1]
  exact divLt hx
 ·
  rw [← h2]
  exact divLt hyl
theorem nnum {r : Rat} (h : 0 ≤ r) : ((r.num.toNat : Nat) : Int) = r.num := Int.toNat_of_nonneg (Rat.num_nonneg.2 h)
theorem mul_rat {r s : Rat} (hr : 0 ≤ r) (hs : 0 ≤ s) : mkRat ((r.num.toNat * s.num.toNat : Nat) : Int) (r.den * s.den) = r * s := by
 rw [Rat.mul_def', Int.natCast_mul, nnum hr, nnum hs]
theorem add_rat {r s : Rat} (hr : 0 ≤ r) (hs : 0 ≤ s) : mkRat ((r.num.toNat * s.den + s.num.toNat * r.den : Nat) : Int) (r.den * s.den) = r + s := by
 rw [Rat.add_def', Int.natCast_add, Int.natCast_mul, Int.natCast_mul, nnum hr, nnum hs]
theorem le_rat {r s : Rat} (hr : 0 ≤ r) (hs : 0 ≤ s) : s.num.toNat * r.den ≤ r.num.toNat * s.den ↔ s ≤ r := by
 rw [Rat.le_iff, ← nnum hr, ← nnum hs, ← Int.natCast_mul, ← Int.natCast_mul, Int.ofNat_le, Int.toNat_natCast, Int.toNat_natCast]
theorem lt_rat {r s : Rat} (hr : 0 ≤ r) (hs : 0 ≤ s) : r.num.toNat * s.den < s.num.toNat * r.den ↔ r < s := by
 rw [Rat.lt_iff, ← nnum hr, ← nnum hs, ← Int.natCast_mul, ← Int.natCast_mul, Int.ofNat_lt, Int.toNat_natCast, Int.toNat_natCast]
theorem eq_rat {r s : Rat} (hr : 0 ≤ r) (hs : 0 ≤ s) : r.num.toNat * s.den = s.num.toNat * r.den ↔ r = s := by
 rw [Rat.eq_iff_mul_eq_mul, ← nnum hr, ← nnum hs, ← Int.natCast_mul, ← Int.natCast_mul, Int.ofNat_inj, Int.toNat_natCast, Int.toNat_natCast]
theorem sub_rat {r s : Rat} (hr : 0 ≤ r) (hs : 0 ≤ s) (h : s ≤ r) : mkRat ((r.num.toNat * s.den - s.num.toNat * r.den : Nat) : Int) (r.den * s.den) = r - s := by
 rw [Rat.sub_def', Int.ofNat_sub ((le_rat hr hs).2 h), Int.natCast_mul, Int.natCast_mul, nnum hr, nnum hs]
theorem rat_frac (r : Rat) : r * (r.den : Rat) = (r.num : Rat) := by
 have h : (r.den : Rat) ≠ 0 := by
  intro h
  have := congrArg Rat.num h
  simp at this
  exact r.den_nz this
 have e := Rat.mkRat_self r
 rw [Rat.mkRat_eq_div] at e
 have e2 : r * (r.den : Rat) = ((r.num : Rat) / (r.den : Rat)) * (r.den : Rat) := by rw [e]
 rw [e2, Rat.div_mul_cancel h]
theorem den_ne (r : Rat) : (r.den : Rat) ≠ 0 := by
 intro h
 have := congrArg Rat.num h
 simp at this
 exact r.den_nz this
theorem div_rat {r s : Rat} (hr : 0 ≤ r) (hs : 0 < s) : mkRat ((r.num.toNat * s.den : Nat) : Int) (r.den * s.num.toNat) = r / s := by
 have hs' : 0 ≤ s := Rat.le_of_lt hs
 have e1 := rat_frac r
 have e2 := rat_frac s
 have n1 := den_ne r
 have n2 := den_ne s
 have n3 : s ≠ 0 := Rat.ne_of_gt hs
 have c1 : ((r.num.toNat : Nat) : Rat) = (r.num : Rat) := by rw [← Rat.intCast_natCast, nnum hr]
 have c2 : ((s.num.toNat : Nat) : Rat) = (s.num : Rat) := by rw [← Rat.intCast_natCast, nnum hs']
 rw [Rat.mkRat_eq_div, Rat.intCast_natCast, Rat.natCast_mul, Rat.natCast_mul, c1, c2, ← e1, ← e2]
 generalize (r.den : Rat) = a at n1
 generalize (s.den : Rat) = b at n2
 grind
def cmpR (r s : Rat) : Int := if r = s then 0 else if r < s then -1 else 1
theorem sgn_rat {r s : Rat} (hr : 0 ≤ r) (hs : 0 ≤ s) : sgn (r.num.toNat * s.den) (s.num.toNat * r.den) = cmpR r s := by
 unfold sgn cmpR
 by_cases h1 : r = s
 ·
  rw [if_pos ((eq_rat hr hs).2 h1), if_pos h1]
 ·
  rw [if_neg (fun h => h1 ((eq_rat hr hs).1 h)), if_neg h1]
  by_cases h2 : r < s
  ·
   rw [if_pos ((lt_rat hr hs).2 h2), if_pos h2]
  ·
   rw [if_neg (fun h => h2 ((lt_rat hr hs).1 h)), if_neg h2]
theorem Bd.mul {r s : Rat} {m n : Nat} (hr : Bd r m) (hs : Bd s n) : Bd (r * s) (m + n) := by
 have := Bd.mk (x := r.num.toNat * s.num.toNat) (y := r.den * s.den) (m := m + n) (Nat.mul_pos r.den_pos s.den_pos) (W_mul hr.2.1 hs.2.1) (W_mul hr.2.2 hs.2.2)
 rw [mul_rat hr.1 hs.1] at this
 exact this
theorem Bd.add {r s : Rat} {m n : Nat} (hr : Bd r m) (hs : Bd s n) : Bd (r + s) (m + n + 1) := by
 have h1 := W_mul hr.2.1 hs.2.2
 have h2 := W_mul hs.2.1 hr.2.2
 rw [Nat.add_comm n m] at h2
 have := Bd.mk (x := r.num.toNat * s.den + s.num.toNat * r.den) (y := r.den * s.den) (m := m + n + 1) (Nat.mul_pos r.den_pos s.den_pos) (W_add h1 h2) (W_le (W_mul hr.2.2 hs.2.2) (by omega))
 rw [add_rat hr.1 hs.1] at this
 exact this
theorem Bd.sub {r s : Rat} {m n : Nat} (hr : Bd r m) (hs : Bd s n) (h : s ≤ r) : Bd (r - s) (m + n) := by
 have h1 := W_mul hr.2.1 hs.2.2
 have := Bd.mk (x := r.num.toNat * s.den - s.num.toNat * r.den) (y := r.den * s.den) (m := m + n) (Nat.mul_pos r.den_pos s.den_pos) (Nat.lt_of_le_of_lt (Nat.sub_le _ _) h1) (W_mul hr.2.2 hs.2.2)
 rw [sub_rat hr.1 hs.1 h] at this
 exact this
theorem num_pos {s : Rat} (h : 0 < s) : 0 < s.num.toNat := by
 have h1 := nnum (Rat.le_of_lt h)
 have h2 : s.num ≠ 0 := fun e => Rat.ne_of_gt h (Rat.num_eq_zero.1 e)
 have h3 := Rat.num_nonneg.2 (Rat.le_of_lt h)
 omega
theorem Bd.div {r s : Rat} {m n : Nat} (hr : Bd r m) (hs : Bd s n) (h : 0 < s) : Bd (r / s) (m + n) := by
 have := Bd.mk (x := r.num.toNat * s.den) (y := r.den * s.num.toNat) (m := m + n) (Nat.mul_pos r.den_pos (num_pos h)) (W_mul hr.2.1 hs.2.2) (W_mul hr.2.2 hs.2.1)
 rw [div_rat hr.1 h] at this
 exact this
theorem rat_gcd (r : Rat) (h : 0 ≤ r) : Nat.gcd r.num.toNat r.den = 1 := by
 have := r.reduced
 have e : r.num.natAbs = r.num.toNat := by
  have := Rat.num_nonneg.2 h
  omega
 rw [e] at this
 exact this
theorem qOf {x y m : Nat} (hy : 0 < y) (hx : x < 18446744073709551616 ^ m) (hyl : y < 18446744073709551616 ^ m) (hm : m ≤ 100000) : Ev (fun k => zdi.f k (dig 18446744073709551616 x) (dig 18446744073709551616 y)) (dig 18446744073709551616 (mkRat (x : Int) y).num.toNat, dig 18446744073709551616 (mkRat (x : Int) y).den, 0) := by
 obtain ⟨h1, h2⟩ := low_rat (x := x) hy
 have := nRof hy hx hyl hm
 rw [h1, h2] at this
 exact this
theorem qLow {x y m : Nat} (hy : 0 < y) (hx : x < 18446744073709551616 ^ m) (hyl : y < 18446744073709551616 ^ m) (hm : m ≤ 100000) : Ev (fun k => zcc.f k (dig 18446744073709551616 x) (dig 18446744073709551616 y)) (dig 18446744073709551616 (mkRat (x : Int) y).num.toNat, dig 18446744073709551616 (mkRat (x : Int) y).den) := by
 obtain ⟨h1, h2⟩ := low_rat (x := x) hy
 have := nLowest hy hx hyl hm
 rw [h1, h2] at this
 exact this
theorem qMul {r s : Rat} {m n : Nat} (hr : Bd r m) (hs : Bd s n) (h : m + n ≤ 100000) : Ev (fun k => zco.f k (dig 18446744073709551616 r.num.toNat) (dig 18446744073709551616 r.den) (dig 18446744073709551616 s.num.toNat) (dig 18446744073709551616 s.den)) (dig 18446744073709551616 (r * s).num.toNat, dig 18446744073709551616 (r * s).den) := by
 have := qLow (x := r.num.toNat * s.num.toNat) (y := r.den * s.den) (Nat.mul_pos r.den_pos s.den_pos) (W_mul hr.2.1 hs.2.1) (W_mul hr.2.2 hs.2.2) h
 rw [mul_rat hr.1 hs.1] at this
 exact Ev.bind (nMul _ _ (Le_lt hr.2.1 (by omega)) (Le_lt hs.2.1 (by omega))) (Ev.bind (nMul _ _ (Le_lt hr.2.2 (by omega)) (Le_lt hs.2.2 (by omega))) (Ev.bind this (Ev.const _)))
theorem qCross {r s : Rat} {m n : Nat} (hr : Bd r m) (hs : Bd s n) (h : m + n ≤ 90000) : Ev (fun k => zbn.f k (dig 18446744073709551616 r.num.toNat) (dig 18446744073709551616 r.den) (dig 18446744073709551616 s.num.toNat) (dig 18446744073709551616 s.den)) (dig 18446744073709551616 (r.num.toNat * s.den), dig 18446744073709551616 (s.num.toNat * r.den), dig 18446744073709551616 (r.den * s.den)) :=
 Ev.bind (nMul _ _ (Le_lt hr.2.1 (by omega)) (Le_lt hs.2.2 (by omega))) (Ev.bind (nMul _ _ (Le_lt hs.2.1 (by omega)) (Le_lt hr.2.2 (by omega))) (Ev.bind (nMul _ _ (Le_lt hr.2.2 (by omega)) (Le_lt hs.2.2 (by omega))) (Ev.const _)))
theorem qSub {r s : Rat} {m n : Nat} (hr : Bd r m) (hs : Bd s n) (h : m + n ≤ 90000) (hle : s ≤ r) : Ev (fun k => ratio_Sub.f k (dig 18446744073709551616 r.num.toNat) (dig 18446744073709551616 r.den) (dig 18446744073709551616 s.num.toNat) (dig 18446744073709551616 s.den)) (dig 18446744073709551616 (r - s).num.toNat, dig 18446744073709551616 (r - s).den, 0) := by
 have h1 := W_mul hr.2.1 hs.2.2
 have := qLow (x := r.num.toNat * s.den - s.num.toNat * r.den) (y := r.den * s.den) (m := m + n) (Nat.mul_pos r.den_pos s.den_pos) (Nat.lt_of_le_of_lt (Nat.sub_le _ _) h1) (W_mul hr.2.2 hs.2.2) (by omega)
 rw [sub_rat hr.1 hs.1 hle] at this
 exact Ev.bind (qCross hr hs h) (Ev.bind (nSub _ _ (Le_lt h1 (by omega)) ((le_rat hr.1 hs.1).2 hle)) (Ev.pos rfl (Ev.bind this (Ev.const _))))
theorem qDiv {r s : Rat} {m n : Nat} (hr : Bd r m) (hs : Bd s n) (h : m + n ≤ 90000) (hpos : 0 < s) : Ev (fun k => zc0.f k (dig 18446744073709551616 r.num.toNat) (dig 18446744073709551616 r.den) (dig 18446744073709551616 s.num.toNat) (dig 18446744073709551616 s.den)) (dig 18446744073709551616 (r / s).num.toNat, dig 18446744073709551616 (r / s).den, 0) := by
 have := qOf (x := r.num.toNat * s.den) (y := r.den * s.num.toNat) (m := m + n) (Nat.mul_pos r.den_pos (num_pos hpos)) (W_mul hr.2.1 hs.2.2) (W_mul hr.2.2 hs.2.1) (by omega)
 rw [div_rat hr.1 hpos] at this
 exact Ev.bind (nMul _ _ (Le_lt hr.2.1 (by omega)) (Le_lt hs.2.2 (by omega))) (Ev.bind (nMul _ _ (Le_lt hr.2.2 (by omega)) (Le_lt hs.2.1 (by omega))) (Ev.bind this (Ev.const _)))
theorem qCmp {r s : Rat} {m n : Nat} (hr : Bd r m) (hs : Bd s n) (h : m + n ≤ 90000) : Ev (fun k => zc9.f k (dig 18446744073709551616 r.num.toNat) (dig 18446744073709551616 r.den) (dig 18446744073709551616 s.num.toNat) (dig 18446744073709551616 s.den)) (cmpR r s) := by
 have := nCmp (r.num.toNat * s.den) (s.num.toNat * r.den)
 rw [sgn_rat hr.1 hs.1] at this
 exact Ev.bind (qCross hr hs h) (Ev.plain this (Ev.const _))
theorem qGood {r : Rat} {m : Nat} (hr : Bd r m) (h : m ≤ 90000) : Ev (fun k => zc6.f k (dig 18446744073709551616 r.num.toNat) (dig 18446744073709551616 r.den)) true := by
 have := nRGood hr.2.1 hr.2.2 (by omega) r.den_pos
 rw [decide_eq_true (rat_gcd r hr.1)] at this
 exact this
theorem Bd.nat {n m : Nat} (h : n < 18446744073709551616 ^ m) (hm : 1 ≤ m) : Bd (n : Rat) m := ⟨by
  have := mkRat_nonneg n 1
  rw [Rat.mkRat_eq_div] at this
  rw [← Rat.num_nonneg]
  simp, by simpa using h, by
  rw [Rat.den_natCast]
  exact Nat.lt_of_lt_of_le (by decide : 1 < 18446744073709551616) (by
   have := Nat.pow_le_pow_right (n := 18446744073709551616) (by decide) hm
   rw [Nat.pow_one] at this
   exact this)⟩
theorem qInt (n : Int) (h : n < 9223372036854775808) : Ev (fun k => zb9.f k n) (dig 18446744073709551616 ((n.toNat : Nat) : Rat).num.toNat, dig 18446744073709551616 ((n.toNat : Nat) : Rat).den) := by
 have := nRint n h
 rw [Rat.num_natCast, Rat.den_natCast, Int.toNat_natCast]
 exact this
theorem dOf {x y m : Nat} (hy : 0 < y) (hx : x < 18446744073709551616 ^ m) (hyl : y < 18446744073709551616 ^ m) (hm : m ≤ 5000) : Ev (fun k => zcj.f k (dig 10000 x) (dig 10000 y)) (dig 10000 (mkRat (x : Int) y).num.toNat, dig 10000 (mkRat (x : Int) y).den) := by
 obtain ⟨h1, h2⟩ := low_rat (x := x) hy
 have := rRof hy hx hyl hm
 rw [h1, h2] at this
 exact this
end Go.Proofs.YthiicmanfpmipaaGreatDoor.P
end
section
namespace Go.Proofs.YthiicmanfpmipaaGreatDoor.P
open Go.RowKit Go.Proofs.YthiicmanfpmipaaGreatDoorW.PrintWords Go.Proofs.YthiicmanfpmipaaGreatDoorW.PrintLast Go.Proofs.YthiicmanfpmipaaGreatDoorW.PrintMore
attribute [local go_sem] zcf zci zcu zct zb6 zb2 zch zce
def rN (r : Rat) : List Int := dig 18446744073709551616 r.num.toNat
def rD (r : Rat) : List Int := dig 18446744073709551616 r.den
def Rt (w : World) (A : Option Addr) (c : Nat) (a : List Int) (A' : Option Addr) (c' : Nat) (b : List Int) : Prop := a.length ≤ c ∧ Kd.C (Kd.int .u64) w A a.length a ∧ b.length ≤ c' ∧ Kd.C (Kd.int .u64) w A' b.length b
theorem Rt.below {w w' : World} {A A' : Option Addr} {c c' : Nat} {a b : List Int} (h : Rt w A c a A' c' b) (hb : Below w.heap.size w w') : Rt w' A c a A' c' b := ⟨h.1, Kd.zas h.2.1 hb, h.2.2.1, Kd.zas h.2.2.2 hb⟩
def RV (w : World) (P : Nat → Prop) (A : Option Addr) (c : Nat) (a : List Int) (A' : Option Addr) (c' : Nat) (b : List Int) : Prop := Kd.V (Kd.int .u64) 82 w 0 P (.slice A a.length c) a ∧ Kd.V (Kd.int .u64) 82 w 0 P (.slice A' b.length c') b
theorem RV.rt {w : World} {P : Nat → Prop} {A A' : Option Addr} {c c' : Nat} {a b : List Int} (h : RV w P A c a A' c' b) : Rt w A c a A' c' b := by
 obtain ⟨_, l1, C1⟩ := Kd.zak h.1
 obtain ⟨_, l2, C2⟩ := Kd.zak h.2
 exact ⟨l1, C1, l2, C2⟩
theorem RV.mono {w : World} {P Q : Nat → Prop} {A A' : Option Addr} {c c' : Nat} {a b : List Int} (h : RV w P A c a A' c' b) (hq : ∀ k, P k → Q k) : RV w Q A c a A' c' b := ⟨Kd.zam h.1 hq, Kd.zam h.2 hq⟩
theorem RV.old {w w' : World} {P : Nat → Prop} {A A' : Option Addr} {c c' : Nat} {a b : List Int} (h : RV w P A c a A' c' b) (hb : Below w.heap.size w w') : RV w' (fun k => P k ∧ k < w.heap.size) A c a A' c' b := ⟨Kd.V_old h.1 hb, Kd.V_old h.2 hb⟩
theorem RV.far {w : World} {P : Nat → Prop} {A A' : Option Addr} {c c' : Nat} {a b : List Int} {p : Addr} (h : RV w P A c a A' c' b) (hp : ∀ k, P k → k ≠ p.block) (u : Value) : RV (w.setCell p u) P A c a A' c' b := ⟨Kd.V_far h.1 hp u, Kd.V_far h.2 hp u⟩
theorem RV.of {w : World} {ba bb : Nat} {P : Nat → Prop} {v u : Value} {a b : List Int} (h1 : Kd.V (Kd.int .u64) 82 w ba P v a) (h2 : Kd.V (Kd.int .u64) 82 w bb P u b) : ∃ A c A' c', v = .slice A a.length c ∧ u = .slice A' b.length c' ∧ RV w P A c a A' c' b := by
 obtain ⟨A, c, rfl⟩ := Kd.za1 h1
 obtain ⟨A', c', rfl⟩ := Kd.za1 h2
 exact ⟨A, c, A', c', rfl, rfl, h1, h2⟩
theorem Rt.of {w : World} {ba bb : Nat} {P Q : Nat → Prop} {v u : Value} {a b : List Int} (h1 : Kd.V (Kd.int .u64) 82 w ba P v a) (h2 : Kd.V (Kd.int .u64) 82 w bb Q u b) : ∃ A c A' c', v = .slice A a.length c ∧ u = .slice A' b.length c' ∧ Rt w A c a A' c' b := by
 obtain ⟨A, c, rfl⟩ := Kd.za1 h1
 obtain ⟨A', c', rfl⟩ := Kd.za1 h2
 obtain ⟨_, l1, C1⟩ := Kd.zak h1
 obtain ⟨_, l2, C2⟩ := Kd.zak h2
 exact ⟨A, c, A', c', rfl, rfl, l1, C1, l2, C2⟩
section
variable {w : World} {A0 A1 A2 A3 : Option Addr} {c0 c1 c2 c3 : Nat} {r s : Rat} {m n : Nat}
theorem t_Mul (h1 : Rt w A0 c0 (rN r) A1 c1 (rD r)) (h2 : Rt w A2 c2 (rN s) A3 c3 (rD s)) (hr : Bd r m) (hs : Bd s n) (h : m + n ≤ 100000) :
  Calls Tryz.prog 19 #[.agg #[.slice A0 (rN r).length c0, .slice A1 (rD r).length c1], .agg #[.slice A2 (rN s).length c2, .slice A3 (rD s).length c3]] w fun e w' => ∃ A c A' c', e = .returned (.agg #[.slice A (rN (r * s)).length c, .slice A' (rD (r * s)).length c']) ∧ RV w' (fun k => w.heap.size ≤ k) A c (rN (r * s)) A' c' (rD (r * s)) ∧ Below w.heap.size w w' := by
 obtain ⟨k, hk⟩ := (qMul hr hs h).get
 refine (zco.calls k A0 c0 (rN r) A1 c1 (rD r) A2 c2 (rN s) A3 c3 (rD s) (rN (r * s)) (rD (r * s)) w h1.2.1 h1.1 h1.2.2.2 h1.2.2.1 h2.2.1 h2.1 h2.2.2.2 h2.2.2.1 hk).mono ?_
 rintro e w' ⟨v0, v1, rfl, hv0, hv1, hb⟩
 obtain ⟨A, c, A', c', rfl, rfl, hR⟩ := RV.of hv0 hv1
 exact ⟨A, c, A', c', rfl, hR, hb⟩
theorem t_Sub (h1 : Rt w A0 c0 (rN r) A1 c1 (rD r)) (h2 : Rt w A2 c2 (rN s) A3 c3 (rD s)) (hr : Bd r m) (hs : Bd s n) (h : m + n ≤ 90000) (hle : s ≤ r) :
  Calls Tryz.prog 78 #[.agg #[.slice A0 (rN r).length c0, .slice A1 (rD r).length c1], .agg #[.slice A2 (rN s).length c2, .slice A3 (rD s).length c3]] w fun e w' => ∃ A c A' c', e = .returned (.tuple #[.agg #[.slice A (rN (r - s)).length c, .slice A' (rD (r - s)).length c'], .int .i64 0]) ∧ RV w' (fun k => w.heap.size ≤ k) A c (rN (r - s)) A' c' (rD (r - s)) ∧ Below w.heap.size w w' := by
 obtain ⟨k, hk⟩ := (qSub hr hs h hle).get
 refine (ratio_Sub.calls k A0 c0 (rN r) A1 c1 (rD r) A2 c2 (rN s) A3 c3 (rD s) (rN (r - s)) (rD (r - s)) 0 w h1.2.1 h1.1 h1.2.2.2 h1.2.2.1 h2.2.1 h2.1 h2.2.2.2 h2.2.2.1 hk).mono ?_
 rintro e w' ⟨v0, v1, rfl, hv0, hv1, hb⟩
 obtain ⟨A, c, A', c', rfl, rfl, hR⟩ := RV.of hv0 hv1
 exact ⟨A, c, A', c', rfl, hR, hb⟩
theorem t_Div (h1 : Rt w A0 c0 (rN r) A1 c1 (rD r)) (h2 : Rt w A2 c2 (rN s) A3 c3 (rD s)) (hr : Bd r m) (hs : Bd s n) (h : m + n ≤ 90000) (hpos : 0 < s) :
  Calls Tryz.prog 77 #[.agg #[.slice A0 (rN r).length c0, .slice A1 (rD r).length c1], .agg #[.slice A2 (rN s).length c2, .slice A3 (rD s).length c3]] w fun e w' => ∃ A c A' c', e = .returned (.tuple #[.agg #[.slice A (rN (r / s)).length c, .slice A' (rD (r / s)).length c'], .int .i64 0]) ∧ RV w' (fun k => w.heap.size ≤ k) A c (rN (r / s)) A' c' (rD (r / s)) ∧ Below w.heap.size w w' := by
 obtain ⟨k, hk⟩ := (qDiv hr hs h hpos).get
 refine (zc0.calls k A0 c0 (rN r) A1 c1 (rD r) A2 c2 (rN s) A3 c3 (rD s) (rN (r / s)) (rD (r / s)) 0 w h1.2.1 h1.1 h1.2.2.2 h1.2.2.1 h2.2.1 h2.1 h2.2.2.2 h2.2.2.1 hk).mono ?_
 rintro e w' ⟨v0, v1, rfl, hv0, hv1, hb⟩
 obtain ⟨A, c, A', c', rfl, rfl, hR⟩ := RV.of hv0 hv1
 exact ⟨A, c, A', c', rfl, hR, hb⟩
theorem t_Cmp (h1 : Rt w A0 c0 (rN r) A1 c1 (rD r)) (h2 : Rt w A2 c2 (rN s) A3 c3 (rD s)) (hr : Bd r m) (hs : Bd s n) (h : m + n ≤ 90000) :
  Calls Tryz.prog 17 #[.agg #[.slice A0 (rN r).length c0, .slice A1 (rD r).length c1], .agg #[.slice A2 (rN s).length c2, .slice A3 (rD s).length c3]] w fun e w' => e = .returned (.int .i64 (cmpR r s)) ∧ Below w.heap.size w w' := by
 obtain ⟨k, hk⟩ := (qCmp hr hs h).get
 exact zc9.calls k A0 c0 (rN r) A1 c1 (rD r) A2 c2 (rN s) A3 c3 (rD s) (cmpR r s) w h1.2.1 h1.1 h1.2.2.2 h1.2.2.1 h2.2.1 h2.1 h2.2.2.2 h2.2.2.1 hk
theorem t_Int (z : Int) (hz : z < 9223372036854775808) (w : World) :
  Calls Tryz.prog 18 #[.int .i64 z] w fun e w' => ∃ A c A' c', e = .returned (.agg #[.slice A (rN ((z.toNat : Nat) : Rat)).length c, .slice A' (rD ((z.toNat : Nat) : Rat)).length c']) ∧ RV w' (fun k => w.heap.size ≤ k) A c (rN ((z.toNat : Nat) : Rat)) A' c' (rD ((z.toNat : Nat) : Rat)) ∧ Below w.heap.size w w' := by
 obtain ⟨k, hk⟩ := (qInt z hz).get
 refine (zb9.calls k z (rN ((z.toNat : Nat) : Rat)) (rD ((z.toNat : Nat) : Rat)) w hk).mono ?_
 rintro e w' ⟨v0, v1, rfl, hv0, hv1, hb⟩
 obtain ⟨A, c, A', c', rfl, rfl, hR⟩ := RV.of hv0 hv1
 exact ⟨A, c, A', c', rfl, hR, hb⟩
end
end Go.Proofs.YthiicmanfpmipaaGreatDoor.P
end
section
namespace Go.Proofs.YthiicmanfpmipaaGreatDoor.P
open Go.RowKit Go.Proofs.YthiicmanfpmipaaGreatDoorW.PrintWords Go.Proofs.YthiicmanfpmipaaGreatDoorW.PrintLast Go.Proofs.YthiicmanfpmipaaGreatDoorW.PrintMore
attribute [local go_sem] zcf zci zcu zct zb6 zb2 zch zce
def giv (L : Rat) (p : Nat × Nat) : Rat := if L * (p.1 : Rat) ≤ (p.2 : Rat) then L * (p.1 : Rat) else (p.2 : Rat)
def tot (L : Rat) : List (Nat × Nat) → Rat
 | [] => 0
 | p :: l => giv L p + tot L l
def wsum : List (Nat × Nat) → Rat
 | [] => 0
 | p :: l => (p.1 : Rat) + wsum l
def csum : List (Nat × Nat) → Rat
 | [] => 0
 | p :: l => (p.2 : Rat) + csum l
def IsLev (l : List (Nat × Nat)) (x L : Rat) : Prop := 0 ≤ L ∧ tot L l = x ∧ ∀ M, 0 ≤ M → M < L → tot M l < x
theorem zc8 {a b c : Rat} (h : a ≤ b) (hc : 0 ≤ c) : a * c ≤ b * c := Rat.mul_le_mul_of_nonneg_right h hc
theorem zb0 (n : Nat) : (0 : Rat) ≤ (n : Rat) := Rat.natCast_nonneg
theorem giv_mono {L M : Rat} (h : L ≤ M) (p : Nat × Nat) : giv L p ≤ giv M p := by
 have h1 := zc8 h (zb0 p.1)
 unfold giv
 split <;> split <;> grind
theorem tot_mono {L M : Rat} (h : L ≤ M) : ∀ l, tot L l ≤ tot M l
 | [] => Rat.le_refl
 | p :: l => by
  have h1 := giv_mono h p
  have h2 := tot_mono h l
  show giv L p + tot L l ≤ giv M p + tot M l
  grind
theorem giv_le (L : Rat) (p : Nat × Nat) : giv L p ≤ (p.2 : Rat) := by
 unfold giv
 split <;> grind
theorem giv_nonneg {L : Rat} (h : 0 ≤ L) (p : Nat × Nat) : 0 ≤ giv L p := by
 have h1 := zc8 h (zb0 p.1)
 have h2 := zb0 p.2
 unfold giv
 split <;> grind
theorem lev_unique {l : List (Nat × Nat)} {x L M : Rat} (h1 : IsLev l x L) (h2 : IsLev l x M) : L = M := by
 obtain ⟨a0, a1, a2⟩ := h1
 obtain ⟨b0, b1, b2⟩ := h2
 have c1 : ¬ M < L := fun h => by have := a2 M b0 h; grind
 have c2 : ¬ L < M := fun h => by have := b2 L a0 h; grind
 grind
theorem tot_app (L : Rat) : ∀ a b, tot L (a ++ b) = tot L a + tot L b
 | [], b => by show tot L b = 0 + tot L b; grind
 | p :: a, b => by
  have := tot_app L a b
  show giv L p + tot L (a ++ b) = giv L p + tot L a + tot L b
  grind
theorem tot_perm (L : Rat) {a b : List (Nat × Nat)} (h : a.Perm b) : tot L a = tot L b := by
 induction h with
 | nil => rfl
 | cons p _ ih => show giv L p + _ = giv L p + _; rw [ih]
 | swap p q l => show giv L q + (giv L p + tot L l) = giv L p + (giv L q + tot L l); grind
 | trans _ _ ih1 ih2 => rw [ih1, ih2]
theorem lev_perm {a b : List (Nat × Nat)} (h : a.Perm b) {x L : Rat} (hl : IsLev a x L) : IsLev b x L :=
 ⟨hl.1, by rw [← tot_perm L h]; exact hl.2.1, fun M h0 h1 => by rw [← tot_perm M h]; exact hl.2.2 M h0 h1⟩
def levP : Rat → Rat → Rat → List (Nat × Nat) → Rat
 | _, _, at_, [] => at_
 | x, o, at_, p :: l =>
  if x / o < (p.2 : Rat) / (p.1 : Rat) then x / o
  else if x - (p.2 : Rat) = 0 then (if 0 < p.2 then (p.2 : Rat) / (p.1 : Rat) else at_)
  else levP (x - (p.2 : Rat)) (o - (p.1 : Rat)) (if 0 < p.2 then (p.2 : Rat) / (p.1 : Rat) else at_) l
theorem wsum_nonneg : ∀ l, 0 ≤ wsum l
 | [] => Rat.le_refl
 | p :: l => by
  have h1 := zb0 p.1
  have h2 := wsum_nonneg l
  show 0 ≤ (p.1 : Rat) + wsum l
  grind
theorem div_mul {a b : Rat} (h : 0 < b) : a / b * b = a := Rat.div_mul_cancel (by grind)
theorem tot_open {L : Rat} : ∀ l, (∀ p ∈ l, L * (p.1 : Rat) ≤ (p.2 : Rat)) → tot L l = L * wsum l
 | [], _ => by show (0 : Rat) = L * 0; grind
 | p :: l, h => by
  have h1 := h p List.mem_cons_self
  have h2 := tot_open l (fun q hq => h q (List.mem_cons_of_mem _ hq))
  show giv L p + tot L l = L * ((p.1 : Rat) + wsum l)
  unfold giv
  rw [if_pos h1, h2]
  grind
theorem tot_le_open {L : Rat} : ∀ l, tot L l ≤ L * wsum l
 | [] => by show (0 : Rat) ≤ L * 0; grind
 | p :: l => by
  have h2 := tot_le_open (L := L) l
  have h1 : giv L p ≤ L * (p.1 : Rat) := by unfold giv; split <;> grind
  show giv L p + tot L l ≤ L * ((p.1 : Rat) + wsum l)
  grind
theorem mul_lt {a b c : Rat} (h : a < b) (hc : 0 < c) : a * c < b * c := Rat.mul_lt_mul_of_pos_right h hc
theorem tot_nonneg {L : Rat} (h : 0 ≤ L) : ∀ l, 0 ≤ tot L l
 | [] => Rat.le_refl
 | p :: l => by
  have h1 := giv_nonneg h p
  have h2 := tot_nonneg h l
  show 0 ≤ giv L p + tot L l
  grind
theorem one_le_nat {n : Nat} (h : 1 ≤ n) : (1 : Rat) ≤ (n : Rat) := by
 have : ((1 : Nat) : Rat) ≤ (n : Rat) := Rat.natCast_le_natCast.2 h
 exact this
theorem lev_ok : ∀ (l : List (Nat × Nat)) (x at_ C : Rat) (pre : List (Nat × Nat)),
  l.Pairwise (fun p q => (p.2 : Rat) / (p.1 : Rat) ≤ (q.2 : Rat) / (q.1 : Rat)) → (∀ p ∈ l, 1 ≤ p.1) → 0 ≤ at_ → (∀ M, at_ ≤ M → tot M pre = C) → (∀ M, 0 ≤ M → M < at_ → tot M pre < C) →
  at_ * wsum l ≤ x → 0 ≤ x → x ≤ csum l → (∀ p ∈ l, at_ ≤ (p.2 : Rat) / (p.1 : Rat)) → IsLev (pre ++ l) (C + x) (levP x (wsum l) at_ l)
 | [], x, at_, C, pre, _, _, h0, hpre, hlt, _, hx0, hc, _ => by
  have hx : x = 0 := by
   have : x ≤ 0 := hc
   grind
  subst hx
  rw [List.append_nil]
  refine ⟨h0, ?_, fun M h1 h2 => ?_⟩
  ·
   have := hpre at_ Rat.le_refl
   show tot at_ pre = C + 0
   grind
  ·
   have := hlt M h1 h2
   grind
 | p :: l, x, at_, C, pre, hs, hw, h0, hpre, hlt, hx, hx0, hc, hfull => by
  have hw1 := one_le_nat (hw p List.mem_cons_self)
  have hwl := wsum_nonneg l
  have ho : 0 < (p.1 : Rat) + wsum l := by grind
  have hso : x / ((p.1 : Rat) + wsum l) * ((p.1 : Rat) + wsum l) = x := div_mul ho
  have hff : ∀ q ∈ p :: l, (q.2 : Rat) / (q.1 : Rat) * (q.1 : Rat) = (q.2 : Rat) := fun q hq => div_mul (by have := one_le_nat (hw q hq); grind)
  have hfw := hff p List.mem_cons_self
  have hfp := hfull p List.mem_cons_self
  have hx' : at_ * ((p.1 : Rat) + wsum l) ≤ x := hx
  have hpl := List.pairwise_cons.1 hs
  have htp : ∀ M, 0 ≤ M → tot M pre ≤ C := fun M hM => by
   by_cases h : M < at_
   ·
    have := hlt M hM h
    grind
   ·
    have := hpre M (by grind)
    grind
  have hc2 := zb0 p.2
  show IsLev (pre ++ p :: l) (C + x) (levP x ((p.1 : Rat) + wsum l) at_ (p :: l))
  unfold levP
  generalize x / ((p.1 : Rat) + wsum l) = s at hso ⊢
  by_cases hsf : s < (p.2 : Rat) / (p.1 : Rat)
  ·
   rw [if_pos hsf]
   have hats : at_ ≤ s := by
    apply Classical.byContradiction
    intro hn
    have := mul_lt (show s < at_ by grind) ho
    grind
   have hall : ∀ q ∈ p :: l, s * (q.1 : Rat) ≤ (q.2 : Rat) := by
    intro q hq
    have h1 : s ≤ (q.2 : Rat) / (q.1 : Rat) := by
     rcases List.mem_cons.1 hq with rfl | hq
     ·
      grind
     ·
      have := hpl.1 q hq
      grind
    have h2 := zc8 h1 (zb0 q.1)
    rw [hff q hq] at h2
    exact h2
   refine ⟨by grind, ?_, fun M hM hMs => ?_⟩
   ·
    rw [tot_app, hpre s hats, tot_open _ hall]
    show C + s * ((p.1 : Rat) + wsum l) = C + x
    rw [hso]
   ·
    rw [tot_app]
    have h1 := htp M hM
    have h2 := tot_le_open (L := M) (p :: l)
    have h3 : M * wsum (p :: l) < s * wsum (p :: l) := mul_lt hMs ho
    have h4 : s * wsum (p :: l) = x := hso
    grind
  ·
   rw [if_neg hsf]
   have hfs : (p.2 : Rat) / (p.1 : Rat) ≤ s := by grind
   generalize hf : (p.2 : Rat) / (p.1 : Rat) = f at hfw hfp hfs hpl ⊢
   have hf0 : 0 ≤ f := by grind
   have hrest : f * wsum l ≤ x - (p.2 : Rat) := by
    have h1 := zc8 hfs (show 0 ≤ (p.1 : Rat) + wsum l by grind)
    rw [hso] at h1
    have h2 : f * ((p.1 : Rat) + wsum l) = f * (p.1 : Rat) + f * wsum l := Rat.mul_add ..
    grind
   have hfl : 0 ≤ f * wsum l := Rat.mul_nonneg hf0 hwl
   have hatl : at_ * wsum l ≤ x - (p.2 : Rat) ∨ 0 < p.2 := by
    by_cases h : 0 < p.2
    ·
     exact .inr h
    ·
     left
     have hz : p.2 = 0 := by omega
     have h1 : at_ * ((p.1 : Rat) + wsum l) = at_ * (p.1 : Rat) + at_ * wsum l := Rat.mul_add ..
     have h2 := Rat.mul_nonneg h0 (zb0 p.1)
     rw [hz]
     show at_ * wsum l ≤ x - 0
     grind
   obtain ⟨a2, ha2⟩ : ∃ a2, (if 0 < p.2 then f else at_) = a2 := ⟨_, rfl⟩
   rw [ha2]
   have i0 : 0 ≤ a2 := by rw [← ha2]; split <;> assumption
   have iat : at_ ≤ a2 := by rw [← ha2]; split <;> first | exact hfp | exact Rat.le_refl
   have ix : a2 * wsum l ≤ x - (p.2 : Rat) := by
    rw [← ha2]
    by_cases h : 0 < p.2
    ·
     rw [if_pos h]; exact hrest
    ·
     rw [if_neg h]; exact hatl.resolve_right h
   have ipre : ∀ M, a2 ≤ M → tot M (pre ++ [p]) = C + (p.2 : Rat) := by
    intro M hM
    rw [tot_app, hpre M (by grind)]
    have e : giv M p = (p.2 : Rat) := by
     unfold giv
     by_cases h : 0 < p.2
     ·
      rw [if_pos h] at ha2
      have h1 := zc8 (show f ≤ M by grind) (zb0 p.1)
      rw [hfw] at h1
      split <;> grind
     ·
      have hz : (p.2 : Rat) = 0 := by
       have : p.2 = 0 := by omega
       rw [this]; rfl
      have h1 := Rat.mul_nonneg (show 0 ≤ M by grind) (zb0 p.1)
      split <;> grind
    show C + (giv M p + 0) = C + (p.2 : Rat)
    rw [e]
    grind
   have ilt : ∀ M, 0 ≤ M → M < a2 → tot M (pre ++ [p]) < C + (p.2 : Rat) := by
    intro M hM hMa
    rw [tot_app]
    show tot M pre + (giv M p + 0) < C + (p.2 : Rat)
    by_cases h : 0 < p.2
    ·
     rw [if_pos h] at ha2
     have h1 := mul_lt (show M < f by grind) (show (0 : Rat) < (p.1 : Rat) by grind)
     rw [hfw] at h1
     have h2 := htp M hM
     have e : giv M p = M * (p.1 : Rat) := by unfold giv; rw [if_pos (by grind)]
     grind
    ·
     rw [if_neg h] at ha2
     have h1 := hlt M hM (by grind)
     have h2 := giv_le M p
     grind
   have e1 : pre ++ p :: l = (pre ++ [p]) ++ l := by simp
   have e2 : C + x = (C + (p.2 : Rat)) + (x - (p.2 : Rat)) := by grind
   by_cases hz : x - (p.2 : Rat) = 0
   ·
    rw [if_pos hz]
    have ht0 : tot a2 l = 0 := by
     have h1 := tot_le_open (L := a2) l
     have h2 := tot_nonneg i0 l
     grind
    rw [e1, e2]
    refine ⟨i0, ?_, fun M hM hMa => ?_⟩
    ·
     rw [tot_app, ipre a2 Rat.le_refl, ht0]
     grind
    ·
     rw [tot_app]
     have h1 := ilt M hM hMa
     have h2 := tot_mono (show M ≤ a2 by grind) l
     grind
   ·
    rw [if_neg hz, e1, e2, show (p.1 : Rat) + wsum l - (p.1 : Rat) = wsum l by grind]
    refine lev_ok l (x - (p.2 : Rat)) a2 (C + (p.2 : Rat)) (pre ++ [p]) hpl.2 (fun q hq => hw q (List.mem_cons_of_mem _ hq)) i0 ipre ilt ix (by grind) ?_ ?_
    ·
     have : x ≤ (p.2 : Rat) + csum l := hc
     grind
    ·
     intro q hq
     have h1 := hfull q (List.mem_cons_of_mem _ hq)
     have h2 := hpl.1 q hq
     rw [← ha2]
     split <;> assumption
theorem lev_prog (l : List (Nat × Nat)) (x : Rat) (hs : l.Pairwise (fun p q => (p.2 : Rat) / (p.1 : Rat) ≤ (q.2 : Rat) / (q.1 : Rat))) (hw : ∀ p ∈ l, 1 ≤ p.1) (hx0 : 0 ≤ x) (hc : x ≤ csum l) : IsLev l x (levP x (wsum l) 0 l) := by
 have h := lev_ok l x 0 0 [] hs hw Rat.le_refl (fun _ _ => rfl) (fun M h0 h1 => by grind) (by grind) hx0 hc (fun p hp => by
  have h1 := one_le_nat (hw p hp)
  have h2 : (p.2 : Rat) / (p.1 : Rat) * (p.1 : Rat) = (p.2 : Rat) := div_mul (by grind)
  have h3 := zb0 p.2
  apply Classical.byContradiction
  intro hn
  have := mul_lt (show (p.2 : Rat) / (p.1 : Rat) < 0 by grind) (show (0 : Rat) < (p.1 : Rat) by grind)
  grind)
 rw [List.nil_append, show (0 : Rat) + x = x by grind] at h
 exact h
def ful (p : Nat × Nat) : Rat := (p.2 : Rat) / (p.1 : Rat)
def lowR (l : List (Nat × Nat)) (x : Rat) : Rat → List (Nat × Nat) → Rat
 | low, [] => low
 | low, p :: m => lowR l x (if tot (ful p) l < x ∧ low < ful p then ful p else low) m
def openR (low : Rat) : List (Nat × Nat) → Rat
 | [] => 0
 | p :: l => (if low < ful p then (p.1 : Rat) else 0) + openR low l
def levR (l : List (Nat × Nat)) (x : Rat) : Rat :=
 let low := lowR l x 0 l
 if openR low l = 0 ∨ x - tot low l = 0 then low else low + (x - tot low l) / openR low l
theorem lowR_facts (l : List (Nat × Nat)) (x : Rat) : ∀ (m : List (Nat × Nat)) (low : Rat), 0 ≤ low → (low = 0 ∨ tot low l < x) →
  low ≤ lowR l x low m ∧ (lowR l x low m = 0 ∨ tot (lowR l x low m) l < x) ∧ ∀ p ∈ m, lowR l x low m < ful p → x ≤ tot (ful p) l
 | [], low, h0, h => ⟨Rat.le_refl, h, fun p hp => by cases hp⟩
 | p :: m, low, h0, h => by
  unfold lowR
  by_cases hc : tot (ful p) l < x ∧ low < ful p
  ·
   rw [if_pos hc]
   obtain ⟨i1, i2, i3⟩ := lowR_facts l x m (ful p) (by have := hc.2; grind) (.inr hc.1)
   refine ⟨by have := hc.2; grind, i2, fun q hq hlt => ?_⟩
   rcases List.mem_cons.1 hq with rfl | hq
   ·
    grind
   ·
    exact i3 q hq hlt
  ·
   rw [if_neg hc]
   obtain ⟨i1, i2, i3⟩ := lowR_facts l x m low h0 h
   refine ⟨i1, i2, fun q hq hlt => ?_⟩
   rcases List.mem_cons.1 hq with rfl | hq
   ·
    apply Classical.byContradiction
    intro hn
    exact hc ⟨by grind, by grind⟩
   ·
    exact i3 q hq hlt
theorem openR_nonneg (low : Rat) : ∀ l, 0 ≤ openR low l
 | [] => Rat.le_refl
 | p :: l => by
  have h1 := zb0 p.1
  have h2 := openR_nonneg low l
  show 0 ≤ (if low < ful p then (p.1 : Rat) else 0) + openR low l
  split <;> grind
theorem tot_between {low M : Rat} (hM : low ≤ M) : ∀ l : List (Nat × Nat), (∀ p ∈ l, 1 ≤ p.1) → (∀ p ∈ l, low < ful p → M ≤ ful p) → tot M l = tot low l + (M - low) * openR low l
 | [], _, _ => by show (0 : Rat) = 0 + (M - low) * 0; grind
 | p :: l, hw, h => by
  have ih := tot_between hM l (fun q hq => hw q (List.mem_cons_of_mem _ hq)) (fun q hq => h q (List.mem_cons_of_mem _ hq))
  have hp := h p List.mem_cons_self
  have hw1 := one_le_nat (hw p List.mem_cons_self)
  have hf : ful p * (p.1 : Rat) = (p.2 : Rat) := div_mul (by grind)
  have e : giv M p = giv low p + (M - low) * (if low < ful p then (p.1 : Rat) else 0) := by
   by_cases hc : low < ful p
   ·
    have h1 := zc8 (hp hc) (zb0 p.1)
    have h2 := zc8 (show low ≤ ful p by grind) (zb0 p.1)
    rw [hf] at h1 h2
    unfold giv
    rw [if_pos h1, if_pos h2, if_pos hc]
    grind
   ·
    have h1 := zc8 (show ful p ≤ low by grind) (zb0 p.1)
    have h2 := zc8 (show ful p ≤ M by grind) (zb0 p.1)
    rw [hf] at h1 h2
    unfold giv
    rw [if_neg hc]
    split <;> split <;> grind
  show giv M p + tot M l = giv low p + tot low l + (M - low) * ((if low < ful p then (p.1 : Rat) else 0) + openR low l)
  rw [e, ih]
  grind
theorem tot_full {low : Rat} : ∀ l : List (Nat × Nat), (∀ p ∈ l, 1 ≤ p.1) → openR low l = 0 → tot low l = csum l
 | [], _, _ => rfl
 | p :: l, hw, h => by
  have hw1 := one_le_nat (hw p List.mem_cons_self)
  have h2 := openR_nonneg low l
  have h' : (if low < ful p then (p.1 : Rat) else 0) + openR low l = 0 := h
  have hf : ful p * (p.1 : Rat) = (p.2 : Rat) := div_mul (by grind)
  have hc : ¬ low < ful p := by
   intro hc
   rw [if_pos hc] at h'
   grind
  rw [if_neg hc] at h'
  have ih := tot_full l (fun q hq => hw q (List.mem_cons_of_mem _ hq)) (show openR low l = 0 by grind)
  have h1 := zc8 (show ful p ≤ low by grind) (zb0 p.1)
  rw [hf] at h1
  show giv low p + tot low l = (p.2 : Rat) + csum l
  rw [ih]
  unfold giv
  split <;> grind
theorem tot_zero : ∀ l, tot 0 l = 0
 | [] => rfl
 | p :: l => by
  have h1 := zb0 p.2
  have ih := tot_zero l
  show giv 0 p + tot 0 l = 0
  rw [ih]
  unfold giv
  split <;> grind
theorem lev_ref (l : List (Nat × Nat)) (x : Rat) (hw : ∀ p ∈ l, 1 ≤ p.1) (hx0 : 0 ≤ x) (hc : x ≤ csum l) : IsLev l x (levR l x) := by
 obtain ⟨i1, i2, i3⟩ := lowR_facts l x l 0 Rat.le_refl (.inl rfl)
 unfold levR
 generalize lowR l x 0 l = low at i1 i2 i3 ⊢
 show IsLev l x (if openR low l = 0 ∨ x - tot low l = 0 then low else low + (x - tot low l) / openR low l)
 have htl : tot low l ≤ x := by
  rcases i2 with h | h
  ·
   rw [h, tot_zero]; exact hx0
  ·
   grind
 have ho := openR_nonneg low l
 by_cases hz : openR low l = 0 ∨ x - tot low l = 0
 ·
  rw [if_pos hz]
  have hx : tot low l = x := by
   rcases hz with h | h
   ·
    have := tot_full l hw h
    grind
   ·
    grind
  refine ⟨i1, hx, fun M h0 h1 => ?_⟩
  rcases i2 with h | h
  ·
   grind
  ·
   grind
 ·
  rw [if_neg hz]
  have hop : 0 < openR low l := by
   apply Classical.byContradiction
   intro hn
   exact hz (.inl (by grind))
  have hr : 0 < x - tot low l := by
   apply Classical.byContradiction
   intro hn
   exact hz (.inr (by grind))
  have hs : (x - tot low l) / openR low l * openR low l = x - tot low l := div_mul hop
  generalize (x - tot low l) / openR low l = d at hs ⊢
  have hd : 0 < d := by
   apply Classical.byContradiction
   intro hn
   have := zc8 (show d ≤ 0 by grind) ho
   grind
  have hle : ∀ p ∈ l, low < ful p → low + d ≤ ful p := by
   intro p hp hlt
   apply Classical.byContradiction
   intro hn
   obtain ⟨q, hq, hql, hqm⟩ : ∃ q ∈ l, low < ful q ∧ ∀ r ∈ l, low < ful r → ful q ≤ ful r := by
    have key : ∀ m : List (Nat × Nat), (∃ p ∈ m, low < ful p) → ∃ q ∈ m, low < ful q ∧ ∀ r ∈ m, low < ful r → ful q ≤ ful r := by
     intro m
     induction m with
     | nil => rintro ⟨p, hp, _⟩; cases hp
     | cons a m ih =>
      intro hex
      by_cases hm : ∃ p ∈ m, low < ful p
      ·
       obtain ⟨q, h1, h2, h3⟩ := ih hm
       by_cases ha : low < ful a ∧ ful a ≤ ful q
       ·
        refine ⟨a, List.mem_cons_self, ha.1, fun r hr hrl => ?_⟩
        rcases List.mem_cons.1 hr with rfl | hr
        ·
         exact Rat.le_refl
        ·
         have := h3 r hr hrl
         have := ha.2
         grind
       ·
        refine ⟨q, List.mem_cons_of_mem _ h1, h2, fun r hr hrl => ?_⟩
        rcases List.mem_cons.1 hr with rfl | hr
        ·
         apply Classical.byContradiction
         intro hne
         exact ha ⟨hrl, by grind⟩
        ·
         exact h3 r hr hrl
      ·
       obtain ⟨p, hp, hpl⟩ := hex
       rcases List.mem_cons.1 hp with rfl | hp
       ·
        refine ⟨p, List.mem_cons_self, hpl, fun r hr hrl => ?_⟩
        rcases List.mem_cons.1 hr with rfl | hr
        ·
         exact Rat.le_refl
        ·
         exact absurd ⟨r, hr, hrl⟩ hm
       ·
        exact absurd ⟨p, hp, hpl⟩ hm
    exact key l ⟨p, hp, hlt⟩
   have h1 := i3 q hq hql
   have h2 := tot_between (show low ≤ ful q by grind) l hw hqm
   have h3 := hqm p hp hlt
   have h4 : (ful q - low) * openR low l < d * openR low l := mul_lt (by grind) hop
   grind
  refine ⟨by grind, ?_, fun M h0 h1 => ?_⟩
  ·
   rw [tot_between (show low ≤ low + d by grind) l hw hle, show low + d - low = d by grind, hs]
   grind
  ·
   by_cases hM : low ≤ M
   ·
    rw [tot_between hM l hw (fun p hp hlt => by have := hle p hp hlt; grind)]
    have h2 : (M - low) * openR low l < d * openR low l := mul_lt (by grind) hop
    grind
   ·
    have h2 := tot_mono (show M ≤ low by grind) l
    grind
theorem lev_one (l s : List (Nat × Nat)) (x : Rat) (hp : s.Perm l) (hs : s.Pairwise (fun p q => (p.2 : Rat) / (p.1 : Rat) ≤ (q.2 : Rat) / (q.1 : Rat))) (hw : ∀ p ∈ l, 1 ≤ p.1) (hx0 : 0 ≤ x) (hc : x ≤ csum l) (hcs : csum s = csum l) :
  levP x (wsum s) 0 s = levR l x :=
 lev_unique (lev_perm hp (lev_prog s x hs (fun p h => hw p (hp.mem_iff.1 h)) hx0 (by rw [hcs]; exact hc))) (lev_ref l x hw hx0 hc)
theorem caps_law {L : Rat} {p q : Nat × Nat} (h : giv L p < (p.2 : Rat)) : giv L q * (p.1 : Rat) ≤ giv L p * (q.1 : Rat) := by
 have h1 : giv L p = L * (p.1 : Rat) := by
  unfold giv at h ⊢
  split
  ·
   rfl
  ·
   rename_i hn
   rw [if_neg hn] at h
   grind
 have h2 : giv L q ≤ L * (q.1 : Rat) := by unfold giv; split <;> grind
 have h3 := zc8 h2 (zb0 p.1)
 rw [h1]
 have h4 : L * (q.1 : Rat) * (p.1 : Rat) = L * (p.1 : Rat) * (q.1 : Rat) := by grind
 grind
theorem ful_le {a b : Nat × Nat} (ha : 1 ≤ a.1) (hb : 1 ≤ b.1) (h : a.2 * b.1 ≤ b.2 * a.1) : (a.2 : Rat) / (a.1 : Rat) ≤ (b.2 : Rat) / (b.1 : Rat) := by
 have ha1 := one_le_nat ha
 have hb1 := one_le_nat hb
 have ea : (a.2 : Rat) / (a.1 : Rat) * (a.1 : Rat) = (a.2 : Rat) := div_mul (by grind)
 have eb : (b.2 : Rat) / (b.1 : Rat) * (b.1 : Rat) = (b.2 : Rat) := div_mul (by grind)
 have hq : (a.2 : Rat) * (b.1 : Rat) ≤ (b.2 : Rat) * (a.1 : Rat) := by
  have := Rat.natCast_le_natCast.2 h
  rw [Rat.natCast_mul, Rat.natCast_mul] at this
  exact this
 generalize (a.2 : Rat) / (a.1 : Rat) = x at ea ⊢
 generalize (b.2 : Rat) / (b.1 : Rat) = y at eb ⊢
 apply Classical.byContradiction
 intro hn
 have h1 := mul_lt (show y < x by grind) (show (0 : Rat) < (a.1 : Rat) by grind)
 have h2 := mul_lt h1 (show (0 : Rat) < (b.1 : Rat) by grind)
 rw [ea] at h2
 have e3 : y * (a.1 : Rat) * (b.1 : Rat) = y * (b.1 : Rat) * (a.1 : Rat) := by grind
 rw [e3, eb] at h2
 grind
theorem csum_perm {a b : List (Nat × Nat)} (h : a.Perm b) : csum a = csum b := by
 induction h with
 | nil => rfl
 | cons p _ ih => show (p.2 : Rat) + _ = (p.2 : Rat) + _; rw [ih]
 | swap p q l => show (q.2 : Rat) + ((p.2 : Rat) + csum l) = (p.2 : Rat) + ((q.2 : Rat) + csum l); grind
 | trans _ _ ih1 ih2 => rw [ih1, ih2]
theorem early_trans {a b c : Nat × Nat} (h1 : a.2 * (b.1 + 1) ≤ b.2 * (a.1 + 1)) (h2 : b.2 * (c.1 + 1) ≤ c.2 * (b.1 + 1)) : a.2 * (c.1 + 1) ≤ c.2 * (a.1 + 1) := by
 have h3 := Nat.mul_le_mul_right (c.1 + 1) h1
 have h4 := Nat.mul_le_mul_right (a.1 + 1) h2
 have e1 : a.2 * (b.1 + 1) * (c.1 + 1) = (a.2 * (c.1 + 1)) * (b.1 + 1) := by rw [Nat.mul_assoc, Nat.mul_comm (b.1 + 1), ← Nat.mul_assoc]
 have e2 : b.2 * (a.1 + 1) * (c.1 + 1) = b.2 * (c.1 + 1) * (a.1 + 1) := by rw [Nat.mul_assoc, Nat.mul_comm (a.1 + 1), ← Nat.mul_assoc]
 have e3 : c.2 * (b.1 + 1) * (a.1 + 1) = (c.2 * (a.1 + 1)) * (b.1 + 1) := by rw [Nat.mul_assoc, Nat.mul_comm (b.1 + 1), ← Nat.mul_assoc]
 have h5 : (a.2 * (c.1 + 1)) * (b.1 + 1) ≤ (c.2 * (a.1 + 1)) * (b.1 + 1) := by omega
 exact Nat.le_of_mul_le_mul_right h5 (Nat.succ_pos _)
def ratV (n d : List Int) : Rat := mkRat ((val 18446744073709551616 n : Nat) : Int) (val 18446744073709551616 d)
theorem ratV_rt {r : Rat} (h : 0 ≤ r) : ratV (rN r) (rD r) = r := by
 unfold ratV rN rD
 rw [zcx (by decide), zcx (by decide), Int.toNat_of_nonneg (Rat.num_nonneg.2 h)]
 exact Rat.mkRat_self r
def bdx (n d : List Int) : Bool := decide (0 ≤ ratV n d) && decide (n = rN (ratV n d)) && decide (d = rD (ratV n d)) && decide ((ratV n d).num.toNat < 18446744073709551616 ^ 3000) && decide ((ratV n d).den < 18446744073709551616 ^ 3000)
theorem bdx_of {n d : List Int} (h : bdx n d = true) : Bd (ratV n d) 3000 ∧ n = rN (ratV n d) ∧ d = rD (ratV n d) := by
 unfold bdx at h
 simp only [Bool.and_eq_true, decide_eq_true_eq] at h
 exact ⟨⟨h.1.1.1.1, h.1.2, h.2⟩, h.1.1.1.2, h.1.1.2⟩
theorem bdx_rt {r : Rat} (h : Bd r 3000) : bdx (rN r) (rD r) = true := by
 unfold bdx
 rw [ratV_rt h.1]
 simp only [Bool.and_eq_true, decide_eq_true_eq]
 exact ⟨⟨⟨⟨h.1, trivial⟩, trivial⟩, h.2.1⟩, h.2.2⟩
theorem bdN {x : Nat} (h : x < 18446744073709551616) : Bd (x : Rat) 1 := Bd.nat (by omega) (Nat.le_refl _)
theorem bdGiv {L : Rat} {m : Nat} (hL : Bd L m) (p : Nat × Nat) (hp1 : p.1 < 1000000) (hp2 : p.2 < 1000000) : Bd (giv L p) (m + 1) := by
 by_cases h : L * (p.1 : Rat) ≤ (p.2 : Rat)
 ·
  have e : giv L p = L * (p.1 : Rat) := by unfold giv; rw [if_pos h]
  rw [e]
  exact hL.mul (bdN (by omega))
 ·
  have e : giv L p = (p.2 : Rat) := by unfold giv; rw [if_neg h]
  rw [e]
  exact (bdN (x := p.2) (by omega)).le (by omega)
theorem cmpR_neg {r s : Rat} : cmpR r s < 0 ↔ r < s := by
 unfold cmpR
 by_cases h : r = s
 ·
  rw [if_pos h]
  constructor
  ·
   intro h1; omega
  ·
   intro h1; grind
 ·
  rw [if_neg h]
  by_cases h2 : r < s
  ·
   rw [if_pos h2]
   exact ⟨fun _ => h2, fun _ => by decide⟩
  ·
   rw [if_neg h2]
   exact ⟨fun h1 => by omega, fun h1 => absurd h1 h2⟩
theorem cmpR_pos {r s : Rat} : cmpR r s > 0 ↔ s < r := by
 unfold cmpR
 by_cases h : r = s
 ·
  rw [if_pos h]
  constructor
  ·
   intro h1; omega
  ·
   intro h1; grind
 ·
  rw [if_neg h]
  by_cases h2 : r < s
  ·
   rw [if_pos h2]
   exact ⟨fun h1 => by omega, fun h1 => by grind⟩
  ·
   rw [if_neg h2]
   exact ⟨fun _ => by grind, fun _ => by decide⟩
theorem cmpR_le {r s : Rat} (h : r ≤ s) : ¬ cmpR r s > 0 := fun h1 => by
 have := cmpR_pos.1 h1
 grind
theorem cmpR_ge {r s : Rat} (h : s ≤ r) : ¬ cmpR r s < 0 := fun h1 => by
 have := cmpR_neg.1 h1
 grind
end Go.Proofs.YthiicmanfpmipaaGreatDoor.P
end
section
namespace Go.Proofs.YthiicmanfpmipaaGreatDoor.P
open Go.RowKit Go.Proofs.YthiicmanfpmipaaGreatDoorW.PrintWords Go.Proofs.YthiicmanfpmipaaGreatDoorW.PrintLast Go.Proofs.YthiicmanfpmipaaGreatDoorW.PrintMore
attribute [local go_sem] zcf zci zcu zct zb6 zb2 zch zce
attribute [local go_sem] Oper.semAt_some
def givF (a b : Int) (n d : List Int) : Option (List Int × List Int) := if bdx n d = true ∧ 0 ≤ a ∧ a < 1000000 ∧ 0 ≤ b ∧ b < 1000000 then some (rN (giv (ratV n d) (a.toNat, b.toNat)), rD (giv (ratV n d) (a.toNat, b.toNat))) else none
theorem givF_rt {L : Rat} (hL : Bd L 3000) (p : Nat × Nat) (hp1 : p.1 < 1000000) (hp2 : p.2 < 1000000) : givF (p.1 : Int) (p.2 : Int) (rN L) (rD L) = some (rN (giv L p), rD (giv L p)) := by
 unfold givF
 rw [if_pos ⟨bdx_rt hL, by omega, by omega, by omega, by omega⟩, ratV_rt hL.1]
 rfl
theorem givF_of {a b : Int} {n d : List Int} {r : List Int × List Int} (h : givF a b n d = some r) : ∃ (L : Rat) (p : Nat × Nat), Bd L 3000 ∧ n = rN L ∧ d = rD L ∧ a = (p.1 : Int) ∧ b = (p.2 : Int) ∧ p.1 < 1000000 ∧ p.2 < 1000000 ∧ r = (rN (giv L p), rD (giv L p)) := by
 unfold givF at h
 split at h
 ·
  rename_i hc
  obtain ⟨h1, h2, h3⟩ := bdx_of hc.1
  exact ⟨ratV n d, (a.toNat, b.toNat), h1, h2, h3, by have := hc.2; show a = ((a.toNat : Nat) : Int); omega, by have := hc.2; show b = ((b.toNat : Nat) : Int); omega, by have := hc.2; show a.toNat < _; omega, by have := hc.2; show b.toNat < _; omega, (Option.some.inj h).symm⟩
 ·
  cases h
theorem t_IntN (n : Nat) (h : n < 9223372036854775808) (w : World) :
  Calls Tryz.prog 18 #[.int .i64 (n : Int)] w fun e w' => ∃ A c A' c', e = .returned (.agg #[.slice A (rN (n : Rat)).length c, .slice A' (rD (n : Rat)).length c']) ∧ RV w' (fun k => w.heap.size ≤ k) A c (rN (n : Rat)) A' c' (rD (n : Rat)) ∧ Below w.heap.size w w' := by
 have h1 := t_Int (n : Int) (by omega) w
 rwa [Int.toNat_natCast] at h1
def gv1T : Bool × List (List Nat × List Nat) := (true, [([], []), ([], []), ([1], [1]), ([2], [2]), ([0, 3, 3], [0, 3]), ([], []), ([5, 4, 4, 0, 1, 2, 3, 4, 5], [4, 5])])
def gv1B : List Nat := [0, 0, 2, 6, 15, 0, 63]
theorem gv1tab : rtab .any (opsOf Tryz.f40 1) = gv1T := by kernel_rfl
theorem gv1bits : waitsOk gv1T.2 gv1B = true := by kernel_rfl
theorem given_ok (a0_0 a0_1 : Int) (A1_0 : Option Addr) (c1_0 : Nat) (l1_0 : List Int) (A1_1 : Option Addr) (c1_1 : Nat) (l1_1 r1 r2 : List Int) (w : World) (hr1_0 : Kd.C (Kd.int .u64) w A1_0 l1_0.length l1_0) (hc1_0 : l1_0.length ≤ c1_0) (hr1_1 : Kd.C (Kd.int .u64) w A1_1 l1_1.length l1_1) (hc1_1 : l1_1.length ≤ c1_1) (h : givF a0_0 a0_1 l1_0 l1_1 = some (r1, r2)) :
  Calls Tryz.prog 40 #[.agg #[.int .i64 a0_0, .int .i64 a0_1], .agg #[.slice A1_0 l1_0.length c1_0, .slice A1_1 l1_1.length c1_1]] w fun e w' => ∃ v0_ v1_ : Value, e = .returned (.agg #[v0_, v1_]) ∧ Kd.V (Kd.int .u64) 82 w' w.heap.size (fun k_ => (w.heap.size ≤ k_)) v0_ r1 ∧ Kd.V (Kd.int .u64) 82 w' w.heap.size (fun k_ => (w.heap.size ≤ k_)) v1_ r2 ∧ Below w.heap.size w w' := by
 obtain ⟨L, p, hL, rfl, rfl, rfl, rfl, hp1, hp2, hr⟩ := givF_of h
 have hr1' : r1 = rN (giv L p) := congrArg Prod.fst hr
 have hr2' : r2 = rD (giv L p) := congrArg Prod.snd hr
 subst hr1'
 subst hr2'
 have HRt : Aside0 (Rt w A1_0 c1_0 (rN L) A1_1 c1_1 (rD L)) := ⟨hc1_0, hr1_0, hc1_1, hr1_1⟩
 have HL := Aside0.mk hL
 have HP : Aside0 (p.1 < 1000000 ∧ p.2 < 1000000) := ⟨hp1, hp2⟩
 clear h hr hr1_0 hc1_0 hr1_1 hc1_1 hL hp1 hp2
 go_enter Tryz.func40, Tryz.ntmps40
 go_wp2_with fail
 have hb2 := zah (zah (zdm w (.cells #[.int .i64 (p.1 : Int), .int .i64 (p.2 : Int)] 90)) (.cells #[.slice A1_0 (rN L).length c1_0, .slice A1_1 (rD L).length c1_1] 29)) (.cells #[.slice none 0 0, .slice none 0 0] 29)
 have hb3 := zah (zdm (w.alloc (.cells #[.int .i64 (p.1 : Int), .int .i64 (p.2 : Int)] 90)) (.cells #[.slice A1_0 (rN L).length c1_0, .slice A1_1 (rD L).length c1_1] 29)) (.cells #[.slice none 0 0, .slice none 0 0] 29)
 have hb4 := zdm ((w.alloc (.cells #[.int .i64 (p.1 : Int), .int .i64 (p.2 : Int)] 90)).alloc (.cells #[.slice A1_0 (rN L).length c1_0, .slice A1_1 (rD L).length c1_1] 29)) (.cells #[.slice none 0 0, .slice none 0 0] 29)
 have hB := zb (zb (zb (Below.refl w.heap.size w) (.cells #[.int .i64 (p.1 : Int), .int .i64 (p.2 : Int)] 90)) (.cells #[.slice A1_0 (rN L).length c1_0, .slice A1_1 (rD L).length c1_1] 29)) (.cells #[.slice none 0 0, .slice none 0 0] 29)
 have hs : (((w.alloc (.cells #[.int .i64 (p.1 : Int), .int .i64 (p.2 : Int)] 90)).alloc (.cells #[.slice A1_0 (rN L).length c1_0, .slice A1_1 (rD L).length c1_1] 29)).alloc (.cells #[.slice none 0 0, .slice none 0 0] 29)).heap.size = w.heap.size + 3 := by simp
 rw [show (w.alloc (.cells #[.int .i64 (p.1 : Int), .int .i64 (p.2 : Int)] 90)).heap.size = w.heap.size + 1 by simp] at hb3
 rw [show ((w.alloc (.cells #[.int .i64 (p.1 : Int), .int .i64 (p.2 : Int)] 90)).alloc (.cells #[.slice A1_0 (rN L).length c1_0, .slice A1_1 (rD L).length c1_1] 29)).heap.size = w.heap.size + 2 by simp] at hb4
 generalize ((w.alloc (.cells #[.int .i64 (p.1 : Int), .int .i64 (p.2 : Int)] 90)).alloc (.cells #[.slice A1_0 (rN L).length c1_0, .slice A1_1 (rD L).length c1_1] 29)).alloc (.cells #[.slice none 0 0, .slice none 0 0] 29) = w7 at hb2 hb3 hb4 hB hs ⊢
 have HB2 := Aside0.mk hb2
 have HB3 := Aside0.mk hb3
 have HB4 := Aside0.mk hb4
 have HB := Aside0.mk hB
 have HS := Aside0.mk hs
 have HR7 := Aside0.mk (HRt.out.below hB)
 clear hb2 hb3 hb4 hB hs
 have HBw70 : Aside0 (Below w7.heap.size w7 w7.drew) := ⟨(Below.refl w7.heap.size w7).drew⟩
 have HSK : Aside0 (∀ W, Below w7.heap.size w7 W → W.cell? ⟨w.heap.size + 1, 0, none⟩ = some (.slice A1_0 (rN L).length c1_0) ∧ W.cell? ⟨w.heap.size + 1, 1, none⟩ = some (.slice A1_1 (rD L).length c1_1) ∧ W.cell? ⟨w.heap.size, 0, none⟩ = some (.int .i64 (p.1 : Int))) := ⟨fun W hb => by
  have hk := (hb.block _ (zax HB3.out)).trans HB3.out
  have hk2 := (hb.block _ (zax HB2.out)).trans HB2.out
  exact ⟨(zab hk 0).trans rfl, (zab hk 1).trans rfl, (zab hk2 0).trans rfl⟩⟩
 refine start_ (n := 7) (S := fun W => W.cell? ⟨w.heap.size + 1, 0, none⟩ = some (.slice A1_0 (rN L).length c1_0) ∧ W.cell? ⟨w.heap.size + 1, 1, none⟩ = some (.slice A1_1 (rD L).length c1_1) ∧ W.cell? ⟨w.heap.size, 0, none⟩ = some (.int .i64 (p.1 : Int))) (ds := []) #[false, false, false, false, false, false, false] (by kernel_rfl) rfl rfl (HSK.out _ HBw70.out) (fun hHeld => ?_); refine zcq gv1tab gv1bits (fun HT_ HW_ => ?_)
 refine take_ (i := 0) (N := some 7) (v := ?_) (a' := ?_) #[true, false, false, false, false, false, false] rfl rfl (zbk HT_.out HW_.out (by kernel_rfl)) (fun _ _ _ h => h) (Or.inl ⟨by rfl, ?_⟩) hHeld ?_ ?_
 rotate_left
 ·
  rintro w' ⟨s0, s1, s2⟩
  go_simp
  with_reducible rfl
 rotate_left
 ·
  simp only [Act.put, List.setIfInBounds_toArray, List.set_cons_zero, List.set_cons_succ, i64_w, i32_w]
  rfl
 refine pure_ (i := 1) (N := some 8) (v := ?_) (a' := ?_) #[true, true, false, false, false, false, false] rfl rfl (zat HT_.out (by kernel_rfl)) (fun _ _ _ h => h) (Or.inl ⟨by rfl, ?_⟩) ?_ ?_
 rotate_left
 ·
  intro w'
  go_simp
  with_reducible rfl
 rotate_left
 ·
  simp only [Act.put, List.setIfInBounds_toArray, List.set_cons_zero, List.set_cons_succ, i64_w, i32_w]
  rfl
 refine take_ (i := 2) (N := some 9) (v := ?_) (a' := ?_) #[true, true, true, false, false, false, false] rfl rfl (zbk HT_.out HW_.out (by kernel_rfl)) (fun _ _ _ h => h) (Or.inl ⟨by rfl, ?_⟩) hHeld ?_ ?_
 rotate_left
 ·
  rintro w' ⟨s0, s1, s2⟩
  go_simp
  with_reducible rfl
 rotate_left
 ·
  simp only [Act.put, List.setIfInBounds_toArray, List.set_cons_zero, List.set_cons_succ, i64_w, i32_w]
  rfl
 refine join_ (σ := Value × Value × Nat) 1 #[true, true, true, true, true, true, false] (fun s_ => [(10, s_.1), (11, s_.2.1), (5, .pointer (some ⟨s_.2.2, 0, none⟩))]) (fun s_ w' => (w'.cell? ⟨w.heap.size + 1, 0, none⟩ = some (.slice A1_0 (rN L).length c1_0) ∧ w'.cell? ⟨w.heap.size + 1, 1, none⟩ = some (.slice A1_1 (rD L).length c1_1) ∧ w'.cell? ⟨w.heap.size, 0, none⟩ = some (.int .i64 (p.1 : Int))) ∧ (∃ A c A' c', s_.2.1 = .agg #[.slice A (rN (L * (p.1 : Rat))).length c, .slice A' (rD (L * (p.1 : Rat))).length c'] ∧ RV w' (fun k => w7.heap.size ≤ k ∧ k ≠ s_.2.2) A c (rN (L * (p.1 : Rat))) A' c' (rD (L * (p.1 : Rat)))) ∧ w'.heap[s_.2.2]? = some (.cells #[.slice none 0 0, .slice none 0 0] 29 (0, 0)) ∧ w7.heap.size ≤ s_.2.2 ∧ Below w7.heap.size w7 w') ?_ ?_
 rotate_left
 ·
  intro hJ
  refine two_ (i := 3) (j := 5) (Ni := some 10) (Nj := some 5) #[true, true, true, true, false, false, false] #[true, true, true, false, false, true, false] rfl rfl rfl rfl (two_of HT_.out (by kernel_rfl)) (by decide) (by decide) (fun K hK => ?_) (fun K hK => ?_)
  ·
   skip
   refine goes_ Tryz.func18 (by kernel_rfl) rfl #[.int .i64 (p.1 : Int)] (by rfl) rfl rfl (by (try simp only [List.map_toArray, List.map_cons, List.map_nil]); first | done | rfl) ?_
   refine (t_IntN p.1 (by have := HP.out; omega) _).mono ?_
   rintro e u1 ⟨uE00, uE01, uE02, uE03, rfl, hx, hb⟩
   refine ⟨_, rfl, ?_⟩
   have HBu1 : Aside0 (Below w7.heap.size w7 u1) := ⟨zaa HBw70.out hb⟩
   have hzu1 := hb.size
   have HX0u1 := Aside0.mk hx.rt
   clear hx hb
   refine hK.out _ _ (HSK.out _ HBu1.out) (fun hHeld => ?_)
   clear hK K
   refine norm_ (a' := ?_) ?_ ?_
   rotate_left
   ·
    show Act.put _ (some 10) _ = _
    simp only [Act.put, List.setIfInBounds_toArray, List.set_cons_zero, List.set_cons_succ, i64_w, i32_w]
    rfl
   refine two_ (i := 4) (j := 5) (Ni := some 11) (Nj := some 5) #[true, true, true, true, true, false, false] #[true, true, true, true, false, true, false] rfl rfl rfl rfl (two_of HT_.out (by kernel_rfl)) (by decide) (by decide) (fun K hK => ?_) (fun K hK => ?_)
   ·
    skip
    refine goes_ Tryz.func19 (by kernel_rfl) rfl #[.agg #[.slice A1_0 (rN L).length c1_0, .slice A1_1 (rD L).length c1_1], .agg #[.slice uE00 _ uE01, .slice uE02 _ uE03]] (by rfl) rfl rfl (by (try simp only [List.map_toArray, List.map_cons, List.map_nil]); first | done | rfl) ?_
    refine (t_Mul (HR7.out.below HBu1.out) HX0u1.out HL.out (bdN (x := p.1) (by have := HP.out; omega)) (by omega)).mono ?_
    rintro e u2 ⟨uE10, uE11, uE12, uE13, rfl, hx, hb⟩
    refine ⟨_, rfl, ?_⟩
    have HBu2 : Aside0 (Below w7.heap.size w7 u2) := ⟨zaa HBu1.out hb⟩
    have hzu2 := hb.size
    have HYu2 := Aside0.mk hx
    clear hx hb
    refine hK.out _ _ (HSK.out _ HBu2.out) (fun hHeld => ?_)
    clear hK K
    refine norm_ (a' := ?_) ?_ ?_
    rotate_left
    ·
     show Act.put _ (some 11) _ = _
     simp only [Act.put, List.setIfInBounds_toArray, List.set_cons_zero, List.set_cons_succ, i64_w, i32_w]
     rfl
    refine one_ (i := 5) (N := some 5) #[true, true, true, true, true, true, false] rfl rfl (zbu HT_.out (by kernel_rfl)) (by decide) (fun K hK => ?_)
    refine box_step ?hg (N := 5) ?hd (cs := #[.slice none 0 0, .slice none 0 0]) (t := 29) ?hr ?_; (case hd => rfl); (case hg => rfl); (case hr => first | (go_simp; done) | (go_simp; rfl))
    intro gb hgb u3 hbox hb
    have HBu3 : Aside0 (Below w7.heap.size w7 u3) := ⟨zaa HBu2.out hb⟩
    have HBXu3 := Aside0.mk hbox
    have hgl := zax hbox
    have hge : w7.heap.size ≤ gb := by rw [hgb]; exact (HBu2.out).size
    have hzu3 := hb.size
    have HYu3 := Aside0.mk ((HYu2.out.old hb).mono (Q := fun k => w7.heap.size ≤ k ∧ k ≠ gb) (fun k hk => by have h0 := hk.1; have := hk.2; have := (HBu1.out).size; omega))
    clear hbox hb
    refine hK.out _ _ (HSK.out _ HBu3.out) (fun hHeld => ?_)
    clear hK K
    refine norm_ (a' := ?_) ?_ ?_
    rotate_left
    ·
     show Act.put _ (some 5) _ = _
     simp only [Act.put, List.setIfInBounds_toArray, List.set_cons_zero, List.set_cons_succ, i64_w, i32_w]
     rfl
    exact norm_ (by first | (simp only [putAll, Act.put, List.setIfInBounds_toArray, List.set_cons_zero, List.set_cons_succ]; done) | (simp only [putAll, Act.put, List.setIfInBounds_toArray, List.set_cons_zero, List.set_cons_succ]; rfl)) (hJ (_, _, gb) u3 ⟨hHeld, ⟨uE10, uE11, uE12, uE13, rfl, HYu3.out⟩, HBXu3.out, hge, HBu3.out⟩)
   ·
    skip
    refine box_step ?hg (N := 5) ?hd (cs := #[.slice none 0 0, .slice none 0 0]) (t := 29) ?hr ?_; (case hd => rfl); (case hg => rfl); (case hr => first | (go_simp; done) | (go_simp; rfl))
    intro gb hgb u2 hbox hb
    have HBu2 : Aside0 (Below w7.heap.size w7 u2) := ⟨zaa HBu1.out hb⟩
    have HBXu2 := Aside0.mk hbox
    have hgl := zax hbox
    have hge : w7.heap.size ≤ gb := by rw [hgb]; exact (HBu1.out).size
    have hzu2 := hb.size
    have HX0u2 := Aside0.mk (HX0u1.out.below hb)
    clear hbox hb
    refine hK.out _ _ (HSK.out _ HBu2.out) (fun hHeld => ?_)
    clear hK K
    refine norm_ (a' := ?_) ?_ ?_
    rotate_left
    ·
     show Act.put _ (some 5) _ = _
     simp only [Act.put, List.setIfInBounds_toArray, List.set_cons_zero, List.set_cons_succ, i64_w, i32_w]
     rfl
    refine one_ (i := 4) (N := some 11) #[true, true, true, true, true, true, false] rfl rfl (zbu HT_.out (by kernel_rfl)) (by decide) (fun K hK => ?_)
    refine goes_ Tryz.func19 (by kernel_rfl) rfl #[.agg #[.slice A1_0 (rN L).length c1_0, .slice A1_1 (rD L).length c1_1], .agg #[.slice uE00 _ uE01, .slice uE02 _ uE03]] (by rfl) rfl rfl (by (try simp only [List.map_toArray, List.map_cons, List.map_nil]); first | done | rfl) ?_
    refine (t_Mul (HR7.out.below HBu2.out) HX0u2.out HL.out (bdN (x := p.1) (by have := HP.out; omega)) (by omega)).mono ?_
    rintro e u3 ⟨uE10, uE11, uE12, uE13, rfl, hx, hb⟩
    refine ⟨_, rfl, ?_⟩
    have HBu3 : Aside0 (Below w7.heap.size w7 u3) := ⟨zaa HBu2.out hb⟩
    have hzu3 := hb.size
    have HYu3 := Aside0.mk hx
    have HBXu3 := Aside0.mk ((hb.block _ (zax HBXu2.out)).trans HBXu2.out)
    clear hx hb
    refine hK.out _ _ (HSK.out _ HBu3.out) (fun hHeld => ?_)
    clear hK K
    refine norm_ (a' := ?_) ?_ ?_
    rotate_left
    ·
     show Act.put _ (some 11) _ = _
     simp only [Act.put, List.setIfInBounds_toArray, List.set_cons_zero, List.set_cons_succ, i64_w, i32_w]
     rfl
    exact norm_ (by first | (simp only [putAll, Act.put, List.setIfInBounds_toArray, List.set_cons_zero, List.set_cons_succ]; done) | (simp only [putAll, Act.put, List.setIfInBounds_toArray, List.set_cons_zero, List.set_cons_succ]; rfl)) (hJ (_, _, gb) u3 ⟨hHeld, ⟨uE10, uE11, uE12, uE13, rfl, (HYu3.out.mono (fun k hk => by have h : u2.heap.size ≤ k := hk; have := (HBu2.out).size; show w7.heap.size ≤ k ∧ k ≠ gb; omega))⟩, HBXu3.out, hge, HBu3.out⟩)
  ·
   skip
   refine box_step ?hg (N := 5) ?hd (cs := #[.slice none 0 0, .slice none 0 0]) (t := 29) ?hr ?_; (case hd => rfl); (case hg => rfl); (case hr => first | (go_simp; done) | (go_simp; rfl))
   intro gb hgb u1 hbox hb
   have HBu1 : Aside0 (Below w7.heap.size w7 u1) := ⟨zaa HBw70.out hb⟩
   have HBXu1 := Aside0.mk hbox
   have hgl := zax hbox
   have hge : w7.heap.size ≤ gb := by rw [hgb]; exact (HBw70.out).size
   have hzu1 := hb.size
   clear hbox hb
   refine hK.out _ _ (HSK.out _ HBu1.out) (fun hHeld => ?_)
   clear hK K
   refine norm_ (a' := ?_) ?_ ?_
   rotate_left
   ·
    show Act.put _ (some 5) _ = _
    simp only [Act.put, List.setIfInBounds_toArray, List.set_cons_zero, List.set_cons_succ, i64_w, i32_w]
    rfl
   refine one_ (i := 3) (N := some 10) #[true, true, true, true, false, true, false] rfl rfl (zbu HT_.out (by kernel_rfl)) (by decide) (fun K hK => ?_)
   refine goes_ Tryz.func18 (by kernel_rfl) rfl #[.int .i64 (p.1 : Int)] (by rfl) rfl rfl (by (try simp only [List.map_toArray, List.map_cons, List.map_nil]); first | done | rfl) ?_
   refine (t_IntN p.1 (by have := HP.out; omega) _).mono ?_
   rintro e u2 ⟨uE00, uE01, uE02, uE03, rfl, hx, hb⟩
   refine ⟨_, rfl, ?_⟩
   have HBu2 : Aside0 (Below w7.heap.size w7 u2) := ⟨zaa HBu1.out hb⟩
   have hzu2 := hb.size
   have HX0u2 := Aside0.mk hx.rt
   have HBXu2 := Aside0.mk ((hb.block _ (zax HBXu1.out)).trans HBXu1.out)
   clear hx hb
   refine hK.out _ _ (HSK.out _ HBu2.out) (fun hHeld => ?_)
   clear hK K
   refine norm_ (a' := ?_) ?_ ?_
   rotate_left
   ·
    show Act.put _ (some 10) _ = _
    simp only [Act.put, List.setIfInBounds_toArray, List.set_cons_zero, List.set_cons_succ, i64_w, i32_w]
    rfl
   refine one_ (i := 4) (N := some 11) #[true, true, true, true, true, true, false] rfl rfl (zbu HT_.out (by kernel_rfl)) (by decide) (fun K hK => ?_)
   refine goes_ Tryz.func19 (by kernel_rfl) rfl #[.agg #[.slice A1_0 (rN L).length c1_0, .slice A1_1 (rD L).length c1_1], .agg #[.slice uE00 _ uE01, .slice uE02 _ uE03]] (by rfl) rfl rfl (by (try simp only [List.map_toArray, List.map_cons, List.map_nil]); first | done | rfl) ?_
   refine (t_Mul (HR7.out.below HBu2.out) HX0u2.out HL.out (bdN (x := p.1) (by have := HP.out; omega)) (by omega)).mono ?_
   rintro e u3 ⟨uE10, uE11, uE12, uE13, rfl, hx, hb⟩
   refine ⟨_, rfl, ?_⟩
   have HBu3 : Aside0 (Below w7.heap.size w7 u3) := ⟨zaa HBu2.out hb⟩
   have hzu3 := hb.size
   have HYu3 := Aside0.mk hx
   have HBXu3 := Aside0.mk ((hb.block _ (zax HBXu2.out)).trans HBXu2.out)
   clear hx hb
   refine hK.out _ _ (HSK.out _ HBu3.out) (fun hHeld => ?_)
   clear hK K
   refine norm_ (a' := ?_) ?_ ?_
   rotate_left
   ·
    show Act.put _ (some 11) _ = _
    simp only [Act.put, List.setIfInBounds_toArray, List.set_cons_zero, List.set_cons_succ, i64_w, i32_w]
    rfl
   exact norm_ (by first | (simp only [putAll, Act.put, List.setIfInBounds_toArray, List.set_cons_zero, List.set_cons_succ]; done) | (simp only [putAll, Act.put, List.setIfInBounds_toArray, List.set_cons_zero, List.set_cons_succ]; rfl)) (hJ (_, _, gb) u3 ⟨hHeld, ⟨uE10, uE11, uE12, uE13, rfl, (HYu3.out.mono (fun k hk => by have h : u2.heap.size ≤ k := hk; have := (HBu2.out).size; show w7.heap.size ≤ k ∧ k ≠ gb; omega))⟩, HBXu3.out, hge, HBu3.out⟩)
 rintro ⟨v40_, y_, g5⟩ w8 ⟨hHeld, ⟨m0, m1, m2, m3, hy, hRV⟩, hbox, hge, hb8⟩
 dsimp only at hy hbox hge hRV
 subst hy
 have q0 : w8.cell? ⟨g5, 0, none⟩ = some (.slice none 0 0) := (zab hbox 0).trans rfl
 have q1 : w8.cell? ⟨g5, 1, none⟩ = some (.slice none 0 0) := (zab hbox 1).trans rfl
 have q2 := zal hbox 0
 have q3 := zal hbox 1
 have HBF := Aside0.mk ((hb8.setCell (p := ⟨g5, 0, none⟩) hge (.slice m0 (rN (L * (p.1 : Rat))).length m1)).setCell (p := ⟨g5, 1, none⟩) hge (.slice m2 (rD (L * (p.1 : Rat))).length m3))
 have HRF := Aside0.mk (((hRV.far (p := ⟨g5, 0, none⟩) (fun k hk => hk.2) (.slice m0 (rN (L * (p.1 : Rat))).length m1)).far (p := ⟨g5, 1, none⟩) (fun k hk => hk.2) (.slice m2 (rD (L * (p.1 : Rat))).length m3)))
 have HXF := Aside0.mk (zbc (zbc hbox 0 (.slice m0 (rN (L * (p.1 : Rat))).length m1) rfl) 1 (.slice m2 (rD (L * (p.1 : Rat))).length m3) rfl)
 have HGEg5 := Aside0.mk hge
 clear hRV hbox hb8
 refine norm_ (a' := ?_) ?_ ?_
 rotate_left
 ·
  simp only [putAll, Act.put, List.setIfInBounds_toArray, List.set_cons_zero, List.set_cons_succ]
  rfl
 refine one_ (i := 6) (N := none) #[true, true, true, true, true, true, true] rfl rfl (zbu HT_.out (by kernel_rfl)) (by decide) (fun K hK => ?_)
 refine skip_ (w1 := ?_) (by rfl) rfl ?_ ?_
 rotate_left
 ·
  go_simp
  rfl
 refine hK.out _ _ (HSK.out _ HBF.out) (fun hHeld => ?_)
 clear hK K q0 q1 q2 q3
 generalize (w8.setCell ⟨g5, 0, none⟩ (.slice m0 (rN (L * (p.1 : Rat))).length m1)).setCell ⟨g5, 1, none⟩ (.slice m2 (rD (L * (p.1 : Rat))).length m3) = w9 at HBF HRF HXF hHeld ⊢
 have HBw9 := HBF
 have HRw9 := HRF
 have HXw9 := HXF
 clear HBF HRF HXF hge
 refine done_ (zdf HT_.out (by kernel_rfl)) ?_
 have HM9 := Aside0.mk HRw9.out.rt
 have HXg9 := HXw9
 have qc : w9.cell? ⟨w.heap.size, 1, none⟩ = some (.int .i64 (p.2 : Int)) := (zab ((HBw9.out.block _ (zax HB2.out)).trans HB2.out) 1).trans rfl
 go_wp2_with fail
 clear qc
 have HTI := Aside0.mk (t_IntN p.2 (by have := HP.out; omega) w9)
 refine HTI.out.mono ?_
 rintro e w10 ⟨K0, d0, K1, d1, rfl, hK, hb10⟩
 have hB710 := zaa HBw9.out hb10
 have hm10 := (hb10.block _ (zax HXg9.out)).trans HXg9.out
 have HB411 := Aside0.mk (zb hB710 (.cells #[.slice K0 (rN (p.2 : Rat)).length d0, .slice K1 (rD (p.2 : Rat)).length d1] 29))
 have HMo := Aside0.mk (hK.old (zb (Below.refl w10.heap.size w10) (.cells #[.slice K0 (rN (p.2 : Rat)).length d0, .slice K1 (rD (p.2 : Rat)).length d1] 29)))
 have HXm := Aside0.mk (zdm w10 (.cells #[.slice K0 (rN (p.2 : Rat)).length d0, .slice K1 (rD (p.2 : Rat)).length d1] 29))
 have HXg := Aside0.mk (zah hm10 (.cells #[.slice K0 (rN (p.2 : Rat)).length d0, .slice K1 (rD (p.2 : Rat)).length d1] 29))
 have HG9 := Aside0.mk ((HRw9.out.old hb10).old (zb (Below.refl w10.heap.size w10) (.cells #[.slice K0 (rN (p.2 : Rat)).length d0, .slice K1 (rD (p.2 : Rat)).length d1] 29)))
 have hs10 := hb10.size
 have HS10 := Aside0.mk hs10
 clear hK hb10 hB710 hm10 hs10
 go_upto_region 3 with fail
 have HS9 := Aside0.mk HBw9.out.size
 generalize w10.alloc (.cells #[.slice K0 (rN (p.2 : Rat)).length d0, .slice K1 (rD (p.2 : Rat)).length d1] 29) = w11 at HB411 HMo HXm HXg HG9 ⊢
 generalize w10.heap.size = g6 at HXm HMo HG9 HS10 ⊢
 have q0 : w11.cell? ⟨g5, 0, none⟩ = some (.slice m0 (rN (L * (p.1 : Rat))).length m1) := (zab HXg.out 0).trans rfl
 have q1 : w11.cell? ⟨g5, 1, none⟩ = some (.slice m2 (rD (L * (p.1 : Rat))).length m3) := (zab HXg.out 1).trans rfl
 have q2 : w11.cell? ⟨g6, 0, none⟩ = some (.slice K0 (rN (p.2 : Rat)).length d0) := (zab HXm.out 0).trans rfl
 have q3 : w11.cell? ⟨g6, 1, none⟩ = some (.slice K1 (rD (p.2 : Rat)).length d1) := (zab HXm.out 1).trans rfl
 go_wp2_with fail
 refine (t_Cmp HG9.out.rt HMo.out.rt (HL.out.mul (bdN (x := p.1) (by have := HP.out; omega))) (bdN (x := p.2) (by have := HP.out; omega)) (by omega)).mono ?_
 clear q0 q1 q2 q3
 rintro e w12 ⟨rfl, hb12⟩
 have HB712 := Aside0.mk (zaa HB411.out hb12)
 have HX12 := Aside0.mk ((HB712.out.block _ (zax HB4.out)).trans HB4.out)
 have HXg12 := Aside0.mk ((hb12.block _ (zax HXg.out)).trans HXg.out)
 have HXm12 := Aside0.mk ((hb12.block _ (zax HXm.out)).trans HXm.out)
 have HGr := Aside0.mk ((HG9.out.old hb12).mono (Q := fun k => w.heap.size ≤ k ∧ k ≠ w.heap.size + 2) (fun k hk => by have := hk.1.1.1.1; have := HS.out; omega))
 have HMr := Aside0.mk ((HMo.out.old hb12).mono (Q := fun k => w.heap.size ≤ k ∧ k ≠ w.heap.size + 2) (fun k hk => by have h0 : w9.heap.size ≤ k := hk.1.1; have := HS.out; have := HS9.out; omega))
 clear hb12
 have p4 : w12.cell? ⟨w.heap.size + 2, 0, none⟩ = some (.slice none 0 0) := (zab HX12.out 0).trans rfl
 have p5 : w12.cell? ⟨w.heap.size + 2, 1, none⟩ = some (.slice none 0 0) := (zab HX12.out 1).trans rfl
 have p6 := zal HX12.out 0
 have p7 := zal HX12.out 1
 generalize hcq : cmpR (L * (p.1 : Rat)) (p.2 : Rat) = cq
 have hBw := zaa HB.out HB712.out
 by_cases hle : L * (p.1 : Rat) ≤ (p.2 : Rat)
 ·
  have d6 : decide (cq > 0) = false := decide_eq_false (by rw [← hcq]; exact cmpR_le hle)
  have hg : giv L p = L * (p.1 : Rat) := by unfold giv; rw [if_pos hle]
  have HGv := Aside0.mk hg
  have q0 : w12.cell? ⟨g5, 0, none⟩ = some (.slice m0 (rN (L * (p.1 : Rat))).length m1) := (zab HXg12.out 0).trans rfl
  have q1 : w12.cell? ⟨g5, 1, none⟩ = some (.slice m2 (rD (L * (p.1 : Rat))).length m3) := (zab HXg12.out 1).trans rfl
  have HSF := Aside0.mk ((HGr.out.far (p := ⟨w.heap.size + 2, 0, none⟩) (fun k hk => hk.2) (.slice m0 (rN (L * (p.1 : Rat))).length m1)).far (p := ⟨w.heap.size + 2, 1, none⟩) (fun k hk => hk.2) (.slice m2 (rD (L * (p.1 : Rat))).length m3))
  have HBF := Aside0.mk (zbc (zbc HX12.out 0 (.slice m0 (rN (L * (p.1 : Rat))).length m1) rfl) 1 (.slice m2 (rD (L * (p.1 : Rat))).length m3) rfl)
  have HKF := Aside0.mk ((hBw.setCell (p := ⟨w.heap.size + 2, 0, none⟩) (Nat.le_add_right _ _) (.slice m0 (rN (L * (p.1 : Rat))).length m1)).setCell (p := ⟨w.heap.size + 2, 1, none⟩) (Nat.le_add_right _ _) (.slice m2 (rD (L * (p.1 : Rat))).length m3))
  clear hcq hle hg hBw
  go_wp2_with fail
  all_goals first | (exfalso; first | (have h_ := of_decide_eq_true d6; omega) | (have h_ := of_decide_eq_false d6; omega)) | skip
  refine bodyPost_ret (results_cell_row rfl _ _ (w.heap.size + 2) 29 _ (0, 0) _ rfl HBF.out Tryz.underlying29 rfl (by kernel_rfl)) rfl ?_
  rw [HGv.out]
  exact ⟨_, _, rfl, (HSF.out.mono (Q := fun k => w.heap.size ≤ k) (fun k hk => hk.1)).1, (HSF.out.mono (Q := fun k => w.heap.size ≤ k) (fun k hk => hk.1)).2, HKF.out⟩
 ·
  have d6 : decide (cq > 0) = true := decide_eq_true (by rw [← hcq]; exact cmpR_pos.2 (Rat.not_le.1 hle))
  have hg : giv L p = (p.2 : Rat) := by unfold giv; rw [if_neg hle]
  have HGv := Aside0.mk hg
  have q0 : w12.cell? ⟨g6, 0, none⟩ = some (.slice K0 (rN (p.2 : Rat)).length d0) := (zab HXm12.out 0).trans rfl
  have q1 : w12.cell? ⟨g6, 1, none⟩ = some (.slice K1 (rD (p.2 : Rat)).length d1) := (zab HXm12.out 1).trans rfl
  have HSF := Aside0.mk ((HMr.out.far (p := ⟨w.heap.size + 2, 0, none⟩) (fun k hk => hk.2) (.slice K0 (rN (p.2 : Rat)).length d0)).far (p := ⟨w.heap.size + 2, 1, none⟩) (fun k hk => hk.2) (.slice K1 (rD (p.2 : Rat)).length d1))
  have HBF := Aside0.mk (zbc (zbc HX12.out 0 (.slice K0 (rN (p.2 : Rat)).length d0) rfl) 1 (.slice K1 (rD (p.2 : Rat)).length d1) rfl)
  have HKF := Aside0.mk ((hBw.setCell (p := ⟨w.heap.size + 2, 0, none⟩) (Nat.le_add_right _ _) (.slice K0 (rN (p.2 : Rat)).length d0)).setCell (p := ⟨w.heap.size + 2, 1, none⟩) (Nat.le_add_right _ _) (.slice K1 (rD (p.2 : Rat)).length d1))
  clear hcq hle hg hBw
  go_wp2_with fail
  all_goals first | (exfalso; first | (have h_ := of_decide_eq_true d6; omega) | (have h_ := of_decide_eq_false d6; omega)) | skip
  refine bodyPost_ret (results_cell_row rfl _ _ (w.heap.size + 2) 29 _ (0, 0) _ rfl HBF.out Tryz.underlying29 rfl (by kernel_rfl)) rfl ?_
  rw [HGv.out]
  exact ⟨_, _, rfl, (HSF.out.mono (Q := fun k => w.heap.size ≤ k) (fun k hk => hk.1)).1, (HSF.out.mono (Q := fun k => w.heap.size ≤ k) (fun k hk => hk.1)).2, HKF.out⟩
end Go.Proofs.YthiicmanfpmipaaGreatDoor.P
end
section
namespace Go.Proofs.YthiicmanfpmipaaGreatDoor.P
open Go.RowKit Go.Proofs.YthiicmanfpmipaaGreatDoorW.PrintWords Go.Proofs.YthiicmanfpmipaaGreatDoorW.PrintLast Go.Proofs.YthiicmanfpmipaaGreatDoorW.PrintMore
attribute [local go_sem] zcf zci zcu zct zb6 zb2 zch zce
def zc5.f (k : Nat) (a0_0 a0_1 : Int) (l1_0 l1_1 : List Int) : Option (List Int × List Int) := givF a0_0 a0_1 l1_0 l1_1
theorem zc5.calls (k : Nat) (a0_0 a0_1 : Int) (A1_0 : Option Addr) (c1_0 : Nat) (l1_0 : List Int) (A1_1 : Option Addr) (c1_1 : Nat) (l1_1 : List Int) (r1 r2 : List Int) (w : World) (hr1_0 : Kd.C (Kd.int .u64) w A1_0 l1_0.length l1_0) (hc1_0 : l1_0.length ≤ c1_0) (hr1_1 : Kd.C (Kd.int .u64) w A1_1 l1_1.length l1_1) (hc1_1 : l1_1.length ≤ c1_1) (h : zc5.f k a0_0 a0_1 l1_0 l1_1 = some (r1, r2)) :
  Calls Tryz.prog 40 #[.agg #[.int .i64 a0_0, .int .i64 a0_1], .agg #[.slice A1_0 l1_0.length c1_0, .slice A1_1 l1_1.length c1_1]] w fun e w' => ∃ v0_ v1_ : Value, e = .returned (.agg #[v0_, v1_]) ∧ Kd.V (Kd.int .u64) 82 w' w.heap.size (fun k_ => (w.heap.size ≤ k_)) v0_ r1 ∧ Kd.V (Kd.int .u64) 82 w' w.heap.size (fun k_ => (w.heap.size ≤ k_)) v1_ r2 ∧ Below w.heap.size w w' :=
 given_ok a0_0 a0_1 A1_0 c1_0 l1_0 A1_1 c1_1 l1_1 r1 r2 w hr1_0 hc1_0 hr1_1 hc1_1 h
theorem qIntN (x : Nat) (h : x < 9223372036854775808) : Ev (fun k => zb9.f k (x : Int)) (rN (x : Rat), rD (x : Rat)) := by
 have h1 := qInt (x : Int) (by omega)
 rw [Int.toNat_natCast] at h1
 exact h1
theorem gGiven {L : Rat} {m : Nat} (hL : Bd L m) (hm : m ≤ 3000) (p : Nat × Nat) (hp1 : p.1 < 1000000) (hp2 : p.2 < 1000000) : Ev (fun k => zc5.f k (p.1 : Int) (p.2 : Int) (rN L) (rD L)) (rN (giv L p), rD (giv L p)) := Ev.of fun _ => givF_rt (hL.le hm) p hp1 hp2
def IntsC (w : World) (A : Option Addr) (l : List Int) : Prop := ∀ i, i < l.length → ∃ ad, A = some ad ∧ w.cell? (ad.add i) = some (.int .i64 (l.getD i 0))
theorem IntsC.keep {w w' : World} {A : Option Addr} {l : List Int} (h : IntsC w A l) (hb : Below w.heap.size w w') : IntsC w' A l := fun i hi => by
 obtain ⟨ad, e, hc⟩ := h i hi
 exact ⟨ad, e, (hb.cell (block_lt_of_cell hc)).trans hc⟩
def oddW (c : Int) : Bool := decide (c < 1) || decide (c > 10000)
def outC (c : Int) : Bool := decide (c < 0) || decide (c > 64)
theorem oddW_ok (c : Int) (w : World) : Calls Tryz.prog 70 #[.int .i64 c] w fun e w' => e = .returned (.bool (oddW c)) ∧ w' = w := by
 have he : oddW c = (decide (c < 1) || decide (c > 10000)) := rfl
 have HE := Aside0.mk he
 clear he
 go_enter Tryz.func70, Tryz.ntmps70
 cases d1 : decide (c < 1)
 ·
  go_wp2_with fail
  go_ret
  exact ⟨by rw [HE.out, d1]; rfl, rfl⟩
 ·
  go_wp2_with fail
  go_ret
  exact ⟨by rw [HE.out, d1]; rfl, rfl⟩
theorem outC_ok (c : Int) (w : World) : Calls Tryz.prog 71 #[.int .i64 c] w fun e w' => e = .returned (.bool (outC c)) ∧ w' = w := by
 have he : outC c = (decide (c < 0) || decide (c > 64)) := rfl
 have HE := Aside0.mk he
 clear he
 go_enter Tryz.func71, Tryz.ntmps71
 cases d1 : decide (c < 0)
 ·
  go_wp2_with fail
  go_ret
  exact ⟨by rw [HE.out, d1]; rfl, rfl⟩
 ·
  go_wp2_with fail
  go_ret
  exact ⟨by rw [HE.out, d1]; rfl, rfl⟩
theorem index_ok (g : Nat) (hen : ∀ (args : Array Value) (W : World), (callFunc g args).run Tryz.prog W = .ok (.enter g args) W) (p : Int → Bool) (hp : ∀ c W, Calls Tryz.prog g #[.int .i64 c] W fun e W' => e = .returned (.bool (p c)) ∧ W' = W) (A : Option Addr) (cap : Nat) (l : List Int) (hl : l.length ≤ 1000) (w : World) (hA : IntsC w A l) :
  Calls Tryz.prog 122 #[.slice A l.length cap, .func (.func g) #[] #[]] w fun e w' => ∃ r, e = .returned (.int .i64 r) ∧ (decide (r ≥ 0) = l.any p) ∧ w' = w := by
 have HP := Aside0.mk hp
 have HA := Aside0.mk hA
 have HL := Aside0.mk hl
 clear hp hA hl
 generalize hln : l.length = len at HL ⊢
 have HLN := Aside0.mk hln
 clear hln
 go_enter Tryz.func122, Tryz.ntmps122
 go_wp2_with fail
 go_loopg [5, 8] len (fun gk v5 v8 w' => ∃ i : Nat, v8 = .int .i64 (i : Int) ∧ Aside0 (i + gk = len) ∧ Aside0 (l.any p = (l.drop i).any p) ∧ w' = w)
 case atStart => exact ⟨0, rfl, ⟨by omega⟩, ⟨by rw [List.drop_zero]⟩, rfl⟩
 case round =>
  obtain ⟨i, rfl, HK, HQ, rfl⟩ := hrel
  cases gk with
  | zero =>
   have hi : i = len := by have := HK.out; omega
   subst hi
   have d1 : decide ((i : Int) < (i : Int)) = false := decide_eq_false (by omega)
   have HE : Aside0 (l.any p = false) := ⟨by rw [HQ.out, List.drop_of_length_le (by have := HLN.out; omega)]; rfl⟩
   go_wp2_with fail
   go_ret
   exact ⟨_, rfl, by rw [HE.out]; rfl, rfl⟩
  | succ g1 =>
   have hil : i < len := by have := HK.out; omega
   have hi : i < l.length := by have := HLN.out; omega
   have d1 : decide ((i : Int) < (len : Int)) = true := decide_eq_true (by omega)
   obtain ⟨ad, rfl, c1⟩ := HA.out i hi
   have HX := Aside0.mk HQ.out
   rw [List.drop_eq_getElem_cons hi, List.any_cons] at HX
   rw [show l.getD i 0 = l[i] by simp [hi]] at c1
   generalize l[i] = c at c1 HX
   go_wp2_with fail
   refine (HP.out c wr).mono ?_
   rintro e w2 ⟨rfl, rfl⟩
   cases hb : p c
   ·
    rw [hb, Bool.false_or] at HX
    go_wp2_with fail
    go_roundg g1
    case rel => exact ⟨i + 1, by rw [show wrap64 ((i : Int) + 1) = ((i + 1 : Nat) : Int) by (have := HL.out; unfold wrap64; omega)], ⟨by have := HK.out; omega⟩, HX, rfl⟩
    case measure => omega
   ·
    rw [hb, Bool.true_or] at HX
    go_wp2_with fail
    go_ret
    exact ⟨_, rfl, by rw [HX.out]; exact decide_eq_true (by omega), rfl⟩
theorem contains_ok (g : Nat) (hen : ∀ (args : Array Value) (W : World), (callFunc g args).run Tryz.prog W = .ok (.enter g args) W) (p : Int → Bool) (hp : ∀ c W, Calls Tryz.prog g #[.int .i64 c] W fun e W' => e = .returned (.bool (p c)) ∧ W' = W) (A : Option Addr) (cap : Nat) (l : List Int) (hl : l.length ≤ 1000) (w : World) (hA : IntsC w A l) :
  Calls Tryz.prog 73 #[.slice A l.length cap, .func (.func g) #[] #[]] w fun e w' => e = .returned (.bool (l.any p)) ∧ w' = w := by
 have HI := Aside0.mk (index_ok g hen p hp A cap l hl w hA)
 clear hp hA hl
 go_enter Tryz.func73, Tryz.ntmps73
 go_wp2_with fail
 refine HI.out.mono ?_
 rintro e w2 ⟨r, rfl, hr, rfl⟩
 have HR := Aside0.mk hr
 clear hr
 go_wp2_with fail
 go_ret
 exact ⟨congrArg (fun b => Ending.returned (Value.bool b)) HR.out, rfl⟩
theorem odd_enters (args : Array Value) (W : World) : (callFunc 70 args).run Tryz.prog W = .ok (.enter 70 args) W := by
 simp [callFunc]
 rfl
def kids (ws cs : List Int) : List (Nat × Nat) := (ws.zip cs).map fun p => (p.1.toNat, p.2.toNat)
def fillE (x : Rat) (ws cs : List Int) : Int :=
 if ws.length ≠ cs.length then 17 else if 32 < ws.length then 6 else if ws.any oddW then 13 else if cs.any outC then 14 else if csum (kids ws cs) < x then 14 else 0
def chOf (p : Nat × Nat) : S90 := ⟨(p.1 : Int), (p.2 : Int)⟩
def ofCh (c : S90) : Nat × Nat := (c.f0.toNat, c.f1.toNat)
def chV (x : Rat) (ws cs : List Int) : List S90 × Int := if fillE x ws cs = 0 then ((kids ws cs).map chOf, 0) else ([], fillE x ws cs)
def chF (n d ws cs : List Int) : Option (List S90 × Int) := if bdx n d = true ∧ ws.length ≤ 1000 ∧ cs.length ≤ 1000 then some (chV (ratV n d) ws cs) else none
theorem chF_rt {x : Rat} (h : Bd x 3000) {ws cs : List Int} (hw : ws.length ≤ 1000) (hc : cs.length ≤ 1000) : chF (rN x) (rD x) ws cs = some (chV x ws cs) := by
 unfold chF
 rw [if_pos ⟨bdx_rt h, hw, hc⟩, ratV_rt h.1]
theorem chF_of {n d ws cs : List Int} {r : List S90 × Int} (h : chF n d ws cs = some r) : ∃ x, Bd x 3000 ∧ n = rN x ∧ d = rD x ∧ ws.length ≤ 1000 ∧ cs.length ≤ 1000 ∧ chV x ws cs = r := by
 unfold chF at h
 split at h
 ·
  rename_i hc
  obtain ⟨h1, h2, h3⟩ := bdx_of hc.1
  exact ⟨ratV n d, h1, h2, h3, hc.2.1, hc.2.2, Option.some.inj h⟩
 ·
  cases h
def okCh (c : S90) : Bool := decide (1 ≤ c.f0) && decide (c.f0 ≤ 10000) && decide (0 ≤ c.f1) && decide (c.f1 ≤ 64)
def lvF (n d : List Int) (l : List S90) : Option (List Int × List Int) :=
 if bdx n d = true ∧ l.length ≤ 32 ∧ l.all okCh = true ∧ ratV n d ≤ csum (l.map ofCh) then some (rN (levR (l.map ofCh) (ratV n d)), rD (levR (l.map ofCh) (ratV n d))) else none
def GoodK (l : List (Nat × Nat)) : Prop := l.length ≤ 32 ∧ ∀ p ∈ l, 1 ≤ p.1 ∧ p.1 ≤ 10000 ∧ p.2 ≤ 64
theorem fillE_good {x : Rat} {ws cs : List Int} (h : fillE x ws cs = 0) : ws.length = cs.length ∧ GoodK (kids ws cs) ∧ x ≤ csum (kids ws cs) ∧ ws = (kids ws cs).map (fun p => (p.1 : Int)) ∧ cs = (kids ws cs).map (fun p => (p.2 : Int)) := by
 unfold fillE at h
 split at h
 ·
  cases h
 rename_i h1
 split at h
 ·
  cases h
 rename_i h2
 split at h
 ·
  cases h
 rename_i h3
 split at h
 ·
  cases h
 rename_i h4
 split at h
 ·
  cases h
 rename_i h5
 have e1 : ws.length = cs.length := Decidable.not_not.1 h1
 have hw : ∀ c ∈ ws, 1 ≤ c ∧ c ≤ 10000 := fun c hc => by
  have h6 : oddW c ≠ true := fun h => h3 (List.any_eq_true.2 ⟨c, hc, h⟩)
  unfold oddW at h6
  by_cases a : c < 1
  ·
   exact absurd (by rw [decide_eq_true a, Bool.true_or]) h6
  ·
   by_cases b : c > 10000
   ·
    exact absurd (by rw [decide_eq_true b, Bool.or_true]) h6
   ·
    omega
 have hcs : ∀ c ∈ cs, 0 ≤ c ∧ c ≤ 64 := fun c hc => by
  have h6 : outC c ≠ true := fun h => h4 (List.any_eq_true.2 ⟨c, hc, h⟩)
  unfold outC at h6
  by_cases a : c < 0
  ·
   exact absurd (by rw [decide_eq_true a, Bool.true_or]) h6
  ·
   by_cases b : c > 64
   ·
    exact absurd (by rw [decide_eq_true b, Bool.or_true]) h6
   ·
    omega
 have hlen : (kids ws cs).length = ws.length := by
  unfold kids
  rw [List.length_map, List.length_zip]
  omega
 refine ⟨e1, ⟨by omega, fun p hp => ?_⟩, Rat.not_lt.1 h5, ?_, ?_⟩
 ·
  unfold kids at hp
  obtain ⟨q, hq, rfl⟩ := List.mem_map.1 hp
  have h7 := hw _ (List.of_mem_zip hq).1
  have h8 := hcs _ (List.of_mem_zip hq).2
  refine ⟨?_, ?_, ?_⟩
  ·
   show 1 ≤ q.1.toNat
   omega
  ·
   show q.1.toNat ≤ 10000
   omega
  ·
   show q.2.toNat ≤ 64
   omega
 ·
  refine List.ext_getElem (by rw [List.length_map, hlen]) fun i ha hb => ?_
  have := hw ws[i] (List.getElem_mem ha)
  simp [kids]
  omega
 ·
  refine List.ext_getElem (by rw [List.length_map, hlen, e1]) fun i ha hb => ?_
  have := hcs cs[i] (List.getElem_mem ha)
  simp [kids]
  omega
theorem okCh_chOf {p : Nat × Nat} (h : 1 ≤ p.1 ∧ p.1 ≤ 10000 ∧ p.2 ≤ 64) : okCh (chOf p) = true := by
 unfold okCh chOf
 simp only [Bool.and_eq_true, decide_eq_true_eq]
 omega
theorem lvF_rt {x : Rat} (h : Bd x 3000) {l : List (Nat × Nat)} (hl : GoodK l) (hx : x ≤ csum l) : lvF (rN x) (rD x) (l.map chOf) = some (rN (levR l x), rD (levR l x)) := by
 have e : (l.map chOf).map ofCh = l := by
  rw [List.map_map]
  exact List.map_id l
 unfold lvF
 rw [e, ratV_rt h.1, if_pos ⟨bdx_rt h, by rw [List.length_map]; exact hl.1, List.all_eq_true.2 fun c hc => by obtain ⟨p, hp, rfl⟩ := List.mem_map.1 hc; exact okCh_chOf (hl.2 p hp), hx⟩]
theorem lvF_of {n d : List Int} {l : List S90} {r : List Int × List Int} (h : lvF n d l = some r) : ∃ (x : Rat) (m : List (Nat × Nat)), Bd x 3000 ∧ n = rN x ∧ d = rD x ∧ l = m.map chOf ∧ GoodK m ∧ x ≤ csum m ∧ r = (rN (levR m x), rD (levR m x)) := by
 unfold lvF at h
 split at h
 ·
  rename_i hc
  obtain ⟨h1, h2, h3⟩ := bdx_of hc.1
  have hal := List.all_eq_true.1 hc.2.2.1
  have key : ∀ c ∈ l, (1 ≤ c.f0 ∧ c.f0 ≤ 10000) ∧ 0 ≤ c.f1 ∧ c.f1 ≤ 64 := fun c hm => by
   have := hal c hm
   unfold okCh at this
   simp only [Bool.and_eq_true, decide_eq_true_eq] at this
   omega
  refine ⟨ratV n d, l.map ofCh, h1, h2, h3, ?_, ⟨by rw [List.length_map]; exact hc.2.1, fun p hp => ?_⟩, hc.2.2.2, (Option.some.inj h).symm⟩
  ·
   have e : l.map (chOf ∘ ofCh) = l.map id := List.map_congr_left fun c hc => by
    have := key c hc
    show (⟨((c.f0.toNat : Nat) : Int), ((c.f1.toNat : Nat) : Int)⟩ : S90) = c
    rw [Int.toNat_of_nonneg (by omega), Int.toNat_of_nonneg (by omega)]
   rw [List.map_map, e, List.map_id]
  ·
   obtain ⟨c, hm, rfl⟩ := List.mem_map.1 hp
   have := key c hm
   unfold ofCh
   dsimp only
   omega
 ·
  cases h
end Go.Proofs.YthiicmanfpmipaaGreatDoor.P
end
section
namespace Go.Proofs.YthiicmanfpmipaaGreatDoor.P
open Go.RowKit Go.Proofs.YthiicmanfpmipaaGreatDoorW.PrintWords Go.Proofs.YthiicmanfpmipaaGreatDoorW.PrintLast Go.Proofs.YthiicmanfpmipaaGreatDoorW.PrintMore
attribute [local go_sem] zcf zci zcu zct zb6 zb2 zch zce
section
open Go.Sort Go.Lib
abbrev El := Fin 10000 × Fin 65
def toA (p : Nat × Nat) : El := (Fin.ofNat 10000 (p.1 - 1), Fin.ofNat 65 p.2)
def bk (x : El) : Nat × Nat := (x.1.val + 1, x.2.val)
theorem bk_toA {p : Nat × Nat} (h : 1 ≤ p.1 ∧ p.1 ≤ 10000 ∧ p.2 ≤ 64) : bk (toA p) = p := by
 obtain ⟨a, b⟩ := p
 show (((a - 1) % 10000) + 1, b % 65) = (a, b)
 dsimp only at h
 rw [Nat.mod_eq_of_lt (by omega), Nat.mod_eq_of_lt (by omega), show a - 1 + 1 = a by omega]
theorem bk_good (x : El) : 1 ≤ (bk x).1 ∧ (bk x).1 ≤ 10000 ∧ (bk x).2 ≤ 64 := by
 have := x.1.isLt
 have := x.2.isLt
 unfold bk
 dsimp only
 omega
def cfE (x y : El) : Int := ((bk x).2 : Int) * ((bk y).1 : Int) - ((bk y).2 : Int) * ((bk x).1 : Int)
def encE (x : El) : List Value := [.int .i64 ((bk x).1 : Int), .int .i64 ((bk x).2 : Int)]
theorem lt_E (x y : El) : ltOf cfE x y = decide ((bk x).2 * (bk y).1 < (bk y).2 * (bk x).1) := by
 unfold ltOf cfE
 refine decide_eq_decide.2 ?_
 rw [← Int.natCast_mul, ← Int.natCast_mul]
 omega
theorem bk_trans {a b c : El} (h1 : (bk a).2 * (bk b).1 ≤ (bk b).2 * (bk a).1) (h2 : (bk b).2 * (bk c).1 ≤ (bk c).2 * (bk b).1) : (bk a).2 * (bk c).1 ≤ (bk c).2 * (bk a).1 := early_trans (a := (a.1.val, a.2.val)) (b := (b.1.val, b.2.val)) (c := (c.1.val, c.2.val)) h1 h2
theorem swoE : SWO (ltOf cfE) where
 irrefl x := by rw [lt_E]; simp
 trans x y z h1 h2 := by
  rw [lt_E, decide_eq_true_eq] at *
  refine Nat.lt_of_not_le fun h => ?_
  have := bk_trans h (Nat.le_of_lt h1)
  omega
 ntrans x y z h1 h2 := by
  rw [lt_E, decide_eq_false_iff_not] at *
  have := bk_trans (Nat.le_of_not_lt h2) (Nat.le_of_not_lt h1)
  omega
theorem sorted_E {d' : Array El} (h : SortedIn (ltOf cfE) 0 d'.size d') : (d'.toList.map bk).Pairwise (fun p q => (p.2 : Rat) / (p.1 : Rat) ≤ (q.2 : Rat) / (q.1 : Rat)) := by
 rw [List.pairwise_map, List.pairwise_iff_getElem]
 intro i j hi hj hij
 have h1 := h i j (Nat.zero_le _) hij (by simpa using hj)
 rw [lt_E, decide_eq_false_iff_not] at h1
 have hi' : i < d'.size := by simpa using hi
 have hj' : j < d'.size := by simpa using hj
 rw [getElem!_pos d' i hi', getElem!_pos d' j hj'] at h1
 rw [Array.getElem_toList, Array.getElem_toList]
 exact ful_le (bk_good _).1 (bk_good _).1 (Nat.le_of_not_lt h1)
theorem perm_E {d d' : Array El} (h : PermIn 0 d.size d d') : (d'.toList.map bk).Perm (d.toList.map bk) := by
 have h3 := h.2.2
 rw [Array.extract_eq_self_of_le (by rw [h.1]; exact Nat.le_refl _), Array.extract_size] at h3
 exact h3.map bk
theorem bk_map {m : List (Nat × Nat)} (h : GoodK m) : ((m.map toA).toArray.toList.map bk) = m := by
 rw [List.map_map]
 refine (List.map_congr_left (g := id) fun p hp => ?_).trans (List.map_id m)
 exact bk_toA (h.2 p hp)
end
attribute [local go_sem] Oper.semAt_some
def kCells (m : List (Nat × Nat)) : List Value := m.flatMap fun p => [.int .i64 (p.1 : Int), .int .i64 (p.2 : Int)]
theorem kCells_app (m k : List (Nat × Nat)) : kCells (m ++ k) = kCells m ++ kCells k := by simp [kCells]
theorem kCells_get {m : List (Nat × Nat)} {i : Nat} (h : i < m.length) : (kCells m)[i * 2]? = some (.int .i64 (m[i].1 : Int)) := by
 induction m generalizing i with
 | nil => simp at h
 | cons a m ih =>
  cases i with
  | zero => rfl
  | succ i =>
   have := ih (i := i) (by simpa using h)
   simp only [List.getElem_cons_succ]
   rw [← this, show (i + 1) * 2 = i * 2 + 1 + 1 by omega]
   rfl
theorem kCells_get1 {m : List (Nat × Nat)} {i : Nat} (h : i < m.length) : (kCells m)[i * 2 + 1]? = some (.int .i64 (m[i].2 : Int)) := by
 induction m generalizing i with
 | nil => simp at h
 | cons a m ih =>
  cases i with
  | zero => rfl
  | succ i =>
   have := ih (i := i) (by simpa using h)
   simp only [List.getElem_cons_succ]
   rw [← this, show (i + 1) * 2 + 1 = i * 2 + 1 + 1 + 1 by omega]
   rfl
def KidsC (w : World) (A : Option Addr) (m : List (Nat × Nat)) : Prop := ∀ i (hi : i < m.length), ∃ ad, A = some ad ∧ w.cell? (ad.add (i * 2)) = some (.int .i64 (m[i].1 : Int)) ∧ w.cell? ⟨(ad.add (i * 2)).block, (ad.add (i * 2)).off + 1, none⟩ = some (.int .i64 (m[i].2 : Int))
theorem add_block' (ad : Addr) (k : Nat) : (ad.add k).block = ad.block := by
 unfold Addr.add
 split <;> rfl
theorem KidsC.below {w w' : World} {n₀ : Nat} {A : Option Addr} {m : List (Nat × Nat)} (h : KidsC w A m) (hb : Below n₀ w w') (hlt : ∀ ad, A = some ad → m ≠ [] → ad.block < n₀) : KidsC w' A m := fun i hi => by
 obtain ⟨ad, e, h1, h2⟩ := h i hi
 have hl : (ad.add (i * 2)).block < n₀ := by rw [add_block']; exact hlt ad e (by rintro rfl; simp at hi)
 exact ⟨ad, e, (hb.cell hl).trans h1, (hb.cell (p := ⟨(ad.add (i * 2)).block, (ad.add (i * 2)).off + 1, none⟩) hl).trans h2⟩
theorem KidsC.keep {w w' : World} {A : Option Addr} {m : List (Nat × Nat)} (h : KidsC w A m) (hb : Below w.heap.size w w') : KidsC w' A m := fun i hi => by
 obtain ⟨ad, e, h1, h2⟩ := h i hi
 exact ⟨ad, e, (hb.cell (block_lt_of_cell h1)).trans h1, (hb.cell (block_lt_of_cell h2)).trans h2⟩
theorem KidsC.of {w : World} {A : Option Addr} {m : List (Nat × Nat)} (h : Kd.C k90 w A m.length (m.map chOf)) : KidsC w A m := fun i hi => by
 have hr : rd_T90 (m.map chOf) (i : Int) = chOf m[i] := by
  unfold rd_T90
  rw [Int.toNat_natCast, List.getD_eq_getElem?_getD, List.getElem?_map, List.getElem?_eq_getElem hi]
  rfl
 obtain ⟨ad, e, h1, h2⟩ := at_T90 h (i : Int) (by omega) (by omega)
 rw [hr, Int.toNat_natCast] at h1
 rw [hr, Int.toNat_natCast] at h2
 exact ⟨ad, e, h1, h2⟩
theorem vals_make (A : Option Addr) (n cap : Nat) (W : World) : Calls Tryz.prog 75 #[.slice A n cap] W fun e w' => e = .returned (.func (.func 125) #[] #[.pointer (some ⟨W.heap.size, 0, none⟩)]) ∧ w' = W.alloc (.cells #[.slice A n cap] 85) := by
 go_enter Tryz.func75, Tryz.ntmps75
 go_wp2_with fail
 go_ret
 exact ⟨rfl, rfl⟩
theorem vals_iter (n : Nat) (hn : 1 ≤ n) (l Bn n₀ : Nat) (A : Option Addr) (cap : Nat) (m : List (Nat × Nat)) (hlen : m.length ≤ 1000) (hlt : ∀ ad, A = some ad → m ≠ [] → ad.block < n₀) (J Jx : List (Nat × Nat) → World → Prop)
  (hY : ∀ pre x W, J pre W → pre.length < m.length → YieldAt Fence.wide (n - 1) Tryz.prog l #[.agg #[.int .i64 (x.1 : Int), .int .i64 (x.2 : Int)]] W fun e W' =>
   (e = .returned (.bool true) ∧ J (pre ++ [x]) W' ∧ Below n₀ W W') ∨ (e = .returned (.bool false) ∧ Jx (pre ++ [x]) W'))
  (W : World) (hn₀ : n₀ ≤ W.heap.size) (hJn : ∀ s X Y, J s X → X.grownBy Y none → J s Y) (hBn : W.cell? ⟨Bn, 0, none⟩ = some (.slice A m.length cap)) (hK : KidsC W A m) (h0 : J [] W) :
  CallsIn Fence.wide n Tryz.prog 125 #[.func (.yield l) #[] #[], .pointer (some ⟨Bn, 0, none⟩)] W fun e W' => (∃ v, e = .returned v) ∧
   ((∃ ys, ys = m ∧ J ys W') ∨ (∃ pre, pre <+: m ∧ Jx pre W')) := by
 have HK := Aside0.mk hK
 have HL := Aside0.mk hlen
 clear hK hlen
 refine callsIn_of_wp Tryz.func125 rfl trivial ?_ rfl
 simp only [Tryz.ntmps125, List.size_toArray, List.length_cons, List.length_nil, Nat.reduceAdd, Nat.reduceSub, Array.replicate_succ, Array.replicate_zero, List.push_toArray, List.append_toArray, List.nil_append, List.cons_append]
 gi_wp2
 gi_loopw [7] (fun p wr => ∃ i : Nat, p = .int .i64 (i : Int) ∧ Aside0 (i ≤ m.length) ∧ Aside0 (KidsC wr A m) ∧ Aside0 (n₀ ≤ wr.heap.size) ∧ J (m.take i) wr)
  (fun p _ => m.length - (match p with | .int _ z => z.toNat | _ => 0))
 case atStart => exact ⟨0, by go_num, ⟨Nat.zero_le _⟩, HK, ⟨hn₀⟩, h0⟩
 case round =>
  obtain ⟨i, rfl, HI, HKr, HN, hJs⟩ := hrel
  by_cases hil : i < m.length
  ·
   have d1 : decide ((i : Int) < (m.length : Int)) = true := decide_eq_true (by omega)
   have d3 : 0 ≤ (i : Int) ∧ (i : Int) < (m.length : Int) := by omega
   obtain ⟨⟨g, o, q⟩, rfl, c0, c1⟩ := HKr.out i hil
   have htk : m.take (i + 1) = m.take i ++ [m[i]] := List.take_succ_eq_append_getElem hil
   have HTK := Aside0.mk htk
   clear htk
   have hlen2 : (m.take i).length < m.length := by rw [List.length_take]; omega
   obtain ⟨fn, tmps, assign, body, hy, hR⟩ := hY (m.take i) m[i] (wr.alloc (.cells #[.int .i64 (m[i].1 : Int), .int .i64 (m[i].2 : Int)] 90)) (hJn _ _ _ hJs (World.grownBy_alloc wr _ none)) hlen2
   clear hlen2
   gi_wp2
   refine hR.mono ?_
   rintro e W3 (⟨rfl, hJ3, hk3⟩ | ⟨rfl, hJx3⟩)
   ·
    have hb3 : Below n₀ wr W3 := ((Below.refl n₀ wr).alloc HN.out _).trans hk3
    have hi1 : wrap64 ((i : Int) + 1) = ((i + 1 : Nat) : Int) := by (have := HL.out; unfold wrap64; omega)
    have HI1 := Aside0.mk hi1
    clear hi1
    have HK3 := Aside0.mk (HKr.out.below hb3 hlt)
    have HN3 : Aside0 (n₀ ≤ W3.heap.size) := ⟨Nat.le_trans HN.out hb3.size⟩
    have HJ3 := Aside0.mk hJ3
    clear hJ3 hk3 hb3 hR hy
    gi_wp2
    go_roundw
    case rel => exact ⟨i + 1, by rw [HI1.out], ⟨by omega⟩, HK3, HN3, by rw [HTK.out]; exact HJ3.out⟩
    case measure =>
     show m.length - (wrap64 ((i : Int) + 1)).toNat < m.length - (i : Int).toNat
     rw [HI1.out]
     omega
   ·
    gi_wp2
    refine bodyPost_ret (results_none rfl _ _ _) rfl ?_
    refine ⟨⟨_, rfl⟩, .inr ⟨m.take (i + 1), List.take_prefix _ _, ?_⟩⟩
    rw [HTK.out]
    exact hJx3
  ·
   have d1 : decide ((i : Int) < (m.length : Int)) = false := decide_eq_false (by omega)
   gi_wp2
   go_end0
   refine ⟨⟨_, rfl⟩, .inl ⟨m, rfl, ?_⟩⟩
   have e : m.take i = m := List.take_of_length_le (by omega)
   rw [e] at hJs
   exact hJs
theorem vals_stops (n : Nat) (hn : 1 ≤ n) (Bn n₀ : Nat) (A : Option Addr) (cap : Nat) (m : List (Nat × Nat)) (hlen : m.length ≤ 1000) (hlt : ∀ ad, A = some ad → m ≠ [] → ad.block < n₀) (w : World) (hBn : Bn < n₀) (hn₀ : n₀ ≤ w.heap.size) (hc : w.cell? ⟨Bn, 0, none⟩ = some (.slice A m.length cap)) (hK : KidsC w A m) :
  SeqStopsK Fence.wide n Tryz.prog 125 #[.pointer (some ⟨Bn, 0, none⟩)] (fun x : Nat × Nat => #[Value.agg #[.int .i64 (x.1 : Int), .int .i64 (x.2 : Int)]]) (Below n₀) (fun ys => ys = m) (fun pre => pre <+: m) m.length w := fun l J Jx W hW hJ _ hY h0 =>
 vals_iter n hn l Bn n₀ A cap m hlen hlt J Jx hY W (Nat.le_trans hn₀ hW.size) (fun s X Y hs hg => hJ s X Y none hs hg (fun r e => by cases e)) ((hW.cell (p := ⟨Bn, 0, none⟩) (Nat.lt_of_lt_of_le hBn hn₀)).trans hc) (hK.below (hW.mono hn₀) hlt) h0
theorem child_info : (Tryz.prog.info? 90).map (fun i => (i.zero, i.size, i.bytes)) = some (some (.agg #[.int .i64 0, .int .i64 0]), 2, 16) := by kernel_rfl
theorem two_new (W : World) (a b : Value) (t : TypeId) : ∀ j u, [a, b][j]? = some u → (W.alloc (.cells #[a, b] t)).cell? ((⟨W.heap.size, 0, none⟩ : Addr).add j) = some u := by
 intro j u h
 have hb := zdm W (.cells #[a, b] t)
 have e : ((⟨W.heap.size, 0, none⟩ : Addr).add j) = ⟨W.heap.size, j, none⟩ := add_plain ..
 rw [e, zab hb j]
 match j, h with
 | 0, h => exact h
 | 1, h => exact h
theorem row_putD {W : World} {base : Nat} {e : TypeId} {size : Nat} {v : Value} {n : Nat} {xs : List Value} {D : Nat} {d : Option (List Deferred)} (h : W.ownsRow base e size v n xs) (hD : W.heap[D]? = some (.deferred d)) : (W.putObj D (.deferred none)).ownsRow base e size v n xs := by
 refine h.kept (grownBy_putObj' W D _) ?_
 rcases h.2 with ⟨rfl, _⟩ | ⟨g, cap, cur, rfl, _, hgb, _⟩
 ·
  exact .inl rfl
 ·
  refine .inr fun e' => ?_
  have e2 : D = g := by simpa [Value.ownBlock] using e'.symm
  subst e2
  rw [hgb] at hD
  cases hD
theorem append_in (n : Nat) (hn : 3 ≤ n) (Bn : Nat) (A : Option Addr) (cap : Nat) (m : List (Nat × Nat)) (hlen : m.length ≤ 1000) (w : World) (hlt : ∀ ad, A = some ad → m ≠ [] → ad.block < w.heap.size) (hBn : Bn < w.heap.size) (hc : w.cell? ⟨Bn, 0, none⟩ = some (.slice A m.length cap)) (hK : KidsC w A m) :
  CallsIn Fence.wide n Tryz.prog 157 #[.slice none 0 0, .func (.func 125) #[] #[.pointer (some ⟨Bn, 0, none⟩)]] w fun e W' => (∃ v, e = .returned v ∧ W'.ownsRow w.heap.size 90 2 v m.length (kCells m)) ∧ Below w.heap.size w W' := by
 have h1 : 1 ≤ n := by omega
 refine callsIn_of_wp_marks Tryz.func157 rfl trivial ?_ rfl
 simp only [Tryz.ntmps157, List.size_toArray, List.length_cons, List.length_nil, Nat.reduceAdd, Nat.reduceSub, Array.replicate_succ, Array.replicate_zero, List.push_toArray, List.append_toArray, List.nil_append, List.cons_append]
 gi_wp2
 have hb0 := Boxed.new w 85 (.slice none 0 0)
 have hB0 : Below w.heap.size w (w.alloc (.cells #[.slice none 0 0] 85)) := (Below.refl _ w).alloc (Nat.le_refl _) _
 have hc0 := (hB0.cell (p := ⟨Bn, 0, none⟩) hBn).trans hc
 have hK0 := hK.below hB0 hlt
 refine wpIn_rangeFunc_ownH rfl h1 (gf := 125) (lb := #[.pointer (some ⟨Bn, 0, none⟩)]) rfl trivial (enters_of Tryz.func125 (by kernel_rfl) rfl)
  (vals_stops (n - 1) (by omega) Bn w.heap.size A cap m hlen hlt _ hBn (by simp) hc0 hK0) belowK_t (belowK_b (by simp)) (Below.refl _ _) (fun _ => rfl)
  (fun pre W => (∃ v, Boxed W w.heap.size 85 v ∧ W.ownsRow w.heap.size 90 2 v pre.length (kCells pre) ∧ True) ∧ Below w.heap.size w W)
  (fun _ _ _ => False)
  (OwnFrom.and (Own.from (holdsRow_own w.heap.size w.heap.size 85 90 2 (fun pre => pre.length) (fun pre => kCells pre) (fun _ _ => True)) _) (ownFrom_below (Nat.le_refl _) (by simp)))
  (fun _ _ _ _ _ hs _ _ => hs)
  ⟨⟨.slice none 0 0, hb0, World.ownsRow_nil _ _ _ _, trivial⟩, hB0⟩
  (fun x a' W => ∃ b, a' = { tmps := #[.slice none 0 0, .func (.func 125) #[] #[.pointer (some ⟨Bn, 0, none⟩)], .pointer (some ⟨w.heap.size, 0, none⟩), undef, .slice none 0 0, .pointer (some ⟨b, 0, none⟩), .func (.func 125) #[] #[.pointer (some ⟨Bn, 0, none⟩)], .agg #[.int .i64 (x.1 : Int), .int .i64 (x.2 : Int)], undef, undef, undef, undef, undef], defers := [] } ∧ W.heap[b]? = some (.cells #[.int .i64 (x.1 : Int), .int .i64 (x.2 : Int)] 90 (0, 0)))
  ?hAx ?assign ?body ?done ?stop
 case hAx =>
  rintro x a' s X Y row ⟨b, e, hb⟩ hg hrow
  refine ⟨b, e, (hg.block b (zax hb) fun e' => ?_).trans hb⟩
  obtain ⟨_, o, ho, hoc⟩ := hrow b e'.symm
  rw [hb] at ho
  cases ho
  cases hoc
 case assign =>
  rintro l pre x W K ⟨⟨v, hv, hrow, _⟩, hB⟩ hKK
  gi_wp2
  exact hKK _ _ ((KeepsOthers.alloc W _).from _) ((Below.refl _ W).alloc hB.size _) ⟨⟨v, hv.alloc _, hrow.alloc _, trivial⟩, hB.alloc hB.size _⟩ ⟨W.heap.size, rfl, zdm W _⟩
 case stop =>
  rintro D c pre W _ _ h _
  exact h.elim
 case body =>
  rintro l pre x a' W hl hrec ⟨⟨v, hv, hrow, _⟩, hB⟩ ⟨b, rfl, hbx⟩ hlt2
  have hcell := hv.cell
  have hfro := hv.frozen
  have hform : ∃ A cap, v = .slice A pre.length cap := by
   rcases hrow.2 with ⟨rfl, h0⟩ | ⟨g, cap, cur, rfl, _⟩
   ·
    exact ⟨none, 0, by rw [h0]⟩
   ·
    exact ⟨_, _, rfl⟩
  obtain ⟨A', cap', rfl⟩ := hform
  obtain ⟨i0, hi, hz0, hz1, hz2⟩ := info_parts child_info
  have c0 : W.cell? ⟨b, 0, none⟩ = some (.int .i64 (x.1 : Int)) := (zab hbx 0).trans rfl
  have c1 : W.cell? ⟨b, 1, none⟩ = some (.int .i64 (x.2 : Int)) := (zab hbx 1).trans rfl
  have hRow := Aside0.mk hrow
  have hBx := Aside0.mk hB
  have hVx := Aside0.mk hv
  have hmax : 1000 ≤ maxLen := by decide
  have HL2 : Aside0 (pre.length < 1000) := ⟨by omega⟩
  have HBX := Aside0.mk hbx
  clear hrow hB hv hbx hrec hlt2 hc0 hK0 hB0 hb0
  generalize hkl : pre.length = k at hcell hRow HL2 hVx ⊢
  have HKL := Aside0.mk hkl
  clear hkl
  gi_wp2_with (gi_at_builtin; refine wpListIn_append_own _ rfl _ _ 85 rfl w.heap.size 90 i0 (.agg #[.int .i64 0, .int .i64 0]) 2 16 Tryz.underlying85 hi hz0 hz1 hz2 rfl (by decide) _ _ _ rfl (hRow.out.alloc _) ⟨W.heap.size, 0, none⟩ 1 1 [.int .i64 (x.1 : Int), .int .i64 (x.2 : Int)] rfl rfl (two_new _ _ _ _) (by simp [Value.oneCell']) (by have := HL2.out; omega) (by have := HL2.out; omega) (by have := hBx.out.size; simp; omega) ?_; intro v' w1 hown' hgrow _; obtain ⟨g', cap', rfl⟩ := ownsRow_succ hown'; obtain ⟨hv1, hv2, hr2, hk2, hb2⟩ := hVx.out.appended (by decide) hRow.out hBx.out.size (Nat.le_refl _) hown' hgrow; have hc1 := hv1.cell; have hf1 := hv1.frozen)
  refine ⟨hk2.from _, hb2, ⟨_, hv2, ?_, trivial⟩, hBx.out.trans hb2⟩
  rw [List.length_append, HKL.out, kCells_app]
  exact hr2
 case done =>
  rintro D ys W hD rfl ⟨⟨v, hv, hrow, _⟩, hB⟩ hKd
  have hcell := hv.cell
  have hRow := Aside0.mk hrow
  have hBx := Aside0.mk hB
  have hVx := Aside0.mk hv
  have HKD := Aside0.mk hKd
  have HD := Aside0.mk hD
  clear hrow hB hv hKd hD hc0 hK0 hB0 hb0
  gi_wp2
  refine ⟨by simp, .inl ⟨_, _, rfl, run_takeDeferred HKD.out, ?_⟩⟩
  exact ⟨_, results_tmp rfl _ _ _, ⟨v, rfl, row_putD hRow.out HKD.out⟩, hBx.out.trans (belowK_b (w := w) (Nat.le_refl _) W D _ _ (by have := HD.out; simp at this; omega) HKD.out rfl rfl)⟩
theorem collect_ok (Bn : Nat) (A : Option Addr) (cap : Nat) (m : List (Nat × Nat)) (hlen : m.length ≤ 1000) (w : World) (hlt : ∀ ad, A = some ad → m ≠ [] → ad.block < w.heap.size) (hBn : Bn < w.heap.size) (hc : w.cell? ⟨Bn, 0, none⟩ = some (.slice A m.length cap)) (hK : KidsC w A m) :
  Calls Tryz.prog 123 #[.func (.func 125) #[] #[.pointer (some ⟨Bn, 0, none⟩)]] w fun e W' => (∃ v, e = .returned v ∧ W'.ownsRow w.heap.size 90 2 v m.length (kCells m)) ∧ Below w.heap.size w W' := by
 have HA := Aside0.mk (callsIn_wide.1 (append_in 3 (Nat.le_refl _) Bn A cap m hlen w hlt hBn hc hK))
 clear hc hK hlt hBn hlen
 go_enter Tryz.func123, Tryz.ntmps123
 go_wp2_with fail
 refine HA.out.mono ?_
 rintro e w2 ⟨⟨v, rfl, hrow⟩, hb⟩
 have HR := Aside0.mk hrow
 have HB := Aside0.mk hb
 clear hrow hb
 go_wp2_with fail
 go_ret
 exact ⟨⟨_, rfl, HR.out⟩, HB.out⟩
end Go.Proofs.YthiicmanfpmipaaGreatDoor.P
end
section
namespace Go.Proofs.YthiicmanfpmipaaGreatDoor.P
open Go.RowKit Go.Proofs.YthiicmanfpmipaaGreatDoorW.PrintWords Go.Proofs.YthiicmanfpmipaaGreatDoorW.PrintLast Go.Proofs.YthiicmanfpmipaaGreatDoorW.PrintMore
attribute [local go_sem] zcf zci zcu zct zb6 zb2 zch zce
def sortC_ren : Go.Shelf.Ren := ⟨fun | 6 => 124 | 15 => 159 | 14 => 158 | 28 => 185 | 29 => 160 | 20 => 177 | 21 => 178 | 22 => 179 | 23 => 180 | 24 => 181 | 25 => 182 | 26 => 183 | 27 => 184 | 46 => 194 | 47 => 195 | 48 => 196 | 49 => 197 | 50 => 198 | 57 => 202 | n => n, fun | 22 => 85 | 24 => 90 | 25 => 139 | 3 => 3 | 39 => 198 | 0 => 0 | 53 => 241 | 55 => 82 | 4 => 4 | 46 => 247 | 45 => 246 | 50 => 251 | 5 => 5 | 9 => 9 | 66 => 263 | 70 => 267 | 76 => 270 | 77 => 271 | n => n, fun | n => n⟩
theorem sortC : Go.Proofs.SlLaysF0.n6 Tryz.prog sortC_ren where
 mixed := by kernel_rfl
 f6 := ⟨ "slices.SortFunc[[]roundel/fill.child,roundel/fill.child]", by decide, Tryz.func124.trans (congrArg some (by kernel_rfl))⟩
 f14 := ⟨ "slices.pdqsortCmpFunc[roundel/fill.child]", by decide, Tryz.func158.trans (congrArg some (by kernel_rfl))⟩
 f15 := Tryz.func159.trans (congrArg some (by kernel_rfl))
 f20 := ⟨ "slices.insertionSortCmpFunc[roundel/fill.child]", by decide, Tryz.func177.trans (congrArg some (by kernel_rfl))⟩
 f21 := ⟨ "slices.heapSortCmpFunc[roundel/fill.child]", by decide, Tryz.func178.trans (congrArg some (by kernel_rfl))⟩
 f22 := ⟨ "slices.breakPatternsCmpFunc[roundel/fill.child]", by decide, Tryz.func179.trans (congrArg some (by kernel_rfl))⟩
 f23 := ⟨ "slices.choosePivotCmpFunc[roundel/fill.child]", by decide, Tryz.func180.trans (congrArg some (by kernel_rfl))⟩
 f24 := ⟨ "slices.reverseRangeCmpFunc[roundel/fill.child]", by decide, Tryz.func181.trans (congrArg some (by kernel_rfl))⟩
 f25 := ⟨ "slices.partialInsertionSortCmpFunc[roundel/fill.child]", by decide, Tryz.func182.trans (congrArg some (by kernel_rfl))⟩
 f26 := ⟨ "slices.partitionEqualCmpFunc[roundel/fill.child]", by decide, Tryz.func183.trans (congrArg some (by kernel_rfl))⟩
 f27 := ⟨ "slices.partitionCmpFunc[roundel/fill.child]", by decide, Tryz.func184.trans (congrArg some (by kernel_rfl))⟩
 f28 := Tryz.func185.trans (congrArg some (by kernel_rfl))
 f29 := Tryz.func160.trans (congrArg some (by kernel_rfl))
 f46 := ⟨ "slices.siftDownCmpFunc[roundel/fill.child]", by decide, Tryz.func194.trans (congrArg some (by kernel_rfl))⟩
 f47 := Tryz.func195.trans (congrArg some (by kernel_rfl))
 f48 := Tryz.func196.trans (congrArg some (by kernel_rfl))
 f49 := ⟨ "slices.medianAdjacentCmpFunc[roundel/fill.child]", by decide, Tryz.func197.trans (congrArg some (by kernel_rfl))⟩
 f50 := ⟨ "slices.medianCmpFunc[roundel/fill.child]", by decide, Tryz.func198.trans (congrArg some (by kernel_rfl))⟩
 f57 := ⟨ "slices.order2CmpFunc[roundel/fill.child]", by decide, Tryz.func202.trans (congrArg some (by kernel_rfl))⟩
 t0 := Tryz.underlying0
 a0 := Tryz.isAgg0
 z0 := Tryz.sizeOf0
 v0 := Tryz.zeroValue0
 t3 := Tryz.underlying3
 a3 := Tryz.isAgg3
 z3 := Tryz.sizeOf3
 v3 := Tryz.zeroValue3
 t4 := Tryz.underlying4
 a4 := Tryz.isAgg4
 z4 := Tryz.sizeOf4
 v4 := Tryz.zeroValue4
 t5 := Tryz.underlying5
 a5 := Tryz.isAgg5
 z5 := Tryz.sizeOf5
 v5 := Tryz.zeroValue5
 t9 := Tryz.underlying9
 a9 := Tryz.isAgg9
 z9 := Tryz.sizeOf9
 v9 := Tryz.zeroValue9
 t22 := Tryz.underlying85
 a22 := Tryz.isAgg85
 z22 := Tryz.sizeOf85
 v22 := Tryz.zeroValue85
 t25 := Tryz.underlying139
 a25 := Tryz.isAgg139
 z25 := Tryz.sizeOf139
 v25 := Tryz.zeroValue139
 t39 := Tryz.underlying198
 a39 := Tryz.isAgg198
 z39 := Tryz.sizeOf198
 v39 := Tryz.zeroValue198
 t45 := Tryz.underlying246
 a45 := Tryz.isAgg246
 z45 := Tryz.sizeOf246
 v45 := Tryz.zeroValue246
 t46 := Tryz.underlying247
 a46 := Tryz.isAgg247
 z46 := Tryz.sizeOf247
 v46 := Tryz.zeroValue247
 t50 := Tryz.underlying251
 a50 := Tryz.isAgg251
 z50 := Tryz.sizeOf251
 v50 := Tryz.zeroValue251
 t53 := Tryz.underlying241
 a53 := Tryz.isAgg241
 z53 := Tryz.sizeOf241
 v53 := Tryz.zeroValue241
 t55 := Tryz.underlying82
 a55 := Tryz.isAgg82
 z55 := Tryz.sizeOf82
 v55 := Tryz.zeroValue82
 t66 := Tryz.underlying263
 a66 := Tryz.isAgg263
 z66 := Tryz.sizeOf263
 v66 := Tryz.zeroValue263
 t70 := Tryz.underlying267
 a70 := Tryz.isAgg267
 z70 := Tryz.sizeOf267
 v70 := Tryz.zeroValue267
 t76 := Tryz.underlying270
 a76 := Tryz.isAgg270
 z76 := Tryz.sizeOf270
 v76 := Tryz.zeroValue270
 t77 := Tryz.underlying271
 a77 := Tryz.isAgg271
 z77 := Tryz.sizeOf271
 v77 := Tryz.zeroValue271
section
open Go.Shelf
theorem early_lays (x y : El) (W : World) : Calls Tryz.prog 76 #[.agg (encE x).toArray, .agg (encE y).toArray] W fun e w' => e = .returned (.int .i64 (cfE x y)) ∧ ∃ q os', w' = Sort.grow (W.drewN q) os' := by
 obtain ⟨a1, a2, a3⟩ := bk_good x
 obtain ⟨b1, b2, b3⟩ := bk_good y
 unfold encE cfE
 generalize bk x = p at a1 a2 a3 ⊢
 generalize bk y = q at b1 b2 b3 ⊢
 obtain ⟨p1, p2⟩ := p
 obtain ⟨q1, q2⟩ := q
 dsimp only at a1 a2 a3 b1 b2 b3 ⊢
 have key : ∀ x y : Nat, x ≤ 10000 → y ≤ 10000 → x * y ≤ 100000000 := fun x y hx hy => Nat.le_trans (Nat.mul_le_mul hx hy) (by decide)
 have h1 := key p2 q1 (by omega) (by omega)
 have h2 := key q2 p1 (by omega) (by omega)
 have e1 : wrap64 ((p2 : Int) * (q1 : Int)) = ((p2 * q1 : Nat) : Int) := by rw [← Int.natCast_mul]; unfold wrap64; omega
 have e2 : wrap64 ((q2 : Int) * (p1 : Int)) = ((q2 * p1 : Nat) : Int) := by rw [← Int.natCast_mul]; unfold wrap64; omega
 have e3 : wrap64 (((p2 * q1 : Nat) : Int) - ((q2 * p1 : Nat) : Int)) = (p2 : Int) * (q1 : Int) - (q2 : Int) * (p1 : Int) := by rw [← Int.natCast_mul, ← Int.natCast_mul]; unfold wrap64; omega
 have E1 := Aside0.mk e1
 have E2 := Aside0.mk e2
 have E3 := Aside0.mk e3
 clear key h1 h2 e1 e2 e3 a1 a2 a3 b1 b2 b3
 go_enter Tryz.func76, Tryz.ntmps76
 go_wp2_with fail
 go_ret
 exact ⟨by
  show Ending.returned (Value.int .i64 (wrap64 (wrap64 ((p2 : Int) * (q1 : Int)) - wrap64 ((q2 : Int) * (p1 : Int))))) = _
  rw [E1.out, E2.out, E3.out], 0, _, by rw [Sort.alloc_eq_grow, Sort.alloc_eq_grow, Sort.grow_grow]; rfl⟩
theorem early_cmp (blk off size : Nat) (w : World) : CmpLays Tryz.prog 76 #[] encE 2 cfE blk off size w := fun _ _ _ _ x y => early_lays x y _
theorem below_sortK {α : Type} [Inhabited α] (enc : α → List Value) (k : Nat) (w : World) (blk off n : Nat) (dk : Array α) (os : Array Obj) (base : Nat) (hb : base ≤ blk) (hbw : base ≤ w.heap.size) : Below base w (sortWorldK enc k w blk off n dk os) := by
 refine ⟨rfl, rfl, rfl, ?_, fun j hj => ?_⟩
 ·
  unfold sortWorldK Sort.grow Sort.putRowK Sort.putRow Sort.mapBlock Sort.ahead
  simp
 ·
  unfold sortWorldK Sort.grow Sort.putRowK Sort.putRow Sort.mapBlock Sort.ahead
  have h1 : j < (w.heap.modify blk (Sort.onCells (Sort.putCells id off (Sort.flatK enc k dk)))).size := by simp; omega
  show ((w.heap.modify blk (Sort.onCells (Sort.putCells id off (Sort.flatK enc k dk)))) ++ os)[j]? = w.heap[j]?
  rw [Array.getElem?_append_left h1, Array.getElem?_modify, if_neg (by omega)]
theorem flat_E (m : List (Nat × Nat)) (hm : GoodK m) (j : Nat) (hj : j < m.length * 2) : (kCells m)[j]? = some ((Sort.flatK encE 2 (m.map toA).toArray)[j]!) := by
 have hs : (m.map toA).toArray.size = m.length := by simp
 rw [Sort.get_flatK _ _ _ j (by rw [hs]; exact hj)]
 have hi : j / 2 < m.length := by omega
 have e : (m.map toA).toArray[j / 2]! = toA m[j / 2] := by
  rw [getElem!_pos _ _ (by rw [hs]; exact hi)]
  simp
 rw [e]
 unfold encE
 rw [bk_toA (hm.2 _ (List.getElem_mem hi))]
 rcases Nat.mod_two_eq_zero_or_one j with h | h
 ·
  rw [h]
  have := kCells_get (m := m) hi
  rw [show j / 2 * 2 = j by omega] at this
  exact this
 ·
  rw [h]
  have := kCells_get1 (m := m) hi
  rw [show j / 2 * 2 + 1 = j by omega] at this
  exact this
theorem sort_ok (g cap : Nat) (m : List (Nat × Nat)) (hm : GoodK m) (w : World) (base : Nat) (hbase : base ≤ w.heap.size) (hrow : w.ownsRow base 90 2 (.slice (some ⟨g, 0, none⟩) m.length cap) m.length (kCells m)) :
  Calls Tryz.prog 124 #[.slice (some ⟨g, 0, none⟩) m.length cap, .func (.func 76) #[] #[]] w fun e w' => e = .returned (.tuple #[]) ∧ ∃ s : List (Nat × Nat), s.Perm m ∧ s.Pairwise (fun p q => (p.2 : Rat) / (p.1 : Rat) ≤ (q.2 : Rat) / (q.1 : Rat)) ∧ KidsC w' (some ⟨g, 0, none⟩) s ∧ Below base w w' := by
 have hs : (m.map toA).toArray.size = m.length := by simp
 obtain ⟨hg1, hg2⟩ := hrow.lt g rfl
 have hH : Sort.HoldsK encE 2 w g 0 (m.map toA).toArray := fun j hj => by
  rw [Sort.size_flatK, hs] at hj
  refine ⟨?_, hrow.frozenAt _⟩
  rw [Nat.zero_add, hrow.cellAt j (by omega)]
  exact flat_E m hm j hj
 have h := AnyQ.slices_SortFunc sortC 2 Tryz.isAgg90 Tryz.sizeOf90 encE (fun _ => rfl) (fun x v hv => by simp [encE] at hv; rcases hv with rfl | rfl <;> rfl) cfE swoE 76 #[] g 0 cap (m.map toA).toArray w (enters_of Tryz.func76 (by kernel_rfl) rfl) (early_cmp _ _ _ _) hH hg2 (by rw [hs]; have := hm.1; omega)
 rw [hs] at h
 refine h.mono ?_
 rintro e w' ⟨rfl, d', n, os, hp, hso, rfl⟩
 have hsz : d'.size = m.length := by rw [hp.1, hs]
 have hH' := holdsK_sortWorldK_c encE 2 w g 0 (m.map toA).toArray d' n os hH hg2 hp.1
 rw [← hs, ← hp.1] at hso
 refine ⟨rfl, d'.toList.map bk, ?_, sorted_E hso, fun i hi => ?_, below_sortK _ _ _ _ _ _ _ _ _ hg1 hbase⟩
 ·
  have hp' : Sort.PermIn 0 (m.map toA).toArray.size (m.map toA).toArray d' := by rw [hs]; exact hp
  have := perm_E hp'
  rw [bk_map hm] at this
  exact this
 ·
  have hi' : i < d'.size := by simpa using hi
  have ee : (d'.toList.map bk)[i] = bk d'[i]! := by
   rw [getElem!_pos d' i hi']
   simp
  have q0 := (hH'.cell hi' (show 0 < 2 by decide)).1
  have q1 := (hH'.cell hi' (show 1 < 2 by decide)).1
  rw [Nat.zero_add] at q0 q1
  refine ⟨_, rfl, ?_, ?_⟩
  ·
   rw [ee, add_plain]
   exact q0
  ·
   rw [ee, add_plain]
   exact q1
end
end Go.Proofs.YthiicmanfpmipaaGreatDoor.P
end
