-- Written by a program of this session (wip/tools/shake.py) out of its own texts and of the kit's printed ones; not trusted: Lean checks it.
import Derived.Test.YtfjkamhcabckeaaDoorZRatioReads6
set_option maxHeartbeats 8000000
set_option maxRecDepth 100000
set_option linter.unusedVariables false
set_option linter.unusedSimpArgs false
section
namespace Go.Proofs.YtfjkamhcabckeaaDoor.P
open Go.RowKit Go.Proofs.YtfjkamhcabckeaaDoorW.PrintWords Go.Proofs.YtfjkamhcabckeaaDoorW.PrintLast Go.Proofs.YtfjkamhcabckeaaDoorW.PrintMore
attribute [local go_sem] max2_int min2_int max_two min_two zc8 zda max_four min_four
theorem rev_ind {α : Type} {P : List α → Prop} (h0 : P []) (hs : ∀ l b, P l → P (l ++ [b])) (l : List α) : P l := by
 rw [← List.reverse_reverse l]
 induction l.reverse with
 | nil => exact h0
 | cons b l ih => rw [List.reverse_cons]; exact hs _ _ ih
def padD : Nat → Nat → List UInt8
 | 0, _ => []
 | k + 1, r => padD k (r / 10) ++ [UInt8.ofNat (48 + r % 10)]
theorem zc3 : ∀ k r, (padD k r).length = k
 | 0, _ => rfl
 | k + 1, r => by simp [padD, zc3 k]
theorem decD_app : ∀ (k q r : Nat), 0 < q → r < 10 ^ k → Lib.decDigits (q * 10 ^ k + r) = Lib.decDigits q ++ padD k r
 | 0, q, r, _, h => by
  have : r = 0 := by simpa using h
  subst this; simp [padD]
 | k + 1, q, r, h0, h => by
  have hp : 1 ≤ q * 10 ^ (k + 1) := Nat.mul_pos h0 (Nat.pow_pos (by omega))
  have hp2 : 10 ≤ q * 10 ^ (k + 1) := by rw [Nat.pow_succ, ← Nat.mul_assoc]; have := Nat.mul_pos h0 (Nat.pow_pos (n := k) (show 0 < 10 by omega)); omega
  rw [Lib.decDigits, dif_neg (by omega)]
  have e1 : (q * 10 ^ (k + 1) + r) / 10 = q * 10 ^ k + r / 10 := by
   rw [Nat.pow_succ, ← Nat.mul_assoc]; omega
  have e2 : (q * 10 ^ (k + 1) + r) % 10 = r % 10 := by
   rw [Nat.pow_succ, ← Nat.mul_assoc]; omega
  rw [e1, e2, decD_app k q (r / 10) h0 (by rw [Nat.pow_succ] at h; omega)]
  simp [padD]
theorem padD_small : ∀ (k r : Nat), 0 < k → r < 10 ^ k → padD k r = List.replicate (k - (Lib.decDigits r).length) 48 ++ Lib.decDigits r
 | 0, _, h, _ => by omega
 | k + 1, r, _, h => by
  by_cases hr : r < 10
  ·
   rw [Lib.decDigits, dif_pos hr]
   have : ∀ k, padD k 0 = List.replicate k 48 := by
    intro k
    induction k with
    | zero => rfl
    | succ k ih => simp only [padD, Nat.zero_div, ih, List.replicate_succ']; rfl
   simp [padD, Nat.div_eq_of_lt hr, this, Nat.mod_eq_of_lt hr]
  ·
   rw [Lib.decDigits, dif_neg hr, padD, padD_small k (r / 10) (by
    rcases Nat.eq_zero_or_pos k with rfl | h2
    ·
     simp at h; omega
    ·
     exact h2) (by rw [Nat.pow_succ] at h; omega)]
   simp
theorem padD_add : ∀ (b a r : Nat), padD (a + b) r = padD a (r / 10 ^ b) ++ padD b r
 | 0, a, r => by simp [padD]
 | b + 1, a, r => by
  rw [show a + (b + 1) = (a + b) + 1 by omega, padD, padD_add b a (r / 10), padD, List.append_assoc, Nat.div_div_eq_div_mul, Nat.pow_succ, Nat.mul_comm 10]
def stripZ : List UInt8 → List UInt8
 | [] => []
 | b :: l => if b = 48 then stripZ l else b :: l
theorem stripZ_rep (l : List UInt8) : ∀ n, stripZ (List.replicate n 48 ++ l) = stripZ l
 | 0 => rfl
 | n + 1 => by rw [List.replicate_succ, List.cons_append, stripZ, if_pos rfl, stripZ_rep l n]
theorem ofNat_ne (d : Nat) (h0 : 0 < d) (h : d < 10) : UInt8.ofNat (48 + d) ≠ 48 := by
 intro e
 have := congrArg UInt8.toNat e
 simp at this
 omega
theorem decD_head (u : Nat) : 0 < u → ∃ b l, Lib.decDigits u = b :: l ∧ b ≠ 48 := by
 induction u using Nat.strongRecOn with
 | _ u ih =>
  intro h
  by_cases hu : u < 10
  ·
   exact ⟨_, [], by rw [Lib.decDigits, dif_pos hu], ofNat_ne u h hu⟩
  ·
   obtain ⟨b, l, e, hb⟩ := ih (u / 10) (by omega) (by omega)
   exact ⟨b, l ++ [UInt8.ofNat (48 + u % 10)], by rw [Lib.decDigits, dif_neg hu, e]; rfl, hb⟩
theorem strip_dec (u : Nat) (h : 0 < u) : stripZ (Lib.decDigits u) = Lib.decDigits u := by
 obtain ⟨b, l, e, hb⟩ := decD_head u h
 rw [e, stripZ, if_neg hb]
theorem strip_pad (k u : Nat) (hk : 0 < k) (h0 : 0 < u) (h : u < 10 ^ k) : stripZ (padD k u) = Lib.decDigits u := by
 rw [padD_small k u hk h, stripZ_rep, strip_dec u h0]
def readD (l : List UInt8) : Nat := l.foldl (fun n b => n * 10 + (b.toNat - 48)) 0
theorem readD_snoc (l : List UInt8) (b : UInt8) : readD (l ++ [b]) = readD l * 10 + (b.toNat - 48) := by simp [readD]
def isD (b : UInt8) : Prop := 48 ≤ b.toNat ∧ b.toNat ≤ 57
theorem readD_lt (l : List UInt8) : (∀ b ∈ l, isD b) → readD l < 10 ^ l.length := by
 refine rev_ind (P := fun l => (∀ b ∈ l, isD b) → readD l < 10 ^ l.length) (by simp [readD]) (fun l b ih => ?_) l
 ·
  intro h
  have h1 := ih fun x hx => h x (by simp [hx])
  have h2 := h b (by simp)
  unfold isD at h2
  rw [readD_snoc]; simp only [List.length_append, List.length_singleton, Nat.pow_succ]; omega
def decT (n : Nat) : ByteArray := ⟨(Lib.decDigits n).toArray⟩
theorem decT_list (n : Nat) : (decT n).data.toList = Lib.decDigits n := by simp [decT]
theorem decT_size (n : Nat) : (decT n).size = (Lib.decDigits n).length := by simp [decT, ByteArray.size]
theorem ba_ext {a b : ByteArray} (h : a.data.toList = b.data.toList) : a = b := by
 obtain ⟨⟨a⟩⟩ := a
 obtain ⟨⟨b⟩⟩ := b
 simp at h
 rw [h]
theorem ba_eta (a : ByteArray) : (⟨a.data.toList.toArray⟩ : ByteArray) = a := ba_ext (by simp)
theorem rev_l0 (l : List ByteArray) (hl : l.length < 1000000000) : ∀ (m i : Nat) (s : List ByteArray), 2 * i + m = l.length → s.length = l.length →
  (∀ p : Nat, p < l.length → s.getD p ByteArray.empty = if p < i ∨ i + m ≤ p then l.getD (l.length - 1 - p) ByteArray.empty else l.getD p ByteArray.empty) →
  Ev (fun k => zaa.l0 k s (i : Int) ((i : Int) + (m : Int) - 1)) l.reverse := by
 intro m
 induction m using Nat.strongRecOn with
 | ind m ih =>
  intro i s hm hs h
  by_cases h2 : 2 ≤ m
  ·
   obtain ⟨j, rfl⟩ : ∃ j, m = j + 2 := ⟨m - 2, by omega⟩
   have e1 : ((i : Int) + ((j + 2 : Nat) : Int) - 1).toNat = i + j + 1 := by omega
   refine Ev.step (G := fun k => zaa.l0 k ((s.set i (s.getD (i + j + 1) ByteArray.empty)).set (i + j + 1) (s.getD i ByteArray.empty)) ((i + 1 : Nat) : Int) (((i + 1 : Nat) : Int) + (j : Int) - 1)) (fun k => ?_) (ih j (by omega) (i + 1) _ (by omega) (by simp [hs]) (fun p hp => ?_))
   ·
    rw [zaa.l0, if_pos (by omega), if_pos (by omega), if_pos (by omega), if_pos (by omega), if_pos (by omega), w64s (by omega) (by omega), w64s (by omega) (by omega)]
    simp only [rdOf, e1, Int.toNat_natCast]
    rw [show ((i : Int) + 1) = ((i + 1 : Nat) : Int) by omega, show ((i : Int) + ((j + 2 : Nat) : Int) - 1 - 1) = (((i + 1 : Nat) : Int) + (j : Int) - 1) by omega]
   ·
    have key : ((s.set i (s.getD (i + j + 1) ByteArray.empty)).set (i + j + 1) (s.getD i ByteArray.empty)).getD p ByteArray.empty = if p = i + j + 1 then s.getD i ByteArray.empty else if p = i then s.getD (i + j + 1) ByteArray.empty else s.getD p ByteArray.empty := by
     rw [List.getD_eq_getElem?_getD, List.getElem?_set]
     by_cases hp1 : i + j + 1 = p
     ·
      have hl1 : i + j + 1 < (s.set i (s.getD (i + j + 1) ByteArray.empty)).length := by
       rw [List.length_set]
       omega
      subst hp1
      rw [if_pos rfl, if_pos hl1, if_pos rfl]
      rfl
     ·
      rw [if_neg hp1, if_neg (fun h => hp1 h.symm), List.getElem?_set]
      by_cases hp2 : i = p
      ·
       subst hp2
       rw [if_pos rfl, if_pos (show i < s.length by omega), if_pos rfl]
       rfl
      ·
       rw [if_neg hp2, if_neg (fun h => hp2 h.symm), List.getD_eq_getElem?_getD]
    rw [key]
    by_cases hp1 : p = i + j + 1
    ·
     subst hp1
     rw [if_pos rfl, if_pos (by omega), h i (by omega), if_neg (by omega)]
     congr 1
     omega
    ·
     rw [if_neg hp1]
     by_cases hp2 : p = i
     ·
      subst hp2
      rw [if_pos rfl, if_pos (by omega), h _ (by omega), if_neg (by omega)]
      congr 1
      omega
     ·
      rw [if_neg hp2, h p hp]
      by_cases hp3 : p < i ∨ i + (j + 2) ≤ p
      ·
       rw [if_pos hp3, if_pos (by omega)]
      ·
       rw [if_neg hp3, if_neg (by omega)]
  ·
   refine Ev.step (G := fun _ => some s) (fun k => ?_) ?_
   ·
    rw [zaa.l0, if_neg (by omega)]
   ·
    have e : s = l.reverse := by
     apply List.ext_getElem (by simp [hs])
     intro p h1 h2'
     have hp : p < l.length := by omega
     have := h p hp
     rw [List.getD_eq_getElem?_getD, List.getElem?_eq_getElem h1] at this
     simp only [Option.getD_some] at this
     rw [this, List.getElem_reverse]
     by_cases hc : p < i ∨ i + m ≤ p
     ·
      rw [if_pos hc, List.getD_eq_getElem?_getD, List.getElem?_eq_getElem (by omega)]
      rfl
     ·
      rw [if_neg hc, List.getD_eq_getElem?_getD, List.getElem?_eq_getElem hp]
      have : l.length - 1 - p = p := by omega
      simp only [Option.getD_some, this]
    rw [e]
    exact Ev.const _
theorem sRev (l : List ByteArray) (hl : l.length < 1000000000) : Ev (fun k => zaa.f k l) l.reverse := by
 have h := rev_l0 l hl l.length 0 l (by omega) rfl (fun p hp => by rw [if_neg (by omega)])
 refine Ev.congr (fun k => ?_) h
 unfold zaa.f
 rw [w64s (by omega) (by omega)]
 simp
theorem inter_nil {α : Type} : ∀ xs : List (List α), ([] : List α).intercalate xs = xs.flatten
 | [] => rfl
 | [x] => by simp [List.intercalate]
 | x :: y :: xs => by
  have h := inter_nil (y :: xs)
  simp [List.intercalate] at h ⊢
  exact h
def catB (l : List ByteArray) : ByteArray := ⟨(l.map (·.data.toList)).flatten.toArray⟩
theorem sJoin0 (l : List ByteArray) (h1 : l.length ≤ 140737488355328) (h2 : (l.map (·.data.toList)).flatten.length ≤ 140737488355328) : strings_Join.f l (⟨#[]⟩ : ByteArray) = some (catB l) := by
 unfold strings_Join.f
 have e : Lib.join (l.map (·.data.toList)) (⟨#[]⟩ : ByteArray).data.toList = (l.map (·.data.toList)).flatten := inter_nil _
 rw [if_pos h1, e, if_pos h2]
 rfl
theorem repL (b : UInt8) : ∀ n, Lib.repeatL [b] n = List.replicate n b
 | 0 => rfl
 | n + 1 => by rw [Lib.repeatL, repL b n, List.replicate_succ]; rfl
theorem shortP_val (d : Nat) (hd : 0 < d) : ∀ (l : List Int), Dig 18446744073709551616 l → ∃ (r : Nat), (shortP d l.reverse 0).2 = (r : Int) ∧ r < d ∧ Dig 18446744073709551616 (shortP d l.reverse 0).1 ∧ val 18446744073709551616 (shortP d l.reverse 0).1 * d + r = val 18446744073709551616 l
 | [], _ => ⟨0, rfl, hd, by intro x hx; simp [shortP] at hx, by simp [shortP, val]⟩
 | x :: l, h => by
  obtain ⟨⟨hx0, hx1⟩, hl⟩ := h.cons
  obtain ⟨r, e, hr, hD, hv⟩ := shortP_val d hd l hl
  obtain ⟨x, rfl⟩ := Int.eq_ofNat_of_zero_le hx0
  have ex : ((r : Int) * 18446744073709551616 + (x : Int)) = ((r * 18446744073709551616 + x : Nat) : Int) := by omega
  have q1 : ((r * 18446744073709551616 + x : Nat) : Int) / (d : Int) = (((r * 18446744073709551616 + x) / d : Nat) : Int) := (Int.natCast_ediv _ _).symm
  have q2 : ((r * 18446744073709551616 + x : Nat) : Int) % (d : Int) = (((r * 18446744073709551616 + x) % d : Nat) : Int) := (Int.natCast_emod _ _).symm
  rw [List.reverse_cons, shortP_snoc, e, ex, q1, q2]
  have hq : (r * 18446744073709551616 + x) / d < 18446744073709551616 := by
   rw [Nat.div_lt_iff_lt_mul hd]
   have : (r + 1) * 18446744073709551616 ≤ d * 18446744073709551616 := Nat.mul_le_mul_right _ hr
   omega
  have hdm := Nat.div_add_mod (r * 18446744073709551616 + x) d
  refine ⟨(r * 18446744073709551616 + x) % d, rfl, Nat.mod_lt _ hd, Dig.mk (Int.natCast_nonneg _) (Int.ofNat_lt.2 hq) hD, ?_⟩
  simp only [val]
  rw [Int.toNat_natCast]
  generalize (r * 18446744073709551616 + x) / d = q at *
  generalize (r * 18446744073709551616 + x) % d = m at *
  generalize val 18446744073709551616 (shortP (↑d) l.reverse 0).fst = v at *
  rw [Int.toNat_natCast, ← hv, Nat.add_mul, Nat.mul_add, Nat.mul_assoc, Nat.mul_comm q d]
  omega
theorem nShort (x d : Nat) (hd : 0 < d) (hd1 : d < 18446744073709551616) (hx : Le x 100000) : Ev (fun k => zbo.f k (dig 18446744073709551616 x) (d : Int)) (dig 18446744073709551616 (x / d), ((x % d : Nat) : Int)) := by
 have hD := zcg (B := 18446744073709551616) (by decide) x
 obtain ⟨r, e, hr, hDo, hv⟩ := shortP_val d hd _ hD
 rw [zch (by decide)] at hv
 have e1 : val 18446744073709551616 (shortP d (dig 18446744073709551616 x).reverse 0).1 = x / d := by
  generalize val 18446744073709551616 (shortP d (dig 18446744073709551616 x).reverse 0).1 = q at hv
  subst hv
  rw [Nat.mul_comm, Nat.mul_add_div hd, Nat.div_eq_of_lt hr]
  rfl
 have e2 : r = x % d := by
  generalize val 18446744073709551616 (shortP d (dig 18446744073709551616 x).reverse 0).1 = q at hv
  subst hv
  rw [Nat.mul_comm, Nat.mul_add_mod, Nat.mod_eq_of_lt hr]
 have hlen : (shortP d (dig 18446744073709551616 x).reverse 0).1.length = (dig 18446744073709551616 x).length := by rw [shortP_length, List.length_reverse]
 unfold Le at hx
 have ht := ntrim _ (by rw [hlen]; omega) hDo
 rw [e1] at ht
 have hl : limbs64 (dig 18446744073709551616 x) = true := List.all_eq_true.2 fun y hy => by
  have := hD y hy
  simp
  omega
 refine Ev.congr (G := fun k => (za2.f k (shortP d (dig 18446744073709551616 x).reverse 0).1).bind fun t => some (t, ((x % d : Nat) : Int))) (fun k => ?_) (Ev.bind ht (Ev.const _))
 unfold zbo.f
 rw [if_pos ⟨by omega, by omega, hl, by omega⟩, e, e2]
theorem decD_len18 (x : Nat) (h : x / 1000000000000000000 ≠ 0) : (Lib.decDigits x).length = (Lib.decDigits (x / 1000000000000000000)).length + 18 := by
 have := decD_app 18 (x / 1000000000000000000) (x % 1000000000000000000) (by omega) (Nat.mod_lt _ (by decide))
 rw [show x / 1000000000000000000 * 10 ^ 18 + x % 1000000000000000000 = x by omega] at this
 rw [this, List.length_append, zc3]
theorem nText_l0 : ∀ (x : Nat) (ps : List ByteArray), Le x 100000 → (∀ p ∈ ps, p.size = 18) → (Lib.decDigits x).length + 18 * ps.length ≤ 100000000 →
  Ev (fun k => zbk.l0 k (dig 18446744073709551616 x) ps) ⟨(Lib.decDigits x ++ (ps.reverse.map (·.data.toList)).flatten).toArray⟩ := by
 intro x
 induction x using Nat.strongRecOn with
 | ind x ih =>
  intro ps hx hp hb
  have hs := nShort x 1000000000000000000 (by decide) (by decide) hx
  have hf : zbv.f ((x % 1000000000000000000 : Nat) : Int) 10 = some (decT (x % 1000000000000000000)) := by
   unfold zbv.f
   rw [if_pos rfl, if_pos (by omega), if_pos (by omega)]
   rfl
  have hcount : ∀ qs : List ByteArray, (∀ p ∈ qs, p.size = 18) → (qs.map (·.data.toList)).flatten.length = 18 * qs.length := by
   intro qs
   induction qs with
   | nil => intro _; rfl
   | cons q qs ih2 =>
    intro h
    have h1 := h q (by simp)
    have h2 := ih2 fun p hp => h p (by simp [hp])
    have h3 : q.data.size = 18 := h1
    simp only [List.map_cons, List.flatten_cons, List.length_append, h2, List.length_cons, Array.length_toList]
    omega
  by_cases hq : x / 1000000000000000000 = 0
  ·
   have hxs : x % 1000000000000000000 = x := by omega
   refine Ev.step (fun k => zbk.l0.eq_2 ..) (Ev.bind hs (Ev.plain hf ?_))
   rw [hxs, hq, zcc]
   refine Ev.pos (by simp) (Ev.pos (by omega) ?_)
   refine Ev.bind (sRev _ (by simp; omega)) ?_
   have hc := hcount ps.reverse (fun p h => hp p (by simpa using h))
   have ej := sJoin0 (ps ++ [decT x]).reverse (by simp; omega) (by
    rw [List.reverse_append]
    simp only [List.reverse_cons, List.reverse_nil, List.nil_append, List.singleton_append, List.map_cons, List.flatten_cons, List.length_append, hc, decT_list, List.length_reverse]
    omega)
   refine Ev.plain ej ?_
   have e : catB (ps ++ [decT x]).reverse = ⟨(Lib.decDigits x ++ (ps.reverse.map (·.data.toList)).flatten).toArray⟩ := by
    unfold catB
    rw [List.reverse_append]
    simp [decT]
   rw [e]
   exact Ev.const _
  ·
   have hl18 := decD_len18 x hq
   have hlen : (Lib.decDigits (x % 1000000000000000000)).length ≤ 18 ∧ 1 ≤ (Lib.decDigits (x % 1000000000000000000)).length := by
    have h1 := padD_small 18 (x % 1000000000000000000) (by decide) (Nat.mod_lt _ (by decide))
    have h2 := congrArg List.length h1
    rw [zc3, List.length_append, List.length_replicate] at h2
    have := Lib.nDigits_pos (x % 1000000000000000000)
    rw [Lib.decDigits_length] at h2 ⊢
    omega
   have hd1 := dig_ne (B := 18446744073709551616) (by decide) hq
   have hd2 : 0 < (dig 18446744073709551616 (x / 1000000000000000000)).length := List.length_pos_iff.2 hd1
   have hw : wrap64 (18 - ((decT (x % 1000000000000000000)).size : Int)) = ((18 - (Lib.decDigits (x % 1000000000000000000)).length : Nat) : Int) := by
    rw [decT_size, w64s (by omega) (by omega)]
    omega
   have hr : strings_Repeat.f (⟨#[48]⟩ : ByteArray) (wrap64 (18 - ((decT (x % 1000000000000000000)).size : Int))) = some ⟨(List.replicate (18 - (Lib.decDigits (x % 1000000000000000000)).length) 48).toArray⟩ := by
    rw [hw]
    unfold strings_Repeat.f
    rw [if_pos (by omega), if_pos (by omega), Int.toNat_natCast, if_pos (by show 1 * _ ≤ _; omega)]
    rw [show (⟨#[48]⟩ : ByteArray).data.toList = [48] from rfl, repL]
   have hpart : ((⟨(List.replicate (18 - (Lib.decDigits (x % 1000000000000000000)).length) 48).toArray⟩ : ByteArray) ++ decT (x % 1000000000000000000)) = ⟨(padD 18 (x % 1000000000000000000)).toArray⟩ := by
    rw [padD_small 18 _ (by decide) (Nat.mod_lt _ (by decide))]
    apply ba_ext
    simp [decT]
   have hih := ih (x / 1000000000000000000) (by omega) (ps ++ [(⟨(padD 18 (x % 1000000000000000000)).toArray⟩ : ByteArray)]) (Nat.le_trans (dig_mono (by decide) (Nat.div_le_self _ _)) hx) (fun p h => by
    rcases List.mem_append.1 h with h | h
    ·
     exact hp p h
    ·
     simp at h
     subst h
     simp [ByteArray.size, zc3]) (by simp only [List.length_append, List.length_singleton]; omega)
   refine Ev.step (fun k => zbk.l0.eq_2 ..) (Ev.bind hs (Ev.plain hf (Ev.neg (by simp only; omega) ?_)))
   refine Ev.plain hr ?_
   refine Ev.pos (by rw [decT_size]; simp [ByteArray.size]; omega) (Ev.pos (by omega) ?_)
   rw [hpart]
   have e : (Lib.decDigits (x / 1000000000000000000) ++ ((ps ++ [(⟨(padD 18 (x % 1000000000000000000)).toArray⟩ : ByteArray)]).reverse.map (·.data.toList)).flatten) = Lib.decDigits x ++ (ps.reverse.map (·.data.toList)).flatten := by
    have := decD_app 18 (x / 1000000000000000000) (x % 1000000000000000000) (by omega) (Nat.mod_lt _ (by decide))
    rw [show x / 1000000000000000000 * 10 ^ 18 + x % 1000000000000000000 = x by omega] at this
    rw [this]
    simp
   rw [e] at hih
   exact hih
theorem dec_lt {x m : Nat} (hx : x < 18446744073709551616 ^ m) : (Lib.decDigits x).length ≤ 20 * m + 1 := by
 rw [Lib.decDigits_length]
 rcases Nat.lt_or_ge (20 * m + 1) (Lib.nDigits x) with h | h
 ·
  have h1 : 10 ^ (Lib.nDigits x - 1) ≤ x := by
   have hn := Lib.nDigits_pos x
   rcases Nat.lt_or_ge x (10 ^ (Lib.nDigits x - 1)) with h2 | h2
   ·
    exfalso
    have : ∀ (k : Nat) (u : Nat), u < 10 ^ k → Lib.nDigits u ≤ max 1 k := by
     intro k
     induction k with
     | zero =>
      intro u hu
      have : u = 0 := by simpa using hu
      subst this
      rw [Lib.nDigits_small (by decide)]
      omega
     | succ k ih =>
      intro u hu
      by_cases hu2 : u < 10
      ·
       rw [Lib.nDigits_small hu2]; omega
      ·
       rw [Lib.nDigits_big hu2]
       have := ih (u / 10) (by rw [Nat.pow_succ] at hu; omega)
       have hk : k ≠ 0 := by rintro rfl; simp at hu; omega
       omega
    have := this _ _ h2
    omega
   ·
    exact h2
  have h2 : 18446744073709551616 ^ m ≤ 10 ^ (20 * m) := by
   rw [Nat.pow_mul]
   exact Nat.pow_le_pow_left (by decide) m
  have h3 : 10 ^ (20 * m) ≤ 10 ^ (Lib.nDigits x - 1) := Nat.pow_le_pow_right (by decide) (by omega)
  omega
 ·
  exact h
theorem nText {x m : Nat} (hx : x < 18446744073709551616 ^ m) (hm : m ≤ 100000) : Ev (fun k => zbk.f k (dig 18446744073709551616 x)) (decT x) := by
 have h := nText_l0 x [] (Le_lt hx hm) (by simp) (by have := dec_lt hx; simp; omega)
 simp only [List.reverse_nil, List.map_nil, List.flatten_nil, List.append_nil] at h
 exact h
theorem dig10 (d : Nat) (h : d < 10) : (⟨#[48, 49, 50, 51, 52, 53, 54, 55, 56, 57]⟩ : ByteArray).extract d (d + 1) = ⟨#[UInt8.ofNat (48 + d)]⟩ := by
 have : ∀ i : Fin 10, (⟨#[48, 49, 50, 51, 52, 53, 54, 55, 56, 57]⟩ : ByteArray).extract i.val (i.val + 1) = ⟨#[UInt8.ofNat (48 + i.val)]⟩ := by decide +kernel
 exact this ⟨d, h⟩
theorem ba_cons (b : UInt8) (s : ByteArray) : ((⟨#[b]⟩ : ByteArray) ++ s).data.toList = b :: s.data.toList := by simp
theorem rText_step (k : Nat) (l : List Int) (n : Int) (i q j : Nat) (s : ByteArray) (hq : q < 10000) (hj : j < 4) (hs : s.size < 2000000000) :
  zae.l1 (k + 1) l s (q : Int) n (i : Int) (j : Int) = zae.l1 k l ((⟨#[UInt8.ofNat (48 + q % 10)]⟩ : ByteArray) ++ s) ((q / 10 : Nat) : Int) n (i : Int) ((j + 1 : Nat) : Int) := by
 have e1 : Int.tmod (q : Int) 10 = ((q % 10 : Nat) : Int) := by
  rw [Int.tmod_eq_emod_of_nonneg (by omega)]
  omega
 have e2 : wrap64 (Int.tdiv (q : Int) 10) = ((q / 10 : Nat) : Int) := by
  rw [Int.tdiv_eq_ediv_of_nonneg (by omega), w64s (by omega) (by omega)]
  omega
 have e3 : wrap64 (((q % 10 : Nat) : Int) + 1) = ((q % 10 + 1 : Nat) : Int) := by
  rw [w64s (by omega) (by omega)]
  omega
 have hc : (⟨#[UInt8.ofNat (48 + q % 10)]⟩ : ByteArray).size + s.size ≤ 9223372036854775807 := by
  have h1 : (⟨#[UInt8.ofNat (48 + q % 10)]⟩ : ByteArray).size = 1 := rfl
  rw [h1]
  omega
 have h10 := dig10 (q % 10) (Nat.mod_lt _ (by decide))
 have hlt : (j : Int) < 4 := by omega
 have h0 : (0 : Int) ≤ ((q % 10 : Nat) : Int) := Int.natCast_nonneg _
 have h1 : ((q % 10 : Nat) : Int) ≤ ((q % 10 + 1 : Nat) : Int) := by omega
 have h2 : ((q % 10 + 1 : Nat) : Int) ≤ 10 := by omega
 have h4 : wrap64 ((j : Int) + 1) = ((j + 1 : Nat) : Int) := wadd1 j (by omega)
 rw [zae.l1.eq_2]
 rw [if_pos hlt]
 rw [e1, e2, e3, if_pos h0, if_pos h1, if_pos h2, Int.toNat_natCast, Int.toNat_natCast, h10, if_pos hc, h4]
theorem rText_l1 (l : List Int) (n : Int) (i d : Nat) (hd : d < 10000) (s0 : ByteArray) (hs : s0.size < 1000000000) (r : ByteArray) :
  ∀ (m j : Nat) (s : ByteArray), j + m = 4 → s.data.toList = padD j (d % 10 ^ j) ++ s0.data.toList →
  Ev (fun k => zae.l0 k l ⟨(padD 4 d ++ s0.data.toList).toArray⟩ n (wrap64 ((i : Int) + 1))) r →
  Ev (fun k => zae.l1 k l s ((d / 10 ^ j : Nat) : Int) n (i : Int) (j : Int)) r
 | 0, j, s, hm, h, hr => by
  obtain rfl : j = 4 := by omega
  refine Ev.step (G := fun k => zae.l0 k l s n (wrap64 ((i : Int) + 1))) (fun k => ?_) ?_
  ·
   rw [zae.l1, if_neg (by omega)]
  ·
   have e : s = ⟨(padD 4 d ++ s0.data.toList).toArray⟩ := by
    apply ba_ext
    rw [h, show d % 10 ^ 4 = d by omega]
   rw [e]
   exact hr
 | m + 1, j, s, hm, h, hr => by
  have hj : j < 4 := by omega
  have hp : 0 < 10 ^ j := Nat.pow_pos (by decide)
  have hq : d / 10 ^ j ≤ d := Nat.div_le_self _ _
  have hsz : s.size = j + s0.size := by
   have := congrArg List.length h
   rw [List.length_append, zc3] at this
   simp only [Array.length_toList] at this
   exact this
  have ih := rText_l1 l n i d hd s0 hs r m (j + 1) ((⟨#[UInt8.ofNat (48 + d / 10 ^ j % 10)]⟩ : ByteArray) ++ s) (by omega) (by
   rw [ba_cons, h, ← List.cons_append]
   congr 1
   rw [show j + 1 = 1 + j by omega, padD_add]
   have h1 : d % 10 ^ (1 + j) / 10 ^ j = d / 10 ^ j % 10 := by
    rw [Nat.pow_add, Nat.mul_comm, Nat.mod_mul_right_div_self]
   have h2 : ∀ k n, padD k (n % 10 ^ k) = padD k n := by
    intro k
    induction k with
    | zero => intro n; rfl
    | succ k ih =>
     intro n
     rw [padD, padD, ← ih (n / 10), ← ih (n % 10 ^ (k + 1) / 10)]
     have a1 : n % 10 ^ (k + 1) / 10 % 10 ^ k = n / 10 % 10 ^ k := by
      rw [Nat.pow_succ, Nat.mul_comm, Nat.mod_mul_right_div_self, Nat.mod_mod]
     have a2 : n % 10 ^ (k + 1) % 10 = n % 10 := by
      rw [Nat.pow_succ, Nat.mul_comm, Nat.mod_mul_right_mod]
     rw [a1, a2]
   have h3 : padD j (d % 10 ^ (1 + j)) = padD j d := by
    rw [← h2 j (d % 10 ^ (1 + j)), show d % 10 ^ (1 + j) % 10 ^ j = d % 10 ^ j by rw [Nat.pow_add, Nat.mul_comm, Nat.mod_mul_right_mod], h2]
   rw [h1, h2 j d, h3]
   simp [padD]) hr
  refine Ev.step (fun k => rText_step k l n i (d / 10 ^ j) j s (by omega) (by omega) (by omega)) ?_
  rw [Nat.pow_succ, ← Nat.div_div_eq_div_mul] at ih
  exact ih
theorem rText_l2 : ∀ (l : List UInt8), stripZ l ≠ [] → l.length < 1000000000 → Ev (fun k => zae.l2 k ⟨l.toArray⟩) ⟨(stripZ l).toArray⟩
 | [], h, _ => absurd rfl h
 | b :: l, h, hl => by
  have hb : bt (⟨(b :: l).toArray⟩ : ByteArray) 0 = (b.toNat : Int) := by
   rw [← bt_at _ _ (show (0 : Int).toNat < (⟨(b :: l).toArray⟩ : ByteArray).size by simp [ByteArray.size])]
   rfl
  have hs : ((⟨(b :: l).toArray⟩ : ByteArray).size : Int) = (l.length : Int) + 1 := by simp [ByteArray.size]
  simp only [List.length_cons] at hl
  by_cases hz : b = 48
  ·
   subst hz
   rw [stripZ, if_pos rfl] at h ⊢
   have ih := rText_l2 l h (by omega)
   refine Ev.step (G := fun k => zae.l2 k ⟨l.toArray⟩) (fun k => ?_) ih
   rw [zae.l2, hs, if_pos (by omega), hb, if_pos (by decide), if_pos (by omega)]
   congr 1
   apply ba_ext
   simp [ByteArray.size]
  ·
   rw [stripZ, if_neg hz]
   refine Ev.step (G := fun k => some ⟨(b :: l).toArray⟩) (fun k => ?_) (Ev.const _)
   rw [zae.l2, hs, if_pos (by omega), hb, if_neg (fun e => hz (by
    apply UInt8.toNat_inj.1
    have : b.toNat = 48 := by omega
    rw [this]
    rfl))]
theorem rText_l0 (x : Nat) (l : List Int) (hl : l = dig 10000 x) (hx : x ≠ 0) (hs : l.length < 1000000) : ∀ (m i : Nat) (s : ByteArray), i + m = l.length → s.data.toList = padD (4 * i) (val 10000 (l.take i)) →
  Ev (fun k => zae.l0 k l s (l.length : Int) (i : Int)) (decT x)
 | 0, i, s, hm, h => by
  have hi : i = l.length := by omega
  subst hi
  refine Ev.step (G := fun k => zae.l2 k s) (fun k => ?_) ?_
  ·
   rw [zae.l0, if_neg (by omega)]
  ·
   rw [List.take_length, hl, zch (by decide)] at h
   have hlt := val_lt (B := 10000) l (by rw [hl]; exact zcg (by decide) _)
   rw [hl, zch (by decide)] at hlt
   have hne := dig_ne (B := 10000) (by decide) hx
   have hpos : 0 < (dig 10000 x).length := List.length_pos_iff.2 hne
   have e10 : (10000 : Nat) ^ (dig 10000 x).length = 10 ^ (4 * (dig 10000 x).length) := by rw [Nat.pow_mul]
   have hst := strip_pad (4 * (dig 10000 x).length) x (by omega) (by omega) (by rw [← e10]; exact hlt)
   have hne2 : stripZ s.data.toList ≠ [] := by
    rw [h, hst]
    obtain ⟨b, t, e, _⟩ := decD_head x (by omega)
    rw [e]
    simp
   have hlen : s.data.toList.length < 1000000000 := by
    rw [h, zc3]
    rw [hl] at hs
    omega
   have := rText_l2 s.data.toList hne2 hlen
   rw [ba_eta, h, hst] at this
   exact this
 | m + 1, i, s, hm, h => by
  have hd : Dig 10000 l := by rw [hl]; exact zcg (by decide) _
  obtain ⟨h0, h1⟩ := hd.get (by decide) i
  obtain ⟨d, hdd⟩ := Int.eq_ofNat_of_zero_le h0
  have hsz : s.size = 4 * i := by
   have := congrArg List.length h
   rw [zc3] at this
   simp only [Array.length_toList] at this
   exact this
  have ih := rText_l0 x l hl hx hs m (i + 1) ⟨(padD 4 d ++ s.data.toList).toArray⟩ (by omega) (by
   simp only
   rw [h, take_snoc l i (by omega), val_append, hdd]
   have hlt := val_lt (B := 10000) (l.take i) (fun x hx => hd x (List.mem_of_mem_take hx))
   rw [List.length_take, Nat.min_eq_left (by omega)] at hlt ⊢
   have e10 : (10000 : Nat) ^ i = 10 ^ (4 * i) := by rw [Nat.pow_mul]
   rw [e10] at hlt ⊢
   have hv : val 10000 [((d : Nat) : Int)] = d := by simp [val]
   rw [hv, show 4 * (i + 1) = 4 + 4 * i by omega, padD_add, Nat.add_mul_div_left _ _ (Nat.pow_pos (by decide)), Nat.div_eq_of_lt hlt, Nat.zero_add]
   congr 1
   have a2 : ∀ k a b, padD k (a + 10 ^ k * b) = padD k a := by
    intro k
    induction k with
    | zero => intro a b; rfl
    | succ k ih =>
     intro a b
     have e : 10 ^ (k + 1) * b = 10 * (10 ^ k * b) := by rw [Nat.pow_succ, Nat.mul_comm (10 ^ k), Nat.mul_assoc]
     rw [padD, padD, e, Nat.add_mul_div_left _ _ (by decide), ih, Nat.add_mul_mod_self_left]
   rw [a2])
  have h4 := rText_l1 l (l.length : Int) i d (by omega) s (by omega) (decT x) 4 0 s (by omega) (by simp [padD]) (by
   rw [wadd1 i (by omega)]
   exact ih)
  refine Ev.step (fun k => ?_) h4
  rw [zae.l0, if_pos (by omega), if_pos (by omega), if_pos (by omega), rd_nat, hdd]
  simp
theorem rText (x : Nat) (hs : (dig 10000 x).length < 1000000) : Ev (fun k => zae.f k (dig 10000 x)) (decT x) := by
 by_cases hx : x = 0
 ·
  subst hx
  refine Ev.congr (G := fun _ => some (decT 0)) (fun k => ?_) (Ev.const _)
  rw [zcc, zae.f, if_pos (by simp)]
  have : decT 0 = ⟨#[48]⟩ := by
   apply ba_ext
   rw [decT_list, Lib.decDigits_one (by decide)]
   rfl
  rw [this]
 ·
  have hne := dig_ne (B := 10000) (by decide) hx
  have hpos : 0 < (dig 10000 x).length := List.length_pos_iff.2 hne
  refine Ev.congr (fun k => ?_) (rText_l0 x (dig 10000 x) rfl hx hs (dig 10000 x).length 0 (⟨#[]⟩ : ByteArray) (by omega) (by simp [padD]))
  rw [zae.f, if_neg (by omega)]
  rfl
def stepV (v : Nat) (b : UInt8) : Nat := v * 10 + (b.toNat - 48)
theorem stepV_lt {v m : Nat} (b : UInt8) (hb : b.toNat ≤ 57) (h : v < 18446744073709551616 ^ m) : v * 10 < 18446744073709551616 ^ (m + 1) ∧ stepV v b < 18446744073709551616 ^ (m + 1) := by
 unfold stepV
 rw [Nat.pow_succ]
 generalize 18446744073709551616 ^ m = X at *
 omega
theorem bt_list (s : ByteArray) (i : Nat) (h : i < s.size) : bt s (i : Int) = ((s.data.toList[i]'(by simpa using h)).toNat : Int) := by
 rw [bt_lit s i h]
 congr 2
theorem digB_iff (b : UInt8) : digB b = true ↔ 48 ≤ b.toNat ∧ b.toNat ≤ 57 := by simp [digB]
theorem all_drop {l : List UInt8} (h : l.all digB = true) (b : UInt8) (hb : b ∈ l) : isD b := (digB_iff b).1 (List.all_eq_true.1 h b hb)
theorem nReadF (s : ByteArray) (hs : s.size ≤ 5000) (hd : s.data.toList.all digB = true) : ∀ (n pos v : Nat), pos + n = s.size → v < 18446744073709551616 ^ pos →
  Ev (fun k => readF k s n pos (dig 18446744073709551616 v)) (dig 18446744073709551616 ((s.data.toList.drop pos).foldl stepV v))
 | 0, pos, v, hp, hv => by
  refine Ev.congr (G := fun _ => some (dig 18446744073709551616 v)) (fun k => rfl) ?_
  rw [List.drop_eq_nil_of_le (by simp; omega)]
  exact Ev.const _
 | n + 1, pos, v, hp, hv => by
  have hlt : pos < s.data.toList.length := by simp; omega
  have hb := all_drop hd (s.data.toList[pos]) (List.getElem_mem hlt)
  unfold isD at hb
  have e : bt s (pos : Int) - 48 = ((s.data.toList[pos].toNat - 48 : Nat) : Int) := by
   rw [bt_list s pos (by omega)]
   omega
  obtain ⟨h1, h2⟩ := stepV_lt (m := pos) (s.data.toList[pos]) hb.2 hv
  have ih := nReadF s hs hd n (pos + 1) (stepV v (s.data.toList[pos])) (by omega) h2
  have o10 : Ev (fun k => zck.f k 10) (dig 18446744073709551616 10) := nOf 10 (by omega)
  have oc : Ev (fun k => zck.f k (bt s (pos : Int) - 48)) (dig 18446744073709551616 (s.data.toList[pos].toNat - 48)) := by
   rw [e]
   exact nOf _ (by omega)
  have l10 : Le 10 100000 := Le_lt (m := 1) (by rw [Nat.pow_one]; omega) (by omega)
  have lc : Le (s.data.toList[pos].toNat - 48) 100000 := Le_lt (m := 1) (by rw [Nat.pow_one]; omega) (by omega)
  refine Ev.congr (G := fun k => (zck.f k 10).bind fun t => (zb8.f k (dig 18446744073709551616 v) t).bind fun m => (zck.f k (bt s pos - 48)).bind fun c => (zco.f k m c).bind fun o => readF k s n (pos + 1) o) (fun k => rfl) ?_
  refine Ev.bind o10 (Ev.bind (nMul v 10 (Le_lt hv (by omega)) l10) (Ev.bind oc (Ev.bind (nAdd (v * 10) _ (Le_lt h1 (by omega)) lc) ?_)))
  rw [List.drop_eq_getElem_cons hlt, List.foldl_cons]
  exact ih
theorem nRead (s : ByteArray) (hs : s.size ≤ 5000) : Ev (fun k => zcn.f k s) (if textB s = true then (dig 18446744073709551616 (readD s.data.toList), 0) else (([] : List Int), 17)) := by
 by_cases h : textB s = true
 ·
  rw [if_pos h]
  have hd : s.data.toList.all digB = true := by
   unfold textB at h
   simp only [Bool.and_eq_true] at h
   exact h.2
  have := nReadF s hs hd s.size 0 0 (by omega) (by simp)
  rw [List.drop_zero, zcc] at this
  refine Ev.congr (G := fun k => (readF k s s.size 0 []).bind fun o => some (o, 0)) (fun k => ?_) (Ev.bind this (Ev.const _))
  unfold zcn.f
  rw [if_pos h]
 ·
  rw [if_neg h]
  refine Ev.congr (G := fun _ => some (([] : List Int), 17)) (fun k => ?_) (Ev.const _)
  unfold zcn.f
  rw [if_neg h]
theorem rRead_bad (s : ByteArray) (v : List Int) (n : Int) (i : Nat) (hi : i < s.size) (hn : (i : Int) < n) (hb : digB (s.data.toList[i]'(by simpa using hi)) = false) : Ev (fun k => zad.l0 k s v n (i : Int)) (([] : List Int), false) := by
 have hbt := bt_list s i hi
 have h0 : (0 : Int) ≤ (i : Int) := by omega
 have h1 : (i : Int) < (s.size : Int) := by omega
 have hb2 : ¬ (48 ≤ (s.data.toList[i]'(by simpa using hi)).toNat ∧ (s.data.toList[i]'(by simpa using hi)).toNat ≤ 57) := fun h => by
  rw [(digB_iff _).2 h] at hb
  cases hb
 refine Ev.step (G := fun k => zad.j2 k s v (i : Int) n (i : Int) true) (fun k => ?_) (Ev.step (fun _ => zad.j2.eq_2 ..) (Ev.pos rfl (Ev.const _)))
 rw [zad.l0, if_pos hn, if_pos h0, if_pos h1]
 by_cases hlt : bt s (i : Int) < 48
 ·
  rw [if_pos hlt]
 ·
  rw [if_neg hlt]
  have : decide (bt s (i : Int) > 57) = true := decide_eq_true (by omega)
  rw [this]
theorem rRead_l0 (s : ByteArray) (hs : s.size ≤ 5000) : ∀ (m i v : Nat), i + m = s.size → v < 18446744073709551616 ^ i →
  Ev (fun k => zad.l0 k s (dig 10000 v) (s.size : Int) (i : Int)) (if (s.data.toList.drop i).all digB = true then (dig 10000 ((s.data.toList.drop i).foldl stepV v), true) else (([] : List Int), false))
 | 0, i, v, hp, hv => by
  rw [List.drop_eq_nil_of_le (by simp; omega), if_pos (by rfl)]
  refine Ev.step (G := fun _ => some (dig 10000 v, true)) (fun k => ?_) (Ev.const _)
  rw [zad.l0, if_neg (by omega)]
 | m + 1, i, v, hp, hv => by
  have hi : i < s.size := by omega
  have hlt : i < s.data.toList.length := by simp; omega
  rw [List.drop_eq_getElem_cons hlt, List.all_cons]
  by_cases hb : digB (s.data.toList[i]) = true
  ·
   rw [hb, Bool.true_and, List.foldl_cons]
   have hbn := (digB_iff _).1 hb
   have hbt := bt_list s i hi
   obtain ⟨h1, h2⟩ := stepV_lt (m := i) (s.data.toList[i]) hbn.2 hv
   have ih := rRead_l0 s hs m (i + 1) (stepV v (s.data.toList[i])) (by omega) h2
   have e : (bt s (i : Int) - 48) % 256 = ((s.data.toList[i].toNat - 48 : Nat) : Int) := by
    rw [hbt]
    omega
   have o10 : Ev (fun k => zaj.f k 10) (dig 10000 10) := rOf 10 (by omega)
   have oc : Ev (fun k => zaj.f k ((bt s (i : Int) - 48) % 256)) (dig 10000 (s.data.toList[i].toNat - 48)) := by
    rw [e]
    exact rOf _ (by omega)
   have l10 : Lo 10 := Lo_lt (m := 1) (by rw [Nat.pow_one]; omega) (by omega)
   have lc : Lo (s.data.toList[i].toNat - 48) := Lo_lt (m := 1) (by rw [Nat.pow_one]; omega) (by omega)
   have h0 : (0 : Int) ≤ (i : Int) := by omega
   have h1' : (i : Int) < (s.size : Int) := by omega
   refine Ev.step (G := fun k => zad.j2 k s (dig 10000 v) (i : Int) (s.size : Int) (i : Int) false) (fun k => ?_) ?_
   ·
    rw [zad.l0, if_pos h1', if_pos h0, if_pos h1', if_neg (by omega)]
    have : decide (bt s (i : Int) > 57) = false := decide_eq_false (by omega)
    rw [this]
   ·
    refine Ev.step (fun _ => zad.j2.eq_2 ..) (Ev.neg (by simp) (Ev.bind o10 (Ev.bind (rMul v 10 (Lo_lt hv (by omega)) l10) (Ev.pos h0 (Ev.pos h1' (Ev.bind oc (Ev.bind (rAdd (v * 10) _ (Lo_lt h1 (by omega)) lc) ?_)))))))
    rw [wadd1 i (by omega)]
    exact ih
  ·
   have hb' : digB (s.data.toList[i]) = false := by simpa using hb
   rw [hb', Bool.false_and, if_neg (by simp)]
   exact rRead_bad s _ _ i hi (by omega) hb'
theorem rRead (s : ByteArray) (hs : s.size ≤ 5000) : Ev (fun k => zad.f k s) (if textB s = true then (dig 10000 (readD s.data.toList), true) else (([] : List Int), false)) := by
 have off : Ev (fun k => zad.j0 k s true) (([] : List Int), false) := Ev.step (fun _ => zad.j0.eq_2 ..) (Ev.pos rfl (Ev.const _))
 have on : Ev (fun k => zad.j0 k s false) (if s.data.toList.all digB = true then (dig 10000 (readD s.data.toList), true) else (([] : List Int), false)) := by
  have h := rRead_l0 s hs s.size 0 0 (by omega) (by simp)
  rw [List.drop_zero, zcc] at h
  exact Ev.step (fun _ => zad.j0.eq_2 ..) (Ev.neg (by simp) h)
 have hl : s.data.toList.length = s.size := by simp
 by_cases h0 : s.size = 0
 ·
  have e : s.toList = [] := by
   rw [Lib.toList_data]
   exact List.eq_nil_of_length_eq_zero (by omega)
  have ht : textB s = false := by
   unfold textB
   rw [h0]
   rfl
  rw [ht, if_neg (by simp)]
  refine Ev.congr (fun k => ?_) off
  rw [zad.f, if_pos e]
 ·
  have e : s.toList ≠ [] := by
   rw [Lib.toList_data]
   intro h
   rw [h] at hl
   simp at hl
   omega
  have hp : 0 < (s.size : Int) := by omega
  have d1 : decide (0 < s.size) = true := decide_eq_true (by omega)
  by_cases hz : bt s 0 = 48
  ·
   by_cases h1 : 1 < s.size
   ·
    have ht : textB s = false := by
     unfold textB
     rw [d1, decide_eq_true hz, decide_eq_true h1]
     rfl
    rw [ht, if_neg (by simp)]
    refine Ev.congr (fun k => ?_) off
    rw [zad.f, if_neg e, if_pos hp, if_pos hz, decide_eq_true (show (s.size : Int) > 1 by omega)]
   ·
    have ht : textB s = s.data.toList.all digB := by
     unfold textB
     rw [d1, decide_eq_true hz, decide_eq_false h1]
     rfl
    rw [ht]
    refine Ev.congr (fun k => ?_) on
    rw [zad.f, if_neg e, if_pos hp, if_pos hz, decide_eq_false (show ¬ (s.size : Int) > 1 by omega)]
  ·
   have ht : textB s = s.data.toList.all digB := by
    unfold textB
    rw [d1, decide_eq_false hz]
    rfl
   rw [ht]
   refine Ev.congr (fun k => ?_) on
   rw [zad.f, if_neg e, if_pos hp, if_neg hz]
theorem gcdLt {x y M : Nat} (hx : x < M) (hy : y < M) : Nat.gcd x y < M := by
 by_cases h : x = 0
 ·
  subst h
  rw [Nat.gcd_zero_left]
  exact hy
 ·
  exact Nat.lt_of_le_of_lt (Nat.gcd_le_left y (by omega)) hx
theorem gcdPos {x y : Nat} (hy : 0 < y) : 0 < Nat.gcd x y := Nat.gcd_pos_of_pos_right x hy
theorem divLt {x y M : Nat} (hx : x < M) : x / y < M := Nat.lt_of_le_of_lt (Nat.div_le_self _ _) hx
theorem ne_len {B n : Nat} (hB : 1 < B) (h : 0 < n) : 0 < (dig B n).length := List.length_pos_iff.2 (dig_ne hB (by omega))
theorem nOne : Ev (fun k => zci.f k) (dig 18446744073709551616 1) := Ev.bind (F := fun k => zck.f k 1) (nOf 1 (by omega)) (Ev.const _)
theorem nLowest {x y m : Nat} (hy : 0 < y) (hx : x < 18446744073709551616 ^ m) (hyl : y < 18446744073709551616 ^ m) (hm : m ≤ 100000) : Ev (fun k => zb7.f k (dig 18446744073709551616 x) (dig 18446744073709551616 y)) (dig 18446744073709551616 (x / Nat.gcd x y), dig 18446744073709551616 (y / Nat.gcd x y)) := by
 have hg := gcdLt hx hyl
 exact Ev.bind (nGcd x y (Le_lt hx hm) (Le_lt hyl hm)) (Ev.bind (nDivMod x _ (gcdPos hy) (Le_lt hx hm) (Le_lt hg hm)) (Ev.bind (nDivMod y _ (gcdPos hy) (Le_lt hyl hm) (Le_lt hg hm)) (Ev.const _)))
theorem sgn_zero {x y : Nat} : sgn x y = 0 ↔ x = y := by
 unfold sgn
 constructor
 ·
  intro h
  by_cases e : x = y
  ·
   exact e
  ·
   rw [if_neg e] at h
   split at h <;> simp at h
 ·
  intro h
  rw [if_pos h]
def rT (x y : Nat) : ByteArray := if y = 1 then decT x else ⟨(Lib.decDigits x ++ 47 :: Lib.decDigits y).toArray⟩
theorem cat3 (a b : ByteArray) (x y : Nat) (ha : a = decT x) (hb : b = decT y) : (a ++ (⟨#[47]⟩ : ByteArray)) ++ b = ⟨(Lib.decDigits x ++ 47 :: Lib.decDigits y).toArray⟩ := by
 subst ha hb
 apply ba_ext
 simp [decT]
theorem cat_size (a : ByteArray) : (a ++ (⟨#[47]⟩ : ByteArray)).size = a.size + 1 := by
 rw [ByteArray.size_append]
 rfl
theorem nRtext {x y m : Nat} (hx : x < 18446744073709551616 ^ m) (hy : y < 18446744073709551616 ^ m) (hm : m ≤ 100000) : Ev (fun k => za4.f k (dig 18446744073709551616 x) (dig 18446744073709551616 y)) (rT x y) := by
 have h1 := dec_lt hx
 have h2 := dec_lt hy
 have s1 := decT_size x
 have s2 := decT_size y
 refine Ev.bind (F := fun k => zci.f k) nOne (Ev.plain (nCmp y 1) ?_)
 by_cases e : y = 1
 ·
  subst e
  refine Ev.pos (sgn_zero.2 rfl) (Ev.bind (nText hx hm) ?_)
  rw [rT, if_pos rfl]
  exact Ev.const _
 ·
  refine Ev.neg (fun h => e (sgn_zero.1 h)) (Ev.bind (nText hx hm) (Ev.pos (by omega) (Ev.bind (nText hy hm) (Ev.pos (by rw [cat_size]; omega) ?_))))
  rw [rT, if_neg e, cat3 _ _ x y rfl rfl]
  exact Ev.const _
theorem rDivW {x y m : Nat} (hy : 0 < y) (hx : x < 18446744073709551616 ^ m) (hyl : y < 18446744073709551616 ^ m) (hm : m ≤ 5000) : Ev (fun k => zai.f k (dig 10000 x) (dig 10000 y)) (dig 10000 (x / y), dig 10000 (x % y)) :=
 rDiv x y hy (Nat.le_trans (Lo5 hx) (by omega)) (Lo_lt hyl (by omega)) (fun n hn => Lo_lt (m := m + 1) (Nat.lt_of_lt_of_le hn (by
  rw [Nat.pow_succ]
  exact Nat.mul_le_mul (Nat.le_of_lt hyl) (by omega))) (by omega))
theorem rGcdW {x y m : Nat} (hx : x < 18446744073709551616 ^ m) (hyl : y < 18446744073709551616 ^ m) (hm : m ≤ 5000) : Ev (fun k => zbd.f k (dig 10000 x) (dig 10000 y)) (dig 10000 (Nat.gcd x y)) :=
 rGcd_l0 (18446744073709551616 ^ m) (fun n hn => Nat.le_trans (Lo5 (m := m + 1) (Nat.lt_of_lt_of_le hn (by
  rw [Nat.pow_succ]
  exact Nat.mul_le_mul (Nat.le_refl _) (by omega)))) (by omega)) y x (Nat.le_of_lt hx) (Nat.le_of_lt hyl)
theorem rRof {x y m : Nat} (hy : 0 < y) (hx : x < 18446744073709551616 ^ m) (hyl : y < 18446744073709551616 ^ m) (hm : m ≤ 5000) : Ev (fun k => zcj.f k (dig 10000 x) (dig 10000 y)) (dig 10000 (x / Nat.gcd x y), dig 10000 (y / Nat.gcd x y)) := by
 have hg := gcdLt hx hyl
 exact Ev.bind (rGcdW hx hyl hm) (Ev.bind (rDivW (gcdPos hy) hx hg hm) (Ev.bind (rDivW (gcdPos hy) hyl hg hm) (Ev.const _)))
theorem rText3 {x y m : Nat} (hx : x < 18446744073709551616 ^ m) (hy : y < 18446744073709551616 ^ m) (hm : m ≤ 10000) : Ev (fun k => zbe.f k (dig 10000 x) (dig 10000 y)) (rT x y) := by
 have h1 := dec_lt hx
 have h2 := dec_lt hy
 have s1 := decT_size x
 have s2 := decT_size y
 have l1 := Lo5 hx
 have l2 := Lo5 hy
 refine Ev.bind (F := fun k => zaj.f k 1) (rOf 1 (by omega)) (Ev.bind (rCmp y 1 (Lo_lt hy (by omega)) (Lo_lt (m := 1) (by rw [Nat.pow_one]; omega) (by omega))) ?_)
 by_cases e : y = 1
 ·
  subst e
  refine Ev.pos (sgn_zero.2 rfl) (Ev.bind (rText x (by omega)) ?_)
  rw [rT, if_pos rfl]
  exact Ev.const _
 ·
  refine Ev.neg (fun h => e (sgn_zero.1 h)) (Ev.bind (rText x (by omega)) (Ev.pos (by omega) (Ev.bind (rText y (by omega)) (Ev.pos (by rw [cat_size]; omega) ?_))))
  rw [rT, if_neg e, cat3 _ _ x y rfl rfl]
  exact Ev.const _
theorem nRIs {x y m : Nat} (hx : x < 18446744073709551616 ^ m) (hy : y < 18446744073709551616 ^ m) (hm : m ≤ 10000) : Ev (fun k => zcv.f k (dig 18446744073709551616 x) (dig 18446744073709551616 y) (dig 10000 x) (dig 10000 y)) true :=
 Ev.bind (Is_lt hx hm) (Ev.pos rfl (Ev.bind (Is_lt hy hm) (Ev.const _)))
theorem rawake : Ev (fun k => zb.f k) true := Ev.mono (K := 12) (fun k => zb.mono k) (by kernel_rfl)
def cutN (s : ByteArray) : Nat := if Lib.index s.data.toList [47] = -1 then s.size else (Lib.index s.data.toList [47]).toNat
theorem occ47 (l : List UInt8) (j : Nat) : Lib.occAt l [47] j = true ↔ l[j]? = some 47 := by
 constructor
 ·
  intro h
  exact Lib.occAt_head rfl h
 ·
  intro h
  obtain ⟨h1, h2⟩ := List.getElem?_eq_some_iff.1 h
  unfold Lib.occAt
  rw [List.drop_eq_getElem_cons h1, h2]
  simp
theorem cut_facts (s : ByteArray) : cutN s ≤ s.size ∧ (∀ j, j < cutN s → s.data.toList[j]? ≠ some 47) ∧ (cutN s < s.size → s.data.toList[cutN s]? = some 47) ∧
  (Lib.cut s.data.toList [47]) = if cutN s < s.size then (s.data.toList.take (cutN s), s.data.toList.drop (cutN s + 1), true) else (s.data.toList, [], false) := by
 have hl : s.data.toList.length = s.size := by simp
 unfold cutN
 rcases Lib.index_spec s.data.toList [47] with ⟨h1, h2⟩ | ⟨i, h1, h2, h3, h4⟩
 ·
  rw [if_pos h1]
  refine ⟨Nat.le_refl _, fun j hj h => ?_, fun h => absurd h (Nat.lt_irrefl _), ?_⟩
  ·
   have := h2 j (by omega)
   rw [(occ47 _ j).2 h] at this
   cases this
  ·
   unfold Lib.cut
   rw [h1, if_neg (by decide), if_neg (Nat.lt_irrefl _)]
 ·
  have hne : ¬ (i : Int) = -1 := by omega
  rw [h1, if_neg hne, Int.toNat_natCast]
  have hi := (List.getElem?_eq_some_iff.1 ((occ47 _ i).1 h3)).1
  refine ⟨by omega, fun j hj h => ?_, fun _ => (occ47 _ i).1 h3, ?_⟩
  ·
   have := h4 j hj
   rw [(occ47 _ j).2 h] at this
   cases this
  ·
   unfold Lib.cut
   rw [h1, if_pos (by omega), if_pos (by omega), Int.toNat_natCast]
   rfl
def loB (s : ByteArray) : ByteArray := s.extract 0 (cutN s)
def hiB (s : ByteArray) : ByteArray := s.extract (cutN s + 1) s.size
theorem ext_list (s : ByteArray) (a b : Nat) : (s.extract a b).data.toList = (s.data.toList.take b).drop a := by
 rw [ByteArray.data_extract, Array.toList_extract]
 simp [List.extract_eq_take_drop, List.drop_take]
theorem lo_list (s : ByteArray) : (loB s).data.toList = s.data.toList.take (cutN s) := by
 rw [loB, ext_list]
 rfl
theorem hi_list (s : ByteArray) : (hiB s).data.toList = s.data.toList.drop (cutN s + 1) := by
 have hl : s.data.toList.length = s.size := by simp
 rw [hiB, ext_list, ← hl, List.take_length]
def denB (s : ByteArray) : Nat := if cutN s < s.size then readD (hiB s).data.toList else 1
def readR (s : ByteArray) : Option (Nat × Nat) :=
 if textB (loB s) = true then
  if (cutN s < s.size → textB (hiB s) = true) ∧ denB s ≠ 0 then
   if rT (readD (loB s).data.toList / Nat.gcd (readD (loB s).data.toList) (denB s)) (denB s / Nat.gcd (readD (loB s).data.toList) (denB s)) = s then
    some (readD (loB s).data.toList / Nat.gcd (readD (loB s).data.toList) (denB s), denB s / Nat.gcd (readD (loB s).data.toList) (denB s))
   else none
  else none
 else none
theorem text_lt {s : ByteArray} (h : textB s = true) : readD s.data.toList < 18446744073709551616 ^ s.size := by
 have hd : s.data.toList.all digB = true := by
  unfold textB at h
  simp only [Bool.and_eq_true] at h
  exact h.2
 have h1 := readD_lt s.data.toList (fun b hb => all_drop hd b hb)
 rw [show s.data.toList.length = s.size by simp] at h1
 exact Nat.lt_of_lt_of_le h1 (Nat.pow_le_pow_left (by decide) _)
theorem size_of_list (s : ByteArray) : s.size = s.data.toList.length := by simp
theorem lo_size (s : ByteArray) : (loB s).size ≤ s.size := by
 rw [size_of_list (loB s), lo_list, List.length_take, size_of_list s]
 omega
theorem hi_size (s : ByteArray) : (hiB s).size ≤ s.size := by
 rw [size_of_list (hiB s), hi_list, List.length_drop, size_of_list s]
 omega
theorem lo_lt {s : ByteArray} (h : textB (loB s) = true) : readD (loB s).data.toList < 18446744073709551616 ^ (s.size + 1) := W_le (text_lt h) (by have := lo_size s; omega)
theorem den_lt {s : ByteArray} (h : cutN s < s.size → textB (hiB s) = true) : denB s < 18446744073709551616 ^ (s.size + 1) := by
 unfold denB
 by_cases hc : cutN s < s.size
 ·
  rw [if_pos hc]
  exact W_le (text_lt (h hc)) (by have := hi_size s; omega)
 ·
  rw [if_neg hc]
  exact W_le (m := 1) (by rw [Nat.pow_one]; omega) (by omega)
theorem readR_lt {s : ByteArray} {p q : Nat} (h : readR s = some (p, q)) : p < 18446744073709551616 ^ (s.size + 1) ∧ q < 18446744073709551616 ^ (s.size + 1) := by
 unfold readR at h
 split at h
 ·
  rename_i h1
  split at h
  ·
   rename_i h2
   split at h
   ·
    simp only [Option.some.injEq, Prod.mk.injEq] at h
    obtain ⟨rfl, rfl⟩ := h
    exact ⟨divLt (lo_lt h1), divLt (den_lt h2.1)⟩
   ·
    cases h
  ·
   cases h
 ·
  cases h
theorem nRread (s : ByteArray) (hs : s.size ≤ 2000) : Ev (fun k => zba.f k s) (match readR s with | some (p, q) => (dig 18446744073709551616 p, dig 18446744073709551616 q, 0) | none => (([] : List Int), ([] : List Int), 17)) := by
 obtain ⟨c1, c2, c3, c4⟩ := cut_facts s
 have hcut : strings_Cut.f s (⟨#[47]⟩ : ByteArray) = some (loB s, (if cutN s < s.size then hiB s else ⟨#[]⟩), decide (cutN s < s.size)) := by
  unfold strings_Cut.f
  rw [if_pos (by omega)]
  have e : (⟨#[47]⟩ : ByteArray).data.toList = [47] := rfl
  rw [e, c4]
  by_cases hc : cutN s < s.size
  ·
   simp only [if_pos hc, decide_eq_true hc]
   congr 2
   ·
    exact ba_ext (by rw [lo_list])
   ·
    congr 1
    exact ba_ext (by rw [hi_list])
  ·
   have : cutN s = s.size := by omega
   simp only [if_neg hc, decide_eq_false hc]
   congr 2
   exact ba_ext (by rw [lo_list, this, size_of_list s, List.take_length])
 have hlo := lo_size s
 have hhi := hi_size s
 have n1 := nRead (loB s) (by omega)
 have bad : Ev (fun k => zba.j1 k s (if textB (loB s) = true then dig 18446744073709551616 (readD (loB s).data.toList) else []) ([] : List Int) true) (([] : List Int), ([] : List Int), 17) := Ev.step (fun _ => zba.j1.eq_2 ..) (Ev.pos rfl (Ev.const _))
 have bad2 : ∀ x y, Ev (fun k => zba.j1 k s x y true) (([] : List Int), ([] : List Int), 17) := fun x y => Ev.step (fun _ => zba.j1.eq_2 ..) (Ev.pos rfl (Ev.const _))
 have good : textB (loB s) = true → (cutN s < s.size → textB (hiB s) = true) → Ev (fun k => zba.j0 k s (dig 18446744073709551616 (readD (loB s).data.toList)) 0 (dig 18446744073709551616 (denB s)) 0) (match readR s with | some (p, q) => (dig 18446744073709551616 p, dig 18446744073709551616 q, 0) | none => (([] : List Int), ([] : List Int), 17)) := by
  intro h1 h2
  have b1 := lo_lt h1
  have b2 := den_lt h2
  refine Ev.step (fun _ => zba.j0.eq_2 ..) (Ev.pos rfl (Ev.pos rfl ?_))
  unfold readR
  rw [if_pos h1]
  by_cases h0 : denB s = 0
  ·
   rw [if_neg (fun h => h.2 h0), h0, zcc]
   exact bad2 _ _
  ·
   have hpos : 0 < denB s := by omega
   have hl := ne_len (B := 18446744073709551616) (by decide) hpos
   have e0 : (((dig 18446744073709551616 (denB s)).length : Int) == 0) = false := by
    rw [beq_eq_false_iff_ne]
    omega
   rw [e0, if_pos ⟨h2, h0⟩]
   refine Ev.step (fun _ => zba.j1.eq_2 ..) (Ev.neg (by simp) (Ev.bind (nLowest hpos b1 b2 (by omega)) (Ev.bind (nRtext (divLt b1) (divLt b2) (by omega)) ?_)))
   by_cases he : rT (readD (loB s).data.toList / Nat.gcd (readD (loB s).data.toList) (denB s)) (denB s / Nat.gcd (readD (loB s).data.toList) (denB s)) = s
   ·
    rw [if_pos he]
    exact Ev.pos (by rw [he]) (Ev.const _)
   ·
    rw [if_neg he]
    refine Ev.neg (fun h => he (ba_ext ?_)) (Ev.const _)
    rw [Lib.toList_data, Lib.toList_data] at h
    exact h
 have neg1 : ∀ f x y, f ≠ 0 → Ev (fun k => zba.j0 k s x f y 0) (([] : List Int), ([] : List Int), 17) := fun f x y hf => Ev.step (fun _ => zba.j0.eq_2 ..) (Ev.neg hf (bad2 _ _))
 refine Ev.plain hcut (Ev.bind n1 (Ev.bind nOne ?_))
 by_cases h1 : textB (loB s) = true
 ·
  simp only [if_pos h1]
  by_cases hc : cutN s < s.size
  ·
   rw [decide_eq_true hc]
   have n2 := nRead (hiB s) (by omega)
   refine Ev.pos rfl ?_
   simp only [if_pos hc]
   refine Ev.bind n2 ?_
   by_cases h2 : textB (hiB s) = true
   ·
    simp only [if_pos h2]
    have := good h1 (fun _ => h2)
    rw [denB, if_pos hc] at this
    exact this
   ·
    simp only [if_neg h2]
    have e : readR s = none := by
     unfold readR
     rw [if_pos h1, if_neg (fun h => h2 (h.1 hc))]
    rw [e]
    exact Ev.step (fun _ => zba.j0.eq_2 ..) (Ev.pos rfl (Ev.neg (by decide) (bad2 _ _)))
  ·
   rw [decide_eq_false hc]
   refine Ev.neg (by simp) ?_
   have := good h1 (fun h => absurd h hc)
   rw [denB, if_neg hc] at this
   exact this
 ·
  simp only [if_neg h1]
  have e : readR s = none := by
   unfold readR
   rw [if_neg h1]
  rw [e]
  by_cases hc : cutN s < s.size
  ·
   rw [decide_eq_true hc]
   have n2 := nRead (hiB s) (by omega)
   refine Ev.pos rfl ?_
   simp only [if_pos hc]
   refine Ev.bind n2 (Ev.step (fun _ => zba.j0.eq_2 ..) (Ev.neg (by decide) (bad2 _ _)))
  ·
   rw [decide_eq_false hc]
   exact Ev.neg (by simp) (Ev.step (fun _ => zba.j0.eq_2 ..) (Ev.neg (by decide) (bad2 _ _)))
theorem bt_is47 (s : ByteArray) (i : Nat) (h : i < s.size) : bt s (i : Int) = 47 ↔ s.data.toList[i]? = some 47 := by
 rw [bt_list s i h, List.getElem?_eq_getElem (by simpa using h)]
 constructor
 ·
  intro e
  congr 1
  apply UInt8.toNat_inj.1
  have : (s.data.toList[i]'(by simpa using h)).toNat = 47 := by omega
  rw [this]
  rfl
 ·
  intro e
  rw [Option.some.inj e]
  rfl
theorem rRread_l0 (s : ByteArray) (hs : s.size ≤ 2000) (r : List Int × List Int × Bool) (hr : Ev (fun k => zam.j1 k s ((cutN s : Nat) : Int)) r) :
  ∀ (m i : Nat), i + m = cutN s → Ev (fun k => zam.l0 k s (i : Int)) r
 | 0, i, h => by
  obtain ⟨c1, c2, c3, _⟩ := cut_facts s
  obtain rfl : i = cutN s := by omega
  by_cases hc : cutN s < s.size
  ·
   refine Ev.step (fun k => ?_) hr
   rw [zam.l0, if_pos (by omega), if_pos (by omega), if_pos ((bt_is47 s _ hc).2 (c3 hc))]
  ·
   refine Ev.step (fun k => ?_) hr
   rw [zam.l0, if_neg (by omega)]
 | m + 1, i, h => by
  obtain ⟨c1, c2, c3, _⟩ := cut_facts s
  have hi : i < s.size := by omega
  refine Ev.step (fun k => ?_) (rRread_l0 s hs r hr m (i + 1) (by omega))
  rw [zam.l0, if_pos (by omega), if_pos (by omega), if_neg (fun e => c2 i (by omega) ((bt_is47 s i hi).1 e)), wadd1 i (by omega)]
theorem rRread (s : ByteArray) (hs : s.size ≤ 2000) : Ev (fun k => zam.f k s) (match readR s with | some (p, q) => (dig 10000 p, dig 10000 q, true) | none => (([] : List Int), ([] : List Int), false)) := by
 obtain ⟨c1, c2, c3, c4⟩ := cut_facts s
 have hlo := lo_size s
 have hhi := hi_size s
 have n1 := rRead (loB s) (by omega)
 have h0 := rRread_l0 s hs (match readR s with | some (p, q) => (dig 10000 p, dig 10000 q, true) | none => (([] : List Int), ([] : List Int), false)) ?_ (cutN s) 0 (by omega)
 ·
  exact Ev.congr (fun k => rfl) h0
 have e1 : ((cutN s : Nat) : Int).toNat = cutN s := Int.toNat_natCast _
 have e2 : wrap64 (((cutN s : Nat) : Int) + 1) = ((cutN s + 1 : Nat) : Int) := wadd1 _ (by omega)
 have e3 : ((cutN s + 1 : Nat) : Int).toNat = cutN s + 1 := Int.toNat_natCast _
 have off : ∀ x y, Ev (fun k => zam.j2 k s x false y) (([] : List Int), ([] : List Int), false) := fun x y => Ev.step (fun _ => zam.j2.eq_2 ..) (Ev.neg (by simp) (Ev.const _))
 have good : textB (loB s) = true → (cutN s < s.size → textB (hiB s) = true) → Ev (fun k => zam.j2 k s (dig 10000 (readD (loB s).data.toList)) true (dig 10000 (denB s))) (match readR s with | some (p, q) => (dig 10000 p, dig 10000 q, true) | none => (([] : List Int), ([] : List Int), false)) := by
  intro h1 h2
  have b1 := lo_lt h1
  have b2 := den_lt h2
  refine Ev.step (fun _ => zam.j2.eq_2 ..) (Ev.pos rfl ?_)
  unfold readR
  rw [if_pos h1]
  by_cases h0 : denB s = 0
  ·
   rw [if_neg (fun h => h.2 h0), h0, zcc]
   exact Ev.pos (by simp) (Ev.const _)
  ·
   have hpos : 0 < denB s := by omega
   have hl := ne_len (B := 10000) (by decide) hpos
   rw [if_pos ⟨h2, h0⟩]
   refine Ev.neg (by omega) (Ev.bind (rRof hpos b1 b2 (by omega)) (Ev.bind (rText3 (divLt b1) (divLt b2) (by omega)) ?_))
   by_cases he : rT (readD (loB s).data.toList / Nat.gcd (readD (loB s).data.toList) (denB s)) (denB s / Nat.gcd (readD (loB s).data.toList) (denB s)) = s
   ·
    rw [if_pos he]
    exact Ev.pos (by rw [he]) (Ev.bind (rRof hpos b1 b2 (by omega)) (Ev.const _))
   ·
    rw [if_neg he]
    refine Ev.neg (fun h => he (ba_ext ?_)) (Ev.const _)
    rw [Lib.toList_data, Lib.toList_data] at h
    exact h
 refine Ev.step (fun _ => zam.j1.eq_2 ..) (Ev.pos (by omega) (Ev.pos (by omega) ?_))
 rw [e1]
 refine Ev.bind (F := fun k => zad.f k (s.extract 0 (cutN s))) n1 ?_
 by_cases h1 : textB (loB s) = true
 ·
  simp only [if_pos h1]
  refine Ev.pos (by simp) (Ev.bind (rOf 1 (by omega)) ?_)
  by_cases hc : cutN s < s.size
  ·
   have n2 := rRead (hiB s) (by omega)
   rw [e2, e3]
   refine Ev.pos (by omega) (Ev.pos (by omega) (Ev.pos (by omega) (Ev.bind (F := fun k => zad.f k (s.extract (cutN s + 1) s.size)) n2 ?_)))
   by_cases h2 : textB (hiB s) = true
   ·
    simp only [if_pos h2]
    have := good h1 (fun _ => h2)
    rw [denB, if_pos hc] at this
    exact this
   ·
    simp only [if_neg h2]
    have e : readR s = none := by
     unfold readR
     rw [if_pos h1, if_neg (fun h => h2 (h.1 hc))]
    rw [e]
    exact off _ _
  ·
   refine Ev.neg (by omega) ?_
   have := good h1 (fun h => absurd h hc)
   rw [denB, if_neg hc] at this
   exact this
 ·
  simp only [if_neg h1]
  have e : readR s = none := by
   unfold readR
   rw [if_neg h1]
  rw [e]
  exact Ev.neg (by simp) (Ev.const _)
theorem lRatioReads : za0.Pure := by
 intro s _
 refine Ev.get ?_
 refine Ev.bind (F := fun k => zb.f k) rawake (Ev.pos rfl ?_)
 by_cases hb : (s.size : Int) > 60
 ·
  rw [decide_eq_true hb]
  exact Ev.step (fun _ => za0.j0.eq_2 ..) (Ev.pos rfl (Ev.bind rawake (Ev.const _)))
 ·
  rw [decide_eq_false hb]
  have h1 := nRread s (by omega)
  have h2 := rRread s (by omega)
  refine Ev.step (fun _ => za0.j0.eq_2 ..) (Ev.neg (by simp) ?_)
  cases h : readR s with
  | none =>
   rw [h] at h1 h2
   exact Ev.bind h1 (Ev.bind h2 (Ev.neg (by simp) (Ev.pos rfl (Ev.pos rfl (Ev.const _)))))
  | some pq =>
   obtain ⟨p, q⟩ := pq
   rw [h] at h1 h2
   obtain ⟨b1, b2⟩ := readR_lt h
   exact Ev.bind h1 (Ev.bind h2 (Ev.pos rfl (Ev.pos rfl (Ev.bind (nRIs b1 b2 (by omega)) (Ev.const _)))))
end Go.Proofs.YtfjkamhcabckeaaDoor.P
end
