-- Written by a program of this session (wip/tools/shake.py) out of its own texts and of the kit's printed ones; not trusted: Lean checks it.
import Derived.Test.YtilgojlncmjjcaaDoorZMaskReads1
set_option maxHeartbeats 8000000
set_option maxRecDepth 100000
set_option linter.unusedVariables false
set_option linter.unusedSimpArgs false
section
namespace Go.Proofs.YtilgojlncmjjcaaDoor.P
open Go.RowKit Go.Proofs.YtilgojlncmjjcaaDoorW.PrintWords Go.Proofs.YtilgojlncmjjcaaDoorW.PrintLast Go.Proofs.YtilgojlncmjjcaaDoorW.PrintMore
attribute [local go_sem] max2_int min2_int max_two min_two max_three min_three max_four min_four
theorem digits_f (n : Nat) (h : n < 64) : zab.f ((n : Nat) : Int) = some (digB n) := digits_all ⟨n, h⟩
def findN (t : ByteArray) (e n d : Nat) : Option Nat := (List.range' n d).find? fun m => decide (digB m = t.extract 0 e)
def numF (t : ByteArray) : Nat × Nat :=
 match (if 2 ≤ t.size then findN t 2 0 64 else none) with
 | some m => (m, 2)
 | none => match (if 1 ≤ t.size then findN t 1 0 64 else none) with
  | some m => (m, 1)
  | none => (0, 0)
theorem num_l1 (t : ByteArray) (e : Nat) (he : 1 ≤ e ∧ e ≤ 2) (K : Nat) (r : Int × Int) (h0 : ∀ k, K ≤ k → za.l0 k t (wrap64 ((e : Int) - 1)) = some r) :
  ∀ (d n : Nat), n + d = 64 → ∀ k, K + 2 * d + 2 ≤ k → za.l1 k t (e : Int) (n : Int) = some (match (if e ≤ t.size then findN t e n d else none) with | some m => ((m : Int), (e : Int)) | none => r)
 | 0, n, hn, k, hk => by
  obtain ⟨k, rfl⟩ : ∃ j, k = j + 2 := ⟨k - 2, by omega⟩
  rw [za.l1.eq_2, if_neg (by omega), za.j2.eq_2, if_neg (by decide), h0 k (by omega)]
  by_cases hs : e ≤ t.size
  ·
   rw [if_pos hs]; rfl
  ·
   rw [if_neg hs]
 | d + 1, n, hn, k, hk => by
  obtain ⟨k, rfl⟩ : ∃ j, k = j + 2 := ⟨k - 2, by omega⟩
  rw [za.l1.eq_2, if_pos (by omega)]
  by_cases hs : e ≤ t.size
  ·
   rw [if_pos hs, decide_eq_true (by omega), za.j2.eq_2, if_pos rfl, digits_f n (by omega), Option.bind_some, if_pos (by omega), if_pos (by omega), Int.toNat_natCast]
   have ef : findN t e n (d + 1) = if decide (digB n = t.extract 0 e) = true then some n else findN t e (n + 1) d := by
    unfold findN
    rw [List.range'_succ, List.find?_cons]
    cases decide (digB n = t.extract 0 e) <;> rfl
   rw [ef]
   by_cases hd : digB n = t.extract 0 e
   ·
    rw [if_pos (by rw [hd]), decide_eq_true hd, if_pos rfl]
   ·
    rw [if_neg (fun h => hd (bytes_ext h)), decide_eq_false hd, if_neg (by decide), show wrap64 ((n : Int) + 1) = ((n + 1 : Nat) : Int) by unfold wrap64; omega]
    rw [num_l1 t e he K r h0 d (n + 1) (by omega) k (by omega), if_pos hs]
  ·
   rw [if_neg hs, decide_eq_false (by omega), za.j2.eq_2, if_neg (by decide), h0 k (by omega)]
theorem num_zero (t : ByteArray) : ∀ k, 1 ≤ k → za.l0 k t 0 = some (0, 0)
 | k + 1, _ => by rw [za.l0.eq_2, if_neg (by decide)]
theorem num_one (t : ByteArray) (k : Nat) (hk : 132 ≤ k) : za.l0 k t 1 = some (match (if 1 ≤ t.size then findN t 1 0 64 else none) with | some m => ((m : Int), 1) | none => (0, 0)) := by
 obtain ⟨k, rfl⟩ : ∃ j, k = j + 1 := ⟨k - 1, by omega⟩
 rw [za.l0.eq_2, if_pos (by decide)]
 exact num_l1 t 1 (by omega) 1 (0, 0) (fun k hk => by rw [show wrap64 (((1 : Nat) : Int) - 1) = 0 by unfold wrap64; omega]; exact num_zero t k hk) 64 0 (by omega) k (by omega)
theorem number_f (t : ByteArray) : za.f 300 t = some (((numF t).1 : Int), ((numF t).2 : Int)) := by
 unfold za.f
 rw [za.l0.eq_2, if_pos (by decide)]
 have h := num_l1 t 2 (by omega) 132 (match (if 1 ≤ t.size then findN t 1 0 64 else none) with | some m => ((m : Int), 1) | none => (0, 0)) (fun k hk => by rw [show wrap64 (((2 : Nat) : Int) - 1) = 1 by unfold wrap64; omega]; exact num_one t k hk) 64 0 (by omega) 299 (by omega)
 rw [show ((0 : Nat) : Int) = 0 from rfl, show ((2 : Nat) : Int) = 2 from rfl] at h
 rw [h]
 unfold numF
 cases (if 2 ≤ t.size then findN t 2 0 64 else none) with
 | some m => rfl
 | none =>
  cases (if 1 ≤ t.size then findN t 1 0 64 else none) with
  | some m => rfl
  | none => rfl
theorem rnumber_ok (t : ByteArray) (w : World) : Calls Tryd.prog 43 #[.string t] w fun e w' => e = .returned (.tuple #[.int .i64 ((numF t).1 : Nat), .int .i64 ((numF t).2 : Nat)]) ∧ Below w.heap.size w w' :=
 (za.calls 300 t _ _ w (number_f t)).mono fun _ _ h => ⟨h.1, h.2.below⟩
theorem find_lt (t : ByteArray) (e m : Nat) (h : findN t e 0 64 = some m) : m < 64 ∧ digB m = t.extract 0 e := by
 unfold findN at h
 have h1 := List.find?_some h
 have h2 := List.mem_of_find?_eq_some h
 rw [List.mem_range'_1] at h2
 exact ⟨by omega, of_decide_eq_true h1⟩
theorem numF_lt (t : ByteArray) : (numF t).1 < 64 ∧ (numF t).2 ≤ t.size ∧ (numF t).2 ≤ 2 := by
 unfold numF
 by_cases h2 : 2 ≤ t.size
 ·
  rw [if_pos h2]
  cases hf : findN t 2 0 64 with
  | some m => exact ⟨(find_lt t 2 m hf).1, h2, Nat.le_refl _⟩
  | none =>
   rw [if_pos (by omega)]
   cases hf1 : findN t 1 0 64 with
   | some m => exact ⟨(find_lt t 1 m hf1).1, by show 1 ≤ t.size; omega, by show 1 ≤ 2; omega⟩
   | none => exact ⟨by decide, by show 0 ≤ t.size; omega, by decide⟩
 ·
  rw [if_neg h2]
  by_cases h1 : 1 ≤ t.size
  ·
   show _ ∧ _ ∧ _
   rw [if_pos h1]
   cases hf1 : findN t 1 0 64 with
   | some m => exact ⟨(find_lt t 1 m hf1).1, h1, by show 1 ≤ 2; omega⟩
   | none => exact ⟨by decide, by show 0 ≤ t.size; omega, by decide⟩
  ·
   rw [if_neg h1]
   exact ⟨by decide, by show 0 ≤ t.size; omega, by decide⟩
def partR (rest : ByteArray) : Option (Nat × Nat × ByteArray) :=
 if (numF rest).2 = 0 then none else
 let r1 := rest.extract (numF rest).2 rest.size
 if r1.size ≠ 0 ∧ bt r1 0 = 45 then
  (if (numF (r1.extract 1 r1.size)).2 = 0 then none else some ((numF rest).1, (numF (r1.extract 1 r1.size)).1, r1.extract (1 + (numF (r1.extract 1 r1.size)).2) r1.size))
 else some ((numF rest).1, (numF rest).1, r1)
def refP : Nat → Nat → ByteArray → Option Nat
 | 0, _, _ => none
 | k + 1, s, rest => match partR rest with
  | none => none
  | some q => if q.2.2.size = 0 then some (fillN s q.1 (q.2.1 + 1 - q.1)) else if bt q.2.2 0 = 44 then refP k (fillN s q.1 (q.2.1 + 1 - q.1)) (q.2.2.extract 1 q.2.2.size) else none
theorem refP_next {k s f g : Nat} {rest r : ByteArray} (h : partR rest = some (f, g, r)) (h0 : ¬ r.size = 0) (h44 : bt r 0 = 44) : refP (k + 1) s rest = refP k (fillN s f (g + 1 - f)) (r.extract 1 r.size) := by
 conv => lhs; unfold refP
 rw [h]
 show (if r.size = 0 then _ else _) = _
 rw [if_neg h0, if_pos h44]
theorem refP_bad {k s f g : Nat} {rest r : ByteArray} (h : partR rest = some (f, g, r)) (h0 : ¬ r.size = 0) (h44 : ¬ bt r 0 = 44) : refP (k + 1) s rest = none := by
 unfold refP
 rw [h]
 show (if r.size = 0 then _ else _) = _
 rw [if_neg h0, if_neg h44]
theorem refP_end {k s f g : Nat} {rest r : ByteArray} (h : partR rest = some (f, g, r)) (h0 : r.size = 0) : refP (k + 1) s rest = some (fillN s f (g + 1 - f)) := by
 unfold refP
 rw [h]
 show (if r.size = 0 then _ else _) = _
 rw [if_pos h0]
def refOut (t : ByteArray) : Nat × Int :=
 if t = noneB then (0, 0) else match refP (t.size + 1) 0 t with
  | none => (0, 17)
  | some s => if textB s = t then (s, 0) else (0, 17)
theorem empty_iff (r : ByteArray) : r.toList.isEmpty = decide (r.size = 0) := by
 rw [ByteArray.toList_eq]
 have e : r.data.toList.length = r.size := rfl
 cases h : r.data.toList with
 | nil => rw [h] at e; rw [← e]; rfl
 | cons a b => rw [h] at e; rw [← e]; rfl
theorem rread_ok (t : ByteArray) (ht : t.size ≤ 1000) (w : World) :
  Calls Tryd.prog 31 #[.string t] w fun e w' => e = .returned (.tuple #[.agg (cells64 (refOut t).1), .int .i64 (refOut t).2]) ∧ Below w.heap.size w w' := by
 have HT := Aside0.mk ht
 clear ht
 go_enter Tryd.func31, Tryd.ntmps31
 have HC1 := SetAt.new w 0
 have HB1 := Aside0.mk (zae (Below.refl w.heap.size w) (.cells (cells64 0) 30))
 by_cases h0 : t = noneB
 ·
  have d0 : (t.toList == [110, 111, 110, 101]) = true := by rw [h0]; decide +kernel
  have HO : Aside0 (refOut t = (0, 0)) := ⟨by unfold refOut; rw [if_pos h0]⟩
  have HRR := Aside0.mk (HC1.row 0)
  clear h0
  go_wp2_with (first | (refine wpl_alloc64 rfl rfl ?_) | (refine zam rfl rfl ?_) | (refine zaf _ 0 0 _ _ rfl rfl rfl rfl HC1 ?_))
  refine bodyPost_ret (v := .tuple #[.agg (cells64 0), .int .i64 0]) (results64t rfl _ _ w.heap.size 0 (.int .i64 0) rfl rfl HRR.out) rfl ?_
  exact ⟨by rw [HO.out], zao HB1.out (Nat.le_refl _) _⟩
 have d0 : (t.toList == [110, 111, 110, 101]) = false := by
  rw [beq_eq_false_iff_ne]
  intro e
  apply h0
  have e2 : t.toList = noneB.toList := e.trans (by decide +kernel)
  exact bytes_ext e2
 have H0 := Aside0.mk h0
 clear h0
 have HC2 := SetAt.new (w.alloc (.cells (cells64 0) 30)) 0
 have es : (w.alloc (.cells (cells64 0) 30)).heap.size = w.heap.size + 1 := by simp
 go_wp2_with (first | (refine wpl_alloc64 rfl rfl ?_) | (refine zam rfl rfl ?_) | (refine zaf _ 0 0 _ _ rfl rfl rfl rfl HC2 ?_))
 rw [es] at HC2
 have HS2 := Aside0.mk (HC2.row 0)
 have HS1 := Aside0.mk (SetAt.rowNe (SetAt.alloc HC1 (.cells (cells64 0) 30)) (show w.heap.size ≠ w.heap.size + 1 by omega) 0)
 have HBB := Aside0.mk (zao (zae HB1.out (.cells (cells64 0) 30)) (show w.heap.size ≤ w.heap.size + 1 by omega) (cells64 0))
 clear HC1 HC2 es HB1
 go_loopg [5] (t.size + 1) (fun gk v5 w' => ∃ (s : Nat) (rest : ByteArray), v5 = .string rest ∧ Aside0 (rest.size < gk ∧ rest.size ≤ 1000) ∧ Aside0 (s < 18446744073709551616 ∧ refP (t.size + 1) 0 t = refP gk s rest) ∧ Aside0 (SetAt w' (w.heap.size + 1) s) ∧ Aside0 (SetAt w' w.heap.size 0) ∧ Aside0 (Below w.heap.size w w'))
 case atStart => exact ⟨0, t, rfl, ⟨by omega, HT.out⟩, ⟨by decide, rfl⟩, HS2, HS1, HBB⟩
 case round =>
  obtain ⟨s, rest, rfl, HZ, HP, HC, HR, HB⟩ := hrel
  clear HS1 HS2 HBB
  cases gk with
  | zero => exact absurd HZ.out.1 (by omega)
  | succ g1 =>
   go_wp2_with fail
   refine (rnumber_ok rest wr).mono ?_
   rintro e w2 ⟨rfl, hb⟩
   have HC2 := Aside0.mk (HC.out.keep hb HC.out.lt)
   have HR2 := Aside0.mk (HR.out.keep hb HR.out.lt)
   have HB2 := Aside0.mk (zaa HB.out hb)
   have hn := numF_lt rest
   clear hb HC HR HB
   obtain ⟨f, hf⟩ : ∃ f, (numF rest).1 = f := ⟨_, rfl⟩
   obtain ⟨n1, hn1⟩ : ∃ n1, (numF rest).2 = n1 := ⟨_, rfl⟩
   rw [hf, hn1] at hn
   rw [hf, hn1]
   have HF := Aside0.mk (And.intro hf hn1)
   have HN := Aside0.mk hn
   clear hf hn1
   by_cases hz : n1 = 0
   ·
    subst hz
    have HE : Aside0 (refOut t = (0, 17)) := ⟨by
     have e1 : partR rest = none := by unfold partR; rw [if_pos HF.out.2]
     have e2 : refP (t.size + 1) 0 t = none := by rw [HP.out.2]; unfold refP; rw [e1]
     unfold refOut
     rw [if_neg H0.out, e2]⟩
    have HRR := Aside0.mk (HR2.out.row 0)
    clear hn
    go_wp2_with (first | (refine zam rfl rfl ?_) | (refine zaf _ 0 0 _ _ rfl rfl rfl rfl HR2.out ?_))
    refine bodyPost_ret (v := .tuple #[.agg (cells64 0), .int .i64 17]) (results64t rfl _ _ w.heap.size 0 (.int .i64 17) rfl rfl HRR.out) rfl ?_
    exact ⟨by rw [HE.out], zao HB2.out (Nat.le_refl _) _⟩
   ·
    have dz : ((n1 : Int) == 0) = false := beq_eq_false_iff_ne.mpr (by omega)
    have hle : (n1 : Int) ≤ (rest.size : Int) := by have := hn.2.1; omega
    have hle2 : n1 ≤ rest.size := hn.2.1
    have HNZ := Aside0.mk hz
    clear hn hz
    go_upto_region 9 with fail
    obtain ⟨r1, hr1⟩ : ∃ r1, rest.extract n1 rest.size = r1 := ⟨_, rfl⟩
    rw [hr1]
    have hs1 : r1.size = rest.size - n1 := by rw [← hr1, ByteArray.size_extract]; omega
    have HR1 := Aside0.mk hr1
    have HRZ : Aside0 (r1.size + 1 ≤ rest.size) := ⟨by have := HNZ.out; omega⟩
    have HTV : Aside0 (f < 64) := ⟨HN.out.1⟩
    clear hr1 hs1 hle hle2
    by_cases h1 : r1.size = 0
    ·
     have HPR : Aside0 (partR rest = some (f, f, r1)) := ⟨by unfold partR; rw [if_neg (by rw [HF.out.2]; exact HNZ.out), HF.out.1, HF.out.2, HR1.out]; simp only []; rw [if_neg (fun h => h.1 h1)]⟩
     have he1 : r1.toList.isEmpty = true := by rw [empty_iff]; exact decide_eq_true h1
     go_wp2_with fail
     go_loopg [9] (f + 1 - f) (fun gk v9 w' => ∃ c x : Nat, v9 = .int .i64 (c : Int) ∧ Aside0 (f + 1 - c = gk ∧ c ≤ 64) ∧ Aside0 (x < 18446744073709551616 ∧ fillN s f (f + 1 - f) = fillN x c gk) ∧ Aside0 (SetAt w' (w.heap.size + 1) x) ∧ Aside0 (SetAt w' w.heap.size 0) ∧ Aside0 (Below w.heap.size w w'))
     case atStart => exact ⟨f, s, rfl, ⟨rfl, by have := HN.out.1; omega⟩, ⟨HP.out.1, rfl⟩, HC2, HR2, HB2⟩
     case round =>
      obtain ⟨c, x, rfl, HJ, HFJ, HCJ, HRJ, HBJ⟩ := hrel
      cases gk with
      | zero =>
       have hcb : f < c := by have := HJ.out; omega
       have d4 : decide ((c : Int) ≤ (f : Int)) = false := decide_eq_false (by omega)
       have HF0 : Aside0 (fillN s f (f + 1 - f) = x) := ⟨HFJ.out.2⟩
       have d4n : decide (c ≤ f) = false := decide_eq_false (by omega)
       have HRS := Aside0.mk h1
       have HQ : Aside0 (refP (t.size + 1) 0 t = some x) := ⟨by rw [HP.out.2, refP_end HPR.out HRS.out, HF0.out]⟩
       have HXL : Aside0 (x < 18446744073709551616) := ⟨HFJ.out.1⟩
       have HC6 := HCJ
       have HR6 := HRJ
       have HB6 := HBJ
       have heR : r1.toList.isEmpty = true := by rw [empty_iff]; exact decide_eq_true HRS.out
       clear HRS
       have HTX : Aside0 (∀ W, Calls Tryd.prog 30 #[.agg (cells64 x)] W fun e w' => e = .returned (.string (textB x)) ∧ Below W.heap.size W w') := ⟨fun W => by
        have h := rtext_ok x W
        rw [text_eq x HXL.out] at h
        exact h⟩
       go_wp2_with (first | (refine wpl_load64 _ x _ rfl rfl rfl HC6.out ?_))
       refine (HTX.out _).mono ?_
       rintro e w7 ⟨rfl, hb⟩
       have HC7 := Aside0.mk (HC6.out.keep hb HC6.out.lt)
       have HR7 := Aside0.mk (HR6.out.keep hb HR6.out.lt)
       have HB7 := Aside0.mk (zaa HB6.out hb)
       clear hb
       by_cases he : textB x = t
       ·
        have d3 : ((textB x).toList == t.toList) = true := by rw [str_beq]; exact decide_eq_true he
        have HE : Aside0 (refOut t = (x, 0)) := ⟨by unfold refOut; rw [if_neg H0.out, HQ.out]; exact if_pos he⟩
        have HRR := Aside0.mk (HR7.out.row x)
        clear he
        generalize textB x = tx at d3 ⊢
        go_wp2_with (first | (refine wpl_load64 _ x _ rfl rfl rfl HC7.out ?_) | (refine zaf _ 0 x _ _ rfl rfl rfl rfl HR7.out ?_))
        refine bodyPost_ret (v := .tuple #[.agg (cells64 x), .int .i64 0]) (results64t rfl _ _ w.heap.size x (.int .i64 0) rfl rfl HRR.out) rfl ?_
        exact ⟨by rw [HE.out], zao HB7.out (Nat.le_refl _) _⟩
       ·
        have d3 : ((textB x).toList == t.toList) = false := by rw [str_beq]; exact decide_eq_false he
        have HE : Aside0 (refOut t = (0, 17)) := ⟨by unfold refOut; rw [if_neg H0.out, HQ.out]; exact if_neg he⟩
        have HRR := Aside0.mk (HR7.out.row 0)
        clear he
        generalize textB x = tx at d3 ⊢
        go_wp2_with (first | (refine zam rfl rfl ?_) | (refine zaf _ 0 0 _ _ rfl rfl rfl rfl HR7.out ?_))
        refine bodyPost_ret (v := .tuple #[.agg (cells64 0), .int .i64 17]) (results64t rfl _ _ w.heap.size 0 (.int .i64 17) rfl rfl HRR.out) rfl ?_
        exact ⟨by rw [HE.out], zao HB7.out (Nat.le_refl _) _⟩
      | succ gj =>
       have hcb : c ≤ f := by have := HJ.out; omega
       have hc64 : c < 64 := by have := HTV.out; omega
       have d4 : decide ((c : Int) ≤ (f : Int)) = true := decide_eq_true (by omega)
       obtain ⟨c1, c2⟩ := HCJ.out.cell hc64
       have HPW : Aside0 (putB x c true = withN x (c : Int)) := ⟨by unfold withN; rw [if_pos (isC_iff.2 (by omega))]; rfl⟩
       have HNC := Aside0.mk (HCJ.out.put c true)
       rw [HPW.out] at HNC
       have HNR := Aside0.mk (HRJ.out.other (g := w.heap.size + 1) (by omega) c (.bool true))
       have HNB : Aside0 (Below w.heap.size w (wr.setCell ⟨w.heap.size + 1, c, none⟩ (.bool true))) := ⟨HBJ.out.setCell (by simp) _⟩
       go_wp2_with fail
       go_roundg gj
       case rel => exact ⟨c + 1, withN x (c : Int), by first | rfl | (rw [show wrap64 ((c : Int) + 1) = ((c + 1 : Nat) : Int) by (unfold wrap64; omega)]), ⟨by have := HJ.out; omega, by omega⟩, ⟨with_lt x _ HFJ.out.1, HFJ.out.2⟩, HNC, HNR, HNB⟩
       case measure => omega
    ·
     have he1 : r1.toList.isEmpty = false := by rw [empty_iff]; exact decide_eq_false h1
     have hp1 : 0 < r1.size := Nat.pos_of_ne_zero h1
     obtain ⟨b1, hb1⟩ : ∃ b1, bt r1 0 = b1 := ⟨_, rfl⟩
     have hbt1 : ∀ h : 0 < r1.size, (((r1[0]'h).toNat : Nat) : Int) = b1 := fun h => by rw [← hb1]; exact bt_at r1 0 h
     have HB1T := Aside0.mk hb1
     clear hb1
     by_cases h45 : b1 = 45
     ·
      have d5 : (b1 == 45) = true := beq_iff_eq.mpr h45
      have hl1 : (1 : Int) ≤ (r1.size : Int) := by omega
      have hl1n : 1 ≤ r1.size := hp1
      have H45 := Aside0.mk h45
      have H1 := Aside0.mk h1
      clear h45 h1
      go_wp2_with fail
      obtain ⟨r2, hr2⟩ : ∃ r2, r1.extract 1 r1.size = r2 := ⟨_, rfl⟩
      rw [hr2]
      have hs2 : r2.size = r1.size - 1 := by rw [← hr2, ByteArray.size_extract]; omega
      have HR22 := Aside0.mk hr2
      clear hr2
      refine (rnumber_ok r2 w2).mono ?_
      rintro e w3 ⟨rfl, hb⟩
      have HC3 := Aside0.mk (HC2.out.keep hb HC2.out.lt)
      have HR3 := Aside0.mk (HR2.out.keep hb HR2.out.lt)
      have HB3 := Aside0.mk (zaa HB2.out hb)
      have hn2 := numF_lt r2
      clear hb
      obtain ⟨g, hg⟩ : ∃ g, (numF r2).1 = g := ⟨_, rfl⟩
      obtain ⟨n2, hnn2⟩ : ∃ n2, (numF r2).2 = n2 := ⟨_, rfl⟩
      rw [hg, hnn2] at hn2
      rw [hg, hnn2]
      have HG := Aside0.mk (And.intro hg hnn2)
      have HN2 := Aside0.mk hn2
      clear hg hnn2
      by_cases hz2 : n2 = 0
      ·
       have dz2 : ((n2 : Int) == 0) = true := by rw [hz2]; rfl
       have HE : Aside0 (refOut t = (0, 17)) := ⟨by
        have e1 : partR rest = none := by unfold partR; rw [if_neg (by rw [HF.out.2]; exact HNZ.out), HF.out.1, HF.out.2, HR1.out]; simp only []; rw [if_pos ⟨H1.out, by rw [HB1T.out]; exact H45.out⟩, HR22.out, if_pos (by rw [HG.out.2]; exact hz2)]
        have e2 : refP (t.size + 1) 0 t = none := by rw [HP.out.2]; unfold refP; rw [e1]
        unfold refOut
        rw [if_neg H0.out, e2]⟩
       clear hz2 hn2 hs2
       have HRR := Aside0.mk (HR3.out.row 0)
       go_wp2_with (first | (refine zam rfl rfl ?_) | (refine zaf _ 0 0 _ _ rfl rfl rfl rfl HR3.out ?_))
       refine bodyPost_ret (v := .tuple #[.agg (cells64 0), .int .i64 17]) (results64t rfl _ _ w.heap.size 0 (.int .i64 17) rfl rfl HRR.out) rfl ?_
       exact ⟨by rw [HE.out], zao HB3.out (Nat.le_refl _) _⟩
      ·
       have dz2 : ((n2 : Int) == 0) = false := beq_eq_false_iff_ne.mpr (by omega)
       have hl3 : (1 : Int) + (n2 : Int) ≤ (r1.size : Int) := by omega
       have hl3n : 1 + n2 ≤ r1.size := by omega
       have hwn : wrap64 (1 + (n2 : Int)) = ((1 + n2 : Nat) : Int) := by unfold wrap64; omega
       have HPR : Aside0 (partR rest = some (f, g, r1.extract (1 + n2) r1.size)) := ⟨by
        unfold partR; rw [if_neg (by rw [HF.out.2]; exact HNZ.out), HF.out.1, HF.out.2, HR1.out]; simp only []; rw [if_pos ⟨H1.out, by rw [HB1T.out]; exact H45.out⟩, HR22.out, if_neg (by rw [HG.out.2]; exact hz2), HG.out.1, HG.out.2]⟩
       clear hn2 hs2 hz2 HTV
       go_upto_region 15 with fail
       obtain ⟨r3, hr3⟩ : ∃ r3, r1.extract (1 + n2) r1.size = r3 := ⟨_, rfl⟩
       rw [hr3] at HPR
       rw [hr3]
       have hs3 : r3.size = r1.size - (1 + n2) := by rw [← hr3, ByteArray.size_extract]; omega
       have HTV : Aside0 (g < 64) := ⟨HN2.out.1⟩
       replace HRZ : Aside0 (r3.size + 1 ≤ rest.size) := ⟨by have := HRZ.out; omega⟩
       clear hr3 hs3 hl3 hl3n hl1 hl1n
       go_wp2_with fail
       go_loopg [9] (g + 1 - f) (fun gk v9 w' => ∃ c x : Nat, v9 = .int .i64 (c : Int) ∧ Aside0 (g + 1 - c = gk ∧ c ≤ 64) ∧ Aside0 (x < 18446744073709551616 ∧ fillN s f (g + 1 - f) = fillN x c gk) ∧ Aside0 (SetAt w' (w.heap.size + 1) x) ∧ Aside0 (SetAt w' w.heap.size 0) ∧ Aside0 (Below w.heap.size w w'))
       case atStart => exact ⟨f, s, rfl, ⟨rfl, by have := HN.out.1; omega⟩, ⟨HP.out.1, rfl⟩, HC3, HR3, HB3⟩
       case round =>
        obtain ⟨c, x, rfl, HJ, HFJ, HCJ, HRJ, HBJ⟩ := hrel
        cases gk with
        | zero =>
         have hcb : g < c := by have := HJ.out; omega
         have d4 : decide ((c : Int) ≤ (g : Int)) = false := decide_eq_false (by omega)
         have HF0 : Aside0 (fillN s f (g + 1 - f) = x) := ⟨HFJ.out.2⟩
         have d4n : decide (c ≤ g) = false := decide_eq_false (by omega)
         by_cases hRS : r3.size = 0
         ·
          have HRS := Aside0.mk hRS
          clear hRS
          have HQ : Aside0 (refP (t.size + 1) 0 t = some x) := ⟨by rw [HP.out.2, refP_end HPR.out HRS.out, HF0.out]⟩
          have HXL : Aside0 (x < 18446744073709551616) := ⟨HFJ.out.1⟩
          have HC6 := HCJ
          have HR6 := HRJ
          have HB6 := HBJ
          have heR : r3.toList.isEmpty = true := by rw [empty_iff]; exact decide_eq_true HRS.out
          clear HRS
          have HTX : Aside0 (∀ W, Calls Tryd.prog 30 #[.agg (cells64 x)] W fun e w' => e = .returned (.string (textB x)) ∧ Below W.heap.size W w') := ⟨fun W => by
           have h := rtext_ok x W
           rw [text_eq x HXL.out] at h
           exact h⟩
          go_wp2_with (first | (refine wpl_load64 _ x _ rfl rfl rfl HC6.out ?_))
          refine (HTX.out _).mono ?_
          rintro e w7 ⟨rfl, hb⟩
          have HC7 := Aside0.mk (HC6.out.keep hb HC6.out.lt)
          have HR7 := Aside0.mk (HR6.out.keep hb HR6.out.lt)
          have HB7 := Aside0.mk (zaa HB6.out hb)
          clear hb
          by_cases he : textB x = t
          ·
           have d3 : ((textB x).toList == t.toList) = true := by rw [str_beq]; exact decide_eq_true he
           have HE : Aside0 (refOut t = (x, 0)) := ⟨by unfold refOut; rw [if_neg H0.out, HQ.out]; exact if_pos he⟩
           have HRR := Aside0.mk (HR7.out.row x)
           clear he
           generalize textB x = tx at d3 ⊢
           go_wp2_with (first | (refine wpl_load64 _ x _ rfl rfl rfl HC7.out ?_) | (refine zaf _ 0 x _ _ rfl rfl rfl rfl HR7.out ?_))
           refine bodyPost_ret (v := .tuple #[.agg (cells64 x), .int .i64 0]) (results64t rfl _ _ w.heap.size x (.int .i64 0) rfl rfl HRR.out) rfl ?_
           exact ⟨by rw [HE.out], zao HB7.out (Nat.le_refl _) _⟩
          ·
           have d3 : ((textB x).toList == t.toList) = false := by rw [str_beq]; exact decide_eq_false he
           have HE : Aside0 (refOut t = (0, 17)) := ⟨by unfold refOut; rw [if_neg H0.out, HQ.out]; exact if_neg he⟩
           have HRR := Aside0.mk (HR7.out.row 0)
           clear he
           generalize textB x = tx at d3 ⊢
           go_wp2_with (first | (refine zam rfl rfl ?_) | (refine zaf _ 0 0 _ _ rfl rfl rfl rfl HR7.out ?_))
           refine bodyPost_ret (v := .tuple #[.agg (cells64 0), .int .i64 17]) (results64t rfl _ _ w.heap.size 0 (.int .i64 17) rfl rfl HRR.out) rfl ?_
           exact ⟨by rw [HE.out], zao HB7.out (Nat.le_refl _) _⟩
         ·
          have HRS := Aside0.mk hRS
          clear hRS
          have heR : r3.toList.isEmpty = false := by rw [empty_iff]; exact decide_eq_false HRS.out
          have hpR : 0 < r3.size := Nat.pos_of_ne_zero HRS.out
          obtain ⟨b2, hb2⟩ : ∃ b2, bt r3 0 = b2 := ⟨_, rfl⟩
          have hbt2 : ∀ h : 0 < r3.size, (((r3[0]'h).toNat : Nat) : Int) = b2 := fun h => by rw [← hb2]; exact bt_at r3 0 h
          have HB2T := Aside0.mk hb2
          clear hb2
          by_cases h44 : b2 = 44
          ·
           have d5 : (b2 == 44) = true := beq_iff_eq.mpr h44
           have hl1 : (1 : Int) ≤ (r3.size : Int) := by omega
           have hl1n : 1 ≤ r3.size := hpR
           have HNX : Aside0 (refP (t.size + 1) 0 t = refP g1 x (r3.extract 1 r3.size)) := ⟨by rw [HP.out.2, refP_next HPR.out HRS.out (HB2T.out.trans h44), HF0.out]⟩
           have HSZ2 : Aside0 ((r3.extract 1 r3.size).size < g1 ∧ (r3.extract 1 r3.size).size ≤ 1000) := ⟨by rw [ByteArray.size_extract]; have := HZ.out; have := HRZ.out; omega, by rw [ByteArray.size_extract]; have := HZ.out; have := HRZ.out; omega⟩
           clear h44
           go_wp2_with fail
           go_roundg g1
           case rel => exact ⟨x, r3.extract 1 r3.size, rfl, HSZ2, ⟨HFJ.out.1, HNX.out⟩, HCJ, HRJ, HBJ⟩
           case measure => omega
          ·
           have d5 : (b2 == 44) = false := beq_eq_false_iff_ne.mpr h44
           have HE : Aside0 (refOut t = (0, 17)) := ⟨by
            have e2 : refP (t.size + 1) 0 t = none := by rw [HP.out.2, refP_bad HPR.out HRS.out (fun e => h44 (HB2T.out.symm.trans e))]
            unfold refOut
            rw [if_neg H0.out, e2]⟩
           clear h44
           have HRR := Aside0.mk (HRJ.out.row 0)
           go_wp2_with (first | (refine zam rfl rfl ?_) | (refine zaf _ 0 0 _ _ rfl rfl rfl rfl HRJ.out ?_))
           refine bodyPost_ret (v := .tuple #[.agg (cells64 0), .int .i64 17]) (results64t rfl _ _ w.heap.size 0 (.int .i64 17) rfl rfl HRR.out) rfl ?_
           exact ⟨by rw [HE.out], zao HBJ.out (Nat.le_refl _) _⟩
        | succ gj =>
         have hcb : c ≤ g := by have := HJ.out; omega
         have hc64 : c < 64 := by have := HTV.out; omega
         have d4 : decide ((c : Int) ≤ (g : Int)) = true := decide_eq_true (by omega)
         obtain ⟨c1, c2⟩ := HCJ.out.cell hc64
         have HPW : Aside0 (putB x c true = withN x (c : Int)) := ⟨by unfold withN; rw [if_pos (isC_iff.2 (by omega))]; rfl⟩
         have HNC := Aside0.mk (HCJ.out.put c true)
         rw [HPW.out] at HNC
         have HNR := Aside0.mk (HRJ.out.other (g := w.heap.size + 1) (by omega) c (.bool true))
         have HNB : Aside0 (Below w.heap.size w (wr.setCell ⟨w.heap.size + 1, c, none⟩ (.bool true))) := ⟨HBJ.out.setCell (by simp) _⟩
         go_wp2_with fail
         go_roundg gj
         case rel => exact ⟨c + 1, withN x (c : Int), by first | rfl | (rw [show wrap64 ((c : Int) + 1) = ((c + 1 : Nat) : Int) by (unfold wrap64; omega)]), ⟨by have := HJ.out; omega, by omega⟩, ⟨with_lt x _ HFJ.out.1, HFJ.out.2⟩, HNC, HNR, HNB⟩
         case measure => omega
     ·
      have d5 : (b1 == 45) = false := beq_eq_false_iff_ne.mpr h45
      have HPR : Aside0 (partR rest = some (f, f, r1)) := ⟨by unfold partR; rw [if_neg (by rw [HF.out.2]; exact HNZ.out), HF.out.1, HF.out.2, HR1.out]; simp only []; rw [if_neg (fun h => h45 (by rw [← HB1T.out]; exact h.2))]⟩
      clear h45
      go_wp2_with fail
      go_loopg [9] (f + 1 - f) (fun gk v9 w' => ∃ c x : Nat, v9 = .int .i64 (c : Int) ∧ Aside0 (f + 1 - c = gk ∧ c ≤ 64) ∧ Aside0 (x < 18446744073709551616 ∧ fillN s f (f + 1 - f) = fillN x c gk) ∧ Aside0 (SetAt w' (w.heap.size + 1) x) ∧ Aside0 (SetAt w' w.heap.size 0) ∧ Aside0 (Below w.heap.size w w'))
      case atStart => exact ⟨f, s, rfl, ⟨rfl, by have := HN.out.1; omega⟩, ⟨HP.out.1, rfl⟩, HC2, HR2, HB2⟩
      case round =>
       obtain ⟨c, x, rfl, HJ, HFJ, HCJ, HRJ, HBJ⟩ := hrel
       cases gk with
       | zero =>
        have hcb : f < c := by have := HJ.out; omega
        have d4 : decide ((c : Int) ≤ (f : Int)) = false := decide_eq_false (by omega)
        have HF0 : Aside0 (fillN s f (f + 1 - f) = x) := ⟨HFJ.out.2⟩
        have d4n : decide (c ≤ f) = false := decide_eq_false (by omega)
        have HRS := Aside0.mk h1
        clear hbt1
        have heR : r1.toList.isEmpty = false := by rw [empty_iff]; exact decide_eq_false HRS.out
        have hpR : 0 < r1.size := Nat.pos_of_ne_zero HRS.out
        obtain ⟨b2, hb2⟩ : ∃ b2, bt r1 0 = b2 := ⟨_, rfl⟩
        have hbt2 : ∀ h : 0 < r1.size, (((r1[0]'h).toNat : Nat) : Int) = b2 := fun h => by rw [← hb2]; exact bt_at r1 0 h
        have HB2T := Aside0.mk hb2
        clear hb2
        by_cases h44 : b2 = 44
        ·
         have d5 : (b2 == 44) = true := beq_iff_eq.mpr h44
         have hl1 : (1 : Int) ≤ (r1.size : Int) := by omega
         have hl1n : 1 ≤ r1.size := hpR
         have HNX : Aside0 (refP (t.size + 1) 0 t = refP g1 x (r1.extract 1 r1.size)) := ⟨by rw [HP.out.2, refP_next HPR.out HRS.out (HB2T.out.trans h44), HF0.out]⟩
         have HSZ2 : Aside0 ((r1.extract 1 r1.size).size < g1 ∧ (r1.extract 1 r1.size).size ≤ 1000) := ⟨by rw [ByteArray.size_extract]; have := HZ.out; have := HRZ.out; omega, by rw [ByteArray.size_extract]; have := HZ.out; have := HRZ.out; omega⟩
         clear h44
         go_wp2_with fail
         go_roundg g1
         case rel => exact ⟨x, r1.extract 1 r1.size, rfl, HSZ2, ⟨HFJ.out.1, HNX.out⟩, HCJ, HRJ, HBJ⟩
         case measure => omega
        ·
         have d5 : (b2 == 44) = false := beq_eq_false_iff_ne.mpr h44
         have HE : Aside0 (refOut t = (0, 17)) := ⟨by
          have e2 : refP (t.size + 1) 0 t = none := by rw [HP.out.2, refP_bad HPR.out HRS.out (fun e => h44 (HB2T.out.symm.trans e))]
          unfold refOut
          rw [if_neg H0.out, e2]⟩
         clear h44
         have HRR := Aside0.mk (HRJ.out.row 0)
         go_wp2_with (first | (refine zam rfl rfl ?_) | (refine zaf _ 0 0 _ _ rfl rfl rfl rfl HRJ.out ?_))
         refine bodyPost_ret (v := .tuple #[.agg (cells64 0), .int .i64 17]) (results64t rfl _ _ w.heap.size 0 (.int .i64 17) rfl rfl HRR.out) rfl ?_
         exact ⟨by rw [HE.out], zao HBJ.out (Nat.le_refl _) _⟩
       | succ gj =>
        have hcb : c ≤ f := by have := HJ.out; omega
        have hc64 : c < 64 := by have := HTV.out; omega
        have d4 : decide ((c : Int) ≤ (f : Int)) = true := decide_eq_true (by omega)
        obtain ⟨c1, c2⟩ := HCJ.out.cell hc64
        have HPW : Aside0 (putB x c true = withN x (c : Int)) := ⟨by unfold withN; rw [if_pos (isC_iff.2 (by omega))]; rfl⟩
        have HNC := Aside0.mk (HCJ.out.put c true)
        rw [HPW.out] at HNC
        have HNR := Aside0.mk (HRJ.out.other (g := w.heap.size + 1) (by omega) c (.bool true))
        have HNB : Aside0 (Below w.heap.size w (wr.setCell ⟨w.heap.size + 1, c, none⟩ (.bool true))) := ⟨HBJ.out.setCell (by simp) _⟩
        go_wp2_with fail
        go_roundg gj
        case rel => exact ⟨c + 1, withN x (c : Int), by first | rfl | (rw [show wrap64 ((c : Int) + 1) = ((c + 1 : Nat) : Int) by (unfold wrap64; omega)]), ⟨by have := HJ.out; omega, by omega⟩, ⟨with_lt x _ HFJ.out.1, HFJ.out.2⟩, HNC, HNR, HNB⟩
        case measure => omega
theorem ext_drop (s : ByteArray) (n : Nat) : (s.extract n s.size).data.toList = s.data.toList.drop n := by
 have e : s.data.toList.length = s.size := rfl
 rw [ByteArray.data_extract, Array.toList_extract]
 unfold List.extract
 rw [List.take_of_length_le]
 rw [List.length_drop, e]
 exact Nat.le_refl _
theorem ext_take (s : ByteArray) (n : Nat) : (s.extract 0 n).data.toList = s.data.toList.take n := Lib.extract_from_zero s n
theorem size_list (s : ByteArray) : s.data.toList.length = s.size := rfl
theorem bt_head {u : ByteArray} {c : UInt8} {l : List UInt8} (h : u.data.toList = c :: l) : bt u 0 = (c.toNat : Int) := by
 have hs : u.size = l.length + 1 := by rw [← size_list, h]; rfl
 unfold bt
 rw [dif_pos (by rw [hs]; exact Nat.succ_pos _)]
 have e : u.data.toList[0]? = some c := by rw [h]; rfl
 have e2 : (u[(0 : Int).toNat]'(by rw [hs]; exact Nat.succ_pos _)) = c := by
  have h3 : u.data[0]? = some c := by rw [← Array.getElem?_toList]; exact e
  have h4 := Array.getElem?_eq_some_iff.1 h3
  exact h4.2
 rw [e2]
theorem numF_take (t : ByteArray) : numF t = numF (t.extract 0 2) := by
 have hs : (t.extract 0 2).size = min t.size 2 := by rw [ByteArray.size_extract]; omega
 have e2 : (t.extract 0 2).extract 0 2 = t.extract 0 2 := by
  apply zac
  simp only [ext_take, List.take_take]
  rfl
 have e1 : (t.extract 0 2).extract 0 1 = t.extract 0 1 := by
  apply zac
  simp only [ext_take, List.take_take]
  rfl
 have i2 : (2 ≤ min t.size 2) = (2 ≤ t.size) := propext (by omega)
 have i1 : (1 ≤ min t.size 2) = (1 ≤ t.size) := propext (by omega)
 unfold numF findN
 simp only [e2, e1, hs, i2, i1]
theorem num_digs : ∀ a : Fin 64, numF (digB a.val) = (a.val, (digB a.val).size) ∧ ((digB a.val).size = 1 → numF (digB a.val ++ ⟨#[44]⟩) = (a.val, 1) ∧ numF (digB a.val ++ ⟨#[45]⟩) = (a.val, 1)) := by decide +kernel
theorem num_pre (a : Nat) (ha : a < 64) (u : ByteArray) (hu : u.data.toList = [] ∨ ∃ c l, u.data.toList = c :: l ∧ (c = 44 ∨ c = 45)) : numF (digB a ++ u) = (a, (digB a).size) := by
 have hd := digB_size a ha
 obtain ⟨h1, h2⟩ := num_digs ⟨a, ha⟩
 simp only [] at h1 h2
 rw [numF_take]
 have hl : (digB a).data.toList.length = (digB a).size := rfl
 by_cases hs : (digB a).size = 2
 ·
  have e : (digB a ++ u).extract 0 2 = digB a := by
   apply zac
   rw [ext_take, zai, List.take_append_of_le_length (by omega), List.take_of_length_le (by omega)]
  rw [e, h1]
 ·
  have hs1 : (digB a).size = 1 := by omega
  obtain ⟨h4, h5⟩ := h2 hs1
  rcases hu with hu | ⟨c, l, hu, hc⟩
  ·
   have e : (digB a ++ u).extract 0 2 = digB a := by
    apply zac
    rw [ext_take, zai, hu, List.append_nil, List.take_of_length_le (by omega)]
   rw [e, h1]
  ·
   have e : (digB a ++ u).extract 0 2 = digB a ++ ⟨#[c]⟩ := by
    apply zac
    rw [ext_take, zai, zai, hu]
    obtain ⟨d, hd2⟩ : ∃ d, (digB a).data.toList = [d] := List.length_eq_one_iff.1 (by omega)
    rw [hd2]
    rfl
   rw [e, hs1]
   rcases hc with rfl | rfl
   ·
    exact h4
   ·
    exact h5
theorem part_run (a b : Nat) (hab : a ≤ b) (hb : b < 64) (u : ByteArray) (hu : u.data.toList = [] ∨ ∃ l, u.data.toList = 44 :: l) : partR (runText a b ++ u) = some (a, b, u) := by
 have hda := digB_size a (by omega)
 have hdb := digB_size b hb
 by_cases e : a = b
 ·
  subst e
  have er : runText a a = digB a := by unfold runText; rw [if_pos rfl]; rfl
  have hn := num_pre a hb u (hu.imp id fun ⟨l, h⟩ => ⟨44, l, h, .inl rfl⟩)
  have ex : (digB a ++ u).extract (digB a).size (digB a ++ u).size = u := by
   apply zac
   rw [ext_drop, zai]
   exact List.drop_left' rfl
  rw [er]
  unfold partR
  rw [hn]
  show (if (digB a).size = 0 then _ else _) = _
  rw [if_neg (by omega), ex]
  simp only []
  rw [if_neg]
  rintro ⟨h1, h2⟩
  rcases hu with h | ⟨l, h⟩
  ·
   apply h1
   rw [← size_list, h]
   rfl
  ·
   rw [bt_head h] at h2
   exact absurd h2 (by decide)
 ·
  have er : runText a b ++ u = digB a ++ (⟨#[45]⟩ ++ digB b ++ u) := by
   unfold runText
   rw [if_neg e, bytes_assoc, bytes_assoc, bytes_assoc (⟨#[45]⟩ : ByteArray)]
   rfl
  have hu' : (⟨#[45]⟩ ++ digB b ++ u : ByteArray).data.toList = 45 :: ((digB b).data.toList ++ u.data.toList) := by
   rw [zai, zai]
   rfl
  have hn := num_pre a (by omega) (⟨#[45]⟩ ++ digB b ++ u) (.inr ⟨45, _, hu', .inr rfl⟩)
  have hn2 := num_pre b hb u (hu.imp id fun ⟨l, h⟩ => ⟨44, l, h, .inl rfl⟩)
  have ex : (digB a ++ (⟨#[45]⟩ ++ digB b ++ u)).extract (digB a).size (digB a ++ (⟨#[45]⟩ ++ digB b ++ u)).size = ⟨#[45]⟩ ++ digB b ++ u := by
   apply zac
   rw [ext_drop, zai]
   exact List.drop_left' rfl
  have ex1 : (⟨#[45]⟩ ++ digB b ++ u : ByteArray).extract 1 (⟨#[45]⟩ ++ digB b ++ u : ByteArray).size = digB b ++ u := by
   apply zac
   rw [ext_drop, hu', zai]
   rfl
  have ex2 : (⟨#[45]⟩ ++ digB b ++ u : ByteArray).extract (1 + (digB b).size) (⟨#[45]⟩ ++ digB b ++ u : ByteArray).size = u := by
   apply zac
   rw [ext_drop, hu', show 1 + (digB b).size = (digB b).size + 1 by omega, List.drop_succ_cons]
   exact List.drop_left' rfl
  rw [er]
  unfold partR
  rw [hn]
  show (if (digB a).size = 0 then _ else _) = _
  rw [if_neg (by omega), ex]
  simp only []
  rw [if_pos ⟨by rw [← size_list, hu']; simp, by rw [bt_head hu']; decide⟩, ex1, hn2]
  show (if (digB b).size = 0 then _ else _) = _
  rw [if_neg (by omega), ex2]
def runsB (l : List (Nat × Nat)) : ByteArray := ⟨(Lib.join ((l.map fun r => runText r.1 r.2).map (·.data.toList)) [44]).toArray⟩
theorem runsB_one (r : Nat × Nat) : runsB [r] = runText r.1 r.2 := by
 apply zac
 show Lib.join [(runText r.1 r.2).data.toList] [44] = _
 rw [Lib.join_one]
theorem runsB_cons (r q : Nat × Nat) (l : List (Nat × Nat)) : runsB (r :: q :: l) = runText r.1 r.2 ++ (⟨#[44]⟩ ++ runsB (q :: l)) := by
 apply zac
 rw [zai, zai]
 show Lib.join ((runText r.1 r.2).data.toList :: (runText q.1 q.2).data.toList :: _) [44] = (runText r.1 r.2).data.toList ++ (_ ++ Lib.join ((runText q.1 q.2).data.toList :: _) [44])
 rw [Lib.join_cons, Lib.join_cons]
 simp [Lib.joinTail]
theorem refP_runs : ∀ (l : List (Nat × Nat)) (r : Nat × Nat) (x k : Nat), (∀ q ∈ r :: l, q.1 ≤ q.2 ∧ q.2 < 64) → (runsB (r :: l)).size < k → refP k x (runsB (r :: l)) = some (fillR x (r :: l))
 | [], r, x, k, h, hk => by
  obtain ⟨k, rfl⟩ : ∃ j, k = j + 1 := ⟨k - 1, by omega⟩
  have hr := h r List.mem_cons_self
  have e0 : runsB [r] = runText r.1 r.2 ++ ⟨#[]⟩ := by rw [runsB_one]; apply zac; rw [zai]; simp
  have hp := part_run r.1 r.2 hr.1 hr.2 ⟨#[]⟩ (.inl rfl)
  rw [e0, refP_end hp rfl]
  rfl
 | q :: l, r, x, k, h, hk => by
  obtain ⟨k, rfl⟩ : ∃ j, k = j + 1 := ⟨k - 1, by omega⟩
  have hr := h r List.mem_cons_self
  have hu : (⟨#[44]⟩ ++ runsB (q :: l) : ByteArray).data.toList = 44 :: (runsB (q :: l)).data.toList := by rw [zai]; rfl
  have hp := part_run r.1 r.2 hr.1 hr.2 (⟨#[44]⟩ ++ runsB (q :: l)) (.inr ⟨_, hu⟩)
  have hne : ¬ (⟨#[44]⟩ ++ runsB (q :: l) : ByteArray).size = 0 := by rw [← size_list, hu]; simp
  have ex : (⟨#[44]⟩ ++ runsB (q :: l) : ByteArray).extract 1 (⟨#[44]⟩ ++ runsB (q :: l) : ByteArray).size = runsB (q :: l) := by
   apply zac
   rw [ext_drop, hu]
   rfl
  rw [runsB_cons] at hk ⊢
  rw [refP_next hp hne (by rw [bt_head hu]; decide), ex]
  have hsz : (runsB (q :: l)).size < k := by
   rw [ByteArray.size_append, ByteArray.size_append] at hk
   have : (⟨#[44]⟩ : ByteArray).size = 1 := rfl
   omega
  rw [refP_runs l q _ k (fun z hz => h z (List.mem_cons_of_mem _ hz)) hsz]
  rfl
theorem ref_text (s : Nat) (hs : s < 18446744073709551616) (h0 : s ≠ 0) : refP ((textB s).size + 1) 0 (textB s) = some s := by
 have e : textB s = runsB (runsR s 0) := by
  unfold textB runsB
  rw [if_neg h0, texts_eq s hs]
 have hlt := runsR_lt s 0
 have hf := fillR_all s hs
 cases hr : runsR s 0 with
 | nil => exact absurd hr (runs_ne s hs h0)
 | cons r l =>
  rw [hr] at e hlt hf
  rw [e, refP_runs l r 0 _ (fun q hq => (hlt q hq).2) (Nat.lt_succ_self _), hf]
theorem refP_lt : ∀ (k s x : Nat) (rest : ByteArray), s < 18446744073709551616 → refP k s rest = some x → x < 18446744073709551616
 | 0, s, x, rest, _, h => by cases h
 | k + 1, s, x, rest, hs, h => by
  cases hp : partR rest with
  | none => unfold refP at h; rw [hp] at h; cases h
  | some q =>
   obtain ⟨f, g, r⟩ := q
   by_cases h0 : r.size = 0
   ·
    rw [refP_end hp h0] at h
    obtain rfl := Option.some.inj h
    exact fill_lt _ _ _ hs
   ·
    by_cases h44 : bt r 0 = 44
    ·
     rw [refP_next hp h0 h44] at h
     exact refP_lt k _ x _ (fill_lt _ _ _ hs) h
    ·
     rw [refP_bad hp h0 h44] at h
     cases h
theorem outs_eq (t : ByteArray) : readOut t = refOut t := by
 unfold readOut refOut
 by_cases h0 : t = noneB
 ·
  rw [if_pos h0, if_pos h0]
 ·
  rw [if_neg h0, if_neg h0]
  have key : ∀ s, s < 18446744073709551616 → textB s = t → readM 0 (partsB t) = some s ∧ refP (t.size + 1) 0 t = some s := by
   intro s hs e
   have hs0 : s ≠ 0 := by
    intro hz
    subst hz
    apply h0
    rw [← e]
    unfold textB
    rw [if_pos rfl]
   have h1 := read_text s hs hs0
   have h2 := ref_text s hs hs0
   rw [e] at h1 h2
   exact ⟨h1, h2⟩
  cases h1 : readM 0 (partsB t) with
  | some s =>
   have hs := read_lt (partsB t) 0 s (by decide) h1
   by_cases e : textB s = t
   ·
    have h2 := (key s hs e).2
    rw [h2]
   ·
    cases h2 : refP (t.size + 1) 0 t with
    | none => exact if_neg e
    | some x =>
     have hx := refP_lt _ 0 x t (by decide) h2
     by_cases e2 : textB x = t
     ·
      have h3 := (key x hx e2).1
      rw [h1] at h3
      obtain rfl := Option.some.inj h3
      exact absurd e2 e
     ·
      show (if textB s = t then _ else _) = (if textB x = t then _ else _)
      rw [if_neg e, if_neg e2]
  | none =>
   cases h2 : refP (t.size + 1) 0 t with
   | none => rfl
   | some x =>
    have hx := refP_lt _ 0 x t (by decide) h2
    by_cases e2 : textB x = t
    ·
     have h3 := (key x hx e2).1
     rw [h1] at h3
     cases h3
    ·
     exact (if_neg e2).symm
theorem refOut_lt (t : ByteArray) : (refOut t).1 < 18446744073709551616 := by
 unfold refOut
 by_cases h0 : t = noneB
 ·
  rw [if_pos h0]; decide
 ·
  rw [if_neg h0]
  cases h2 : refP (t.size + 1) 0 t with
  | none => show (0 : Nat) < _; decide
  | some x =>
   have hx := refP_lt _ 0 x t (by decide) h2
   show (if textB x = t then (x, (0 : Int)) else (0, 17)).1 < _
   split
   ·
    exact hx
   ·
    show (0 : Nat) < _; decide
theorem reads_ok (t : ByteArray) (ht : t.size ≤ 300) (w : World) (hV : VarsOk w) :
  Calls Tryd.prog 9 #[.string t] w fun e w' => e = .returned (.bool true) ∧ Below w.heap.size w w' := by
 have HV := Aside0.mk hV
 have HL := Aside0.mk ht
 have d1 : decide ((t.size : Int) > 300) = false := decide_eq_false (by omega)
 clear hV ht
 go_enter Tryd.func9, Tryd.ntmps9
 go_wp2_with fail
 refine (awake01_ok w HV.out.2.2.2.1 HV.out.2.2.2.2).mono ?_
 rintro e w1 ⟨rfl, hb⟩
 have HB1 := Aside0.mk hb
 have HV1 := Aside0.mk (HV.out.keep hb)
 clear hb HV
 go_wp2_with fail
 refine (read_ok t (by have := HL.out; omega) w1 HV1.out).mono ?_
 rintro e w2 ⟨rfl, hb⟩
 have HB2 := Aside0.mk (zaa HB1.out hb)
 clear hb HB1
 go_wp2_with fail
 refine (rread_ok t (by have := HL.out; omega) w2).mono ?_
 rintro e w3 ⟨rfl, hb⟩
 have HB3 := Aside0.mk (zaa HB2.out hb)
 have HLT := Aside0.mk (refOut_lt t)
 clear hb HB2
 rw [outs_eq t]
 generalize (refOut t).1 = s at HLT ⊢
 generalize (refOut t).2 = c
 have hcc : (c == c) = true := beq_self_eq_true _
 have HNN := SetAt.new w3 0
 have HS := Aside0.mk (HNN.row s)
 have HB4 := Aside0.mk (zao (zae HB3.out (.cells (cells64 0) 30)) (g := w3.heap.size) HB3.out.size (cells64 s))
 go_wp2_with (first | (refine wpl_alloc64 rfl rfl ?_) | (refine zaf _ 0 s _ _ rfl rfl rfl rfl HNN ?_) | (refine wpl_load64g _ s _ rfl rfl rfl HS.out ?_))
 refine (is01_ok s s HLT.out _).mono ?_
 rintro e w5 ⟨rfl, hb⟩
 have HB5 := Aside0.mk (zaa HB4.out hb)
 rw [beq_self_eq_true]
 clear hb
 go_wp2_with fail
 go_ret
 exact ⟨rfl, HB5.out⟩
theorem reads_long (t : ByteArray) (ht : 300 < t.size) (w : World) (hV : VarsOk w) :
  Calls Tryd.prog 9 #[.string t] w fun e w' => e = .returned (.bool true) ∧ Below w.heap.size w w' := by
 have HV := Aside0.mk hV
 have d1 : decide ((t.size : Int) > 300) = true := decide_eq_true (by omega)
 clear hV
 go_enter Tryd.func9, Tryd.ntmps9
 go_wp2_with fail
 refine (awake01_ok w HV.out.2.2.2.1 HV.out.2.2.2.2).mono ?_
 rintro e w1 ⟨rfl, hb⟩
 have HB1 := Aside0.mk hb
 have HV1 := Aside0.mk (HV.out.keep hb)
 clear hb HV
 go_wp2_with fail
 refine (awake01_ok w1 HV1.out.2.2.2.1 HV1.out.2.2.2.2).mono ?_
 rintro e w2 ⟨rfl, hb⟩
 have HB2 := Aside0.mk (zaa HB1.out hb)
 clear hb
 go_wp2_with fail
 go_ret
 exact ⟨rfl, HB2.out⟩
theorem reads_row (t : ByteArray) (w : World) (hV : VarsOk w) :
  Calls Tryd.prog 9 #[.string t] w fun e w' => e = .returned (.bool true) ∧ Below w.heap.size w w' := by
 by_cases h : t.size ≤ 300
 ·
  exact reads_ok t h w hV
 ·
  exact reads_long t (by omega) w hV
end Go.Proofs.YtilgojlncmjjcaaDoor.P
end
