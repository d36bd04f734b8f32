-- Written by a program of this session (wip/tools/shake.py) out of its own texts and of the kit's printed ones; not trusted: Lean checks it.
import Derived.Test.YtbakdobjidjncaaZRoundTurns0
set_option maxHeartbeats 8000000
set_option maxRecDepth 100000
set_option linter.unusedVariables false
set_option linter.unusedSimpArgs false
section
namespace Go.Proofs.Ytbakdobjidjncaa.P
open Go.RowKit Go.Proofs.YtbakdobjidjncaaW.PrintWords Go.Proofs.YtbakdobjidjncaaW.PrintLast Go.Proofs.YtbakdobjidjncaaW.PrintMore
attribute [local go_sem] max2_int min2_int max_two min_two max_three min_three max_four min_four
def inE (low tag left slice : Int) : E3 := if tag < low then (low, slice, slice) else if mn left slice > 0 then (tag, mn left slice, slice) else if tag = low then (tag + 1, slice, slice) else (tag, mn left slice, slice)
theorem Entry_in_f (low tag left slice : Int) (h : tag + 1 < 9223372036854775807) (h0 : -9223372036854775807 < tag) : zas.f tag left slice low = some ((inE low tag left slice).1, (inE low tag left slice).2.1, (inE low tag left slice).2.2) := by
 have hw : wrap64 (tag + 1) = tag + 1 := w64s (by omega) (by omega)
 unfold zas.f zad.f zaj.f inE
 by_cases c1 : tag < low
 ·
  simp [c1]
 ·
  by_cases c2 : mn left slice > 0
  ·
   simp [c1, c2]
  ·
   by_cases c3 : tag = low
   ·
    simp [c1, c2, c3, hw]
    rw [← c3]
    exact hw
   ·
    simp [c1, c2, c3]
theorem round_right_f (x : Int) : round_right.f x = some (decide (1 ≤ x ∧ x ≤ 1000)) := by
 unfold round_right.f
 by_cases h : x ≥ 1
 ·
  by_cases h2 : x ≤ 1000
  ·
   simp [h, h2]
  ·
   simp [h, h2]
 ·
  have h3 : ¬ (1 ≤ x ∧ x ≤ 1000) := fun h4 => h h4.1
  simp [h]
theorem book_Enter_ok {w : World} {b m n : Nat} {low : Int} {g : Int → Option E3} (h : BookAt w b m n low g) (hlow : 0 < low ∧ low < 1000000) (hn : n < 1000000) {k : Int} (wf : (Lit.int .i64 k).wf = true) (tag left slice : Int) (hk : g k = none) (hs : 1 ≤ slice ∧ slice ≤ 1000) (hl : 0 ≤ left) (ht : 0 ≤ tag ∧ tag ≤ low + 1) :
  Calls Try.prog 15 #[.pointer (some ⟨b, 0, none⟩), .int .i64 k, .int .i64 tag, .int .i64 left, .int .i64 slice] w fun e w' => e = .returned (.int .i64 0) ∧ BookAt w' b m (n + 1) low (fun j => if j = k then some (inE low tag left slice) else g j) ∧ Wrote b m w w' := by
 have L1 := book_look2 h wf
 rw [hk] at L1
 dsimp only [ent, Option.getD, Option.isSome] at L1
 obtain ⟨f0, f1, f2⟩ := h.facts
 have H := Aside0.mk h
 have hlt := h.lt
 clear h hk
 have d1 : wrap64 (low + 1) = low + 1 := w64s (by omega) (by omega)
 have d2 : decide (left < 0) = false := decide_eq_false (by omega)
 have d3 : decide (tag < 0) = false := decide_eq_false (by omega)
 have d4 : decide (tag > low + 1) = false := decide_eq_false (by omega)
 have d5 : decide (1 ≤ slice ∧ slice ≤ 1000) = true := decide_eq_true hs
 go_enter Try.func15, Try.ntmps15
 go_wp2_with fail
 go_at_call 40
 refine (round_right.calls slice _ _ (round_right_f slice)).mono ?_
 rw [d5]
 rintro e w1 ⟨rfl, hd⟩
 have HB := Aside0.mk (zac (zaf (Below.refl _ w) _) hd.below)
 obtain ⟨f3, f4, f5⟩ := (H.out.keep HB.out).facts
 clear hd f0 f1 f2 L1
 go_wp2_with fail
 have HST : Aside0 (∀ W, Below w1.heap.size w1 W → ∃ w3, (Instr.mapUpdate 76 (.map (some m)) (.int .i64 k) (.agg #[.int .i64 (inE low tag left slice).1, .int .i64 (inE low tag left slice).2.1, .int .i64 (inE low tag left slice).2.2])).run Try.prog W = .ok () w3 ∧ BookAt w3 b m (n + 1) low (fun j => if j = k then some (inE low tag left slice) else g j) ∧ W.mapTurned w3 m) := ⟨fun W hW => book_store ((H.out.keep HB.out).keep hW) hn wf _ _ _⟩
 go_region_with (go_at_call 41; refine (zas.calls _ _ _ _ _ _ _ _ (Entry_in_f low tag left slice (by omega) (by omega))).mono ?_; rintro e w2 ⟨rfl, hb2⟩; have HB2 := Aside0.mk (((Below.refl w1.heap.size w1).drew).trans hb2); clear hb2; obtain ⟨f6, f7, f8⟩ := ((H.out.keep HB.out).keep HB2.out).facts; obtain ⟨w3, s1, s2, s3⟩ := HST.out w2 HB2.out; have S2 := Aside0.mk s2; have S3 := Aside0.mk s3; clear s2 s3)
 all_goals
  go_wp2
  go_ret
  exact ⟨rfl, S2.out, (Wrote.of_below (zac HB.out HB2.out) hlt.1).turned S3.out⟩
theorem book_Charge_spent {w : World} {b m n : Nat} {low : Int} {g : Int → Option E3} (h : BookAt w b m n low g) {k : Int} (wf : (Lit.int .i64 k).wf = true) (tag left slice : Int) (hk : g k = some (tag, left, slice)) (hl : left ≤ 0) :
  Calls Try.prog 16 #[.pointer (some ⟨b, 0, none⟩), .int .i64 k] w fun e w' => e = .returned (.tuple #[.bool false, .int .i64 10]) ∧ Below w.heap.size w w' := by
 have H := Aside0.mk h
 have HK := Aside0.mk hk
 clear h hk
 have d1 : decide (left > 0) = false := decide_eq_false (by omega)
 go_enter Try.func16, Try.ntmps16
 go_wp2_with fail
 go_at_call 24
 refine (book_Entry_ok H.out wf).mono ?_
 rw [HK.out]
 dsimp only [ent, entCode, Option.getD]
 rintro e w1 ⟨rfl, hb⟩
 have HB := Aside0.mk (zaf hb (.cells #[.int .i64 tag, .int .i64 left, .int .i64 slice] 48))
 clear hb
 go_wp2_with fail
 go_at_call 42
 refine (zad.calls _ _ _ _ _ rfl).mono ?_
 rw [d1]
 rintro e w2 ⟨rfl, hb2⟩
 have HB2 := Aside0.mk (zac HB.out hb2)
 clear hb2
 go_wp2_with fail
 go_ret2
 exact ⟨rfl, HB2.out⟩
def chE (low tag left slice : Int) : E3 := if left - 1 > 0 then (tag, left - 1, slice) else if tag = low then (tag + 1, slice, slice) else (tag, left - 1, slice)
theorem book_Charge_ok {w : World} {b m n : Nat} {low : Int} {g : Int → Option E3} (h : BookAt w b m n low g) (hn : n < 1000000) {k : Int} (wf : (Lit.int .i64 k).wf = true) (tag left slice : Int) (hk : g k = some (tag, left, slice)) (hl : 0 < left ∧ left ≤ 1000) (ht : 0 ≤ tag ∧ tag < 1000000) :
  Calls Try.prog 16 #[.pointer (some ⟨b, 0, none⟩), .int .i64 k] w fun e w' => e = .returned (.tuple #[.bool (!decide (left - 1 > 0)), .int .i64 0]) ∧ BookAt w' b m (n + 1) low (fun j => if j = k then some (chE low tag left slice) else g j) ∧ Wrote b m w w' := by
 have H := Aside0.mk h
 have HK := Aside0.mk hk
 have hlt := h.lt
 clear h hk
 have d1 : decide (left > 0) = true := decide_eq_true (by omega)
 have d2 : wrap64 (left - 1) = left - 1 := w64s (by omega) (by omega)
 have HST : Aside0 (∀ W, Below w.heap.size w W → ∀ a1 a2 a3 : Int, ∃ w3, (Instr.mapUpdate 76 (.map (some m)) (.int .i64 k) (.agg #[.int .i64 a1, .int .i64 a2, .int .i64 a3])).run Try.prog W = .ok () w3 ∧ BookAt w3 b m (n + 1) low (fun j => if j = k then some (a1, a2, a3) else g j) ∧ W.mapTurned w3 m) := ⟨fun W hW a1 a2 a3 => book_store (H.out.keep hW) hn wf _ _ _⟩
 go_enter Try.func16, Try.ntmps16
 go_wp2_with fail
 go_at_call 24
 refine (book_Entry_ok H.out wf).mono ?_
 rw [HK.out]
 dsimp only [ent, entCode, Option.getD]
 rintro e w1 ⟨rfl, hb⟩
 have HB := Aside0.mk (zaf hb (.cells #[.int .i64 tag, .int .i64 left, .int .i64 slice] 48))
 have hE := blk_new w1 (.cells #[.int .i64 tag, .int .i64 left, .int .i64 slice] 48)
 have hsz := hb.size
 clear hb
 go_wp2_with fail
 go_at_call 42
 refine (zad.calls _ _ _ _ _ rfl).mono ?_
 rw [d1]
 rintro e w2 ⟨rfl, hb2⟩
 have HB2 := Aside0.mk (zac HB.out hb2)
 have hE2 := (hb2.block _ (zak hE)).trans hE
 generalize w1.heap.size = E at hE2 hsz ⊢
 have c0 := (za hE2 0).trans rfl
 have c1 := (za hE2 1).trans rfl
 have c2 := (za hE2 2).trans rfl
 have z1 := zaa hE2 1
 have HE2 := Aside0.mk hE2
 clear hb2 hE hE2
 go_wp2_with fail
 have HB3 := Aside0.mk (HB2.out.setCell (p := ⟨E, 1, none⟩) hsz (.int .i64 (left - 1)))
 have hE3 := zal HE2.out 1 (.int .i64 (left - 1)) rfl
 clear c0 c1 c2 z1 HE2
 generalize w2.setCell ⟨E, 1, none⟩ (.int .i64 (left - 1)) = W3 at HB3 hE3 ⊢
 go_at_call 42
 refine (zad.calls _ _ _ _ _ rfl).mono ?_
 by_cases hL : left - 1 > 0
 ·
  have d3 : decide (left - 1 > 0) = true := decide_eq_true hL
  have HQ : Aside0 (chE low tag left slice = (tag, left - 1, slice)) := ⟨by unfold chE; rw [if_pos hL]⟩
  rw [d3]
  rintro e w4 ⟨rfl, hb4⟩
  have HB4 := Aside0.mk (zac HB3.out hb4)
  have hE4 := (hb4.block _ (zak hE3)).trans hE3
  obtain ⟨f0, f1, f2⟩ := (H.out.keep HB4.out).facts
  have c0 := (za hE4 0).trans rfl
  have c1 := (za hE4 1).trans rfl
  have c2 := (za hE4 2).trans rfl
  have HE4 := Aside0.mk hE4
  clear hb4 hE3 hE4
  go_wp2_with fail
  go_region
  have HB5 := Aside0.mk HB4.out.drew
  have hE5 : w4.drew.heap[E]? = _ := HE4.out
  clear f0 f1 f2 c0 c1 c2 HE4
  generalize w4.drew = W5 at HB5 hE5 ⊢
  obtain ⟨f0, f1, f2⟩ := (H.out.keep HB5.out.drew).facts
  have c0 := (za (show W5.drew.heap[E]? = _ from hE5) 0).trans rfl
  have c1 := (za (show W5.drew.heap[E]? = _ from hE5) 1).trans rfl
  have c2 := (za (show W5.drew.heap[E]? = _ from hE5) 2).trans rfl
  obtain ⟨w6, s1, s2, s3⟩ := HST.out W5.drew HB5.out.drew tag (left - 1) slice
  have S2 := Aside0.mk s2
  have S3 := Aside0.mk s3
  clear s2 s3 hE5
  go_wp2_with fail
  go_region
  all_goals
   go_wp2
   go_ret2
   exact ⟨by rw [d3]; rfl, by rw [HQ.out]; exact S2.out, (Wrote.of_below HB5.out.drew hlt.1).turned S3.out⟩
 ·
  have d3 : decide (left - 1 > 0) = false := decide_eq_false hL
  rw [d3]
  rintro e w4 ⟨rfl, hb4⟩
  have HB4 := Aside0.mk (zac HB3.out hb4)
  have hE4 := (hb4.block _ (zak hE3)).trans hE3
  obtain ⟨f0, f1, f2⟩ := (H.out.keep HB4.out).facts
  have c0 := (za hE4 0).trans rfl
  have c1 := (za hE4 1).trans rfl
  have c2 := (za hE4 2).trans rfl
  have HE4 := Aside0.mk hE4
  clear hb4 hE3 hE4
  go_wp2_with fail
  go_region
  have HB5 := Aside0.mk HB4.out.drew
  have hE5 : w4.drew.heap[E]? = _ := HE4.out
  clear f0 f1 f2 c0 c1 c2 HE4
  generalize w4.drew = W5 at HB5 hE5 ⊢
  by_cases hT : tag = low
  ·
   have HQ : Aside0 (chE low tag left slice = (tag + 1, slice, slice)) := ⟨by unfold chE; rw [if_neg (by omega), if_pos hT]⟩
   have d6 : (tag == low) = true := by simpa using hT
   have d7 : wrap64 (tag + 1) = tag + 1 := w64s (by omega) (by omega)
   have c0 := (za hE5 0).trans rfl
   have c1 := (za hE5 1).trans rfl
   have c2 := (za hE5 2).trans rfl
   have HE5 := Aside0.mk hE5
   have HT := Aside0.mk hT
   clear hE5 hT
   go_wp2_with fail
   go_at_call 43
   refine (zaj.calls _ _ _ _ _ _ _ rfl).mono ?_
   rw [d7]
   rintro e w6 ⟨rfl, hb6⟩
   have HB6 := Aside0.mk (zac HB5.out hb6)
   have hE6 := (hb6.block _ (zak HE5.out)).trans HE5.out
   have c3 := (za hE6 0).trans rfl
   have c4 := (za hE6 1).trans rfl
   have c5 := (za hE6 2).trans rfl
   have z3 := zaa hE6 0
   have z4 := zaa hE6 1
   have z5 := zaa hE6 2
   have HE6 := Aside0.mk hE6
   clear hb6 hE6 c0 c1 c2
   go_wp2_with fail
   have HB7 := Aside0.mk (((HB6.out.setCell (p := ⟨E, 0, none⟩) hsz (.int .i64 (tag + 1))).setCell (p := ⟨E, 1, none⟩) hsz (.int .i64 slice)).setCell (p := ⟨E, 2, none⟩) hsz (.int .i64 slice))
   have hE7 := zal (zal (zal HE6.out 0 (.int .i64 (tag + 1)) rfl) 1 (.int .i64 slice) rfl) 2 (.int .i64 slice) rfl
   clear c3 c4 c5 z3 z4 z5 HE6
   generalize ((w6.setCell ⟨E, 0, none⟩ (.int .i64 (tag + 1))).setCell ⟨E, 1, none⟩ (.int .i64 slice)).setCell ⟨E, 2, none⟩ (.int .i64 slice) = W7 at HB7 hE7 ⊢
   obtain ⟨f0, f1, f2⟩ := (H.out.keep HB7.out.drew).facts
   have c0 := (za (show W7.drew.heap[E]? = _ from hE7) 0).trans rfl
   have c1 := (za (show W7.drew.heap[E]? = _ from hE7) 1).trans rfl
   have c2 := (za (show W7.drew.heap[E]? = _ from hE7) 2).trans rfl
   obtain ⟨w8, s1, s2, s3⟩ := HST.out W7.drew HB7.out.drew (tag + 1) slice slice
   have S2 := Aside0.mk s2
   have S3 := Aside0.mk s3
   clear s2 s3 hE7
   go_region
   all_goals
    go_wp2
    go_ret2
    exact ⟨by rw [d3]; rfl, by rw [HQ.out]; exact S2.out, (Wrote.of_below HB7.out.drew hlt.1).turned S3.out⟩
  ·
   have HQ : Aside0 (chE low tag left slice = (tag, left - 1, slice)) := ⟨by unfold chE; rw [if_neg (by omega), if_neg hT]⟩
   have d6 : (tag == low) = false := by simpa using hT
   obtain ⟨f0, f1, f2⟩ := (H.out.keep HB5.out.drew).facts
   have c0 := (za (show W5.drew.heap[E]? = _ from hE5) 0).trans rfl
   have c1 := (za (show W5.drew.heap[E]? = _ from hE5) 1).trans rfl
   have c2 := (za (show W5.drew.heap[E]? = _ from hE5) 2).trans rfl
   obtain ⟨w6, s1, s2, s3⟩ := HST.out W5.drew HB5.out.drew tag (left - 1) slice
   have S2 := Aside0.mk s2
   have S3 := Aside0.mk s3
   clear s2 s3 hE5
   go_wp2_with fail
   go_region
   all_goals
    go_wp2
    go_ret2
    exact ⟨by rw [d3]; rfl, by rw [HQ.out]; exact S2.out, (Wrote.of_below HB5.out.drew hlt.1).turned S3.out⟩
theorem book_stuck_ok {w : World} {b m n : Nat} {low : Int} {g : Int → Option E3} (h : BookAt w b m n low g) :
  Calls Try.prog 44 #[.pointer (some ⟨b, 0, none⟩)] w fun e w' => ∃ r, e = .returned (.bool r) ∧ (r = true ↔ (∀ k e, g k = some e → e.1 ≠ low) ∧ ∃ k e, g k = some e) ∧ Below w.heap.size w w' := by
 have H := Aside0.mk h
 obtain ⟨f0, f1, f2⟩ := h.facts
 have hlt := h.lt
 clear h
 obtain ⟨w1, cnt, s1, s2, s3, s4⟩ := H.out.2.2.range (t := 76) (e := 48) Try.underlying3 Try.underlying76
 have S2 := Aside0.mk s2
 have S3 := Aside0.mk s3
 clear s2 s3 s4
 go_enter Try.func44, Try.ntmps44
 go_wp2_with fail
 go_loopg [4] cnt (fun gk v4 w' => ∃ left, Aside0 (RangeAt Try.prog 3 mkE w' m w.heap.size n g left gk) ∧ Aside0 (∀ k e, g k = some e → left k = false → e.1 ≠ low) ∧ Aside0 (Below w.heap.size w w'))
 case atStart => exact ⟨_, S2, ⟨fun k e h1 h2 => by rw [h1] at h2; cases h2⟩, S3⟩
 case round =>
  obtain ⟨left, HR, HL, HB⟩ := hrel
  rcases HR.out.next Try.underlying3 0 with ⟨h0, hl, hrun⟩ | ⟨k, a, w2, cnt', wf, hlk, hg, hrun, hr2, hlt2, hbl, hen, _⟩
  ·
   obtain ⟨q, hq, hq0, hlen⟩ := HR.out.owns.len (t := 76) (e := 48) Try.underlying76 Try.underlying3
   have hl2 := hlen 3
   obtain ⟨f3, f4, f5⟩ := (H.out.keep HB.out).facts
   have HN := Aside0.mk hl
   have HQ := Aside0.mk hq0
   clear hl hlen hq0
   go_wp2_with fail
   go_ret
   refine ⟨_, rfl, ⟨fun h => ?_, fun h => ?_⟩, HB.out⟩
   ·
    have h1 := of_decide_eq_true h
    refine ⟨fun k e hg => HL.out k e hg (HN.out k), ?_⟩
    cases Classical.em (∃ k e, g k = some e) with
    | inl h => exact h
    | inr h =>
     have : q = 0 := HQ.out.2 fun k => by
      cases hg : g k with
      | none => rfl
      | some e => exact absurd ⟨k, e, hg⟩ h
     omega
   ·
    obtain ⟨k, e, hg⟩ := h.2
    refine decide_eq_true ?_
    cases q with
    | zero =>
     have := HQ.out.1 rfl k
     rw [hg] at this
     cases this
    | succ q => omega
  ·
   have HR2 := Aside0.mk hr2
   have HB2 := Aside0.mk (zaf (HB.out.trans (hbl _ (Nat.le_refl _))) (.cells #[.int .i64 a.1, .int .i64 a.2.1, .int .i64 a.2.2] 48))
   have HR3 := Aside0.mk (hr2.keep (zaf (Below.refl _ w2) (.cells #[.int .i64 a.1, .int .i64 a.2.1, .int .i64 a.2.2] 48)))
   have hE := blk_new w2 (.cells #[.int .i64 a.1, .int .i64 a.2.1, .int .i64 a.2.2] 48)
   have c0 := (za (show (w2.alloc (.cells #[.int .i64 a.1, .int .i64 a.2.1, .int .i64 a.2.2] 48)).drew.heap[w2.heap.size]? = _ from hE) 0).trans rfl
   obtain ⟨f3, f4, f5⟩ := (H.out.keep HB2.out.drew).facts
   have HG := Aside0.mk hg
   clear hr2 hbl hE hg hlk
   have hrun' : (Instr.next (.pointer (some ⟨w.heap.size, 0, none⟩)) false 0).run Try.prog wr = .ok (.tuple #[.bool true, .int .i64 k, .agg #[.int .i64 a.1, .int .i64 a.2.1, .int .i64 a.2.2]]) w2 := hrun
   have hen' : (Instr.entry (.pointer (some ⟨w.heap.size, 0, none⟩))).run Try.prog w2 = .ok (.tuple #[.int .i64 k, .agg #[.int .i64 a.1, .int .i64 a.2.1, .int .i64 a.2.2]]) w2 := hen
   clear hrun hen
   go_wp2_with fail
   go_region
   by_cases hT : a.1 = low
   ·
    have d6 : (a.1 == low) = true := by simpa using hT
    have HT := Aside0.mk hT
    clear hT
    go_wp2
    go_ret
    exact ⟨_, rfl, ⟨fun h => by (cases h), fun h => absurd HT.out (h.1 _ _ HG.out)⟩, HB2.out.drew⟩
   ·
    have d6 : (a.1 == low) = false := by simpa using hT
    have HT := Aside0.mk hT
    clear hT
    go_wp2
    go_roundg cnt'
    case measure => exact hlt2
    case rel =>
     refine ⟨_, ⟨HR3.out.keep ((Below.refl _ _).drew)⟩, ⟨fun j e h1 h2 => ?_⟩, ⟨HB2.out.drew⟩⟩
     by_cases ej : j = k
     ·
      subst ej
      rw [HG.out] at h1
      cases h1
      exact HT.out
     ·
      refine HL.out j e h1 ?_
      simpa [ej] using h2
def look (L : List S86) (k : Int) : Option E3 := (L.find? (fun e => e.f0 == k)).map (fun e => (e.f1, e.f2, e.f3))
def Ids (L : List S86) : Prop := L.Pairwise (fun a b => a.f0 < b.f0)
theorem zao {L : List S86} {k : Int} {e : E3} (h : look L k = some e) : ∃ x ∈ L, x.f0 = k ∧ e = (x.f1, x.f2, x.f3) := by
 unfold look at h
 obtain ⟨x, hx, rfl⟩ := Option.map_eq_some_iff.1 h
 exact ⟨x, List.mem_of_find?_eq_some hx, by simpa using List.find?_some hx, rfl⟩
theorem look_none {L : List S86} {k : Int} (h : look L k = none) : ∀ x ∈ L, x.f0 ≠ k := by
 unfold look at h
 have h1 := Option.map_eq_none_iff.1 h
 intro x hx
 have := List.find?_eq_none.1 h1 x hx
 simpa using this
theorem Ids.inj : ∀ {L : List S86}, Ids L → ∀ {x y : S86}, x ∈ L → y ∈ L → x.f0 = y.f0 → x = y
 | [], _, x, _, hx, _, _ => by simp at hx
 | a :: r, h, x, y, hx, hy, e => by
  obtain ⟨h1, h2⟩ := List.pairwise_cons.1 h
  rcases List.mem_cons.1 hx with rfl | hx'
  ·
   rcases List.mem_cons.1 hy with rfl | hy'
   ·
    rfl
   ·
    have := h1 y hy'
    omega
  ·
   rcases List.mem_cons.1 hy with rfl | hy'
   ·
    have := h1 x hx'
    omega
   ·
    exact Ids.inj h2 hx' hy' e
theorem look_mem {L : List S86} (h : Ids L) {x : S86} (hx : x ∈ L) : look L x.f0 = some (x.f1, x.f2, x.f3) := by
 cases hl : look L x.f0 with
 | none => exact absurd rfl (look_none hl x hx)
 | some e =>
  obtain ⟨y, hy, e1, rfl⟩ := zao hl
  rw [h.inj hy hx e1]
theorem look_is {L : List S86} {k : Int} (h : ∃ x ∈ L, x.f0 = k) : (look L k).isSome = true := by
 cases hl : look L k with
 | none =>
  obtain ⟨x, hx, e⟩ := h
  exact absurd e (look_none hl x hx)
 | some e => rfl
def GoodE (low : Int) (e : S86) : Prop := (Lit.int .i64 e.f0).wf = true ∧ low ≤ e.f1 ∧ e.f1 ≤ low + 1 ∧ 0 ≤ e.f2 ∧ e.f2 ≤ e.f3 ∧ 1 ≤ e.f3 ∧ e.f3 ≤ 1000 ∧ (e.f2 = 0 → e.f1 = low + 1)
def GoodB (low : Int) (L : List S86) : Prop := Ids L ∧ ∀ e ∈ L, GoodE low e
def ren (low : Int) (e : S86) : S86 := if e.f1 = low ∧ e.f2 ≤ 0 then ⟨e.f0, e.f1 + 1, e.f3, e.f3⟩ else e
def renE (low : Int) (e : E3) : E3 := if e.1 = low ∧ e.2.1 ≤ 0 then (e.1 + 1, e.2.2, e.2.2) else e
theorem ren_id (low : Int) (e : S86) : (ren low e).f0 = e.f0 := by
 unfold ren
 split <;> rfl
theorem look_ren (low : Int) (L : List S86) (k : Int) : look (L.map (ren low)) k = (look L k).map (renE low) := by
 unfold look
 rw [List.find?_map]
 have : ((fun e : S86 => e.f0 == k) ∘ ren low) = fun e => e.f0 == k := by
  funext e
  simp [ren_id]
 rw [this]
 cases L.find? (fun e => e.f0 == k) with
 | none => rfl
 | some e =>
  simp only [Option.map_some]
  unfold ren renE
  dsimp only
  split <;> rfl
def stuckL (low : Int) (L : List S86) : Bool := !L.isEmpty && L.all (fun e => e.f1 != low)
theorem stuckL_iff {low : Int} {L : List S86} (h : Ids L) : stuckL low L = true ↔ (∀ k e, look L k = some e → e.1 ≠ low) ∧ ∃ k e, look L k = some e := by
 unfold stuckL
 constructor
 ·
  intro h1
  simp only [Bool.and_eq_true, Bool.not_eq_true', List.all_eq_true, bne_iff_ne] at h1
  refine ⟨fun k e hk => ?_, ?_⟩
  ·
   obtain ⟨x, hx, _, rfl⟩ := zao hk
   exact h1.2 x hx
  ·
   cases L with
   | nil => simp at h1
   | cons a r => exact ⟨a.f0, _, look_mem h List.mem_cons_self⟩
 ·
  rintro ⟨h1, k, e, h2⟩
  simp only [Bool.and_eq_true, Bool.not_eq_true', List.all_eq_true, bne_iff_ne]
  obtain ⟨x, hx, _, _⟩ := zao h2
  refine ⟨?_, fun y hy => h1 _ _ (look_mem h hy)⟩
  cases L with
  | nil => simp at hx
  | cons a r => rfl
def settleF : Nat → Int → List S86 → Int × List S86
 | 0, low, L => (low, L)
 | k + 1, low, L => if stuckL low L then settleF k (low + 1) (L.map (ren (low + 1))) else (low, L)
def spent (low : Int) (L : List S86) : List Int := if stuckL low L then (L.filter (fun e => e.f2 == 0)).map (fun e => e.f0) else []
theorem Ids.map_ren {L : List S86} (h : Ids L) (low : Int) : Ids (L.map (ren low)) := by
 unfold Ids
 rw [List.pairwise_map]
 exact h.imp (fun {a b} h => by rw [ren_id, ren_id]; exact h)
theorem stuck_all {low : Int} {L : List S86} (hs : stuckL low L = true) : L ≠ [] ∧ ∀ e ∈ L, e.f1 ≠ low := by
 unfold stuckL at hs
 simp only [Bool.and_eq_true, Bool.not_eq_true', List.all_eq_true, bne_iff_ne] at hs
 exact ⟨fun e => by rw [e] at hs; simp at hs, hs.2⟩
theorem GoodB.step {low : Int} {L : List S86} (h : GoodB low L) (hs : stuckL low L = true) : GoodB (low + 1) (L.map (ren (low + 1))) ∧ ∀ e ∈ L.map (ren (low + 1)), 0 < e.f2 := by
 obtain ⟨_, h1⟩ := stuck_all hs
 have key : ∀ e ∈ L, GoodE (low + 1) (ren (low + 1) e) ∧ 0 < (ren (low + 1) e).f2 := by
  intro e he
  obtain ⟨g0, g1, g2, g3, g4, g5, g6, g7⟩ := h.2 e he
  have g8 := h1 e he
  unfold ren
  by_cases c : e.f1 = low + 1 ∧ e.f2 ≤ 0
  ·
   rw [if_pos c]
   exact ⟨⟨g0, by dsimp only; omega, by dsimp only; omega, by dsimp only; omega, Int.le_refl _, g5, g6, fun h => by dsimp only at h; omega⟩, by dsimp only; omega⟩
  ·
   rw [if_neg c]
   exact ⟨⟨g0, by omega, by omega, g3, g4, g5, g6, fun h => by omega⟩, by omega⟩
 refine ⟨⟨h.1.map_ren _, fun e he => ?_⟩, fun e he => ?_⟩
 all_goals
  obtain ⟨x, hx, rfl⟩ := List.mem_map.1 he
  have := key x hx
  first
  | exact this.1
  | exact this.2
theorem step_full {low : Int} {L : List S86} (h : GoodB low L) (hs : stuckL low L = true) (hf : ∀ e ∈ L, 0 < e.f2) : L.map (ren (low + 1)) = L ∧ stuckL (low + 1) L = false := by
 obtain ⟨h0, h1⟩ := stuck_all hs
 constructor
 ·
  refine (List.map_congr_left fun e he => ?_).trans (List.map_id _)
  unfold ren
  rw [if_neg (fun c => by have := hf e he; omega)]
  rfl
 ·
  cases L with
  | nil => exact absurd rfl h0
  | cons a r =>
   have g := h.2 a List.mem_cons_self
   have g8 := h1 a List.mem_cons_self
   have : a.f1 = low + 1 := by have := g.2.1; have := g.2.2.1; omega
   simp [stuckL, this]
theorem spent_rise {low : Int} {L : List S86} (h : Ids L) : (spent low L).Pairwise (· < ·) := by
 unfold spent
 split
 ·
  rw [List.pairwise_map]
  exact (h.filter _)
 ·
  exact List.Pairwise.nil
theorem GoodB.settle {low : Int} {L : List S86} (h : GoodB low L) : GoodB (settleF 2 low L).1 (settleF 2 low L).2 ∧ stuckL (settleF 2 low L).1 (settleF 2 low L).2 = false ∧ low ≤ (settleF 2 low L).1 ∧ (settleF 2 low L).1 ≤ low + 2 := by
 unfold settleF
 by_cases h1 : stuckL low L = true
 ·
  obtain ⟨g1, g2⟩ := h.step h1
  rw [if_pos h1]
  unfold settleF
  by_cases h2 : stuckL (low + 1) (L.map (ren (low + 1))) = true
  ·
   obtain ⟨g3, _⟩ := g1.step h2
   obtain ⟨g5, g6⟩ := step_full g1 h2 g2
   rw [if_pos h2]
   unfold settleF
   refine ⟨g3, ?_, by dsimp only; omega, by dsimp only; omega⟩
   rw [g5]
   exact g6
  ·
   rw [if_neg h2]
   exact ⟨g1, by simpa using h2, by dsimp only; omega, by dsimp only; omega⟩
 ·
  rw [if_neg h1]
  exact ⟨h, by simpa using h1, by dsimp only; omega, by dsimp only; omega⟩
theorem settle_len (k : Nat) (low : Int) (L : List S86) : (settleF k low L).2.length = L.length := by
 induction k generalizing low L with
 | zero => rfl
 | succ k ih =>
  unfold settleF
  split
  ·
   rw [ih, List.length_map]
  ·
   rfl
def IntsAt (w : World) (v : Value) (l : List Int) : Prop := ∃ A c, v = .slice A l.length c ∧ l.length ≤ c ∧ Kd.C (Kd.int .i64) w A l.length l
theorem IntsAt.of_row {w : World} {g c : Nat} {l : List Int} (h : RowC w g l) (hl : l.length < 1000000) (hc : l.length ≤ c) : IntsAt w (.slice (some ⟨g, 0, none⟩) l.length c) l := by
 refine ⟨_, _, rfl, hc, rfl, by omega, fun _ => ⟨_, rfl, fun j p hj => ⟨[.int .i64 p], rfl, rfl, fun i u hu => ?_⟩⟩⟩
 match i, hu with
 | 0, hu =>
  have e : (Addr.add ⟨g, 0, none⟩ (j * (Kd.int .i64).sz + 0)) = ⟨g, j, none⟩ := by
   show (Addr.add ⟨g, 0, none⟩ (j * 1 + 0)) = _
   rw [Nat.mul_one, Nat.add_zero, add_plain]
  obtain ⟨hjl, hjp⟩ := List.getElem?_eq_some_iff.1 hj
  rw [e, (h.2 j hjl).1]
  have : l.getD j 0 = p := by simp [hjl, hjp]
  rw [this]
  simpa using hu
theorem IntsAt.below {w w' : World} {v : Value} {l : List Int} (h : IntsAt w v l) (hb : Below w.heap.size w w') : IntsAt w' v l := by
 obtain ⟨A, c, e, hc, hr⟩ := h
 exact ⟨A, c, e, hc, Kd.C_below hr hb⟩
theorem IntsAt.nil (w : World) (A : Option Addr) (c : Nat) : IntsAt w (.slice A 0 c) [] := ⟨A, c, rfl, Nat.zero_le _, rfl, by simp, fun h => absurd h (by simp)⟩
section
open Go.Sort
theorem Sort_own {w : World} {base : Nat} {ok : Nat → Prop} {v : Value} {l : List Int} (h : Kd.R (Kd.int .i64) 3 w base ok v l) (hl : l.length < 1000000) :
  Calls Try.prog 45 #[v] w fun e w' => e = .returned (.tuple #[]) ∧ IntsAt w' v (l.mergeSort fun x y => decide (x ≤ y)) ∧ Below base w w' := by
 have ho := Kd.own_of_R h
 obtain ⟨_, ⟨rfl, h1⟩ | ⟨g, cap, cur, rfl, hg, hh, hn, hmx, hsz, ht⟩⟩ := ho
 ·
  obtain rfl : l = [] := List.eq_nil_of_length_eq_zero h1
  refine (Try.slices_Sort_int_none none 0 w).mono ?_
  rintro e w' ⟨rfl, rfl⟩
  exact ⟨rfl, by simpa using IntsAt.nil w' none 0, Below.refl _ _⟩
 ·
  rw [Nat.mul_one] at ht
  have hr : RowC w g l := by
   refine ⟨zak hh, fun i hi => ⟨?_, zaa hh i⟩⟩
   rw [za hh i]
   have := congrArg (fun z => z[i]?) ht
   simp only [List.getElem?_take_of_lt hi] at this
   rw [← Array.getElem?_toList, this]
   simp [hi, encs]
  refine (Try.slices_Sort_int g 0 cap l w hr.holds hr.1 (by omega)).mono ?_
  rintro e w3 ⟨rfl, n, os, rfl⟩
  have hlen : (l.mergeSort fun x y => decide (x ≤ y)).length = l.length := List.length_mergeSort _
  have hr3 : RowC (grow (putRow (Value.int .i64) (Sort.ahead w n) g 0 (l.mergeSort fun x y => decide (x ≤ y)).toArray) os) g (l.mergeSort fun x y => decide (x ≤ y)) := by
   have hb3 : g < (putRow (Value.int .i64) (Sort.ahead w n) g 0 (l.mergeSort fun x y => decide (x ≤ y)).toArray).heap.size := by
    rw [size_putRow]
    exact hr.1
   refine RowC.of_holds (by rw [size_grow]; omega) (holds_grow _ _ _ _ _ _ hb3 (holds_putRow _ _ _ _ l.toArray _ ?_ (by simp [hlen])))
   exact hr.holds
  have hB3 : Below base w (grow (putRow (Value.int .i64) (Sort.ahead w n) g 0 (l.mergeSort fun x y => decide (x ≤ y)).toArray) os) := by
   have h1 := Lib.below_putRow (enc := Value.int .i64) (q := n) (d := (l.mergeSort fun x y => decide (x ≤ y)).toArray) (Below.refl base w) hg
   exact below_grew h1 (by rw [size_putRow]; show base ≤ w.heap.size; have := hr.1; omega) os
  refine ⟨rfl, ?_, hB3⟩
  have := IntsAt.of_row (c := cap) hr3 (by omega) (by omega)
  rw [hlen] at this
  exact this
end
theorem spent_mem {low : Int} {L : List S86} (h : GoodB low L) (hs : stuckL low L = true) (k : Int) : k ∈ spent low L ↔ ∃ e, look L k = some e ∧ e.1 = low + 1 ∧ e.2.1 ≤ 0 := by
 unfold spent
 rw [if_pos hs]
 obtain ⟨_, h1⟩ := stuck_all hs
 constructor
 ·
  intro hk
  obtain ⟨x, hx, rfl⟩ := List.mem_map.1 hk
  obtain ⟨hx1, hx2⟩ := List.mem_filter.1 hx
  obtain ⟨g0, g1, g2, g3, g4, g5, g6, g7⟩ := h.2 x hx1
  have h2 : x.f2 = 0 := by simpa using hx2
  exact ⟨_, look_mem h.1 hx1, g7 h2, by dsimp only; omega⟩
 ·
  rintro ⟨e, he, e1, e2⟩
  obtain ⟨x, hx, rfl, rfl⟩ := zao he
  obtain ⟨g0, g1, g2, g3, g4, g5, g6, g7⟩ := h.2 x hx
  have h2 : x.f2 = 0 := by dsimp only at e2; omega
  exact List.mem_map.2 ⟨x, List.mem_filter.2 ⟨hx, by simpa using h2⟩, rfl⟩
theorem sort_perm {l l' : List Int} (h : l.Perm l') (hs : l'.Pairwise (· < ·)) : l.mergeSort (fun x y => decide (x ≤ y)) = l' := by
 have tr : ∀ a b c : Int, decide (a ≤ b) = true → decide (b ≤ c) = true → decide (a ≤ c) = true := fun a b c h1 h2 => by simp only [decide_eq_true_eq] at *; omega
 have tot : ∀ a b : Int, (decide (a ≤ b) || decide (b ≤ a)) = true := fun a b => by simp only [Bool.or_eq_true, decide_eq_true_eq]; omega
 refine List.Perm.eq_of_pairwise (le := fun a b => decide (a ≤ b) = true) (fun a b _ _ h1 h2 => ?_) (List.pairwise_mergeSort tr tot l) (hs.imp fun {a b} h => decide_eq_true (by omega)) ((List.mergeSort_perm l _).trans h)
 simp only [decide_eq_true_eq] at h1 h2
 omega
theorem spent_len (low : Int) (L : List S86) : (spent low L).length ≤ L.length := by
 unfold spent
 split
 ·
  rw [List.length_map]
  exact List.length_filter_le _ _
 ·
  simp
theorem iter_ne {α : Type} {mk : α → Value} {w : World} {b r n cnt base : Nat} {g : Int → Option α} {left : Int → Bool} {ok : Nat → Prop} {v : Value} {l : List Int} (h : RangeAt Try.prog 3 mk w b r n g left cnt) (hk : Kd.R (Kd.int .i64) 3 w base ok v l) : some r ≠ v.ownBlock := by
 intro e
 obtain ⟨inner, ho⟩ := Kd.R_own hk
 obtain ⟨cells, hc⟩ := own_typed ho r e.symm
 obtain ⟨D, l, ⟨es, clock, since, seen, c0, _, _, _, _, hr, _⟩, _⟩ := h
 rw [hr] at hc
 cases hc
theorem RangeAt.grown {α : Type} {P : Program} {kt : TypeId} {mk : α → Value} {w w' : World} {b r n cnt : Nat} {g : Int → Option α} {left : Int → Bool} {row : Option Nat} (h : RangeAt P kt mk w b r n g left cnt) (hg : w.grownBy w' row) (h1 : some b ≠ row) (h2 : some r ≠ row) : RangeAt P kt mk w' b r n g left cnt := by
 obtain ⟨D, l, h, hd⟩ := h
 exact ⟨D, l, h.kept hg h1 h2, hd⟩
theorem RangeAt.ext {α : Type} {P : Program} {kt : TypeId} {mk : α → Value} {w : World} {b r n cnt : Nat} {g g' : Int → Option α} {left : Int → Bool} (h : RangeAt P kt mk w b r n g left cnt) (e : ∀ k, g' k = g k) : RangeAt P kt mk w b r n g' left cnt := by
 rw [show g' = g from funext e]
 exact h
def Front (w : World) (b m : Nat) (low : Int) : Prop := b ≠ m ∧ w.heap[b]? = some (.cells #[.int .i64 low, .map (some m)] 78 (0, 0))
theorem Front.facts {w : World} {b m : Nat} {low : Int} (h : Front w b m low) : w.cell? ⟨b, 0, none⟩ = some (.int .i64 low) ∧ w.cell? ⟨b, 1, none⟩ = some (.map (some m)) ∧ w.frozen? ⟨b, 0, none⟩ = false :=
 ⟨(za h.2 0).trans rfl, (za h.2 1).trans rfl, zaa h.2 0⟩
theorem Wrote.grown {b m : Nat} {w w1 w2 : World} {row : Option Nat} (h : Wrote b m w w1) (hg : w1.grownBy w2 row) (hr : ∀ k, row = some k → w.heap.size ≤ k) (hb : b < w.heap.size) : Wrote b m w w2 :=
 ⟨⟨Nat.le_trans h.1.1 hg.size, fun i hi h1 h2 => (hg.block i (Nat.lt_of_lt_of_le hi h.1.1) (fun e => by have := hr i e.symm; omega)).trans (h.1.2 i hi h1 h2)⟩, fun k h1 h2 => (h.2 k h1 h2).grown hg (by have := h.1.1; omega) (fun j e => by have := hr j e; omega)⟩
theorem Wrote.at (b m : Nat) (w : World) : Wrote b m w w := ⟨Only.refl b m w, fun k _ _ => Below.refl k w⟩
theorem book_Settle_ok {w : World} {b m n : Nat} {low : Int} {L : List S86} (h : BookAt w b m n low (look L)) (hG : GoodB low L) (hlow : 0 < low ∧ low < 1000000) (hn : n < 1000000) (hL : L.length < 1000000) :
  Calls Try.prog 18 #[.pointer (some ⟨b, 0, none⟩)] w fun e w' => ∃ v, e = .returned v ∧ IntsAt w' v (spent low L) ∧ BookAt w' b m n (settleF 2 low L).1 (look (settleF 2 low L).2) ∧ Wrote b m w w' := by
 have H := Aside0.mk h
 have hlt := h.lt
 clear h
 go_enter Try.func18, Try.ntmps18
 go_wp2_with fail
 go_loopg [3] 2 (fun gk v3 w' => ∃ (low' : Int) (L' : List S86) (l : List Int), Aside0 (Kd.R (Kd.int .i64) 3 w' w.heap.size (fun k => w.heap.size ≤ k) v3 l) ∧ Aside0 (BookAt w' b m n low' (look L')) ∧ Aside0 (GoodB low' L') ∧ Aside0 (Wrote b m w w') ∧ Aside0 (settleF gk low' L' = settleF 2 low L) ∧ Aside0 (stuckL low' L' = true → gk = 2 ∨ gk = 1 ∧ ∀ e ∈ L', 0 < e.f2) ∧ Aside0 ((gk = 2 → l = [] ∧ low' = low ∧ L' = L) ∧ (gk < 2 → l.Perm (spent low L))) ∧ (low' + gk = low + 2 ∧ gk ≤ 2))
 case atStart => exact ⟨low, L, [], ⟨Kd.R_nil _ _ _ _ _⟩, H, ⟨hG⟩, ⟨Wrote.at b m w⟩, ⟨rfl⟩, ⟨fun _ => .inl rfl⟩, ⟨⟨fun _ => ⟨rfl, rfl, rfl⟩, fun h => by omega⟩⟩, by omega⟩
 case round =>
  obtain ⟨low', L', l, HO, HB, HG, HW, HF, HS, HL, hgk⟩ := hrel
  go_wp2_with fail
  go_at_call 44
  refine (book_stuck_ok HB.out).mono ?_
  rintro e w1 ⟨r, rfl, hr, hb1⟩
  have hr2 : r = stuckL low' L' := by
   have := stuckL_iff (low := low') HG.out.1
   cases hs : stuckL low' L' with
   | true => exact hr.2 (this.1 hs)
   | false =>
    cases hr' : r with
    | false => rfl
    | true =>
     have := this.2 (hr.1 hr')
     rw [hs] at this
     cases this
  have HR2 := Aside0.mk hr2
  have HB1 := Aside0.mk (HB.out.keep hb1)
  have HO1 := Aside0.mk (Kd.R_below HO.out hb1)
  have HW1 := Aside0.mk (HW.out.step hb1 (by have := HW.out.1.1; omega))
  clear hr hr2 hb1 HB HO HW
  cases r with
  | false =>
   have hst := HR2.out
   have hlen : l.length = (spent low L).length ∧ l.mergeSort (fun x y => decide (x ≤ y)) = spent low L := by
    have hp : l.Perm (spent low L) := by
     by_cases h2 : gk = 2
     ·
      obtain ⟨rfl, rfl, rfl⟩ := HL.out.1 h2
      unfold spent
      rw [← hst]
      exact List.Perm.refl _
     ·
      exact HL.out.2 (by omega)
    exact ⟨hp.length_eq, sort_perm hp (spent_rise hG.1)⟩
   have hfin : settleF 2 low L = (low', L') := by
    rw [← HF.out]
    cases gk with
    | zero => rfl
    | succ q =>
     unfold settleF
     rw [← hst]
     rfl
   have HFin := Aside0.mk hfin
   have HLen := Aside0.mk hlen
   clear hst hlen hfin
   go_wp2_with fail
   go_at_call 45
   refine (Sort_own HO1.out (by rw [HLen.out.1]; have := spent_len low L; omega)).mono ?_
   rw [HLen.out.2]
   rintro e w2 ⟨rfl, hi2, hb2⟩
   have HI2 := Aside0.mk hi2
   have HB2 := Aside0.mk (HB1.out.below hb2 hlt.1 hlt.2)
   have HW2 : Aside0 (Wrote b m w w2) := ⟨⟨⟨Nat.le_trans HW1.out.1.1 hb2.size, fun i hi h1 h2 => (hb2.block i hi).trans (HW1.out.1.2 i hi h1 h2)⟩, fun k h1 h2 => (HW1.out.2 k h1 h2).trans (hb2.mono (by omega))⟩⟩
   clear hi2 hb2
   go_wp2_with fail
   go_ret
   exact ⟨_, rfl, HI2.out, by rw [HFin.out]; exact HB2.out, HW2.out⟩
  | true =>
   obtain ⟨f0, f1, f2⟩ := HB1.out.facts
   obtain ⟨gq, rfl⟩ : ∃ gq, gk = gq + 1 := by
    rcases HS.out HR2.out.symm with h | ⟨h, _⟩
    ·
     exact ⟨1, h⟩
    ·
     exact ⟨0, h⟩
   have d1 : wrap64 (low' + 1) = low' + 1 := w64s (by omega) (by omega)
   have hst := HR2.out.symm
   obtain ⟨w2, cnt, s1, s2, s3, s4⟩ := (HB1.out.set (low' + 1)).2.2.range (t := 76) (e := 48) Try.underlying3 Try.underlying76
   have HW1s := HW1.out.low (.int .i64 (low' + 1))
   have HO1s := Kd.R_far (p := ⟨b, 0, none⟩) HO1.out (fun k hk => by show k ≠ b; omega) (.int .i64 (low' + 1))
   have HFr : Aside0 (Front w2 b m (low' + 1)) := ⟨⟨(HB1.out.set (low' + 1)).1, (s3.block _ (HB1.out.set (low' + 1)).lt.1).trans (HB1.out.set (low' + 1)).2.1⟩⟩
   have HO2 := Aside0.mk (Kd.R_below HO1s s3)
   have HW2 := Aside0.mk (HW1s.step s3 (by rw [World.size_setCell]; have := HW1.out.1.1; omega))
   have hRs : (w1.setCell ⟨b, 0, none⟩ (.int .i64 (low' + 1))).heap.size = w1.heap.size := World.size_setCell _ _ _
   rw [hRs] at s1 s2
   have S2 := Aside0.mk s2
   have hRw := HW1.out.1.1
   have HST := Aside0.mk hst
   clear s2 s3 HW1s HO1s hst
   go_wp2_with fail
   clear s1 f0 f1 f2 hRs
   generalize w1.heap.size = R at S2 hRw ⊢
   go_loopg [3] cnt (fun gk2 v3 w' => ∃ (left : Int → Bool) (l1 : List Int), Aside0 (Kd.R (Kd.int .i64) 3 w' w.heap.size (fun k => w.heap.size ≤ k) v3 (l ++ l1)) ∧ Aside0 (RangeAt Try.prog 3 mkE w' m R n (fun k => if left k = true then look L' k else (look L' k).map (renE (low' + 1))) left gk2) ∧ Aside0 (Front w' b m (low' + 1)) ∧ Aside0 (Wrote b m w w') ∧ Aside0 (l1.Nodup ∧ ∀ k, k ∈ l1 ↔ left k = false ∧ ∃ e, look L' k = some e ∧ e.1 = low' + 1 ∧ e.2.1 ≤ 0) ∧ l1.length + gk2 ≤ n)
   case atStart =>
    refine ⟨_, [], ⟨by rw [List.append_nil]; exact HO2.out⟩, ⟨S2.out.ext fun k => ?_⟩, HFr, HW2, ⟨⟨List.nodup_nil, fun k => ⟨fun h => (by cases h), fun h => ?_⟩⟩⟩, by rw [List.length_nil]; omega⟩
    ·
     cases look L' k <;> rfl
    ·
     obtain ⟨h1, e, h2, _⟩ := h
     rw [h2] at h1
     cases h1
   case round =>
    obtain ⟨left, l1, HO3, HR3, HF3, HW3, HL3, hl1⟩ := hrel
    obtain ⟨f0, f1, f2⟩ := HF3.out.facts
    rcases HR3.out.next Try.underlying3 0 with ⟨h0, hl, hrun⟩ | ⟨k, ⟨a1, a2, a3⟩, w4, cnt', wf, hlk, hg, hrun, hr4, hlt4, hbl, hen, hgr⟩
    ·
     have HN := Aside0.mk hl
     clear hl
     go_wp2_with fail
     go_roundg gq
     case measure => omega
     case rel =>
      have hstep := HG.out.step HST.out
      refine ⟨low' + 1, L'.map (ren (low' + 1)), l ++ l1, HO3, ⟨⟨HF3.out.1, HF3.out.2, HR3.out.owns.ext fun k => ?_⟩⟩, ⟨hstep.1⟩, HW3, ⟨?_⟩, ⟨fun hs => ?_⟩, ⟨⟨fun h => by omega, fun _ => ?_⟩⟩, by omega⟩
      ·
       rw [look_ren, if_neg (by rw [HN.out k]; simp)]
      ·
       have := HF.out
       unfold settleF at this
       rw [if_pos HST.out] at this
       exact this
      ·
       rcases HS.out HST.out with h | ⟨h, hf⟩
       ·
        exact .inr ⟨by omega, hstep.2⟩
       ·
        obtain ⟨e1, e2⟩ := step_full HG.out HST.out hf
        rw [e1, e2] at hs
        cases hs
      ·
       have hmem : ∀ k, k ∈ l1 ↔ ∃ e, look L' k = some e ∧ e.1 = low' + 1 ∧ e.2.1 ≤ 0 := fun k => by
        rw [HL3.out.2 k, HN.out k]
        simp
       rcases HS.out HST.out with h | ⟨h, hf⟩
       ·
        obtain ⟨rfl, rfl, rfl⟩ := HL.out.1 h
        rw [List.nil_append]
        refine (List.perm_ext_iff_of_nodup HL3.out.1 ((spent_rise HG.out.1).imp fun {a b} h => Int.ne_of_lt h)).2 fun k => ?_
        rw [hmem k, spent_mem HG.out HST.out]
       ·
        have : l1 = [] := by
         cases l1 with
         | nil => rfl
         | cons k r =>
          obtain ⟨e, he, _, e2⟩ := (hmem k).1 List.mem_cons_self
          obtain ⟨x, hx, _, rfl⟩ := zao he
          have := hf x hx
          dsimp only at e2
          omega
        rw [this, List.append_nil]
        exact HL.out.2 (by omega)
    ·
     have HG4 := Aside0.mk hg
     have HLK := Aside0.mk hlk
     have hrl := HR3.out.lt
     have hml := HR3.out.owns.lt
     clear hg hlk
     obtain rfl : a1 = low' + 1 := by
      have hg := HG4.out
      rw [if_pos HLK.out] at hg
      obtain ⟨x, hx, _, e1⟩ := zao hg
      cases e1
      obtain ⟨_, h1⟩ := stuck_all HST.out
      have := h1 x hx
      obtain ⟨_, g1, g2, _⟩ := HG.out.2 x hx
      omega
     have hrun' : (Instr.next (.pointer (some ⟨R, 0, none⟩)) false 0).run Try.prog wr = .ok (.tuple #[.bool true, .int .i64 k, .agg #[.int .i64 (low' + 1), .int .i64 a2, .int .i64 a3]]) w4 := hrun
     have hen' : (Instr.entry (.pointer (some ⟨R, 0, none⟩))).run Try.prog w4 = .ok (.tuple #[.int .i64 k, .agg #[.int .i64 (low' + 1), .int .i64 a2, .int .i64 a3]]) w4 := hen
     clear hrun hen
     have hlook : look L' k = some (low' + 1, a2, a3) := by
      have hg := HG4.out
      rw [if_pos HLK.out] at hg
      exact hg
     have hO4 : Kd.R (Kd.int .i64) 3 w4 w.heap.size (fun k => w.heap.size ≤ k) u3 (l ++ l1) := by
      have hne := iter_ne HR3.out HO3.out
      have h1 := Kd.R_flat (ok' := fun k => w.heap.size ≤ k ∧ k ≠ R) (fun h => h) HO3.out (fun k hk hok => ⟨hok, fun e => hne (by rw [← e]; exact hk.symm)⟩)
      exact Kd.R_mono (Kd.R_grown h1 hgr (fun k hk e => hk.2 (by cases e; rfl))) (fun k hk => hk.1)
     have hW4 := HW3.out.grown hgr (fun k e => by cases e; exact hRw) hlt.1
     have hF4 : Front w4 b m (low' + 1) := ⟨HF3.out.1, (hbl R (Nat.le_refl R)).block b (by omega) |>.trans HF3.out.2⟩
     obtain ⟨W5, hW5⟩ : ∃ W, W = w4.alloc (.cells #[.int .i64 (low' + 1), .int .i64 a2, .int .i64 a3] 48) := ⟨_, rfl⟩
     have hb5 : Below w4.heap.size w4 W5 := by rw [hW5]; exact zaf (Below.refl _ w4) _
     have hE5 : W5.heap[w4.heap.size]? = some (.cells #[.int .i64 (low' + 1), .int .i64 a2, .int .i64 a3] 48 (0, 0)) := by rw [hW5]; exact blk_new w4 _
     have HO5 := Aside0.mk (Kd.R_below hO4 hb5)
     have HW5 := Aside0.mk (hW4.step hb5 (by have := hW4.1.1; omega))
     have HR5 := Aside0.mk (hr4.keep hb5)
     have hF5 : Front W5 b m (low' + 1) := ⟨hF4.1, (hb5.block b (zak hF4.2)).trans hF4.2⟩
     have HK : Aside0 (∀ W, Below W5.heap.size W5 W → Front W b m (low' + 1) ∧ W.heap[w4.heap.size]? = some (.cells #[.int .i64 (low' + 1), .int .i64 a2, .int .i64 a3] 48 (0, 0)) ∧ RangeAt Try.prog 3 mkE W m R n (fun k => if left k = true then look L' k else (look L' k).map (renE (low' + 1))) (fun j => left j && !(j == k)) cnt' ∧ Kd.R (Kd.int .i64) 3 W w.heap.size (fun k => w.heap.size ≤ k) u3 (l ++ l1) ∧ Wrote b m w W) :=
      ⟨fun W hW => ⟨⟨hF5.1, (hW.block b (zak hF5.2)).trans hF5.2⟩, (hW.block _ (zak hE5)).trans hE5, HR5.out.keep hW, Kd.R_below HO5.out hW, HW5.out.step hW (zak hF5.2)⟩⟩
     have HLook := Aside0.mk hlook
     clear hlook hO4 hW4 hF4 hr4 hgr hbl hF5 hb5 HO5 HW5 HR5 hE5 f0 f1 f2
     by_cases hop : a2 > 0
     ·
      have d6 : decide (a2 > 0) = true := decide_eq_true hop
      have hren : renE (low' + 1) (low' + 1, a2, a3) = (low' + 1, a2, a3) := by unfold renE; rw [if_neg (by dsimp only; omega)]
      have HRen := Aside0.mk hren
      have HOp := Aside0.mk hop
      clear hren hop
      go_wp2_with fail
      rw [← hW5]
      clear hW5
      obtain ⟨k1, k2, _⟩ := HK.out W5 (Below.refl _ W5)
      obtain ⟨f0, f1, f2⟩ := k1.facts
      have c0 := (za k2 0).trans rfl
      have c1 := (za k2 1).trans rfl
      have c2 := (za k2 2).trans rfl
      clear k1 k2
      go_region_with (go_at_call 42; refine (zad.calls _ _ _ _ _ rfl).mono ?_; rw [d6]; rintro e w6 ⟨rfl, hb6⟩; have HB6 := Aside0.mk (((Below.refl W5.heap.size W5).drew).trans hb6); clear hb6; obtain ⟨k1, k2, _⟩ := HK.out w6 HB6.out; obtain ⟨f3, f4, f5⟩ := k1.facts; have c3 := (za k2 0).trans rfl; have c4 := (za k2 1).trans rfl; have c5 := (za k2 2).trans rfl; clear k1 k2)
      all_goals
       go_wp2
       go_roundg cnt'
       case measure => exact hlt4
       case rel =>
        obtain ⟨k3, k4, k5, k6, k7⟩ := HK.out w6 HB6.out
        refine ⟨_, l1, ⟨k6⟩, ⟨k5.ext fun j => ?_⟩, ⟨k3⟩, ⟨k7⟩, ⟨HL3.out.1, fun j => ?_⟩, by omega⟩
        ·
         by_cases e : j = k
         ·
          subst e
          simp [HLK.out, HLook.out, HRen.out]
         ·
          simp [e]
        ·
         rw [HL3.out.2 j]
         by_cases e : j = k
         ·
          subst e
          rw [HLK.out, HLook.out]
          constructor
          ·
           rintro ⟨h, _⟩
           cases h
          ·
           rintro ⟨_, x, hx, _, h2⟩
           cases hx
           have := HOp.out
           dsimp only at h2
           omega
         ·
          simp [e]
     ·
      have d6 : decide (a2 > 0) = false := decide_eq_false hop
      have hren : renE (low' + 1) (low' + 1, a2, a3) = (low' + 1 + 1, a3, a3) := by unfold renE; rw [if_pos (by dsimp only; omega)]
      have HRen := Aside0.mk hren
      have HOp := Aside0.mk hop
      have d7 : wrap64 (low' + 1 + 1) = low' + 1 + 1 := w64s (by omega) (by omega)
      clear hren hop
      go_wp2_with fail
      rw [← hW5]
      clear hW5
      obtain ⟨k1, k2, _⟩ := HK.out W5 (Below.refl _ W5)
      obtain ⟨f0, f1, f2⟩ := k1.facts
      have c0 := (za k2 0).trans rfl
      have c1 := (za k2 1).trans rfl
      have c2 := (za k2 2).trans rfl
      clear k1 k2
      go_region_with (go_at_call 42; refine (zad.calls _ _ _ _ _ rfl).mono ?_; rw [d6]; rintro e w6 ⟨rfl, hb6⟩; have HB6 := Aside0.mk (((Below.refl W5.heap.size W5).drew).trans hb6); clear hb6; obtain ⟨k1, k2, _⟩ := HK.out w6 HB6.out; obtain ⟨f3, f4, f5⟩ := k1.facts; have c3 := (za k2 0).trans rfl; have c4 := (za k2 1).trans rfl; have c5 := (za k2 2).trans rfl; clear k1 k2)
      all_goals
       clear f0 f1 f2 c0 c1 c2
       go_wp2
      all_goals
       go_region_with (go_at_call 43; refine (zaj.calls _ _ _ _ _ _ _ rfl).mono ?_; rw [d7]; rintro e w7 ⟨rfl, hb7⟩; have HB7 := Aside0.mk (zac HB6.out (((Below.refl w6.heap.size w6).drew).trans hb7)); clear hb7; obtain ⟨k1, k2, k3, _⟩ := HK.out w7 HB7.out; obtain ⟨f6, f7, f8⟩ := k1.facts; have c6 := (za k2 0).trans rfl; have c7 := (za k2 1).trans rfl; have c8 := (za k2 2).trans rfl; obtain ⟨w8, s1, s2, s3⟩ := k3.store (t := 76) (e := 48) mkE_inj Try.underlying3 Try.underlying76 wf (low' + 1 + 1, a3, a3) (by simp [HLK.out, HLook.out]); have s1' : (Instr.mapUpdate 76 (.map (some m)) (.int .i64 k) (.agg #[.int .i64 (low' + 1 + 1), .int .i64 a3, .int .i64 a3])).run Try.prog w7 = .ok () w8 := s1; have S2 := Aside0.mk s2; have S3 := Aside0.mk s3; clear k1 k2 k3 s1 s2 s3)
      all_goals
       obtain ⟨k1, _, k3, k4, k5⟩ := HK.out w7 HB7.out
       have hmR : m < w.heap.size := hlt.2
       have HF8 : Aside0 (Front w8 b m (low' + 1)) := ⟨⟨k1.1, (mapTurned_blk S3.out k1.1).trans k1.2⟩⟩
       have HO8 : Aside0 (Kd.R (Kd.int .i64) 3 w8 w.heap.size (fun k => w.heap.size ≤ k) u3 (l ++ l1)) := ⟨Kd.R_grown k4 S3.out.grown (fun j hj e => by cases e; omega)⟩
       have HW8 := Aside0.mk (k5.turned S3.out)
       have hsz8 := HW8.out.1.1
       have hll : l.length ≤ L.length := by
        by_cases h2 : gq + 1 = 2
        ·
         rw [(HL.out.1 h2).1]
         exact Nat.zero_le _
        ·
         rw [(HL.out.2 (by omega)).length_eq]
         exact spent_len low L
       have hll2 : (l ++ l1).length + 1 < 2000002 := by rw [List.length_append]; omega
       have HLL := Aside0.mk hll2
       clear k1 k3 k4 k5 hll2 c3 c4 c5 f3 f4 f5 c6 c7 c8 f6 f7 f8 s1'
       go_wp2_with (first | ((with_reducible refine gate_builtin (b := .append) (xs := #[.tmp 44, .tmp 46]) rfl ?_); at_builtin; refine Kd.R_append (Kd.int .i64) (w0 := w8) w.heap.size rfl (.tmp 44) (.tmp 46) 26 3 (.int .i64 0) 8 rfl Try.underlying26 info3 rfl (by decide) (by omega) u3 (l ++ l1) k [.int .i64 k] (fun k_ => w.heap.size ≤ k_) (fun _ => False) rfl rfl rfl (fun _ hk => hk.elim) (fun k_ hk => Nat.le_trans hsz8 hk) HO8.out (Below.refl _ _) hsz8 (by have := HLL.out; omega) ?_; intro v9 w9 ho9 hb9 hg9 hat9; have HO9 := Aside0.mk ho9; have HG9 := Aside0.mk hg9; clear ho9 hb9 hg9 hat9))
       go_roundg cnt'
       case measure => exact hlt4
       case rel =>
        have hown := HO8.out.1
        refine ⟨_, l1 ++ [k], ⟨by rw [← List.append_assoc]; exact HO9.out⟩, ⟨(S2.out.grown HG9.out (fun e => by have := hown m e.symm; omega) (iter_ne S2.out HO8.out)).ext fun j => ?_⟩, ⟨⟨HF8.out.1, (HG9.out.block b (zak HF8.out.2) (fun e => by have := hown b e.symm; omega)).trans HF8.out.2⟩⟩, ⟨HW8.out.grown HG9.out (fun j e => hown j e) hlt.1⟩, ⟨?_, fun j => ?_⟩, by rw [List.length_append, List.length_singleton]; omega⟩
        ·
         by_cases e : j = k
         ·
          subst e
          simp [HLook.out, HRen.out]
         ·
          simp [e]
        ·
         refine List.nodup_append.2 ⟨HL3.out.1, by simp, fun x hx y hy => ?_⟩
         simp only [List.mem_singleton] at hy
         subst hy
         intro e
         subst e
         have := ((HL3.out.2 x).1 hx).1
         rw [HLK.out] at this
         cases this
        ·
         rw [List.mem_append, HL3.out.2 j, List.mem_singleton]
         by_cases e : j = k
         ·
          subst e
          constructor
          ·
           intro _
           exact ⟨by simp, _, HLook.out, rfl, by have := HOp.out; dsimp only; omega⟩
          ·
           intro _
           exact .inr rfl
         ·
          simp [e]
def upd (k : Int) (e : E3) (L : List S86) : List S86 := L.map fun x => if x.f0 = k then ⟨k, e.1, e.2.1, e.2.2⟩ else x
theorem upd_id (k : Int) (e : E3) (x : S86) : (if x.f0 = k then (⟨k, e.1, e.2.1, e.2.2⟩ : S86) else x).f0 = x.f0 := by
 split
 ·
  rename_i h
  exact h.symm
 ·
  rfl
theorem look_upd {k : Int} {e : E3} {L : List S86} (h : (look L k).isSome = true) (j : Int) : look (upd k e L) j = if j = k then some e else look L j := by
 unfold look upd
 rw [List.find?_map]
 have : ((fun x : S86 => x.f0 == j) ∘ fun x => if x.f0 = k then (⟨k, e.1, e.2.1, e.2.2⟩ : S86) else x) = fun x => x.f0 == j := by
  funext x
  simp only [Function.comp]
  rw [upd_id]
 rw [this]
 by_cases ej : j = k
 ·
  subst ej
  rw [if_pos rfl]
  cases hf : L.find? (fun x => x.f0 == j) with
  | none =>
   unfold look at h
   rw [hf] at h
   cases h
  | some x =>
   have h2 : x.f0 = j := by simpa using List.find?_some hf
   simp [h2]
 ·
  rw [if_neg ej]
  cases hf : L.find? (fun x => x.f0 == j) with
  | none => rfl
  | some x =>
   have h2 : x.f0 = j := by simpa using List.find?_some hf
   have h3 : ¬ x.f0 = k := by omega
   simp [h3]
theorem Ids.upd {L : List S86} (h : Ids L) (k : Int) (e : E3) : Ids (upd k e L) := by
 unfold Ids P.upd
 rw [List.pairwise_map]
 exact h.imp (fun {a b} h => by rw [upd_id, upd_id]; exact h)
theorem GoodB.upd {low : Int} {L : List S86} (h : GoodB low L) (k : Int) (e : E3) (he : (look L k).isSome = true → GoodE low ⟨k, e.1, e.2.1, e.2.2⟩) : GoodB low (upd k e L) := by
 refine ⟨h.1.upd k e, fun x hx => ?_⟩
 obtain ⟨y, hy, rfl⟩ := List.mem_map.1 hx
 by_cases c : y.f0 = k
 ·
  rw [if_pos c]
  exact he (look_is ⟨y, hy, c⟩)
 ·
  rw [if_neg c]
  exact h.2 y hy
theorem upd_len (k : Int) (e : E3) (L : List S86) : (upd k e L).length = L.length := List.length_map _
def insL (x : S86) : List S86 → List S86
 | [] => [x]
 | a :: r => if a.f0 < x.f0 then a :: insL x r else x :: a :: r
theorem insL_mem {x y : S86} : ∀ {L : List S86}, y ∈ insL x L ↔ y = x ∨ y ∈ L
 | [] => by simp [insL]
 | a :: r => by
  unfold insL
  split
  ·
   rw [List.mem_cons, insL_mem, List.mem_cons]
   constructor
   ·
    rintro (h | h | h)
    ·
     exact .inr (.inl h)
    ·
     exact .inl h
    ·
     exact .inr (.inr h)
   ·
    rintro (h | h | h)
    ·
     exact .inr (.inl h)
    ·
     exact .inl h
    ·
     exact .inr (.inr h)
  ·
   simp
theorem insL_len (x : S86) : ∀ L : List S86, (insL x L).length = L.length + 1
 | [] => rfl
 | a :: r => by
  unfold insL
  split
  ·
   simp [insL_len x r]
  ·
   rfl
theorem Ids.ins {x : S86} : ∀ {L : List S86}, Ids L → (∀ y ∈ L, y.f0 ≠ x.f0) → Ids (insL x L)
 | [], _, _ => List.pairwise_singleton _ _
 | a :: r, h, hn => by
  obtain ⟨h1, h2⟩ := List.pairwise_cons.1 h
  unfold insL
  split
  ·
   rename_i c
   refine List.pairwise_cons.2 ⟨fun y hy => ?_, Ids.ins h2 (fun y hy => hn y (List.mem_cons_of_mem _ hy))⟩
   rcases insL_mem.1 hy with rfl | hy
   ·
    exact c
   ·
    exact h1 y hy
  ·
   rename_i c
   have hxa : x.f0 < a.f0 := by
    have := hn a List.mem_cons_self
    omega
   refine List.pairwise_cons.2 ⟨fun y hy => ?_, h⟩
   rcases List.mem_cons.1 hy with rfl | hy
   ·
    exact hxa
   ·
    have := h1 y hy
    omega
theorem look_ext {L : List S86} (h : Ids L) {g : Int → Option E3} (h1 : ∀ x ∈ L, g x.f0 = some (x.f1, x.f2, x.f3)) (h2 : ∀ k e, g k = some e → ∃ x ∈ L, x.f0 = k) (k : Int) : look L k = g k := by
 cases hl : look L k with
 | none =>
  cases hg : g k with
  | none => rfl
  | some e =>
   obtain ⟨x, hx, e1⟩ := h2 k e hg
   exact absurd e1 (look_none hl x hx)
 | some e =>
  obtain ⟨x, hx, rfl, rfl⟩ := zao hl
  exact (h1 x hx).symm
theorem look_ins {L : List S86} (h : Ids L) {x : S86} (hn : look L x.f0 = none) (k : Int) : look (insL x L) k = if k = x.f0 then some (x.f1, x.f2, x.f3) else look L k := by
 refine look_ext (g := fun k => if k = x.f0 then some (x.f1, x.f2, x.f3) else look L k) (h.ins (look_none hn)) (fun y hy => ?_) (fun j e hj => ?_) k
 ·
  rcases insL_mem.1 hy with rfl | hy
  ·
   rw [if_pos rfl]
  ·
   rw [if_neg (look_none hn y hy), look_mem h hy]
 ·
  by_cases c : j = x.f0
  ·
   exact ⟨x, insL_mem.2 (.inl rfl), c.symm⟩
  ·
   rw [if_neg c] at hj
   obtain ⟨y, hy, e1, _⟩ := zao hj
   exact ⟨y, insL_mem.2 (.inr hy), e1⟩
theorem GoodB.ins {low : Int} {L : List S86} (h : GoodB low L) {x : S86} (hn : look L x.f0 = none) (he : GoodE low x) : GoodB low (insL x L) :=
 ⟨h.1.ins (look_none hn), fun y hy => by
  rcases insL_mem.1 hy with rfl | hy
  ·
   exact he
  ·
   exact h.2 y hy⟩
def delL (k : Int) (L : List S86) : List S86 := L.filter fun x => !(x.f0 == k)
theorem GoodB.del {low : Int} {L : List S86} (h : GoodB low L) (k : Int) : GoodB low (delL k L) := ⟨h.1.filter _, fun y hy => h.2 y (List.mem_filter.1 hy).1⟩
theorem mn_le (a b : Int) : mn a b ≤ a ∧ mn a b ≤ b ∧ (mn a b = a ∨ mn a b = b) := by
 unfold mn
 split <;> omega
theorem inE_good {low k tag left slice : Int} (wf : (Lit.int .i64 k).wf = true) (hs : 1 ≤ slice ∧ slice ≤ 1000) (hl : 0 ≤ left) (ht : 0 ≤ tag ∧ tag ≤ low + 1) : GoodE low ⟨k, (inE low tag left slice).1, (inE low tag left slice).2.1, (inE low tag left slice).2.2⟩ := by
 have := mn_le left slice
 unfold inE
 split
 ·
  exact ⟨wf, by dsimp only; omega, by dsimp only; omega, by dsimp only; omega, Int.le_refl _, by dsimp only; omega, by dsimp only; omega, fun h => by dsimp only at h; omega⟩
 ·
  split
  ·
   exact ⟨wf, by dsimp only; omega, by dsimp only; omega, by dsimp only; omega, by dsimp only; omega, by dsimp only; omega, by dsimp only; omega, fun h => by dsimp only at h; omega⟩
  ·
   split
   ·
    exact ⟨wf, by dsimp only; omega, by dsimp only; omega, by dsimp only; omega, Int.le_refl _, by dsimp only; omega, by dsimp only; omega, fun h => by dsimp only at h; omega⟩
   ·
    exact ⟨wf, by dsimp only; omega, by dsimp only; omega, by dsimp only; omega, by dsimp only; omega, by dsimp only; omega, by dsimp only; omega, fun h => by dsimp only; omega⟩
theorem chE_good {low k tag left slice : Int} (h : GoodE low ⟨k, tag, left, slice⟩) (hl : 0 < left) : GoodE low ⟨k, (chE low tag left slice).1, (chE low tag left slice).2.1, (chE low tag left slice).2.2⟩ := by
 obtain ⟨g0, g1, g2, g3, g4, g5, g6, g7⟩ := h
 dsimp only at g0 g1 g2 g3 g4 g5 g6 g7
 unfold chE
 split
 ·
  exact ⟨g0, g1, g2, by dsimp only; omega, by dsimp only; omega, g5, g6, fun h => by dsimp only at h; omega⟩
 ·
  split
  ·
   exact ⟨g0, by dsimp only; omega, by dsimp only; omega, by dsimp only; omega, Int.le_refl _, g5, g6, fun h => by dsimp only at h; omega⟩
  ·
   exact ⟨g0, g1, g2, by dsimp only; omega, by dsimp only; omega, g5, g6, fun h => by dsimp only; omega⟩
def Bk (w : World) (b m n : Nat) (low : Int) (L : List S86) : Prop := BookAt w b m n low (look L)
theorem BookAt.ext {w : World} {b m n : Nat} {low : Int} {g g' : Int → Option E3} (h : BookAt w b m n low g) (e : ∀ k, g' k = g k) : BookAt w b m n low g' := ⟨h.1, h.2.1, h.2.2.ext e⟩
theorem Bk_Enter {w : World} {b m n : Nat} {low : Int} {L : List S86} (h : Bk w b m n low L) (hG : GoodB low L) (hlow : 0 < low ∧ low < 1000000) (hn : n < 1000000) {k : Int} (wf : (Lit.int .i64 k).wf = true) (tag left slice : Int) (hk : look L k = none) (hs : 1 ≤ slice ∧ slice ≤ 1000) (hl : 0 ≤ left) (ht : 0 ≤ tag ∧ tag ≤ low + 1) :
  Calls Try.prog 15 #[.pointer (some ⟨b, 0, none⟩), .int .i64 k, .int .i64 tag, .int .i64 left, .int .i64 slice] w fun e w' => e = .returned (.int .i64 0) ∧ Bk w' b m (n + 1) low (insL ⟨k, (inE low tag left slice).1, (inE low tag left slice).2.1, (inE low tag left slice).2.2⟩ L) ∧ GoodB low (insL ⟨k, (inE low tag left slice).1, (inE low tag left slice).2.1, (inE low tag left slice).2.2⟩ L) ∧ Wrote b m w w' := by
 refine (book_Enter_ok h hlow hn wf tag left slice hk hs hl ht).mono ?_
 rintro e w' ⟨rfl, hb, hw⟩
 exact ⟨rfl, BookAt.ext hb fun j => look_ins hG.1 hk j, hG.ins hk (inE_good wf hs hl ht), hw⟩
theorem Bk_Charge {w : World} {b m n : Nat} {low : Int} {L : List S86} (h : Bk w b m n low L) (hG : GoodB low L) (hlow : 0 < low ∧ low < 999999) (hn : n < 1000000) {k : Int} (tag left slice : Int) (hk : look L k = some (tag, left, slice)) (hl : 0 < left) :
  Calls Try.prog 16 #[.pointer (some ⟨b, 0, none⟩), .int .i64 k] w fun e w' => e = .returned (.tuple #[.bool (!decide (left - 1 > 0)), .int .i64 0]) ∧ Bk w' b m (n + 1) low (upd k (chE low tag left slice) L) ∧ GoodB low (upd k (chE low tag left slice) L) ∧ Wrote b m w w' := by
 obtain ⟨x, hx, rfl, he⟩ := zao hk
 cases he
 obtain ⟨g0, g1, g2, g3, g4, g5, g6, g7⟩ := hG.2 x hx
 refine (book_Charge_ok h hn g0 x.f1 x.f2 x.f3 hk ⟨hl, by omega⟩ (by omega)).mono ?_
 rintro e w' ⟨rfl, hb, hw⟩
 have hs : (look L x.f0).isSome = true := by rw [hk]; rfl
 exact ⟨rfl, BookAt.ext hb fun j => look_upd hs j, hG.upd _ _ fun _ => chE_good (hG.2 x hx) hl, hw⟩
theorem awake12_ok (w : World) : Calls Try.prog 13 #[] w fun e w' => e = .returned (.bool true) ∧ Below w.heap.size w w' := by
 have g0 : GoodB 1 [] := ⟨List.Pairwise.nil, fun e h => by cases h⟩
 have G0 := Aside0.mk g0
 clear g0
 go_enter Try.func13, Try.ntmps13
 go_wp2_with fail
 go_at_call 14
 refine (book_New_ok w).mono ?_
 rintro e w1 ⟨b, m, rfl, hb, hm, hbk, hw⟩
 have HB := Aside0.mk hb
 have HM := Aside0.mk hm
 have HK1 : Aside0 (Bk w1 b m 0 1 []) := ⟨BookAt.ext hbk fun _ => rfl⟩
 have HW1 := Aside0.mk hw
 clear hb hm hbk hw
 go_wp2_with fail
 refine (Bk_Enter HK1.out G0.out (by decide) (by decide) (by decide) 0 0 1 rfl (by decide) (by decide) (by decide)).mono ?_
 rintro e w2 ⟨rfl, hk, hg, hw⟩
 have HK2 : Aside0 (Bk w2 b m 1 1 [⟨1, 1, 1, 1⟩]) := ⟨hk⟩
 have G2 : Aside0 (GoodB 1 [⟨1, 1, 1, 1⟩]) := ⟨hg⟩
 have HW2 := Aside0.mk (HW1.out.trans (hw.2 _ HB.out HM.out))
 clear hk hg hw
 go_wp2_with fail
 refine (Bk_Enter HK2.out G2.out (by decide) (by decide) (by decide) 0 0 1 rfl (by decide) (by decide) (by decide)).mono ?_
 rintro e w3 ⟨rfl, hk, hg, hw⟩
 have HK3 : Aside0 (Bk w3 b m 2 1 [⟨1, 1, 1, 1⟩, ⟨2, 1, 1, 1⟩]) := ⟨hk⟩
 have G3 : Aside0 (GoodB 1 [⟨1, 1, 1, 1⟩, ⟨2, 1, 1, 1⟩]) := ⟨hg⟩
 have HW3 := Aside0.mk (HW2.out.trans (hw.2 _ HB.out HM.out))
 clear hk hg hw
 go_wp2_with fail
 go_at_call 16
 refine (Bk_Charge HK3.out G3.out (by decide) (by decide) (k := 1) 1 1 1 rfl (by decide)).mono ?_
 rintro e w4 ⟨rfl, hk, hg, hw⟩
 have HK4 : Aside0 (Bk w4 b m 3 1 [⟨1, 2, 1, 1⟩, ⟨2, 1, 1, 1⟩]) := ⟨hk⟩
 have G4 : Aside0 (GoodB 1 [⟨1, 2, 1, 1⟩, ⟨2, 1, 1, 1⟩]) := ⟨hg⟩
 have HW4 := Aside0.mk (HW3.out.trans (hw.2 _ HB.out HM.out))
 clear hk hg hw
 go_wp2_with fail
 go_at_call 16
 refine (Bk_Charge HK4.out G4.out (by decide) (by decide) (k := 1) 2 1 1 rfl (by decide)).mono ?_
 rintro e w5 ⟨rfl, hk, hg, hw⟩
 have HK5 : Aside0 (Bk w5 b m 4 1 [⟨1, 2, 0, 1⟩, ⟨2, 1, 1, 1⟩]) := ⟨hk⟩
 have G5 : Aside0 (GoodB 1 [⟨1, 2, 0, 1⟩, ⟨2, 1, 1, 1⟩]) := ⟨hg⟩
 have HW5 := Aside0.mk (HW4.out.trans (hw.2 _ HB.out HM.out))
 clear hk hg hw
 go_wp2_with fail
 go_at_call 16
 refine (Bk_Charge HK5.out G5.out (by decide) (by decide) (k := 2) 1 1 1 rfl (by decide)).mono ?_
 rintro e w6 ⟨rfl, hk, hg, hw⟩
 have HK6 : Aside0 (Bk w6 b m 5 1 [⟨1, 2, 0, 1⟩, ⟨2, 2, 1, 1⟩]) := ⟨hk⟩
 have G6 : Aside0 (GoodB 1 [⟨1, 2, 0, 1⟩, ⟨2, 2, 1, 1⟩]) := ⟨hg⟩
 have HW6 := Aside0.mk (HW5.out.trans (hw.2 _ HB.out HM.out))
 clear hk hg hw
 go_wp2_with fail
 go_at_call 18
 refine (book_Settle_ok HK6.out G6.out (by decide) (by decide) (by decide)).mono ?_
 rintro e w7 ⟨v, rfl, _, hk, hw⟩
 have HK7 : Aside0 (BookAt w7 b m 5 2 (look [⟨1, 3, 1, 1⟩, ⟨2, 2, 1, 1⟩])) := ⟨hk⟩
 have HW7 := Aside0.mk (HW6.out.trans (hw.2 _ HB.out HM.out))
 clear hk hw
 go_wp2_with fail
 go_at_call 24
 refine (book_Entry_ok HK7.out (by decide)).mono ?_
 rw [show look [⟨1, 3, 1, 1⟩, ⟨2, 2, 1, 1⟩] 1 = some (3, 1, 1) from rfl]
 dsimp only [ent, entCode, Option.getD]
 rintro e w8 ⟨rfl, hw⟩
 have HK8 := Aside0.mk (HK7.out.keep hw)
 have HW8 := Aside0.mk (zac HW7.out hw)
 clear hw
 go_wp2_with fail
 have HK9 := Aside0.mk (HK8.out.keep (zaf (Below.refl _ w8) (.cells #[.int .i64 3, .int .i64 1, .int .i64 1] 48)))
 have HW9 := Aside0.mk (zaf HW8.out (.cells #[.int .i64 3, .int .i64 1, .int .i64 1] 48))
 have hE := blk_new w8 (.cells #[.int .i64 3, .int .i64 1, .int .i64 1] 48)
 refine (book_Low_ok HK9.out).mono ?_
 rintro e w10 ⟨rfl, hd⟩
 have HW10 := Aside0.mk (zac HW9.out hd.below)
 have hE2 := (hd.below.block _ (zak hE)).trans hE
 have c0 := (za hE2 0).trans rfl
 have c1 := (za hE2 1).trans rfl
 clear hd hE hE2
 go_wp2_with fail
 go_ret
 exact ⟨rfl, HW10.out⟩
theorem RowC.only {w w' : World} {g b m : Nat} {l : List Int} (h : RowC w g l) (ho : Only b m w w') (h1 : g ≠ b) (h2 : g ≠ m) : RowC w' g l := by
 have hb := ho.2 g h.1 h1 h2
 refine ⟨Nat.lt_of_lt_of_le h.1 ho.1, fun i hi => ?_⟩
 obtain ⟨h3, h4⟩ := h.2 i hi
 unfold World.cell? at h3 ⊢
 unfold World.frozen? at h4 ⊢
 rw [hb]
 exact ⟨h3, h4⟩
theorem RowC_keep {w w' : World} {g : Nat} {l : List Int} (h : RowC w g l) (hb : Below w.heap.size w w') : RowC w' g l :=
 ⟨Nat.lt_of_lt_of_le h.1 hb.size, fun i hi => by
  obtain ⟨h1, h2⟩ := h.2 i hi
  rw [hb.cell (show (Addr.mk g i none).block < w.heap.size from h.1), hb.frozen (show (Addr.mk g i none).block < w.heap.size from h.1)]
  exact ⟨h1, h2⟩⟩
def Had (s h : Int) (e : E3) : Prop := e.2.2 = s ∧ h = (e.1 - 1) * s + (s - e.2.1)
theorem mul_one_more (t s : Int) : (t + 1 - 1) * s = (t - 1) * s + s := by
 rw [show t + 1 - 1 = (t - 1) + 1 by omega, Int.add_mul, Int.one_mul]
theorem Had.ren {s h low : Int} {e : E3} (hh : Had s h e) (h0 : 0 ≤ e.2.1) : Had s h (renE low e) := by
 obtain ⟨h1, h2⟩ := hh
 unfold renE
 split
 ·
  rename_i c
  refine ⟨h1, ?_⟩
  dsimp only
  have := mul_one_more e.1 s
  omega
 ·
  exact ⟨h1, h2⟩
theorem Had.charge {s h low : Int} {tag left slice : Int} (hh : Had s h (tag, left, slice)) (h0 : 0 < left) : Had s (h + 1) (chE low tag left slice) := by
 obtain ⟨h1, h2⟩ := hh
 dsimp only at h1 h2
 unfold chE
 split
 ·
  exact ⟨h1, by dsimp only; omega⟩
 ·
  split
  ·
   refine ⟨h1, ?_⟩
   dsimp only
   have := mul_one_more tag s
   omega
  ·
   exact ⟨h1, by dsimp only; omega⟩
theorem Had.bound {s h low : Int} {e : E3} (hh : Had s h e) (h1 : low ≤ e.1 ∧ e.1 ≤ low + 1) (h2 : 0 ≤ e.2.1 ∧ e.2.1 ≤ e.2.2) : (low - 1) * s ≤ h ∧ h ≤ (low + 1) * s := by
 obtain ⟨h3, h4⟩ := hh
 have e1 : (low + 1) * s = (low - 1) * s + s + s := by
  rw [show low + 1 = (low - 1) + 1 + 1 by omega, Int.add_mul, Int.add_mul, Int.one_mul]
 have e2 : (low + 1 - 1) * s = (low - 1) * s + s := mul_one_more low s
 have h5 : e.1 = low ∨ e.1 = low + 1 := by omega
 rcases h5 with h5 | h5
 ·
  rw [h5] at h4
  omega
 ·
  rw [h5] at h4
  omega
theorem settle_all {P : Int → E3 → Prop} (hP : ∀ k e low, P k e → 0 ≤ e.2.1 → P k (renE low e)) : ∀ (q : Nat) (low : Int) (L : List S86), GoodB low L → (∀ k e, look L k = some e → P k e) → ∀ k e, look (settleF q low L).2 k = some e → P k e
 | 0, _, _, _, h => h
 | q + 1, low, L, hG, h => by
  unfold settleF
  split
  ·
   rename_i hs
   refine settle_all hP q (low + 1) _ (hG.step hs).1 fun k e he => ?_
   rw [look_ren] at he
   obtain ⟨x, hx, rfl⟩ := Option.map_eq_some_iff.1 he
   obtain ⟨y, hy, _, rfl⟩ := zao hx
   exact hP _ _ _ (h _ _ hx) (hG.2 y hy).2.2.2.1
  ·
   exact h
theorem settle_there (q : Nat) (low : Int) (L : List S86) (k : Int) : (look (settleF q low L).2 k).isSome = (look L k).isSome := by
 induction q generalizing low L with
 | zero => rfl
 | succ q ih =>
  unfold settleF
  split
  ·
   rw [ih, look_ren]
   cases look L k <;> rfl
  ·
   rfl
theorem look_in {L : List S86} {k : Int} {e : E3} (h : look L k = some e) {low : Int} (hG : GoodB low L) : low ≤ e.1 ∧ e.1 ≤ low + 1 ∧ 0 ≤ e.2.1 ∧ e.2.1 ≤ e.2.2 ∧ e.2.2 ≤ 1000 := by
 obtain ⟨x, hx, _, rfl⟩ := zao h
 obtain ⟨g0, g1, g2, g3, g4, g5, g6, g7⟩ := hG.2 x hx
 exact ⟨g1, g2, g3, g4, g6⟩
theorem BookAt.drewN {w : World} {b m n : Nat} {low : Int} {g : Int → Option E3} (h : BookAt w b m n low g) (q : Nat) : BookAt (w.drewN q) b m n low g := h
theorem book_Low_same {w : World} {b m n : Nat} {low : Int} {g : Int → Option E3} (h : BookAt w b m n low g) :
  Calls Try.prog 19 #[.pointer (some ⟨b, 0, none⟩)] w fun e w' => e = .returned (.int .i64 low) ∧ w' = w := by
 obtain ⟨f0, f1, f2⟩ := h.facts
 have H := Aside0.mk h
 clear h
 go_enter Try.func19, Try.ntmps19
 go_wp2_with fail
 go_ret
 exact ⟨rfl, rfl⟩
theorem Bk_Open {w : World} {b m n : Nat} {low : Int} {L : List S86} (h : Bk w b m n low L) {k : Int} (wf : (Lit.int .i64 k).wf = true) {tag left slice : Int} (hk : look L k = some (tag, left, slice)) (hl : left ≤ 0) :
  Calls Try.prog 17 #[.pointer (some ⟨b, 0, none⟩), .int .i64 k] w fun e w' => e = .returned (.bool false) ∧ Below w.heap.size w w' := by
 refine (book_Open_ok h wf).mono ?_
 rintro e w' ⟨rfl, hb⟩
 refine ⟨?_, hb⟩
 rw [hk, show decide ((ent (some (tag, left, slice))).2.1 > 0) = false from decide_eq_false (by show ¬ left > 0; omega)]
theorem RoundTurns_ok (A1 A2 : Option Addr) (n cap1 len cap2 : Nat) (f1 f2 : Nat → Nat) (w : World) (hR1 : BytesAt w A1 n f1) (hR2 : BytesAt w A2 len f2) (hn : 1 ≤ n ∧ n ≤ 8) (hlen : len ≤ 300) :
  Calls Try.prog 3 #[.slice A1 n cap1, .slice A2 len cap2] w fun e w' => e = .returned (.bool true) ∧ Below w.heap.size w w' := by
 have HR1 := Aside0.mk hR1
 have HR2 := Aside0.mk hR2
 have d1 : ((n : Int) == 0) = false := beq_eq_false_iff_ne.mpr (by omega)
 have d2 : decide ((n : Int) > 8) = false := decide_eq_false (by omega)
 have d3 : decide ((len : Int) > 300) = false := decide_eq_false (by omega)
 have hmk := print_make (P := Try.prog) 26 3 .i64 8 Try.underlying26 (by kernel_rfl) (by decide) n (by omega)
 clear hR1 hR2
 go_enter Try.func3, Try.ntmps3
 go_wp2_with fail
 go_at_call 13
 refine (awake12_ok w).mono ?_
 rintro e w0 ⟨rfl, hw0⟩
 have HW0 := Aside0.mk hw0
 clear hw0
 go_wp2_with fail
 go_at_call 14
 refine (book_New_ok w0).mono ?_
 rintro e w1 ⟨b, m, rfl, hb, hm, hbk, hw⟩
 have hsz0 := HW0.out.size
 have hbm : b ≠ m := hbk.1
 have hlt1 := hbk.lt
 have HK1 : Aside0 (Bk w1 b m 0 1 []) := ⟨BookAt.ext hbk fun _ => rfl⟩
 have HW1 := Aside0.mk (zac HW0.out hw)
 clear hbk hw
 go_wp2_with fail
 have HK2 : Aside0 (Bk (w1.alloc (.cells (madeCells #[.int .i64 0] n) 3)) b m 0 1 []) := ⟨BookAt.keep HK1.out (zaf (Below.refl _ w1) _)⟩
 have HW2 := Aside0.mk (zaf HW1.out (.cells (madeCells #[.int .i64 0] n) 3))
 have HH2 : Aside0 (RowC (w1.alloc (.cells (madeCells #[.int .i64 0] n) 3)) w1.heap.size (List.replicate n 0)) := ⟨by
  have hh := blk_new w1 (.cells (madeCells #[.int .i64 0] n) 3)
  refine ⟨zak hh, fun i hi => ⟨?_, zaa hh i⟩⟩
  rw [List.length_replicate] at hi
  rw [za hh i, made_map]
  simp [hi]⟩
 generalize w1.alloc (.cells (madeCells #[.int .i64 0] n) 3) = W1 at HK2 HW2 HH2 ⊢
 generalize w1.heap.size = gh at HH2 hlt1 ⊢
 clear HK1 HW1
 go_loopg [41] n (fun gk v41 w' => ∃ (i : Nat) (L : List S86), v41 = .int .i64 (i : Int) ∧ i + gk = n ∧ Aside0 (Bk w' b m i 1 L) ∧ Aside0 (GoodB 1 L) ∧ L.length = i ∧ Aside0 (∀ j : Nat, j < i → ∃ e, look L ((j : Int) + 1) = some e ∧ Had (1 + ((f1 j % 9 : Nat) : Int)) 0 e) ∧ Aside0 (∀ k : Int, (i : Int) < k → look L k = none) ∧ Aside0 (RowC w' gh (List.replicate n 0)) ∧ Aside0 (Below w.heap.size w w'))
 case atStart => exact ⟨0, [], by go_num, by omega, HK2, ⟨⟨List.Pairwise.nil, fun e h => by cases h⟩⟩, rfl, ⟨fun j hj => absurd hj (by omega)⟩, ⟨fun k _ => rfl⟩, HH2, HW2⟩
 case round =>
  obtain ⟨i, L, rfl, hi, HK3, HG3, hL, HJ3, HN3, HH3, HW3⟩ := hrel
  cases gk with
  | zero =>
   obtain rfl : i = n := by omega
   have d4 : decide ((i : Int) < (i : Int)) = false := decide_eq_false (by omega)
   go_wp2_with fail
   go_loopg [58] len (fun gk v58 w' => ∃ (q : Nat) (low : Int) (L : List S86) (hl : List Int), v58 = .int .i64 (q : Int) ∧ q + gk = len ∧ Aside0 (Bk w' b m (i + q) low L) ∧ Aside0 (GoodB low L) ∧ L.length = i ∧ (1 ≤ low ∧ low ≤ 1 + 2 * (q : Int)) ∧ Aside0 (∀ j : Nat, j < i → ∃ e, look L ((j : Int) + 1) = some e ∧ Had (1 + ((f1 j % 9 : Nat) : Int)) (hl.getD j 0) e) ∧ hl.length = i ∧ Aside0 (∀ j : Nat, j < i → 0 ≤ hl.getD j 0 ∧ hl.getD j 0 ≤ (q : Int)) ∧ Aside0 (RowC w' gh hl) ∧ Aside0 (Below w.heap.size w w'))
   case atStart =>
    refine ⟨0, 1, L, List.replicate i 0, by go_num, by omega, HK3, HG3, hL, by omega, ⟨fun j hj => ?_⟩, by simp, ⟨fun j hj => ?_⟩, HH3, HW3⟩
    ·
     obtain ⟨e, h1, h2⟩ := HJ3.out j hj
     exact ⟨e, h1, by simpa [hj] using h2⟩
    ·
     simp [hj]
   case round =>
    obtain ⟨q, low, L, hl, rfl, hq, HK4, HG4, hL4, hlow, HJ4, hhl, HB4, HH4, HW4⟩ := hrel
    cases gk with
    | zero =>
     obtain rfl : q = len := by omega
     have d5 : decide ((q : Int) < (q : Int)) = false := decide_eq_false (by omega)
     go_wp2_with fail
     go_ret
     exact ⟨rfl, HW4.out⟩
    | succ g2 =>
     have d5 : decide ((q : Int) < (len : Int)) = true := decide_eq_true (by omega)
     obtain ⟨ad, eA, hblk, c0, hf⟩ := HR2.out.below HW4.out q (by omega)
     subst eA
     generalize hX : f2 q = X at c0 hf
     clear hX
     obtain ⟨p, hp⟩ : ∃ p, p = X % i := ⟨_, rfl⟩
     have hpi : p < i := by rw [hp]; exact Nat.mod_lt _ (by omega)
     have e1 : (X : Int) % (i : Int) = (p : Int) := by rw [hp]; simp
     obtain ⟨⟨tag, left, slice⟩, hlk, hhad⟩ := HJ4.out p hpi
     have hlim := look_in hlk HG4.out
     dsimp only at hlim
     have HLK := Aside0.mk hlk
     have HHad := Aside0.mk hhad
     have HP := Aside0.mk hp
     clear hlk hhad hp
     go_wp2_with fail
     go_at_call 16
     rcases (Int.lt_or_le 0 left) with hleft | hleft
     all_goals
      first
      | (
        refine (Bk_Charge HK4.out HG4.out (by omega) (by omega) (k := (p : Int) + 1) tag left slice HLK.out hleft).mono ?_
        generalize (!decide (left - 1 > 0)) = ov
        rintro e w5 ⟨rfl, hk, hg, hw⟩
        have HK5 := Aside0.mk hk
        have HG5 := Aside0.mk hg
        have HW5 := Aside0.mk (HW4.out.trans (hw.2 _ (by omega) (by omega)))
        have HH5 := Aside0.mk (RowC.only HH4.out hw.1 (by omega) (by omega))
        obtain ⟨r0, r1⟩ := HH5.out.2 p (by omega)
        have hBp := HB4.out p hpi
        have HHad2 := HHad.out.charge (low := low) hleft
        generalize hy : hl.getD p 0 = y at r0 hBp HHad2
        have d6 : wrap64 (y + 1) = y + 1 := w64s (by omega) (by omega)
        have HY := Aside0.mk hy
        have HHad3 := Aside0.mk HHad2
        clear HHad2 hy hk hg hw
        go_wp2_with fail
        have HK6 : Aside0 (Bk (w5.setCell ⟨gh, p, none⟩ (.int .i64 (y + 1))) b m (i + q + 1) low (upd ((p : Int) + 1) (chE low tag left slice) L)) := ⟨BookAt.other HK5.out (by omega) (by omega) _⟩
        have HW6 := Aside0.mk (HW5.out.setCell (p := ⟨gh, p, none⟩) (show w.heap.size ≤ gh by omega) (.int .i64 (y + 1)))
        have HH6 : Aside0 (RowC (w5.setCell ⟨gh, p, none⟩ (.int .i64 (y + 1))) gh (hl.set p (y + 1))) := ⟨HH5.out.set p (y + 1) (by omega)⟩
        have HJ6 : Aside0 (∀ j : Nat, j < i → ∃ e, look (upd ((p : Int) + 1) (chE low tag left slice) L) ((j : Int) + 1) = some e ∧ Had (1 + ((f1 j % 9 : Nat) : Int)) ((hl.set p (y + 1)).getD j 0) e) := ⟨fun j hj => by
         rw [look_upd (by rw [HLK.out]; rfl), getD_set _ _ _ _ (by omega)]
         by_cases e : j = p
         ·
          subst e
          rw [if_pos rfl, if_pos rfl]
          exact ⟨_, rfl, HHad3.out⟩
         ·
          rw [if_neg (by omega), if_neg e]
          exact HJ4.out j hj⟩
        have HB6 : Aside0 (∀ j : Nat, j < i → 0 ≤ (hl.set p (y + 1)).getD j 0 ∧ (hl.set p (y + 1)).getD j 0 ≤ (q : Int) + 1) := ⟨fun j hj => by
         have := HB4.out j hj
         rw [getD_set _ _ _ _ (by omega)]
         split <;> omega⟩
        have hL6 : (upd ((p : Int) + 1) (chE low tag left slice) L).length = i := by rw [upd_len]; exact hL4
        have hh6 : (hl.set p (y + 1)).length = i := by rw [List.length_set]; exact hhl
        generalize w5.setCell ⟨gh, p, none⟩ (.int .i64 (y + 1)) = W6 at HK6 HW6 HH6 ⊢
        generalize upd ((p : Int) + 1) (chE low tag left slice) L = L6 at HK6 HG5 HJ6 hL6
        generalize hl.set p (y + 1) = hl6 at HH6 HJ6 HB6 hh6
        clear HK5 HW5 HH5 r0 r1 HHad3 HY hBp d6 HK4 HG4 HJ4 HB4 HH4 HW4 hhl hL4 HLK HHad c0)
      | (
        refine (book_Charge_spent HK4.out (k := (p : Int) + 1) (WalkArith.wf_i64 (by omega)) tag left slice HLK.out (by omega)).mono ?_
        rintro e w5 ⟨rfl, hb5⟩
        have HK5 : Aside0 (Bk w5 b m (i + q) low L) := ⟨BookAt.keep HK4.out hb5⟩
        have HW5 := Aside0.mk (zac HW4.out hb5)
        have HH5 := Aside0.mk (RowC_keep HH4.out hb5)
        clear hb5
        go_wp2_with fail
        refine (Bk_Open HK5.out (k := (p : Int) + 1) (WalkArith.wf_i64 (by omega)) HLK.out (by omega)).mono ?_
        rintro e W6 ⟨rfl, hb6⟩
        have HK6 : Aside0 (Bk W6 b m (i + q + 1) low L) := ⟨(BookAt.keep HK5.out hb6).mono (Nat.le_succ _)⟩
        have HW6 := Aside0.mk (zac HW5.out hb6)
        have HH6 := Aside0.mk (RowC_keep HH5.out hb6)
        clear hb6
        go_wp2_with fail
        have HB6 : Aside0 (∀ j : Nat, j < i → 0 ≤ hl.getD j 0 ∧ hl.getD j 0 ≤ (q : Int) + 1) := ⟨fun j hj => by
         have := HB4.out j hj
         omega⟩
        have HG5 := HG4
        have HJ6 := HJ4
        have hL6 := hL4
        have hh6 := hhl
        obtain ⟨L6, eL⟩ : ∃ z, z = L := ⟨_, rfl⟩
        obtain ⟨hl6, eh⟩ : ∃ z, z = hl := ⟨_, rfl⟩
        rw [← eL] at HK6 HG5 HJ6 hL6
        rw [← eh] at HH6 HJ6 HB6 hh6
        clear HK5 HW5 HH5 eL eh HK4 HG4 HJ4 HB4 HH4 HW4 hhl hL4 HLK HHad c0)
     all_goals
      refine (book_Settle_ok HK6.out HG5.out (by omega) (by omega) (by omega)).mono ?_
      rintro e w7 ⟨v, rfl, _, hk, hw⟩
      have HK7 : Aside0 (BookAt w7 b m (i + q + 1) (settleF 2 low L6).1 (look (settleF 2 low L6).2)) := ⟨hk⟩
      have HW7 := Aside0.mk (HW6.out.trans (hw.2 _ (by omega) (by omega)))
      have HH7 := Aside0.mk (RowC.only HH6.out hw.1 (by omega) (by omega))
      obtain ⟨hg7, _, hlo1, hlo2⟩ := HG5.out.settle
      have HG7 := Aside0.mk hg7
      have HJ7 : Aside0 (∀ j : Nat, j < i → ∃ e, look (settleF 2 low L6).2 ((j : Int) + 1) = some e ∧ Had (1 + ((f1 j % 9 : Nat) : Int)) (hl6.getD j 0) e) := ⟨fun j hj => by
       obtain ⟨e, h1, h2⟩ := HJ6.out j hj
       have h3 := settle_there 2 low L6 ((j : Int) + 1)
       rw [h1] at h3
       obtain ⟨e', h4⟩ := Option.isSome_iff_exists.1 h3
       refine ⟨e', h4, ?_⟩
       exact settle_all (P := fun k x => k = (j : Int) + 1 → Had (1 + ((f1 j % 9 : Nat) : Int)) (hl6.getD j 0) x) (fun k x l hx h0 hk => (hx hk).ren h0) 2 low L6 HG5.out (fun k x hx hk => by rw [hk, h1] at hx; cases hx; exact h2) _ e' h4 rfl⟩
      have hL7 := settle_len 2 low L6
      clear hk hw hg7 HK6 HW6 HH6 HJ6 HG5
      generalize (settleF 2 low L6).1 = low7 at HK7 HG7 hlo1 hlo2
      generalize (settleF 2 low L6).2 = L7 at HK7 HG7 HJ7 hL7
      go_wp2_with fail
      go_loopg [94] i (fun gk v94 w' => ∃ s : Nat, v94 = .int .i64 (s : Int) ∧ s + gk = i ∧ Aside0 (BookAt w' b m (i + q + 1) low7 (look L7)) ∧ Aside0 (RowC w' gh hl6) ∧ Aside0 (Below w.heap.size w w'))
      case atStart => exact ⟨0, by go_num, by omega, HK7, HH7, HW7⟩
      case round =>
       obtain ⟨s, rfl, hs, HK8, HH8, HW8⟩ := hrel
       cases gk with
       | zero =>
        have d8 : decide ((s : Int) < (i : Int)) = false := decide_eq_false (by omega)
        go_wp2_with fail
        go_roundg g2
        case measure => omega
        case rel => exact ⟨q + 1, low7, L7, hl6, by go_num, by omega, ⟨HK8.out⟩, HG7, by omega, by omega, HJ7, hh6, ⟨fun j hj => by have := HB6.out j hj; omega⟩, HH8, HW8⟩
       | succ g3 =>
        have d8 : decide ((s : Int) < (i : Int)) = true := decide_eq_true (by omega)
        obtain ⟨ad1, eA1, hblk1, c1, hf1⟩ := HR1.out.below HW8.out s (by omega)
        subst eA1
        obtain ⟨r0, r1⟩ := HH8.out.2 s (by omega)
        obtain ⟨e8, h81, h82⟩ := HJ7.out s (by omega)
        have hlim8 := look_in h81 HG7.out
        have hbd := h82.bound (low := low7) (by omega) (by omega)
        have HBs := HB6.out s (by omega)
        clear h81 h82 hlim8
        generalize hX1 : f1 s = X1 at c1 hf1 hbd
        clear hX1
        generalize hl6.getD s 0 = y at r0 hbd HBs
        have hz : (1 + ((X1 % 9 : Nat) : Int)) = 1 + (X1 : Int) % 9 := by simp
        rw [hz] at hbd
        have hS : 1 ≤ 1 + (X1 : Int) % 9 ∧ 1 + (X1 : Int) % 9 ≤ 9 := by omega
        have hm0 : 0 ≤ (low7 - 1) * (1 + (X1 : Int) % 9) := Int.mul_nonneg (by omega) (by omega)
        have hm1 : (low7 + 1) * (1 + (X1 : Int) % 9) = (low7 - 1) * (1 + (X1 : Int) % 9) + (1 + (X1 : Int) % 9) + (1 + (X1 : Int) % 9) := by
         rw [show low7 + 1 = (low7 - 1) + 1 + 1 by omega, Int.add_mul, Int.add_mul, Int.one_mul]
        have d9 : wrap64 ((low7 - 1) * (1 + (X1 : Int) % 9)) = (low7 - 1) * (1 + (X1 : Int) % 9) := w64s (by omega) (by omega)
        have d10 : wrap64 ((low7 + 1) * (1 + (X1 : Int) % 9)) = (low7 + 1) * (1 + (X1 : Int) % 9) := w64s (by omega) (by omega)
        have d11 : decide (y < (low7 - 1) * (1 + (X1 : Int) % 9)) = false := decide_eq_false (by omega)
        have d12 : decide (y > (low7 + 1) * (1 + (X1 : Int) % 9)) = false := decide_eq_false (by omega)
        have HKA : Aside0 (∀ W, Below wr.heap.size wr W → BookAt W b m (i + q + 1) low7 (look L7) ∧ W.cell? ⟨gh, s, none⟩ = some (.int .i64 y)) := ⟨fun W hW => ⟨HK8.out.keep hW, by rw [hW.cell (show (Addr.mk gh s none).block < wr.heap.size from HH8.out.1)]; exact r0⟩⟩
        clear hm0 hm1 hbd
        go_wp2_with fail
        go_quiet (first | (go_at_call 19; exact Calls.quiet_of_same (book_Low_same (BookAt.drewN HK8.out _))))
        go_wp2
        go_roundg g3
        case measure => omega
        case rel => exact ⟨s + 1, by go_num, by omega, ⟨BookAt.drewN HK8.out _⟩, ⟨HH8.out⟩, ⟨pw_below_drewN HW8.out _⟩⟩
  | succ g1 =>
   have d4 : decide ((i : Int) < (n : Int)) = true := decide_eq_true (by omega)
   obtain ⟨ad, eA, hblk, c0, hf⟩ := HR1.out.below HW3.out i (by omega)
   subst eA
   generalize hX : f1 i = X at c0 hf
   have HX := Aside0.mk hX
   clear hX
   go_wp2_with fail
   go_at_call 15
   refine (Bk_Enter HK3.out HG3.out (by decide) (by omega) (k := (i : Int) + 1) (WalkArith.wf_i64 (by omega)) 0 0 (1 + (X : Int) % 9) (HN3.out _ (by omega)) (by omega) (by omega) (by omega)).mono ?_
   rintro e w5 ⟨rfl, hk, hg, hw⟩
   have hq : inE 1 0 0 (1 + (X : Int) % 9) = (1, 1 + (X : Int) % 9, 1 + (X : Int) % 9) := by
    unfold inE
    rw [if_pos (by decide)]
   rw [hq] at hk hg
   have HK5 := Aside0.mk hk
   have HG5 := Aside0.mk hg
   have HW5 := Aside0.mk (HW3.out.trans (hw.2 _ (by omega) (by omega)))
   have HH5 := Aside0.mk (RowC.only HH3.out hw.1 (by omega) (by omega))
   clear hk hg hw hq
   go_wp2
   go_roundg g1
   case measure => omega
   case rel =>
    have hlk := fun k => look_ins (x := ⟨(i : Int) + 1, 1, 1 + (X : Int) % 9, 1 + (X : Int) % 9⟩) HG3.out.1 (HN3.out _ (by show (i : Int) < (i : Int) + 1; omega)) k
    refine ⟨i + 1, _, by go_num, by omega, HK5, HG5, by rw [insL_len, hL], ⟨fun j hj => ?_⟩, ⟨fun k hk => ?_⟩, HH5, HW5⟩
    ·
     rw [hlk]
     by_cases e : j = i
     ·
      subst e
      rw [if_pos rfl, HX.out]
      refine ⟨_, rfl, ?_, ?_⟩
      ·
       show 1 + (X : Int) % 9 = 1 + ((X % 9 : Nat) : Int)
       simp
      ·
       show (0 : Int) = (1 - 1) * _ + _
       simp
     ·
      rw [if_neg (by dsimp only; omega)]
      exact HJ3.out j (by omega)
    ·
     rw [hlk, if_neg (by dsimp only; omega)]
     exact HN3.out k (by omega)
theorem RoundTurns_out (A1 A2 : Option Addr) (n cap1 len cap2 : Nat) (w : World) (hn : n = 0 ∨ 8 < n ∨ 300 < len) :
  Calls Try.prog 3 #[.slice A1 n cap1, .slice A2 len cap2] w fun e w' => e = .returned (.bool true) ∧ Below w.heap.size w w' := by
 have go : ∀ (x y z : Bool), ((n : Int) == 0) = x → decide ((n : Int) > 8) = y → decide ((len : Int) > 300) = z → (x || y || z) = true → Calls Try.prog 3 #[.slice A1 n cap1, .slice A2 len cap2] w fun e w' => e = .returned (.bool true) ∧ Below w.heap.size w w' := by
  intro x y z d1 d2 d3 hx
  clear hn
  cases x <;> cases y <;> cases z <;> first | (exact absurd hx (by decide)) | skip
  all_goals
   clear hx
   go_enter Try.func3, Try.ntmps3
   go_wp2_with fail
   go_at_call 13
   refine (awake12_ok w).mono ?_
   rintro e w0 ⟨rfl, hw0⟩
   have HW0 := Aside0.mk hw0
   clear hw0
   go_wp2_with fail
   go_at_call 13
   refine (awake12_ok w0).mono ?_
   rintro e w1 ⟨rfl, hw1⟩
   have HW1 := Aside0.mk (zac HW0.out hw1)
   clear hw1
   go_wp2_with fail
   go_ret
   exact ⟨rfl, HW1.out⟩
 refine go _ _ _ rfl rfl rfl ?_
 rcases hn with h | h | h
 ·
  have : ((n : Int) == 0) = true := by simpa using h
  simp [this]
 ·
  have : decide ((n : Int) > 8) = true := decide_eq_true (by omega)
  simp [this]
 ·
  have : decide ((len : Int) > 300) = true := decide_eq_true (by omega)
  simp [this]
theorem bytes_of {W : World} {A : Option Addr} {len cap : Nat} {zs : List Int}
  (h : (A = none ∧ len = 0 ∧ cap = 0 ∧ zs = []) ∨ ∃ x, A = some x ∧ len ≤ cap ∧ cap ≤ maxLen ∧ zs.length = cap ∧ (∀ i, i < zs.length → W.cell? (x.add i) = some (.int .u8 (zs.getD i 0))) ∧ ∀ n ∈ zs, (Lit.int .u8 n).wf = true) : BytesAt W A len (fun i => (zs.getD i 0).toNat) := by
 have h2 : IntKind.u8.min = 0 := by decide
 have h3 : IntKind.u8.max = 255 := by decide
 intro i hi
 rcases h with ⟨_, h0, _⟩ | ⟨x, rfl, hl, _, hz, hc, hw⟩
 ·
  omega
 ·
  have h4 := hc i (by omega)
  have h5 : (Lit.int .u8 (zs.getD i 0)).wf = true := by
   refine hw _ ?_
   rw [List.getD_eq_getElem?_getD, List.getElem?_eq_getElem (by omega)]
   exact List.getElem_mem _
  have h6 : IntKind.u8.min ≤ zs.getD i 0 ∧ zs.getD i 0 ≤ IntKind.u8.max := by simpa [Lit.wf] using h5
  refine ⟨x, rfl, ?_, ?_, by show (zs.getD i 0).toNat < 256; omega⟩
  ·
   rcases Nat.lt_or_ge x.block W.heap.size with h | h
   ·
    exact h
   ·
    unfold World.cell? at h4
    rw [add_block, Array.getElem?_eq_none h] at h4
    simp at h4
  ·
   show _ = some (Value.int .u8 (((zs.getD i 0).toNat : Nat) : Int))
   rw [h4, Int.toNat_of_nonneg (by omega)]
theorem lRoundTurns {W : World} (A1 A2 : Option Addr) (n cap1 len cap2 : Nat) (z1 z2 : List Int)
  (h1 : (A1 = none ∧ n = 0 ∧ cap1 = 0 ∧ z1 = []) ∨ ∃ x, A1 = some x ∧ n ≤ cap1 ∧ cap1 ≤ maxLen ∧ z1.length = cap1 ∧ (∀ i, i < z1.length → W.cell? (x.add i) = some (.int .u8 (z1.getD i 0))) ∧ ∀ n ∈ z1, (Lit.int .u8 n).wf = true)
  (h2 : (A2 = none ∧ len = 0 ∧ cap2 = 0 ∧ z2 = []) ∨ ∃ x, A2 = some x ∧ len ≤ cap2 ∧ cap2 ≤ maxLen ∧ z2.length = cap2 ∧ (∀ i, i < z2.length → W.cell? (x.add i) = some (.int .u8 (z2.getD i 0))) ∧ ∀ n ∈ z2, (Lit.int .u8 n).wf = true) :
  Calls Try.prog 3 #[.slice A1 n cap1, .slice A2 len cap2] W fun e w' => e = .returned (.bool true) ∧ Below W.heap.size W w' := by
 by_cases hn : 1 ≤ n ∧ n ≤ 8 ∧ len ≤ 300
 ·
  exact RoundTurns_ok A1 A2 n cap1 len cap2 _ _ W (bytes_of h1) (bytes_of h2) ⟨hn.1, hn.2.1⟩ hn.2.2
 ·
  exact RoundTurns_out A1 A2 n cap1 len cap2 W (by omega)
end Go.Proofs.Ytbakdobjidjncaa.P
end
section
namespace Go.Proofs.YtbakdobjidjncaaW.PrintWords
open Go.ChangeShapes Go.WideShapes
theorem sized_ints {H : Type} {enc : TypeId × Value → H} {P : Program} {W : World} {base : Nat} {spare : Nat → Bool} {held : Bool} {t e : TypeId} {k : IntKind} {a : Option Addr} {len cap : Nat} {d : DataW H} {ps : List MemPlace} {ts : List TypeId} {ds : List (DataW H)} {j : Nat}
  (hsz : (DataW.weightsEach P ts ds).all (· ≤ reachBytes) = true) (ht : ts[j]? = some t) (hd : ds[j]? = some d) (hu : P.underlying t = some (.slice e)) (he : P.underlying e = some (.int k)) (hc : P.cellsOf e = 1) {B : Nat} (hB : P.bytesOf e = B)
  (h : DataW.Trod enc P W base spare held t (.slice a len cap) d ps) : len * B ≤ 140737488351232 := by
 obtain ⟨fuel, hf⟩ := h
 rcases open_ints hu he hc hf with ⟨hcs, _⟩ | ⟨x, l, c, zs, hcs, _, hl, _, hz, hx, _, _⟩
 ·
  simp [Value.cells] at hcs
  obtain ⟨rfl, rfl, rfl⟩ := hcs
  simp
 ·
  simp [Value.cells] at hcs
  obtain ⟨rfl, rfl, rfl⟩ := hcs
  obtain ⟨hx, _⟩ := Prod.mk.inj hx
  subst hx
  have z := sized_slice hsz ht hd hu
  rw [hB] at z
  have hl2 : len ≤ zs.length := by
   rw [hz]
   split
   ·
    exact hl
   ·
    exact Nat.le_refl _
  have h1 : (lits (H := H) k (zs.take len)).length + (lits (H := H) k (zs.drop len)).length = zs.length := by
   simp [lits]
   omega
  rw [h1] at z
  exact Nat.le_trans (Nat.mul_le_mul_right _ hl2) z
end Go.Proofs.YtbakdobjidjncaaW.PrintWords
end
