-- Written by a program of this session (wip/tools/shake.py) out of its own texts and of the kit's printed ones; not trusted: Lean checks it.
import Derived.Test.YtbakdobjidjncaaZRoundSettled5
set_option maxHeartbeats 8000000
set_option maxRecDepth 100000
set_option linter.unusedVariables false
set_option linter.unusedSimpArgs false
section
namespace Go.Proofs.Ytbakdobjidjncaa.P
open Go.RowKit Go.Proofs.YtbakdobjidjncaaW.PrintWords Go.Proofs.YtbakdobjidjncaaW.PrintLast Go.Proofs.YtbakdobjidjncaaW.PrintMore
attribute [local go_sem] zbv zbu max_two min_two zbn zbo zby zbw
theorem Ev.pos' {α : Type} {c : Prop} [Decidable c] {F G : Nat → Option α} {r : α} (hc : c) (h : Ev F r) : Ev (fun k => if c then F k else G k) r := Ev.congr (fun k => if_pos hc) h
theorem Ev.neg' {α : Type} {c : Prop} [Decidable c] {F G : Nat → Option α} {r : α} (hc : ¬ c) (h : Ev G r) : Ev (fun k => if c then F k else G k) r := Ev.congr (fun k => if_neg hc) h
theorem rd_nat86 {L : List S86} {j : Nat} (hj : j < L.length) : rd_T86 L (j : Int) = L[j] := by
 unfold rd_T86
 rw [Int.toNat_natCast]
 simp [hj]
theorem zbl {L : List S86} (low id : Int) (hL : L.length < 1000000) : ∃ i : Int, Ev (fun k => zam.f k low L id) i ∧ (look L id = none ∧ i = -1 ∨ ∃ j : Nat, ∃ h : j < L.length, i = (j : Int) ∧ L[j].f0 = id) := by
 have go : ∀ d j, j + d = L.length → (∀ q, ∀ h : q < L.length, q < j → L[q].f0 ≠ id) → ∃ i : Int, Ev (fun k => zam.l0 k id (L.length : Int) (j : Int) low L) i ∧ (look L id = none ∧ i = -1 ∨ ∃ j : Nat, ∃ h : j < L.length, i = (j : Int) ∧ L[j].f0 = id) := by
  intro d
  induction d with
  | zero =>
   intro j hj hb
   refine ⟨-1, Ev.step (fun _ => zam.l0.eq_2 ..) (Ev.neg' (by omega) (Ev.const _)), .inl ⟨?_, rfl⟩⟩
   cases hl : look L id with
   | none => rfl
   | some e =>
    obtain ⟨x, hx, e1, _⟩ := zbh hl
    obtain ⟨q, hq, rfl⟩ := List.mem_iff_getElem.1 hx
    exact absurd e1 (hb q hq (by omega))
  | succ d ih =>
   intro j hj hb
   have hjl : j < L.length := by omega
   by_cases h : L[j].f0 = id
   ·
    exact ⟨j, Ev.step (fun _ => zam.l0.eq_2 ..) (Ev.pos' (by omega) (Ev.pos' (by omega) (Ev.pos' (by omega) (Ev.pos' (by rw [rd_nat86 hjl]; exact h) (Ev.const _))))), .inr ⟨j, hjl, rfl, h⟩⟩
   ·
    obtain ⟨i, h1, h2⟩ := ih (j + 1) (by omega) fun q hq hlt => by
     by_cases e : q = j
     ·
      subst e
      exact h
     ·
      exact hb q hq (by omega)
    refine ⟨i, Ev.step (fun _ => zam.l0.eq_2 ..) (Ev.pos' (by omega) (Ev.pos' (by omega) (Ev.pos' (by omega) (Ev.neg' (by rw [rd_nat86 hjl]; exact h) ?_)))), h2⟩
    have e1 : wrap64 ((j : Int) + 1) = ((j + 1 : Nat) : Int) := by rw [w64s (by omega) (by omega)]; omega
    rw [e1]
    exact h1
 obtain ⟨i, h1, h2⟩ := go L.length 0 (by omega) (fun q _ h => absurd h (by omega))
 exact ⟨i, Ev.congr (fun k => rfl) h1, h2⟩
theorem ref_low_f {L : List S86} (low : Int) (hL : L.length < 1000000) : Ev (fun k => zas.f k low L) (L.any fun e => e.f1 == low) := by
 have go : ∀ d j, j + d = L.length → Ev (fun k => zas.l0 k (L.length : Int) (j : Int) low L) ((L.drop j).any fun e => e.f1 == low) := by
  intro d
  induction d with
  | zero =>
   intro j hj
   refine Ev.step (fun _ => zas.l0.eq_2 ..) (Ev.neg' (by omega) ?_)
   rw [List.drop_eq_nil_of_le (by omega)]
   exact Ev.const _
  | succ d ih =>
   intro j hj
   have hjl : j < L.length := by omega
   rw [List.drop_eq_getElem_cons hjl, List.any_cons]
   refine Ev.step (fun _ => zas.l0.eq_2 ..) (Ev.pos' (by omega) (Ev.pos' (by omega) (Ev.pos' (by omega) ?_)))
   by_cases h : L[j].f1 = low
   ·
    refine Ev.pos' (by rw [rd_nat86 hjl]; exact h) ?_
    rw [show (L[j].f1 == low) = true by simpa using h, Bool.true_or]
    exact Ev.const _
   ·
    refine Ev.neg' (by rw [rd_nat86 hjl]; exact h) ?_
    rw [show (L[j].f1 == low) = false by simpa using h, Bool.false_or]
    have e1 : wrap64 ((j : Int) + 1) = ((j + 1 : Nat) : Int) := by rw [w64s (by omega) (by omega)]; omega
    rw [e1]
    exact ih (j + 1) (by omega)
 have := go L.length 0 (by omega)
 rw [List.drop_zero] at this
 exact Ev.congr (fun k => rfl) this
theorem ref_In_f (low id tag left slice : Int) (h0 : -9223372036854775807 < low ∧ low < 9223372036854775000) : zaz.f low id tag left slice = some (id, (inE low tag left slice).1, (inE low tag left slice).2.1, (inE low tag left slice).2.2) := by
 have hw : wrap64 (low + 1) = low + 1 := w64s (by omega) (by omega)
 unfold zaz.f inE
 by_cases c1 : tag < low
 ·
  simp [c1]
 ·
  by_cases c2 : mn left slice > 0
  ·
   have c3 : ¬ mn left slice < 1 := by omega
   simp [c1, c2, c3]
  ·
   have c3 : mn left slice < 1 := by omega
   by_cases c4 : tag = low
   ·
    simp [c1, c2, c3, c4, hw]
   ·
    simp [c1, c2, c3, c4]
theorem insL_take {x : S86} : ∀ {L : List S86} (j : Nat), j ≤ L.length → (∀ q, ∀ h : q < L.length, q < j → L[q].f0 < x.f0) → insL x L = L.take j ++ insL x (L.drop j)
 | L, 0, _, _ => by simp
 | [], j + 1, h, _ => by simp at h
 | a :: r, j + 1, h, hb => by
  have h0 : a.f0 < x.f0 := hb 0 (by simp) (by omega)
  rw [List.take_succ_cons, List.drop_succ_cons, insL, if_pos h0, insL_take j (by simpa using h) (fun q hq hlt => hb (q + 1) (by simpa using hq) (by omega))]
  rfl
theorem ref_Enter_there {L : List S86} (low id tag left slice : Int) (hL : L.length < 1000000) (hk : (look L id).isSome = true) : Ev (fun k => zad.f k low L id tag left slice) (low, L, 10) := by
 obtain ⟨i, h1, h2⟩ := zbl low id hL
 rcases h2 with ⟨h2, _⟩ | ⟨j, hj, rfl, _⟩
 ·
  rw [h2] at hk
  cases hk
 ·
  exact Ev.bind h1 (Ev.pos' (by omega) (Ev.const _))
theorem ref_Enter_range {L : List S86} (low id tag left slice : Int) (hlow : 0 < low ∧ low < 1000000) (hL : L.length < 1000000) (hk : look L id = none) (hbad : slice < 1 ∨ 1000 < slice ∨ left < 0 ∨ tag < 0 ∨ low + 1 < tag) : Ev (fun k => zad.f k low L id tag left slice) (low, L, 14) := by
 obtain ⟨i, h1, h2⟩ := zbl low id hL
 rcases h2 with ⟨_, rfl⟩ | ⟨j, hj, _, h3⟩
 ·
  have e1 : wrap64 (low + 1) = low + 1 := w64s (by omega) (by omega)
  have hj0 : Ev (fun k => zad.j0 k true low L id tag left slice) (low, L, 14) := Ev.step (fun _ => zad.j0.eq_2 ..) (Ev.pos' rfl (Ev.const _))
  refine Ev.bind h1 (Ev.neg' (by omega) ?_)
  by_cases c1 : slice < 1
  ·
   exact Ev.pos' c1 hj0
  ·
   refine Ev.neg' c1 ?_
   by_cases c2 : slice > 1000
   ·
    exact Ev.pos' c2 hj0
   ·
    refine Ev.neg' c2 ?_
    by_cases c3 : left < 0
    ·
     exact Ev.pos' c3 hj0
    ·
     refine Ev.neg' c3 ?_
     by_cases c4 : tag < 0
     ·
      exact Ev.pos' c4 hj0
     ·
      refine Ev.neg' c4 ?_
      rw [e1, show decide (tag > low + 1) = true from decide_eq_true (by omega)]
      exact hj0
 ·
  exact absurd h3 (zbk hk _ (List.getElem_mem hj))
theorem ref_Enter_ok {L : List S86} (low id tag left slice : Int) (hlow : 0 < low ∧ low < 1000000) (hL : L.length < 1000000) (hk : look L id = none) (hs : 1 ≤ slice ∧ slice ≤ 1000) (hl : 0 ≤ left) (ht : 0 ≤ tag ∧ tag ≤ low + 1) :
  Ev (fun k => zad.f k low L id tag left slice) (low, insL ⟨id, (inE low tag left slice).1, (inE low tag left slice).2.1, (inE low tag left slice).2.2⟩ L, 0) := by
 obtain ⟨i, h1, h2⟩ := zbl low id hL
 rcases h2 with ⟨_, rfl⟩ | ⟨j, hj, _, h3⟩
 ·
  have e1 : wrap64 (low + 1) = low + 1 := w64s (by omega) (by omega)
  have hIn := ref_In_f low id tag left slice (by omega)
  refine Ev.bind h1 (Ev.neg' (by omega) (Ev.neg' (by omega) (Ev.neg' (by omega) (Ev.neg' (by omega) (Ev.neg' (by omega) ?_)))))
  rw [e1, show decide (tag > low + 1) = false from decide_eq_false (by omega)]
  refine Ev.step (fun _ => zad.j0.eq_2 ..) (Ev.neg' (by decide) ?_)
  clear e1
  have go : ∀ d j, j + d = L.length → (∀ q, ∀ h : q < L.length, q < j → L[q].f0 < id) → Ev (fun k => zad.l0 k (j : Int) low L id tag left slice) (low, insL ⟨id, (inE low tag left slice).1, (inE low tag left slice).2.1, (inE low tag left slice).2.2⟩ L, 0) := by
   intro d
   induction d with
   | zero =>
    intro j hj hb
    have hins := insL_take (x := ⟨id, (inE low tag left slice).1, (inE low tag left slice).2.1, (inE low tag left slice).2.2⟩) j (by omega) hb
    have hd : L.drop j = [] := List.drop_eq_nil_of_le (by omega)
    rw [hd] at hins
    refine Ev.step (fun _ => zad.l0.eq_2 ..) (Ev.neg' (by omega) ?_)
    simp only [Option.bind_some, hIn]
    refine Ev.pos' (by omega) (Ev.pos' (by omega) (Ev.pos' (by simp; omega) (Ev.pos' (by simp; omega) (Ev.pos' (by simp; omega) ?_))))
    rw [hins]
    simp only [Int.toNat_natCast, hd, List.nil_append, List.append_nil, insL]
    exact Ev.const _
   | succ d ih =>
    intro j hj hb
    have hjl : j < L.length := by omega
    refine Ev.step (fun _ => zad.l0.eq_2 ..) (Ev.pos' (by omega) (Ev.pos' (by omega) ?_))
    by_cases c : L[j].f0 < id
    ·
     refine Ev.pos' (by rw [rd_nat86 hjl]; exact c) ?_
     rw [show wrap64 ((j : Int) + 1) = ((j + 1 : Nat) : Int) by rw [w64s (by omega) (by omega)]; omega]
     refine ih (j + 1) (by omega) fun q hq hlt => ?_
     by_cases e : q = j
     ·
      subst e
      exact c
     ·
      exact hb q hq (by omega)
    ·
     refine Ev.neg' (by rw [rd_nat86 hjl]; exact c) ?_
     have hins := insL_take (x := ⟨id, (inE low tag left slice).1, (inE low tag left slice).2.1, (inE low tag left slice).2.2⟩) j (by omega) hb
     have hd := List.drop_eq_getElem_cons hjl
     have hins2 : insL ⟨id, (inE low tag left slice).1, (inE low tag left slice).2.1, (inE low tag left slice).2.2⟩ (L.drop j) = ⟨id, (inE low tag left slice).1, (inE low tag left slice).2.1, (inE low tag left slice).2.2⟩ :: L.drop j := by
      rw [hd, insL, if_neg c]
     rw [hins2] at hins
     simp only [Option.bind_some, hIn]
     refine Ev.pos' (by omega) (Ev.pos' (by simp; omega) (Ev.pos' (by simp; omega) (Ev.pos' (by simp; omega) ?_)))
     rw [hins]
     simp only [Int.toNat_natCast, List.nil_append, List.append_assoc, List.singleton_append]
     exact Ev.const _
  exact go L.length 0 (by omega) (fun q _ h => absurd h (by omega))
 ·
  exact absurd h3 (zbk hk _ (List.getElem_mem hj))
theorem ref_l1 {low : Int} {L' : List S86} {r : Int × List S86 × List Int} (lowW : Int) (W : List S86) (hlow : 0 < low ∧ low < 1000000) (hL : L'.length < 1000000) (h0 : ∀ e ∈ L', 0 ≤ e.f2) (hr : Ev (fun k => zab.l0 k low (L'.map (ren low)) lowW W) r) :
  Ev (fun k => zab.l1 k (L'.length : Int) 0 low L' lowW W) r := by
 have hren : ∀ e : S86, 0 ≤ e.f2 → (e.f1 = low → e.f2 = 0 → ren low e = ⟨e.f0, low + 1, e.f3, e.f3⟩) ∧ (¬ (e.f1 = low ∧ e.f2 = 0) → ren low e = e) := by
  intro e he
  unfold ren
  constructor
  ·
   intro h1 h2
   rw [if_pos ⟨h1, by omega⟩, h1]
  ·
   intro h
   rw [if_neg (by omega)]
 have go : ∀ d j, j + d = L'.length → Ev (fun k => zab.l1 k (L'.length : Int) (j : Int) low ((L'.take j).map (ren low) ++ L'.drop j) lowW W) r := by
  intro d
  induction d with
  | zero =>
   intro j hj
   refine Ev.step (fun _ => zab.l1.eq_2 ..) (Ev.neg' (by omega) ?_)
   rw [List.take_of_length_le (by omega), List.drop_eq_nil_of_le (by omega), List.append_nil]
   exact hr
  | succ d ih =>
   intro j hj
   have hjl : j < L'.length := by omega
   have hlen : ((L'.take j).map (ren low) ++ L'.drop j).length = L'.length := by simp; omega
   have hget : rd_T86 ((L'.take j).map (ren low) ++ L'.drop j) (j : Int) = L'[j] := by
    rw [rd_nat86 (by rw [hlen]; exact hjl), List.getElem_append_right (by simp; omega)]
    simp [Nat.min_eq_left (Nat.le_of_lt hjl)]
   have hnext : (L'.take (j + 1)).map (ren low) ++ L'.drop (j + 1) = ((L'.take j).map (ren low) ++ L'.drop j).set j (ren low L'[j]) := by
    rw [List.take_succ_eq_append_getElem hjl, List.map_append, List.drop_eq_getElem_cons hjl]
    have hl : ((L'.take j).map (ren low)).length = j := by simp; omega
    rw [List.set_append_right _ _ (by omega), hl, Nat.sub_self, List.set_cons_zero, List.append_assoc]
    rfl
   have hstep := ih (j + 1) (by omega)
   rw [show ((j + 1 : Nat) : Int) = wrap64 ((j : Int) + 1) by rw [w64s (by omega) (by omega)]; omega] at hstep
   obtain ⟨hr1, hr2⟩ := hren L'[j] (h0 _ (List.getElem_mem hjl))
   refine Ev.step (fun _ => zab.l1.eq_2 ..) (Ev.pos' (by omega) (Ev.pos' (by omega) (Ev.pos' (by omega) ?_)))
   rw [hget]
   by_cases c1 : L'[j].f1 = low
   ·
    refine Ev.pos' c1 ?_
    by_cases c2 : L'[j].f2 = 0
    ·
     refine Ev.pos' c2 ?_
     rw [hnext, hr1 c1 c2] at hstep
     simp only [Option.bind_some]
     have hlow1 : wrap64 (L'[j].f1 + 1) = low + 1 := by rw [c1]; exact w64s (by omega) (by omega)
     have hget2 : rd_T86 (((L'.take j).map (ren low) ++ L'.drop j).set (j : Int).toNat ⟨L'[j].f0, wrap64 (L'[j].f1 + 1), L'[j].f2, L'[j].f3⟩) (j : Int) = ⟨L'[j].f0, low + 1, L'[j].f2, L'[j].f3⟩ := by
      rw [rd_nat86 (by rw [List.length_set, hlen]; exact hjl), hlow1]
      simp
     rw [hget2, Int.toNat_natCast, List.set_set]
     exact hstep
    ·
     refine Ev.neg' c2 ?_
     rw [hnext, hr2 (fun h => c2 h.2)] at hstep
     have hsame : ((L'.take j).map (ren low) ++ L'.drop j).set j L'[j] = (L'.take j).map (ren low) ++ L'.drop j := by
      have h5 : ((L'.take j).map (ren low) ++ L'.drop j)[j]'(by rw [hlen]; exact hjl) = L'[j] := by
       rw [List.getElem_append_right (by simp; omega)]
       simp [Nat.min_eq_left (Nat.le_of_lt hjl)]
      rw [← h5]
      exact List.set_getElem_self _
     rw [hsame] at hstep
     exact hstep
   ·
    refine Ev.neg' c1 ?_
    rw [hnext, hr2 (fun h => c1 h.1)] at hstep
    have hsame : ((L'.take j).map (ren low) ++ L'.drop j).set j L'[j] = (L'.take j).map (ren low) ++ L'.drop j := by
     have h5 : ((L'.take j).map (ren low) ++ L'.drop j)[j]'(by rw [hlen]; exact hjl) = L'[j] := by
      rw [List.getElem_append_right (by simp; omega)]
      simp [Nat.min_eq_left (Nat.le_of_lt hjl)]
     rw [← h5]
     exact List.set_getElem_self _
    rw [hsame] at hstep
    exact hstep
 have := go L'.length 0 (by omega)
 simpa using this
theorem ref_l2 {low : Int} {L' W : List S86} (lowW : Int) (hL : L'.length < 1000000) (hW : W.length = L'.length) (P : List Int)
  (hP : P = ((W.zip L').filter (fun x => x.1.f2 == 0 && decide (x.2.f2 > 0))).map (fun x => x.2.f0)) :
  Ev (fun k => zab.l2 k [] (L'.length : Int) 0 low L' lowW W) (low, L', P) := by
 have go : ∀ d j (out : List Int), j + d = L'.length → out.length ≤ j → out ++ ((((W.zip L').drop j).filter (fun x => x.1.f2 == 0 && decide (x.2.f2 > 0))).map (fun x => x.2.f0)) = P → Ev (fun k => zab.l2 k out (L'.length : Int) (j : Int) low L' lowW W) (low, L', P) := by
  intro d
  induction d with
  | zero =>
   intro j out hj ho hout
   refine Ev.step (fun _ => zab.l2.eq_2 ..) (Ev.neg' (by omega) ?_)
   rw [List.drop_eq_nil_of_le (by simp; omega)] at hout
   simp at hout
   rw [hout]
   exact Ev.const _
  | succ d ih =>
   intro j out hj ho hout
   have hjl : j < L'.length := by omega
   have hjw : j < W.length := by omega
   rw [List.drop_eq_getElem_cons (show j < (W.zip L').length by simp; omega)] at hout
   rw [List.getElem_zip] at hout
   refine Ev.step (fun _ => zab.l2.eq_2 ..) (Ev.pos' (by omega) (Ev.pos' (by omega) (Ev.pos' (by omega) ?_)))
   rw [rd_nat86 hjl, rd_nat86 hjw]
   have e1 : wrap64 ((j : Int) + 1) = ((j + 1 : Nat) : Int) := by rw [w64s (by omega) (by omega)]; omega
   rw [e1]
   clear e1
   by_cases c1 : W[j].f2 = 0
   ·
    refine Ev.pos' c1 (Ev.pos' (by omega) ?_)
    by_cases c2 : L'[j].f2 > 0
    ·
     refine Ev.pos' c2 (Ev.pos' (by omega) ?_)
     refine ih (j + 1) _ (by omega) (by rw [List.length_append, List.length_singleton]; omega) ?_
     rw [← hout]
     simp [c1, c2]
    ·
     refine Ev.neg' c2 (ih (j + 1) _ (by omega) (by omega) ?_)
     rw [← hout]
     simp [c1, c2]
   ·
    refine Ev.neg' c1 (ih (j + 1) _ (by omega) (by omega) ?_)
    rw [← hout]
    simp [c1]
 exact go L'.length 0 [] (by omega) (Nat.zero_le _) (by rw [hP]; simp)
theorem stuckL_any (low : Int) (L : List S86) : stuckL low L = (decide ((L.length : Int) > 0) && !(L.any fun e => e.f1 == low)) := by
 unfold stuckL
 cases L with
 | nil => rfl
 | cons a r =>
  rw [show decide (((a :: r).length : Int) > 0) = true from decide_eq_true (by simp)]
  simp only [List.isEmpty_cons, Bool.not_false, Bool.true_and]
  rw [List.not_any_eq_all_not]
  rfl
theorem ref_l0 {W : List S86} (lowW : Int) (q : Nat) : ∀ (low : Int) (L : List S86), GoodB low L → W.length = L.length → (0 < low ∧ low + (q : Int) < 1000000) → L.length < 1000000 → stuckL (settleF q low L).1 (settleF q low L).2 = false →
  Ev (fun k => zab.l0 k low L lowW W) ((settleF q low L).1, (settleF q low L).2, ((W.zip (settleF q low L).2).filter (fun x => x.1.f2 == 0 && decide (x.2.f2 > 0))).map (fun x => x.2.f0)) := by
 have fin : ∀ (low : Int) (L : List S86), W.length = L.length → L.length < 1000000 → stuckL low L = false → Ev (fun k => zab.l0 k low L lowW W) (low, L, ((W.zip L).filter (fun x => x.1.f2 == 0 && decide (x.2.f2 > 0))).map (fun x => x.2.f0)) := by
  intro low L hW hL hs
  have hl2 := ref_l2 (low := low) lowW hL hW _ rfl
  refine Ev.step (fun _ => zab.l0.eq_2 ..) ?_
  rw [stuckL_any] at hs
  by_cases c : (L.length : Int) > 0
  ·
   rw [show decide ((L.length : Int) > 0) = true from decide_eq_true c, Bool.true_and] at hs
   refine Ev.pos' c (Ev.bind (ref_low_f low hL) ?_)
   rw [hs]
   exact Ev.step (fun _ => zab.j1.eq_2 ..) (Ev.neg' (by decide) hl2)
  ·
   exact Ev.neg' c (Ev.step (fun _ => zab.j1.eq_2 ..) (Ev.neg' (by decide) hl2))
 induction q with
 | zero =>
  intro low L hG hW hlow hL hs
  exact fin low L hW hL hs
 | succ q ih =>
  intro low L hG hW hlow hL hs
  unfold settleF at hs ⊢
  by_cases c : stuckL low L = true
  ·
   rw [if_pos c] at hs ⊢
   have hstep := (hG.step c).1
   have hrec := ih (low + 1) (L.map (ren (low + 1))) hstep (by rw [List.length_map]; exact hW) (by omega) (by rw [List.length_map]; exact hL) hs
   have c' := c
   rw [stuckL_any] at c'
   have hpos : (L.length : Int) > 0 := by
    have := stuck_all c
    cases L with
    | nil => exact absurd rfl this.1
    | cons a r => simp
   rw [show decide ((L.length : Int) > 0) = true from decide_eq_true hpos, Bool.true_and] at c'
   refine Ev.step (fun _ => zab.l0.eq_2 ..) (Ev.pos' hpos (Ev.bind (ref_low_f low hL) ?_))
   rw [c']
   refine Ev.step (fun _ => zab.j1.eq_2 ..) (Ev.pos' rfl ?_)
   simp only [Option.bind_some]
   refine Ev.pos' (by simp; omega) ?_
   have e1 : wrap64 (low + 1) = low + 1 := w64s (by omega) (by omega)
   rw [e1, List.nil_append]
   clear e1
   exact ref_l1 lowW W (by omega) hL (fun e he => (hG.2 e he).2.2.2.1) hrec
  ·
   rw [if_neg c] at hs ⊢
   exact fin low L hW hL hs
theorem zip_map_ren {low : Int} {f : S86 → S86} : ∀ {L : List S86}, (∀ e ∈ L, (f e).f0 = e.f0 ∧ (e.f2 = 0 → 0 < (f e).f2)) → ((L.zip (L.map f)).filter (fun x => x.1.f2 == 0 && decide (x.2.f2 > 0))).map (fun x => x.2.f0) = (L.filter (fun e => e.f2 == 0)).map (fun e => e.f0)
 | [], _ => rfl
 | a :: r, h => by
  have ih := zip_map_ren (low := low) (f := f) (L := r) (fun e he => h e (List.mem_cons_of_mem _ he))
  obtain ⟨h1, h2⟩ := h a List.mem_cons_self
  simp only [List.map_cons, List.zip_cons_cons, List.filter_cons]
  by_cases c : a.f2 = 0
  ·
   simp [c, h2 c, h1, ih]
  ·
   simp [c, ih]
theorem ref_Settle_f {low : Int} {L : List S86} (hG : GoodB low L) (hlow : 0 < low ∧ low < 900000) (hL : L.length < 1000000) : Ev (fun k => zab.f k low L) ((settleF 2 low L).1, (settleF 2 low L).2, spent low L) := by
 have h := ref_l0 (W := L) low 2 low L hG rfl (by omega) hL hG.settle.2.1
 have e : ((L.zip (settleF 2 low L).2).filter (fun x => x.1.f2 == 0 && decide (x.2.f2 > 0))).map (fun x => x.2.f0) = spent low L := by
  unfold spent settleF
  by_cases c : stuckL low L = true
  ·
   rw [if_pos c, if_pos c]
   obtain ⟨g1, g2⟩ := hG.step c
   have hz := zip_map_ren (low := low) (f := ren (low + 1)) (L := L) (fun e he => ⟨ren_id _ e, fun _ => g2 _ (List.mem_map.2 ⟨e, he, rfl⟩)⟩)
   unfold settleF
   by_cases c2 : stuckL (low + 1) (L.map (ren (low + 1))) = true
   ·
    rw [if_pos c2, (step_full g1 c2 g2).1]
    exact hz
   ·
    rw [if_neg c2]
    exact hz
  ·
   rw [if_neg c, if_neg c]
   have : ∀ M : List S86, ((M.zip M).filter (fun x => x.1.f2 == 0 && decide (x.2.f2 > 0))).map (fun x => x.2.f0) = [] := by
    intro M
    induction M with
    | nil => rfl
    | cons a r ih =>
     simp only [List.zip_cons_cons, List.filter_cons]
     by_cases c : a.f2 = 0
     ·
      simp [c, ih]
     ·
      simp [c, ih]
   exact this L
 rw [e] at h
 exact Ev.congr (fun k => rfl) h
def RefAt (w : World) (P : Nat → Prop) (v : Value) (low : Int) (L : List S86) : Prop := ∃ A c, v = .agg #[.int .i64 low, .slice A L.length c] ∧ Kd.V k86 86 w 0 P (.slice A L.length c) L
theorem RefAt.below {w w' : World} {P : Nat → Prop} {v : Value} {low : Int} {L : List S86} (h : RefAt w P v low L) (hb : Below w.heap.size w w') : RefAt w' P v low L := by
 obtain ⟨A, c, e, h⟩ := h
 exact ⟨A, c, e, Kd.zbg h hb⟩
theorem RefAt.mono {w : World} {P P' : Nat → Prop} {v : Value} {low : Int} {L : List S86} (h : RefAt w P v low L) (hp : ∀ k, P k → P' k) : RefAt w P' v low L := by
 obtain ⟨A, c, e, h⟩ := h
 exact ⟨A, c, e, Kd.za2 h hp⟩
theorem RefAt.only {w w' : World} {P : Nat → Prop} {v : Value} {low : Int} {L : List S86} {b m : Nat} (h : RefAt w P v low L) (ho : Only b m w w') (hp : ∀ k, P k → k ≠ b ∧ k ≠ m) : RefAt w' P v low L := by
 obtain ⟨A, c, e, h⟩ := h
 exact ⟨A, c, e, Kd.V_step h fun k hk hlt => ho.2 k hlt (hp k hk).1 (hp k hk).2⟩
theorem ref_Enter {w : World} {P : Nat → Prop} {v : Value} {low : Int} {L : List S86} (h : RefAt w P v low L) (id tag left slice : Int) {r1 : Int} {r2 : List S86} {r3 : Int} (hf : Ev (fun k => zad.f k low L id tag left slice) (r1, r2, r3)) :
  Calls Try.prog 46 #[v, .agg #[.int .i64 id, .int .i64 tag, .int .i64 left, .int .i64 slice]] w fun e w' => ∃ v', e = .returned (.tuple #[v', .int .i64 r3]) ∧ RefAt w' (fun k => P k ∨ w.heap.size ≤ k) v' r1 r2 ∧ Below w.heap.size w w' := by
 obtain ⟨A, c, rfl, hv⟩ := h
 obtain ⟨k, hk⟩ := hf.get
 refine (zad.calls k low P A c L id tag left slice r1 r2 r3 w hv hk).mono ?_
 rintro e w' ⟨u, rfl, hu, hb⟩
 obtain ⟨A', c', rfl⟩ := Kd.V_slice hu
 exact ⟨_, rfl, ⟨A', c', rfl, hu⟩, hb⟩
theorem ref_Settle {w : World} {P : Nat → Prop} {v : Value} {low : Int} {L : List S86} (h : RefAt w P v low L) (hG : GoodB low L) (hlow : 0 < low ∧ low < 900000) (hL : L.length < 1000000) :
  Calls Try.prog 22 #[v] w fun e w' => ∃ v' u, e = .returned (.tuple #[v', u]) ∧ RefAt w' (fun k => P k ∨ w.heap.size ≤ k) v' (settleF 2 low L).1 (settleF 2 low L).2 ∧ Kd.R (Kd.int .i64) 3 w' w.heap.size (fun k => w.heap.size ≤ k) u (spent low L) ∧ Below w.heap.size w w' := by
 obtain ⟨A, c, rfl, hv⟩ := h
 obtain ⟨k, hk⟩ := (ref_Settle_f hG hlow hL).get
 refine (zab.calls k low P A c L _ _ _ w hv hk).mono ?_
 rintro e w' ⟨u, u2, rfl, hu, hu2, hb⟩
 obtain ⟨A', c', rfl⟩ := Kd.V_slice hu
 exact ⟨_, _, rfl, ⟨A', c', rfl, Kd.za2 hu fun k hk => hk.1⟩, hu2, hb⟩
theorem set_f {L : List S86} (low : Int) {j : Nat} (hj : j < L.length) (hL : L.length < 1000000) (a b c d : Int) : za5.f low L (j : Int) a b c d = some (low, L.set j ⟨a, b, c, d⟩) := by
 unfold za5.f
 simp only [Option.bind_some, List.nil_append, List.length_nil, Nat.zero_add, Int.toNat_natCast]
 rw [if_pos (by omega), if_pos (by omega), if_pos (by omega)]
theorem upd_set {L : List S86} (h : Ids L) {j : Nat} (hj : j < L.length) (e : E3) : L.set j ⟨L[j].f0, e.1, e.2.1, e.2.2⟩ = upd L[j].f0 e L := by
 apply List.ext_getElem
 ·
  rw [List.length_set, upd_len]
 ·
  intro i h1 h2
  rw [List.length_set] at h1
  rw [List.getElem_set, show (upd L[j].f0 e L)[i] = _ from List.getElem_map ..]
  by_cases c : j = i
  ·
   subst c
   rw [if_pos rfl, if_pos rfl]
  ·
   rw [if_neg c, if_neg]
   intro e1
   rcases Nat.lt_or_ge i j with hlt | hge
   ·
    have := (List.pairwise_iff_getElem.1 h) i j h1 hj hlt
    omega
   ·
    have := (List.pairwise_iff_getElem.1 h) j i hj h1 (by omega)
    omega
theorem ref_Charge_none {w : World} {P : Nat → Prop} {v : Value} {low : Int} {L : List S86} (h : RefAt w P v low L) (hL : L.length < 1000000) (id : Int) (hk : look L id = none) :
  Calls Try.prog 48 #[v, .int .i64 id] w fun e w' => e = .returned (.tuple #[v, .bool false, .int .i64 3]) ∧ Below w.heap.size w w' := by
 obtain ⟨A, c, rfl, hv⟩ := h
 obtain ⟨_, hc, hC⟩ := Kd.zay hv
 have HV := Aside0.mk hv
 have HC := Aside0.mk hC
 have Hc := Aside0.mk hc
 clear hv hC hc
 obtain ⟨i, hi, h2⟩ := zbl low id hL
 obtain ⟨rfl⟩ : i = -1 := by
  rcases h2 with ⟨_, h⟩ | ⟨j, hj, _, h3⟩
  ·
   exact h
  ·
   exact absurd h3 (zbk hk _ (List.getElem_mem hj))
 obtain ⟨k, hk2⟩ := hi.get
 have HK := Aside0.mk hk2
 clear hi hk2 hk h2
 go_enter Try.func48, Try.ntmps48
 go_wp2_with fail
 have hx := zac (zau w (.cells #[.int .i64 low, .slice A L.length c] 39)) (.cells #[.int .i64 0, .slice none 0 0] 39)
 have hy := zau (w.alloc (.cells #[.int .i64 low, .slice A L.length c] 39)) (.cells #[.int .i64 0, .slice none 0 0] 39)
 have hB2 := zae (zae (Below.refl _ w) (.cells #[.int .i64 low, .slice A L.length c] 39)) (.cells #[.int .i64 0, .slice none 0 0] 39)
 rw [show (w.alloc (.cells #[.int .i64 low, .slice A L.length c] 39)).heap.size = w.heap.size + 1 by simp] at hy
 generalize (w.alloc (.cells #[.int .i64 low, .slice A L.length c] 39)).alloc (.cells #[.int .i64 0, .slice none 0 0] 39) = W2 at hx hy hB2 ⊢
 go_at_call 28
 refine (zam.calls k low A c L _ _ W2 (Kd.zbb HC.out hB2) Hc.out HK.out).mono ?_
 rintro e w3 ⟨rfl, hb3⟩
 have hx3 := (hb3.block _ (zak hx)).trans hx
 have hy3 := (hb3.block _ (zak hy)).trans hy
 have HB3 := Aside0.mk (zai hB2 hb3)
 have x0 : w3.cell? ⟨w.heap.size, 0, none⟩ = some (.int .i64 low) := (za hx3 0).trans rfl
 have x1 : w3.cell? ⟨w.heap.size, 1, none⟩ = some (.slice A L.length c) := (za hx3 1).trans rfl
 have y0 : w3.cell? ⟨w.heap.size + 1, 0, none⟩ = some (.int .i64 0) := (za hy3 0).trans rfl
 have y1 : w3.cell? ⟨w.heap.size + 1, 1, none⟩ = some (.slice none 0 0) := (za hy3 1).trans rfl
 have z0 := zaa hy3 0
 have z1 := zaa hy3 1
 have HX3 := Aside0.mk hx3
 have HY3 := Aside0.mk hy3
 clear hx hy hB2 hb3 hx3 hy3
 go_wp2_with fail
 refine bodyPost_ret (results_ctt rfl _ _ (w.heap.size + 1) 39 #[.int .i64 low, .slice A L.length c] (0, 0) _ rfl (zal (zal HY3.out 0 _ rfl) 1 _ rfl) Try.underlying39 rfl (by kernel_rfl)) rfl ?_
 exact ⟨rfl, (HB3.out.setCell (p := ⟨w.heap.size + 1, 0, none⟩) (Nat.le_succ _) _).setCell (p := ⟨w.heap.size + 1, 1, none⟩) (Nat.le_succ _) _⟩
theorem ref_Resize_none {w : World} {P : Nat → Prop} {v : Value} {low : Int} {L : List S86} (h : RefAt w P v low L) (hL : L.length < 1000000) (id : Int) (slice : Int) (hk : look L id = none) :
  Calls Try.prog 49 #[v, .int .i64 id, .int .i64 slice] w fun e w' => e = .returned (.tuple #[v, .int .i64 3]) ∧ Below w.heap.size w w' := by
 obtain ⟨A, c, rfl, hv⟩ := h
 obtain ⟨_, hc, hC⟩ := Kd.zay hv
 have HV := Aside0.mk hv
 have HC := Aside0.mk hC
 have Hc := Aside0.mk hc
 clear hv hC hc
 obtain ⟨i, hi, h2⟩ := zbl low id hL
 obtain ⟨rfl⟩ : i = -1 := by
  rcases h2 with ⟨_, h⟩ | ⟨j, hj, _, h3⟩
  ·
   exact h
  ·
   exact absurd h3 (zbk hk _ (List.getElem_mem hj))
 obtain ⟨k, hk2⟩ := hi.get
 have HK := Aside0.mk hk2
 clear hi hk2 hk h2
 go_enter Try.func49, Try.ntmps49
 go_wp2_with fail
 have hx := zac (zau w (.cells #[.int .i64 low, .slice A L.length c] 39)) (.cells #[.int .i64 0, .slice none 0 0] 39)
 have hy := zau (w.alloc (.cells #[.int .i64 low, .slice A L.length c] 39)) (.cells #[.int .i64 0, .slice none 0 0] 39)
 have hB2 := zae (zae (Below.refl _ w) (.cells #[.int .i64 low, .slice A L.length c] 39)) (.cells #[.int .i64 0, .slice none 0 0] 39)
 rw [show (w.alloc (.cells #[.int .i64 low, .slice A L.length c] 39)).heap.size = w.heap.size + 1 by simp] at hy
 generalize (w.alloc (.cells #[.int .i64 low, .slice A L.length c] 39)).alloc (.cells #[.int .i64 0, .slice none 0 0] 39) = W2 at hx hy hB2 ⊢
 go_at_call 28
 refine (zam.calls k low A c L _ _ W2 (Kd.zbb HC.out hB2) Hc.out HK.out).mono ?_
 rintro e w3 ⟨rfl, hb3⟩
 have hx3 := (hb3.block _ (zak hx)).trans hx
 have hy3 := (hb3.block _ (zak hy)).trans hy
 have HB3 := Aside0.mk (zai hB2 hb3)
 have x0 : w3.cell? ⟨w.heap.size, 0, none⟩ = some (.int .i64 low) := (za hx3 0).trans rfl
 have x1 : w3.cell? ⟨w.heap.size, 1, none⟩ = some (.slice A L.length c) := (za hx3 1).trans rfl
 have y0 : w3.cell? ⟨w.heap.size + 1, 0, none⟩ = some (.int .i64 0) := (za hy3 0).trans rfl
 have y1 : w3.cell? ⟨w.heap.size + 1, 1, none⟩ = some (.slice none 0 0) := (za hy3 1).trans rfl
 have z0 := zaa hy3 0
 have z1 := zaa hy3 1
 have HX3 := Aside0.mk hx3
 have HY3 := Aside0.mk hy3
 clear hx hy hB2 hb3 hx3 hy3
 go_wp2_with fail
 refine bodyPost_ret (za4 rfl _ _ (w.heap.size + 1) 39 #[.int .i64 low, .slice A L.length c] (0, 0) _ rfl (zal (zal HY3.out 0 _ rfl) 1 _ rfl) Try.underlying39 rfl (by kernel_rfl)) rfl ?_
 exact ⟨rfl, (HB3.out.setCell (p := ⟨w.heap.size + 1, 0, none⟩) (Nat.le_succ _) _).setCell (p := ⟨w.heap.size + 1, 1, none⟩) (Nat.le_succ _) _⟩
theorem ref_Charge_spent {w : World} {P : Nat → Prop} {v : Value} {low : Int} {L : List S86} (h : RefAt w P v low L) (hL : L.length < 1000000) (id : Int) {tag left slice : Int} (hG : GoodB low L) (hk : look L id = some (tag, left, slice)) (hl : left = 0) :
  Calls Try.prog 48 #[v, .int .i64 id] w fun e w' => e = .returned (.tuple #[v, .bool false, .int .i64 10]) ∧ Below w.heap.size w w' := by
 obtain ⟨A, c, rfl, hv⟩ := h
 obtain ⟨_, hc, hC⟩ := Kd.zay hv
 have HV := Aside0.mk hv
 have HC := Aside0.mk hC
 have Hc := Aside0.mk hc
 clear hv hC hc
 obtain ⟨i, hi, h2⟩ := zbl low id hL
 obtain ⟨j, hj, rfl, hid⟩ : ∃ j : Nat, ∃ h : j < L.length, i = (j : Int) ∧ L[j].f0 = id := by
  rcases h2 with ⟨h, _⟩ | h
  ·
   rw [h] at hk
   cases hk
  ·
   exact h
 have hval : look L id = some (L[j].f1, L[j].f2, L[j].f3) := by rw [← hid]; exact zbi hG.1 (List.getElem_mem hj)
 rw [hval] at hk
 obtain ⟨rfl⟩ : L[j].f1 = tag := by cases hk; rfl
 obtain ⟨rfl⟩ : L[j].f2 = left := by cases hk; rfl
 obtain ⟨rfl⟩ : L[j].f3 = slice := by cases hk; rfl
 subst hid
 obtain ⟨k, hk2⟩ := hi.get
 have HK := Aside0.mk hk2
 have hgood := hG.2 _ (List.getElem_mem hj)
 clear hi hk2 hk h2 hval
 go_enter Try.func48, Try.ntmps48
 go_wp2_with fail
 have hx := zac (zau w (.cells #[.int .i64 low, .slice A L.length c] 39)) (.cells #[.int .i64 0, .slice none 0 0] 39)
 have hy := zau (w.alloc (.cells #[.int .i64 low, .slice A L.length c] 39)) (.cells #[.int .i64 0, .slice none 0 0] 39)
 have hB2 := zae (zae (Below.refl _ w) (.cells #[.int .i64 low, .slice A L.length c] 39)) (.cells #[.int .i64 0, .slice none 0 0] 39)
 rw [show (w.alloc (.cells #[.int .i64 low, .slice A L.length c] 39)).heap.size = w.heap.size + 1 by simp] at hy
 generalize (w.alloc (.cells #[.int .i64 low, .slice A L.length c] 39)).alloc (.cells #[.int .i64 0, .slice none 0 0] 39) = W2 at hx hy hB2 ⊢
 go_at_call 28
 refine (zam.calls k low A c L _ _ W2 (Kd.zbb HC.out hB2) Hc.out HK.out).mono ?_
 rintro e w3 ⟨rfl, hb3⟩
 have hx3 := (hb3.block _ (zak hx)).trans hx
 have hy3 := (hb3.block _ (zak hy)).trans hy
 have HB3 := Aside0.mk (zai hB2 hb3)
 have x0 : w3.cell? ⟨w.heap.size, 0, none⟩ = some (.int .i64 low) := (za hx3 0).trans rfl
 have x1 : w3.cell? ⟨w.heap.size, 1, none⟩ = some (.slice A L.length c) := (za hx3 1).trans rfl
 have y0 : w3.cell? ⟨w.heap.size + 1, 0, none⟩ = some (.int .i64 0) := (za hy3 0).trans rfl
 have y1 : w3.cell? ⟨w.heap.size + 1, 1, none⟩ = some (.slice none 0 0) := (za hy3 1).trans rfl
 have z0 := zaa hy3 0
 have z1 := zaa hy3 1
 have HX3 := Aside0.mk hx3
 have HY3 := Aside0.mk hy3
 clear hx hy hB2 hb3 hx3 hy3
 have hj1 : (j : Int) < (L.length : Int) := by omega
 obtain ⟨ad, e1, q0, q1, q2, q3⟩ := at_T86 HC.out (j : Int) (by omega) hj1
 subst e1
 rw [rd_nat86 hj, Int.toNat_natCast] at q0 q1 q2 q3
 replace q0 := (HB3.out.cell (World.block_lt_of_cell? w _ q0)).trans q0
 replace q1 := (HB3.out.cell (World.block_lt_of_cell? w _ q1)).trans q1
 replace q2 := (HB3.out.cell (World.block_lt_of_cell? w _ q2)).trans q2
 replace q3 := (HB3.out.cell (World.block_lt_of_cell? w _ q3)).trans q3
 generalize L[j] = E at hl q0 q1 q2 q3 hgood
 rw [hl] at q2
 clear hl hgood
 have HB4 := Aside0.mk (zae HB3.out (.cells #[.int .i64 E.f0, .int .i64 E.f1, .int .i64 0, .int .i64 E.f3] 86))
 have hx4 := zac HX3.out (.cells #[.int .i64 E.f0, .int .i64 E.f1, .int .i64 0, .int .i64 E.f3] 86)
 have hy4 := zac HY3.out (.cells #[.int .i64 E.f0, .int .i64 E.f1, .int .i64 0, .int .i64 E.f3] 86)
 have hE4 := zau w3 (.cells #[.int .i64 E.f0, .int .i64 E.f1, .int .i64 0, .int .i64 E.f3] 86)
 clear y0 y1 z0 z1
 have u0 : (w3.alloc (.cells #[.int .i64 E.f0, .int .i64 E.f1, .int .i64 0, .int .i64 E.f3] 86)).cell? ⟨w.heap.size, 0, none⟩ = some (.int .i64 low) := (za hx4 0).trans rfl
 have u1 : (w3.alloc (.cells #[.int .i64 E.f0, .int .i64 E.f1, .int .i64 0, .int .i64 E.f3] 86)).cell? ⟨w.heap.size, 1, none⟩ = some (.slice (some ad) L.length c) := (za hx4 1).trans rfl
 have y0 : (w3.alloc (.cells #[.int .i64 E.f0, .int .i64 E.f1, .int .i64 0, .int .i64 E.f3] 86)).cell? ⟨w.heap.size + 1, 0, none⟩ = some (.int .i64 0) := (za hy4 0).trans rfl
 have y1 : (w3.alloc (.cells #[.int .i64 E.f0, .int .i64 E.f1, .int .i64 0, .int .i64 E.f3] 86)).cell? ⟨w.heap.size + 1, 1, none⟩ = some (.slice none 0 0) := (za hy4 1).trans rfl
 have z0 := zaa hy4 0
 have z1 := zaa hy4 1
 have HY4 := Aside0.mk hy4
 clear hx4 hy4 hE4
 go_wp2_with fail
 refine bodyPost_ret (results_ctt rfl _ _ (w.heap.size + 1) 39 #[.int .i64 low, .slice (some ad) L.length c] (0, 0) _ rfl (zal (zal HY4.out 0 _ rfl) 1 _ rfl) Try.underlying39 rfl (by kernel_rfl)) rfl ?_
 exact ⟨rfl, (HB4.out.setCell (p := ⟨w.heap.size + 1, 0, none⟩) (Nat.le_succ _) _).setCell (p := ⟨w.heap.size + 1, 1, none⟩) (Nat.le_succ _) _⟩
theorem ref_Charge_a {w : World} {P : Nat → Prop} {v : Value} {low : Int} {L : List S86} (h : RefAt w P v low L) (hL : L.length < 1000000) (id : Int) {tag left slice : Int} (hG : GoodB low L) (hlow : 0 < low ∧ low < 999999) (hk : look L id = some (tag, left, slice)) (hl : left - 1 > 0) :
  Calls Try.prog 48 #[v, .int .i64 id] w fun e w' => ∃ v', e = .returned (.tuple #[v', .bool false, .int .i64 0]) ∧ RefAt w' (fun k => P k ∨ w.heap.size ≤ k) v' low (upd id (chE low tag left slice) L) ∧ Below w.heap.size w w' := by
 obtain ⟨A, c, rfl, hv⟩ := h
 obtain ⟨_, hc, hC⟩ := Kd.zay hv
 have HV := Aside0.mk hv
 have HC := Aside0.mk hC
 have Hc := Aside0.mk hc
 clear hv hC hc
 obtain ⟨i, hi, h2⟩ := zbl low id hL
 obtain ⟨j, hj, rfl, hid⟩ : ∃ j : Nat, ∃ h : j < L.length, i = (j : Int) ∧ L[j].f0 = id := by
  rcases h2 with ⟨h, _⟩ | h
  ·
   rw [h] at hk
   cases hk
  ·
   exact h
 have hval : look L id = some (L[j].f1, L[j].f2, L[j].f3) := by rw [← hid]; exact zbi hG.1 (List.getElem_mem hj)
 rw [hval] at hk
 obtain ⟨rfl⟩ : L[j].f1 = tag := by cases hk; rfl
 obtain ⟨rfl⟩ : L[j].f2 = left := by cases hk; rfl
 obtain ⟨rfl⟩ : L[j].f3 = slice := by cases hk; rfl
 subst hid
 obtain ⟨k, hk2⟩ := hi.get
 have HK := Aside0.mk hk2
 have hgood := hG.2 _ (List.getElem_mem hj)
 clear hi hk2 hk h2 hval
 have hids := hG.1
 have hch : chE low L[j].f1 L[j].f2 L[j].f3 = (L[j].f1, L[j].f2 - 1, L[j].f3) := by
  unfold chE
  obtain ⟨g0, g1, g2, g3, g4, g5, g6, g7⟩ := hgood
  rw [if_pos hl]
 have hset := set_f low hj hL L[j].f0 (L[j].f1) (L[j].f2 - 1) (L[j].f3)
 have hup := upd_set hids hj (L[j].f1, L[j].f2 - 1, L[j].f3)
 dsimp only at hup
 rw [hup, ← hch] at hset
 have HSet := Aside0.mk hset
 clear hset hup hch hids
 go_enter Try.func48, Try.ntmps48
 go_wp2_with fail
 have hx := zac (zau w (.cells #[.int .i64 low, .slice A L.length c] 39)) (.cells #[.int .i64 0, .slice none 0 0] 39)
 have hy := zau (w.alloc (.cells #[.int .i64 low, .slice A L.length c] 39)) (.cells #[.int .i64 0, .slice none 0 0] 39)
 have hB2 := zae (zae (Below.refl _ w) (.cells #[.int .i64 low, .slice A L.length c] 39)) (.cells #[.int .i64 0, .slice none 0 0] 39)
 rw [show (w.alloc (.cells #[.int .i64 low, .slice A L.length c] 39)).heap.size = w.heap.size + 1 by simp] at hy
 generalize (w.alloc (.cells #[.int .i64 low, .slice A L.length c] 39)).alloc (.cells #[.int .i64 0, .slice none 0 0] 39) = W2 at hx hy hB2 ⊢
 go_at_call 28
 refine (zam.calls k low A c L _ _ W2 (Kd.zbb HC.out hB2) Hc.out HK.out).mono ?_
 rintro e w3 ⟨rfl, hb3⟩
 have hx3 := (hb3.block _ (zak hx)).trans hx
 have hy3 := (hb3.block _ (zak hy)).trans hy
 have HB3 := Aside0.mk (zai hB2 hb3)
 have x0 : w3.cell? ⟨w.heap.size, 0, none⟩ = some (.int .i64 low) := (za hx3 0).trans rfl
 have x1 : w3.cell? ⟨w.heap.size, 1, none⟩ = some (.slice A L.length c) := (za hx3 1).trans rfl
 have y0 : w3.cell? ⟨w.heap.size + 1, 0, none⟩ = some (.int .i64 0) := (za hy3 0).trans rfl
 have y1 : w3.cell? ⟨w.heap.size + 1, 1, none⟩ = some (.slice none 0 0) := (za hy3 1).trans rfl
 have z0 := zaa hy3 0
 have z1 := zaa hy3 1
 have HX3 := Aside0.mk hx3
 have HY3 := Aside0.mk hy3
 clear hx hy hB2 hb3 hx3 hy3
 have hj1 : (j : Int) < (L.length : Int) := by omega
 obtain ⟨ad, e1, q0, q1, q2, q3⟩ := at_T86 HC.out (j : Int) (by omega) hj1
 subst e1
 rw [rd_nat86 hj, Int.toNat_natCast] at q0 q1 q2 q3
 replace q0 := (HB3.out.cell (World.block_lt_of_cell? w _ q0)).trans q0
 replace q1 := (HB3.out.cell (World.block_lt_of_cell? w _ q1)).trans q1
 replace q2 := (HB3.out.cell (World.block_lt_of_cell? w _ q2)).trans q2
 replace q3 := (HB3.out.cell (World.block_lt_of_cell? w _ q3)).trans q3
 have hbnd : 0 ≤ L[j].f2 ∧ L[j].f2 ≤ 1000 ∧ low ≤ L[j].f1 ∧ L[j].f1 ≤ low + 1 := by
  obtain ⟨g0, g1, g2, g3, g4, g5, g6, g7⟩ := hgood
  omega
 generalize hEq : L[j] = E at *
 have HEq := Aside0.mk hEq
 clear hEq hgood y0 y1 z0 z1
 have d1 : wrap64 (E.f2 - 1) = E.f2 - 1 := w64s (by omega) (by omega)
 have d0 : (E.f2 == 0) = false := beq_eq_false_iff_ne.mpr (by omega)
 have d2 : (E.f2 - 1 == 0) = false := beq_eq_false_iff_ne.mpr (by omega)
 have u0 : (w3.alloc (.cells #[.int .i64 E.f0, .int .i64 E.f1, .int .i64 (E.f2 - 1), .int .i64 E.f3] 86)).cell? ⟨w.heap.size, 0, none⟩ = some (Value.int .i64 low) := (za (zac HX3.out (.cells #[.int .i64 E.f0, .int .i64 E.f1, .int .i64 (E.f2 - 1), .int .i64 E.f3] 86)) 0).trans rfl
 have u1 : (w3.alloc (.cells #[.int .i64 E.f0, .int .i64 E.f1, .int .i64 (E.f2 - 1), .int .i64 E.f3] 86)).cell? ⟨w.heap.size, 1, none⟩ = some (Value.slice (some ad) L.length c) := (za (zac HX3.out (.cells #[.int .i64 E.f0, .int .i64 E.f1, .int .i64 (E.f2 - 1), .int .i64 E.f3] 86)) 1).trans rfl
 have HB4 := Aside0.mk (zae HB3.out (.cells #[.int .i64 E.f0, .int .i64 E.f1, .int .i64 (E.f2 - 1), .int .i64 E.f3] 86))
 have HY4 := Aside0.mk (zac HY3.out (.cells #[.int .i64 E.f0, .int .i64 E.f1, .int .i64 (E.f2 - 1), .int .i64 E.f3] 86))
 go_wp2_with fail
 go_at_call 60
 refine (za5.calls low (some ad) c L (j : Int) E.f0 (E.f1) (E.f2 - 1) (E.f3) low _ _ (Kd.zbb HC.out HB4.out) Hc.out HSet.out).mono ?_
 rintro e w5 ⟨u9, rfl, hu, hb5⟩
 obtain ⟨A', c', rfl⟩ := Kd.zbr hu
 have hV5 : Kd.V k86 86 w5 0 (fun k => w3.heap.size ≤ k) (.slice A' _ c') _ := Kd.R_V (Kd.zbs (Kd.R_bound hu) (fun k hk => by have := hk.2.1; simp at this; omega))
 have hy5 := (hb5.block _ (zak HY4.out)).trans HY4.out
 have HB5 := Aside0.mk (zai HB4.out hb5)
 have y0 : w5.cell? ⟨w.heap.size + 1, 0, none⟩ = some (.int .i64 0) := (za hy5 0).trans rfl
 have y1 : w5.cell? ⟨w.heap.size + 1, 1, none⟩ = some (.slice none 0 0) := (za hy5 1).trans rfl
 have z0 := zaa hy5 0
 have z1 := zaa hy5 1
 have HY5 := Aside0.mk hy5
 have HV5 := Aside0.mk hV5
 have hsz3 := HB3.out.size
 have hsy := zak HY3.out
 clear hu hb5 hy5 hV5
 go_wp2_with fail
 refine bodyPost_ret (results_ctt rfl _ _ (w.heap.size + 1) 39 #[.int .i64 low, .slice A' _ c'] (0, 0) _ rfl (zal (zal HY5.out 0 _ rfl) 1 _ rfl) Try.underlying39 rfl (by kernel_rfl)) rfl ?_
 rw [HEq.out]
 exact ⟨_, rfl, ⟨A', c', rfl, Kd.za2 (Kd.V_far (p := ⟨w.heap.size + 1, 1, none⟩) (Kd.V_far (p := ⟨w.heap.size + 1, 0, none⟩) HV5.out (fun k hk => by show k ≠ w.heap.size + 1; omega) _) (fun k hk => by show k ≠ w.heap.size + 1; omega) _) (fun k hk => .inr (by omega))⟩, (HB5.out.setCell (p := ⟨w.heap.size + 1, 0, none⟩) (Nat.le_succ _) _).setCell (p := ⟨w.heap.size + 1, 1, none⟩) (Nat.le_succ _) _⟩
theorem ref_Charge_b {w : World} {P : Nat → Prop} {v : Value} {low : Int} {L : List S86} (h : RefAt w P v low L) (hL : L.length < 1000000) (id : Int) {tag left slice : Int} (hG : GoodB low L) (hlow : 0 < low ∧ low < 999999) (hk : look L id = some (tag, left, slice)) (hl : left = 1) (ht : tag = low) :
  Calls Try.prog 48 #[v, .int .i64 id] w fun e w' => ∃ v', e = .returned (.tuple #[v', .bool true, .int .i64 0]) ∧ RefAt w' (fun k => P k ∨ w.heap.size ≤ k) v' low (upd id (chE low tag left slice) L) ∧ Below w.heap.size w w' := by
 obtain ⟨A, c, rfl, hv⟩ := h
 obtain ⟨_, hc, hC⟩ := Kd.zay hv
 have HV := Aside0.mk hv
 have HC := Aside0.mk hC
 have Hc := Aside0.mk hc
 clear hv hC hc
 obtain ⟨i, hi, h2⟩ := zbl low id hL
 obtain ⟨j, hj, rfl, hid⟩ : ∃ j : Nat, ∃ h : j < L.length, i = (j : Int) ∧ L[j].f0 = id := by
  rcases h2 with ⟨h, _⟩ | h
  ·
   rw [h] at hk
   cases hk
  ·
   exact h
 have hval : look L id = some (L[j].f1, L[j].f2, L[j].f3) := by rw [← hid]; exact zbi hG.1 (List.getElem_mem hj)
 rw [hval] at hk
 obtain ⟨rfl⟩ : L[j].f1 = tag := by cases hk; rfl
 obtain ⟨rfl⟩ : L[j].f2 = left := by cases hk; rfl
 obtain ⟨rfl⟩ : L[j].f3 = slice := by cases hk; rfl
 subst hid
 obtain ⟨k, hk2⟩ := hi.get
 have HK := Aside0.mk hk2
 have hgood := hG.2 _ (List.getElem_mem hj)
 clear hi hk2 hk h2 hval
 have hids := hG.1
 have hch : chE low L[j].f1 L[j].f2 L[j].f3 = (L[j].f1 + 1, L[j].f3, L[j].f3) := by
  unfold chE
  obtain ⟨g0, g1, g2, g3, g4, g5, g6, g7⟩ := hgood
  rw [if_neg (by omega), if_pos ht]
 have hset := set_f low hj hL L[j].f0 (L[j].f1 + 1) (L[j].f3) (L[j].f3)
 have hup := upd_set hids hj (L[j].f1 + 1, L[j].f3, L[j].f3)
 dsimp only at hup
 rw [hup, ← hch] at hset
 have HSet := Aside0.mk hset
 clear hset hup hch hids
 go_enter Try.func48, Try.ntmps48
 go_wp2_with fail
 have hx := zac (zau w (.cells #[.int .i64 low, .slice A L.length c] 39)) (.cells #[.int .i64 0, .slice none 0 0] 39)
 have hy := zau (w.alloc (.cells #[.int .i64 low, .slice A L.length c] 39)) (.cells #[.int .i64 0, .slice none 0 0] 39)
 have hB2 := zae (zae (Below.refl _ w) (.cells #[.int .i64 low, .slice A L.length c] 39)) (.cells #[.int .i64 0, .slice none 0 0] 39)
 rw [show (w.alloc (.cells #[.int .i64 low, .slice A L.length c] 39)).heap.size = w.heap.size + 1 by simp] at hy
 generalize (w.alloc (.cells #[.int .i64 low, .slice A L.length c] 39)).alloc (.cells #[.int .i64 0, .slice none 0 0] 39) = W2 at hx hy hB2 ⊢
 go_at_call 28
 refine (zam.calls k low A c L _ _ W2 (Kd.zbb HC.out hB2) Hc.out HK.out).mono ?_
 rintro e w3 ⟨rfl, hb3⟩
 have hx3 := (hb3.block _ (zak hx)).trans hx
 have hy3 := (hb3.block _ (zak hy)).trans hy
 have HB3 := Aside0.mk (zai hB2 hb3)
 have x0 : w3.cell? ⟨w.heap.size, 0, none⟩ = some (.int .i64 low) := (za hx3 0).trans rfl
 have x1 : w3.cell? ⟨w.heap.size, 1, none⟩ = some (.slice A L.length c) := (za hx3 1).trans rfl
 have y0 : w3.cell? ⟨w.heap.size + 1, 0, none⟩ = some (.int .i64 0) := (za hy3 0).trans rfl
 have y1 : w3.cell? ⟨w.heap.size + 1, 1, none⟩ = some (.slice none 0 0) := (za hy3 1).trans rfl
 have z0 := zaa hy3 0
 have z1 := zaa hy3 1
 have HX3 := Aside0.mk hx3
 have HY3 := Aside0.mk hy3
 clear hx hy hB2 hb3 hx3 hy3
 have hj1 : (j : Int) < (L.length : Int) := by omega
 obtain ⟨ad, e1, q0, q1, q2, q3⟩ := at_T86 HC.out (j : Int) (by omega) hj1
 subst e1
 rw [rd_nat86 hj, Int.toNat_natCast] at q0 q1 q2 q3
 replace q0 := (HB3.out.cell (World.block_lt_of_cell? w _ q0)).trans q0
 replace q1 := (HB3.out.cell (World.block_lt_of_cell? w _ q1)).trans q1
 replace q2 := (HB3.out.cell (World.block_lt_of_cell? w _ q2)).trans q2
 replace q3 := (HB3.out.cell (World.block_lt_of_cell? w _ q3)).trans q3
 have hbnd : 0 ≤ L[j].f2 ∧ L[j].f2 ≤ 1000 ∧ low ≤ L[j].f1 ∧ L[j].f1 ≤ low + 1 := by
  obtain ⟨g0, g1, g2, g3, g4, g5, g6, g7⟩ := hgood
  omega
 generalize hEq : L[j] = E at *
 have HEq := Aside0.mk hEq
 clear hEq hgood y0 y1 z0 z1
 have d1 : wrap64 (E.f2 - 1) = E.f2 - 1 := w64s (by omega) (by omega)
 have d0 : (E.f2 == 0) = false := beq_eq_false_iff_ne.mpr (by omega)
 have d2 : (E.f2 - 1 == 0) = true := by simpa using (show E.f2 - 1 = 0 by omega)
 have d3 : (E.f1 == low) = true := by simpa using ht
 have d4 : wrap64 (E.f1 + 1) = E.f1 + 1 := w64s (by omega) (by omega)
 have HT := Aside0.mk ht
 have HLf := Aside0.mk hl
 clear ht hl
 have u0 : (w3.alloc (.cells #[.int .i64 E.f0, .int .i64 E.f1, .int .i64 (E.f2 - 1), .int .i64 E.f3] 86)).cell? ⟨w.heap.size, 0, none⟩ = some (Value.int .i64 low) := (za (zac HX3.out (.cells #[.int .i64 E.f0, .int .i64 E.f1, .int .i64 (E.f2 - 1), .int .i64 E.f3] 86)) 0).trans rfl
 have u1 : (w3.alloc (.cells #[.int .i64 E.f0, .int .i64 E.f1, .int .i64 (E.f2 - 1), .int .i64 E.f3] 86)).cell? ⟨w.heap.size, 1, none⟩ = some (Value.slice (some ad) L.length c) := (za (zac HX3.out (.cells #[.int .i64 E.f0, .int .i64 E.f1, .int .i64 (E.f2 - 1), .int .i64 E.f3] 86)) 1).trans rfl
 have u2 : (w3.alloc (.cells #[.int .i64 E.f0, .int .i64 (E.f1 + 1), .int .i64 (E.f2 - 1), .int .i64 E.f3] 86)).cell? ⟨w.heap.size, 0, none⟩ = some (Value.int .i64 low) := (za (zac HX3.out (.cells #[.int .i64 E.f0, .int .i64 (E.f1 + 1), .int .i64 (E.f2 - 1), .int .i64 E.f3] 86)) 0).trans rfl
 have u3 : (w3.alloc (.cells #[.int .i64 E.f0, .int .i64 (E.f1 + 1), .int .i64 (E.f2 - 1), .int .i64 E.f3] 86)).cell? ⟨w.heap.size, 1, none⟩ = some (Value.slice (some ad) L.length c) := (za (zac HX3.out (.cells #[.int .i64 E.f0, .int .i64 (E.f1 + 1), .int .i64 (E.f2 - 1), .int .i64 E.f3] 86)) 1).trans rfl
 have u4 : (w3.alloc (.cells #[.int .i64 E.f0, .int .i64 (E.f1 + 1), .int .i64 E.f3, .int .i64 E.f3] 86)).cell? ⟨w.heap.size, 0, none⟩ = some (Value.int .i64 low) := (za (zac HX3.out (.cells #[.int .i64 E.f0, .int .i64 (E.f1 + 1), .int .i64 E.f3, .int .i64 E.f3] 86)) 0).trans rfl
 have u5 : (w3.alloc (.cells #[.int .i64 E.f0, .int .i64 (E.f1 + 1), .int .i64 E.f3, .int .i64 E.f3] 86)).cell? ⟨w.heap.size, 1, none⟩ = some (Value.slice (some ad) L.length c) := (za (zac HX3.out (.cells #[.int .i64 E.f0, .int .i64 (E.f1 + 1), .int .i64 E.f3, .int .i64 E.f3] 86)) 1).trans rfl
 have HB4 := Aside0.mk (zae HB3.out (.cells #[.int .i64 E.f0, .int .i64 (E.f1 + 1), .int .i64 E.f3, .int .i64 E.f3] 86))
 have HY4 := Aside0.mk (zac HY3.out (.cells #[.int .i64 E.f0, .int .i64 (E.f1 + 1), .int .i64 E.f3, .int .i64 E.f3] 86))
 go_wp2_with fail
 go_at_call 60
 refine (za5.calls low (some ad) c L (j : Int) E.f0 (E.f1 + 1) (E.f3) (E.f3) low _ _ (Kd.zbb HC.out HB4.out) Hc.out HSet.out).mono ?_
 rintro e w5 ⟨u9, rfl, hu, hb5⟩
 obtain ⟨A', c', rfl⟩ := Kd.zbr hu
 have hV5 : Kd.V k86 86 w5 0 (fun k => w3.heap.size ≤ k) (.slice A' _ c') _ := Kd.R_V (Kd.zbs (Kd.R_bound hu) (fun k hk => by have := hk.2.1; simp at this; omega))
 have hy5 := (hb5.block _ (zak HY4.out)).trans HY4.out
 have HB5 := Aside0.mk (zai HB4.out hb5)
 have y0 : w5.cell? ⟨w.heap.size + 1, 0, none⟩ = some (.int .i64 0) := (za hy5 0).trans rfl
 have y1 : w5.cell? ⟨w.heap.size + 1, 1, none⟩ = some (.slice none 0 0) := (za hy5 1).trans rfl
 have z0 := zaa hy5 0
 have z1 := zaa hy5 1
 have HY5 := Aside0.mk hy5
 have HV5 := Aside0.mk hV5
 have hsz3 := HB3.out.size
 have hsy := zak HY3.out
 clear hu hb5 hy5 hV5
 go_wp2_with fail
 refine bodyPost_ret (results_ctt rfl _ _ (w.heap.size + 1) 39 #[.int .i64 low, .slice A' _ c'] (0, 0) _ rfl (zal (zal HY5.out 0 _ rfl) 1 _ rfl) Try.underlying39 rfl (by kernel_rfl)) rfl ?_
 rw [HEq.out]
 exact ⟨_, rfl, ⟨A', c', rfl, Kd.za2 (Kd.V_far (p := ⟨w.heap.size + 1, 1, none⟩) (Kd.V_far (p := ⟨w.heap.size + 1, 0, none⟩) HV5.out (fun k hk => by show k ≠ w.heap.size + 1; omega) _) (fun k hk => by show k ≠ w.heap.size + 1; omega) _) (fun k hk => .inr (by omega))⟩, (HB5.out.setCell (p := ⟨w.heap.size + 1, 0, none⟩) (Nat.le_succ _) _).setCell (p := ⟨w.heap.size + 1, 1, none⟩) (Nat.le_succ _) _⟩
theorem ref_Charge_c {w : World} {P : Nat → Prop} {v : Value} {low : Int} {L : List S86} (h : RefAt w P v low L) (hL : L.length < 1000000) (id : Int) {tag left slice : Int} (hG : GoodB low L) (hlow : 0 < low ∧ low < 999999) (hk : look L id = some (tag, left, slice)) (hl : left = 1) (ht : ¬ tag = low) :
  Calls Try.prog 48 #[v, .int .i64 id] w fun e w' => ∃ v', e = .returned (.tuple #[v', .bool true, .int .i64 0]) ∧ RefAt w' (fun k => P k ∨ w.heap.size ≤ k) v' low (upd id (chE low tag left slice) L) ∧ Below w.heap.size w w' := by
 obtain ⟨A, c, rfl, hv⟩ := h
 obtain ⟨_, hc, hC⟩ := Kd.zay hv
 have HV := Aside0.mk hv
 have HC := Aside0.mk hC
 have Hc := Aside0.mk hc
 clear hv hC hc
 obtain ⟨i, hi, h2⟩ := zbl low id hL
 obtain ⟨j, hj, rfl, hid⟩ : ∃ j : Nat, ∃ h : j < L.length, i = (j : Int) ∧ L[j].f0 = id := by
  rcases h2 with ⟨h, _⟩ | h
  ·
   rw [h] at hk
   cases hk
  ·
   exact h
 have hval : look L id = some (L[j].f1, L[j].f2, L[j].f3) := by rw [← hid]; exact zbi hG.1 (List.getElem_mem hj)
 rw [hval] at hk
 obtain ⟨rfl⟩ : L[j].f1 = tag := by cases hk; rfl
 obtain ⟨rfl⟩ : L[j].f2 = left := by cases hk; rfl
 obtain ⟨rfl⟩ : L[j].f3 = slice := by cases hk; rfl
 subst hid
 obtain ⟨k, hk2⟩ := hi.get
 have HK := Aside0.mk hk2
 have hgood := hG.2 _ (List.getElem_mem hj)
 clear hi hk2 hk h2 hval
 have hids := hG.1
 have hch : chE low L[j].f1 L[j].f2 L[j].f3 = (L[j].f1, L[j].f2 - 1, L[j].f3) := by
  unfold chE
  obtain ⟨g0, g1, g2, g3, g4, g5, g6, g7⟩ := hgood
  rw [if_neg (by omega), if_neg ht]
 have hset := set_f low hj hL L[j].f0 (L[j].f1) (L[j].f2 - 1) (L[j].f3)
 have hup := upd_set hids hj (L[j].f1, L[j].f2 - 1, L[j].f3)
 dsimp only at hup
 rw [hup, ← hch] at hset
 have HSet := Aside0.mk hset
 clear hset hup hch hids
 go_enter Try.func48, Try.ntmps48
 go_wp2_with fail
 have hx := zac (zau w (.cells #[.int .i64 low, .slice A L.length c] 39)) (.cells #[.int .i64 0, .slice none 0 0] 39)
 have hy := zau (w.alloc (.cells #[.int .i64 low, .slice A L.length c] 39)) (.cells #[.int .i64 0, .slice none 0 0] 39)
 have hB2 := zae (zae (Below.refl _ w) (.cells #[.int .i64 low, .slice A L.length c] 39)) (.cells #[.int .i64 0, .slice none 0 0] 39)
 rw [show (w.alloc (.cells #[.int .i64 low, .slice A L.length c] 39)).heap.size = w.heap.size + 1 by simp] at hy
 generalize (w.alloc (.cells #[.int .i64 low, .slice A L.length c] 39)).alloc (.cells #[.int .i64 0, .slice none 0 0] 39) = W2 at hx hy hB2 ⊢
 go_at_call 28
 refine (zam.calls k low A c L _ _ W2 (Kd.zbb HC.out hB2) Hc.out HK.out).mono ?_
 rintro e w3 ⟨rfl, hb3⟩
 have hx3 := (hb3.block _ (zak hx)).trans hx
 have hy3 := (hb3.block _ (zak hy)).trans hy
 have HB3 := Aside0.mk (zai hB2 hb3)
 have x0 : w3.cell? ⟨w.heap.size, 0, none⟩ = some (.int .i64 low) := (za hx3 0).trans rfl
 have x1 : w3.cell? ⟨w.heap.size, 1, none⟩ = some (.slice A L.length c) := (za hx3 1).trans rfl
 have y0 : w3.cell? ⟨w.heap.size + 1, 0, none⟩ = some (.int .i64 0) := (za hy3 0).trans rfl
 have y1 : w3.cell? ⟨w.heap.size + 1, 1, none⟩ = some (.slice none 0 0) := (za hy3 1).trans rfl
 have z0 := zaa hy3 0
 have z1 := zaa hy3 1
 have HX3 := Aside0.mk hx3
 have HY3 := Aside0.mk hy3
 clear hx hy hB2 hb3 hx3 hy3
 have hj1 : (j : Int) < (L.length : Int) := by omega
 obtain ⟨ad, e1, q0, q1, q2, q3⟩ := at_T86 HC.out (j : Int) (by omega) hj1
 subst e1
 rw [rd_nat86 hj, Int.toNat_natCast] at q0 q1 q2 q3
 replace q0 := (HB3.out.cell (World.block_lt_of_cell? w _ q0)).trans q0
 replace q1 := (HB3.out.cell (World.block_lt_of_cell? w _ q1)).trans q1
 replace q2 := (HB3.out.cell (World.block_lt_of_cell? w _ q2)).trans q2
 replace q3 := (HB3.out.cell (World.block_lt_of_cell? w _ q3)).trans q3
 have hbnd : 0 ≤ L[j].f2 ∧ L[j].f2 ≤ 1000 ∧ low ≤ L[j].f1 ∧ L[j].f1 ≤ low + 1 := by
  obtain ⟨g0, g1, g2, g3, g4, g5, g6, g7⟩ := hgood
  omega
 generalize hEq : L[j] = E at *
 have HEq := Aside0.mk hEq
 clear hEq hgood y0 y1 z0 z1
 have d1 : wrap64 (E.f2 - 1) = E.f2 - 1 := w64s (by omega) (by omega)
 have d0 : (E.f2 == 0) = false := beq_eq_false_iff_ne.mpr (by omega)
 have d2 : (E.f2 - 1 == 0) = true := by simpa using (show E.f2 - 1 = 0 by omega)
 have d3 : (E.f1 == low) = false := by simpa using ht
 have HT := Aside0.mk ht
 have HLf := Aside0.mk hl
 clear ht hl
 have u0 : (w3.alloc (.cells #[.int .i64 E.f0, .int .i64 E.f1, .int .i64 (E.f2 - 1), .int .i64 E.f3] 86)).cell? ⟨w.heap.size, 0, none⟩ = some (Value.int .i64 low) := (za (zac HX3.out (.cells #[.int .i64 E.f0, .int .i64 E.f1, .int .i64 (E.f2 - 1), .int .i64 E.f3] 86)) 0).trans rfl
 have u1 : (w3.alloc (.cells #[.int .i64 E.f0, .int .i64 E.f1, .int .i64 (E.f2 - 1), .int .i64 E.f3] 86)).cell? ⟨w.heap.size, 1, none⟩ = some (Value.slice (some ad) L.length c) := (za (zac HX3.out (.cells #[.int .i64 E.f0, .int .i64 E.f1, .int .i64 (E.f2 - 1), .int .i64 E.f3] 86)) 1).trans rfl
 have HB4 := Aside0.mk (zae HB3.out (.cells #[.int .i64 E.f0, .int .i64 E.f1, .int .i64 (E.f2 - 1), .int .i64 E.f3] 86))
 have HY4 := Aside0.mk (zac HY3.out (.cells #[.int .i64 E.f0, .int .i64 E.f1, .int .i64 (E.f2 - 1), .int .i64 E.f3] 86))
 go_wp2_with fail
 go_at_call 60
 refine (za5.calls low (some ad) c L (j : Int) E.f0 (E.f1) (E.f2 - 1) (E.f3) low _ _ (Kd.zbb HC.out HB4.out) Hc.out HSet.out).mono ?_
 rintro e w5 ⟨u9, rfl, hu, hb5⟩
 obtain ⟨A', c', rfl⟩ := Kd.zbr hu
 have hV5 : Kd.V k86 86 w5 0 (fun k => w3.heap.size ≤ k) (.slice A' _ c') _ := Kd.R_V (Kd.zbs (Kd.R_bound hu) (fun k hk => by have := hk.2.1; simp at this; omega))
 have hy5 := (hb5.block _ (zak HY4.out)).trans HY4.out
 have HB5 := Aside0.mk (zai HB4.out hb5)
 have y0 : w5.cell? ⟨w.heap.size + 1, 0, none⟩ = some (.int .i64 0) := (za hy5 0).trans rfl
 have y1 : w5.cell? ⟨w.heap.size + 1, 1, none⟩ = some (.slice none 0 0) := (za hy5 1).trans rfl
 have z0 := zaa hy5 0
 have z1 := zaa hy5 1
 have HY5 := Aside0.mk hy5
 have HV5 := Aside0.mk hV5
 have hsz3 := HB3.out.size
 have hsy := zak HY3.out
 clear hu hb5 hy5 hV5
 go_wp2_with fail
 refine bodyPost_ret (results_ctt rfl _ _ (w.heap.size + 1) 39 #[.int .i64 low, .slice A' _ c'] (0, 0) _ rfl (zal (zal HY5.out 0 _ rfl) 1 _ rfl) Try.underlying39 rfl (by kernel_rfl)) rfl ?_
 rw [HEq.out]
 exact ⟨_, rfl, ⟨A', c', rfl, Kd.za2 (Kd.V_far (p := ⟨w.heap.size + 1, 1, none⟩) (Kd.V_far (p := ⟨w.heap.size + 1, 0, none⟩) HV5.out (fun k hk => by show k ≠ w.heap.size + 1; omega) _) (fun k hk => by show k ≠ w.heap.size + 1; omega) _) (fun k hk => .inr (by omega))⟩, (HB5.out.setCell (p := ⟨w.heap.size + 1, 0, none⟩) (Nat.le_succ _) _).setCell (p := ⟨w.heap.size + 1, 1, none⟩) (Nat.le_succ _) _⟩
theorem ref_Resize_a {w : World} {P : Nat → Prop} {v : Value} {low : Int} {L : List S86} (h : RefAt w P v low L) (hL : L.length < 1000000) (id sl : Int) {tag left slice : Int} (hG : GoodB low L) (hk : look L id = some (tag, left, slice)) (hs : 1 ≤ sl ∧ sl ≤ 1000) (hm : sl < left) :
  Calls Try.prog 49 #[v, .int .i64 id, .int .i64 sl] w fun e w' => ∃ v', e = .returned (.tuple #[v', .int .i64 0]) ∧ RefAt w' (fun k => P k ∨ w.heap.size ≤ k) v' low (upd id (tag, mn left sl, sl) L) ∧ Below w.heap.size w w' := by
 obtain ⟨A, c, rfl, hv⟩ := h
 obtain ⟨_, hc, hC⟩ := Kd.zay hv
 have HV := Aside0.mk hv
 have HC := Aside0.mk hC
 have Hc := Aside0.mk hc
 clear hv hC hc
 obtain ⟨i, hi, h2⟩ := zbl low id hL
 obtain ⟨j, hj, rfl, hid⟩ : ∃ j : Nat, ∃ h : j < L.length, i = (j : Int) ∧ L[j].f0 = id := by
  rcases h2 with ⟨h, _⟩ | h
  ·
   rw [h] at hk
   cases hk
  ·
   exact h
 have hval : look L id = some (L[j].f1, L[j].f2, L[j].f3) := by rw [← hid]; exact zbi hG.1 (List.getElem_mem hj)
 rw [hval] at hk
 obtain ⟨rfl⟩ : L[j].f1 = tag := by cases hk; rfl
 obtain ⟨rfl⟩ : L[j].f2 = left := by cases hk; rfl
 obtain ⟨rfl⟩ : L[j].f3 = slice := by cases hk; rfl
 subst hid
 obtain ⟨k, hk2⟩ := hi.get
 have HK := Aside0.mk hk2
 have hgood := hG.2 _ (List.getElem_mem hj)
 clear hi hk2 hk h2 hval
 have hids := hG.1
 have hmn : mn L[j].f2 sl = sl := by
  unfold mn
  rw [if_pos hm]
 have hset := set_f low hj hL L[j].f0 (L[j].f1) (sl) (sl)
 have hup := upd_set hids hj (L[j].f1, sl, sl)
 dsimp only at hup
 rw [hup] at hset
 have HSet := Aside0.mk hset
 have HMn := Aside0.mk hmn
 clear hset hup hmn hids
 go_enter Try.func49, Try.ntmps49
 go_wp2_with fail
 have hx := zac (zau w (.cells #[.int .i64 low, .slice A L.length c] 39)) (.cells #[.int .i64 0, .slice none 0 0] 39)
 have hy := zau (w.alloc (.cells #[.int .i64 low, .slice A L.length c] 39)) (.cells #[.int .i64 0, .slice none 0 0] 39)
 have hB2 := zae (zae (Below.refl _ w) (.cells #[.int .i64 low, .slice A L.length c] 39)) (.cells #[.int .i64 0, .slice none 0 0] 39)
 rw [show (w.alloc (.cells #[.int .i64 low, .slice A L.length c] 39)).heap.size = w.heap.size + 1 by simp] at hy
 generalize (w.alloc (.cells #[.int .i64 low, .slice A L.length c] 39)).alloc (.cells #[.int .i64 0, .slice none 0 0] 39) = W2 at hx hy hB2 ⊢
 go_at_call 28
 refine (zam.calls k low A c L _ _ W2 (Kd.zbb HC.out hB2) Hc.out HK.out).mono ?_
 rintro e w3 ⟨rfl, hb3⟩
 have hx3 := (hb3.block _ (zak hx)).trans hx
 have hy3 := (hb3.block _ (zak hy)).trans hy
 have HB3 := Aside0.mk (zai hB2 hb3)
 have x0 : w3.cell? ⟨w.heap.size, 0, none⟩ = some (.int .i64 low) := (za hx3 0).trans rfl
 have x1 : w3.cell? ⟨w.heap.size, 1, none⟩ = some (.slice A L.length c) := (za hx3 1).trans rfl
 have y0 : w3.cell? ⟨w.heap.size + 1, 0, none⟩ = some (.int .i64 0) := (za hy3 0).trans rfl
 have y1 : w3.cell? ⟨w.heap.size + 1, 1, none⟩ = some (.slice none 0 0) := (za hy3 1).trans rfl
 have z0 := zaa hy3 0
 have z1 := zaa hy3 1
 have HX3 := Aside0.mk hx3
 have HY3 := Aside0.mk hy3
 clear hx hy hB2 hb3 hx3 hy3
 have hj1 : (j : Int) < (L.length : Int) := by omega
 obtain ⟨ad, e1, q0, q1, q2, q3⟩ := at_T86 HC.out (j : Int) (by omega) hj1
 subst e1
 rw [rd_nat86 hj, Int.toNat_natCast] at q0 q1 q2 q3
 replace q0 := (HB3.out.cell (World.block_lt_of_cell? w _ q0)).trans q0
 replace q1 := (HB3.out.cell (World.block_lt_of_cell? w _ q1)).trans q1
 replace q2 := (HB3.out.cell (World.block_lt_of_cell? w _ q2)).trans q2
 replace q3 := (HB3.out.cell (World.block_lt_of_cell? w _ q3)).trans q3
 have hbnd : 0 ≤ L[j].f2 ∧ L[j].f2 ≤ 1000 ∧ low ≤ L[j].f1 ∧ L[j].f1 ≤ low + 1 := by
  obtain ⟨g0, g1, g2, g3, g4, g5, g6, g7⟩ := hgood
  omega
 generalize hEq : L[j] = E at *
 have HEq := Aside0.mk hEq
 clear hEq hgood y0 y1 z0 z1
 have d1 : decide (sl < 1) = false := decide_eq_false (by omega)
 have d2 : decide (sl > 1000) = false := decide_eq_false (by omega)
 have u0 : (w3.alloc (.cells #[.int .i64 E.f0, .int .i64 E.f1, .int .i64 sl, .int .i64 sl] 86)).cell? ⟨w.heap.size, 0, none⟩ = some (Value.int .i64 low) := (za (zac HX3.out (.cells #[.int .i64 E.f0, .int .i64 E.f1, .int .i64 sl, .int .i64 sl] 86)) 0).trans rfl
 have u1 : (w3.alloc (.cells #[.int .i64 E.f0, .int .i64 E.f1, .int .i64 sl, .int .i64 sl] 86)).cell? ⟨w.heap.size, 1, none⟩ = some (Value.slice (some ad) L.length c) := (za (zac HX3.out (.cells #[.int .i64 E.f0, .int .i64 E.f1, .int .i64 sl, .int .i64 sl] 86)) 1).trans rfl
 have HB4 := Aside0.mk (zae HB3.out (.cells #[.int .i64 E.f0, .int .i64 E.f1, .int .i64 sl, .int .i64 sl] 86))
 have HY4 := Aside0.mk (zac HY3.out (.cells #[.int .i64 E.f0, .int .i64 E.f1, .int .i64 sl, .int .i64 sl] 86))
 go_wp2_with fail
 go_at_call 60
 refine (za5.calls low (some ad) c L (j : Int) E.f0 (E.f1) (sl) (sl) low _ _ (Kd.zbb HC.out HB4.out) Hc.out HSet.out).mono ?_
 rintro e w5 ⟨u9, rfl, hu, hb5⟩
 obtain ⟨A', c', rfl⟩ := Kd.zbr hu
 have hV5 : Kd.V k86 86 w5 0 (fun k => w3.heap.size ≤ k) (.slice A' _ c') _ := Kd.R_V (Kd.zbs (Kd.R_bound hu) (fun k hk => by have := hk.2.1; simp at this; omega))
 have hy5 := (hb5.block _ (zak HY4.out)).trans HY4.out
 have HB5 := Aside0.mk (zai HB4.out hb5)
 have y0 : w5.cell? ⟨w.heap.size + 1, 0, none⟩ = some (.int .i64 0) := (za hy5 0).trans rfl
 have y1 : w5.cell? ⟨w.heap.size + 1, 1, none⟩ = some (.slice none 0 0) := (za hy5 1).trans rfl
 have z0 := zaa hy5 0
 have z1 := zaa hy5 1
 have HY5 := Aside0.mk hy5
 have HV5 := Aside0.mk hV5
 have hsz3 := HB3.out.size
 have hsy := zak HY3.out
 clear hu hb5 hy5 hV5
 go_wp2_with fail
 refine bodyPost_ret (za4 rfl _ _ (w.heap.size + 1) 39 #[.int .i64 low, .slice A' _ c'] (0, 0) _ rfl (zal (zal HY5.out 0 _ rfl) 1 _ rfl) Try.underlying39 rfl (by kernel_rfl)) rfl ?_
 rw [HEq.out, HMn.out]
 exact ⟨_, rfl, ⟨A', c', rfl, Kd.za2 (Kd.V_far (p := ⟨w.heap.size + 1, 1, none⟩) (Kd.V_far (p := ⟨w.heap.size + 1, 0, none⟩) HV5.out (fun k hk => by show k ≠ w.heap.size + 1; omega) _) (fun k hk => by show k ≠ w.heap.size + 1; omega) _) (fun k hk => .inr (by omega))⟩, (HB5.out.setCell (p := ⟨w.heap.size + 1, 0, none⟩) (Nat.le_succ _) _).setCell (p := ⟨w.heap.size + 1, 1, none⟩) (Nat.le_succ _) _⟩
theorem ref_Resize_b {w : World} {P : Nat → Prop} {v : Value} {low : Int} {L : List S86} (h : RefAt w P v low L) (hL : L.length < 1000000) (id sl : Int) {tag left slice : Int} (hG : GoodB low L) (hk : look L id = some (tag, left, slice)) (hs : 1 ≤ sl ∧ sl ≤ 1000) (hm : ¬ sl < left) :
  Calls Try.prog 49 #[v, .int .i64 id, .int .i64 sl] w fun e w' => ∃ v', e = .returned (.tuple #[v', .int .i64 0]) ∧ RefAt w' (fun k => P k ∨ w.heap.size ≤ k) v' low (upd id (tag, mn left sl, sl) L) ∧ Below w.heap.size w w' := by
 obtain ⟨A, c, rfl, hv⟩ := h
 obtain ⟨_, hc, hC⟩ := Kd.zay hv
 have HV := Aside0.mk hv
 have HC := Aside0.mk hC
 have Hc := Aside0.mk hc
 clear hv hC hc
 obtain ⟨i, hi, h2⟩ := zbl low id hL
 obtain ⟨j, hj, rfl, hid⟩ : ∃ j : Nat, ∃ h : j < L.length, i = (j : Int) ∧ L[j].f0 = id := by
  rcases h2 with ⟨h, _⟩ | h
  ·
   rw [h] at hk
   cases hk
  ·
   exact h
 have hval : look L id = some (L[j].f1, L[j].f2, L[j].f3) := by rw [← hid]; exact zbi hG.1 (List.getElem_mem hj)
 rw [hval] at hk
 obtain ⟨rfl⟩ : L[j].f1 = tag := by cases hk; rfl
 obtain ⟨rfl⟩ : L[j].f2 = left := by cases hk; rfl
 obtain ⟨rfl⟩ : L[j].f3 = slice := by cases hk; rfl
 subst hid
 obtain ⟨k, hk2⟩ := hi.get
 have HK := Aside0.mk hk2
 have hgood := hG.2 _ (List.getElem_mem hj)
 clear hi hk2 hk h2 hval
 have hids := hG.1
 have hmn : mn L[j].f2 sl = L[j].f2 := by
  unfold mn
  rw [if_neg hm]
 have hset := set_f low hj hL L[j].f0 (L[j].f1) (L[j].f2) (sl)
 have hup := upd_set hids hj (L[j].f1, L[j].f2, sl)
 dsimp only at hup
 rw [hup] at hset
 have HSet := Aside0.mk hset
 have HMn := Aside0.mk hmn
 clear hset hup hmn hids
 go_enter Try.func49, Try.ntmps49
 go_wp2_with fail
 have hx := zac (zau w (.cells #[.int .i64 low, .slice A L.length c] 39)) (.cells #[.int .i64 0, .slice none 0 0] 39)
 have hy := zau (w.alloc (.cells #[.int .i64 low, .slice A L.length c] 39)) (.cells #[.int .i64 0, .slice none 0 0] 39)
 have hB2 := zae (zae (Below.refl _ w) (.cells #[.int .i64 low, .slice A L.length c] 39)) (.cells #[.int .i64 0, .slice none 0 0] 39)
 rw [show (w.alloc (.cells #[.int .i64 low, .slice A L.length c] 39)).heap.size = w.heap.size + 1 by simp] at hy
 generalize (w.alloc (.cells #[.int .i64 low, .slice A L.length c] 39)).alloc (.cells #[.int .i64 0, .slice none 0 0] 39) = W2 at hx hy hB2 ⊢
 go_at_call 28
 refine (zam.calls k low A c L _ _ W2 (Kd.zbb HC.out hB2) Hc.out HK.out).mono ?_
 rintro e w3 ⟨rfl, hb3⟩
 have hx3 := (hb3.block _ (zak hx)).trans hx
 have hy3 := (hb3.block _ (zak hy)).trans hy
 have HB3 := Aside0.mk (zai hB2 hb3)
 have x0 : w3.cell? ⟨w.heap.size, 0, none⟩ = some (.int .i64 low) := (za hx3 0).trans rfl
 have x1 : w3.cell? ⟨w.heap.size, 1, none⟩ = some (.slice A L.length c) := (za hx3 1).trans rfl
 have y0 : w3.cell? ⟨w.heap.size + 1, 0, none⟩ = some (.int .i64 0) := (za hy3 0).trans rfl
 have y1 : w3.cell? ⟨w.heap.size + 1, 1, none⟩ = some (.slice none 0 0) := (za hy3 1).trans rfl
 have z0 := zaa hy3 0
 have z1 := zaa hy3 1
 have HX3 := Aside0.mk hx3
 have HY3 := Aside0.mk hy3
 clear hx hy hB2 hb3 hx3 hy3
 have hj1 : (j : Int) < (L.length : Int) := by omega
 obtain ⟨ad, e1, q0, q1, q2, q3⟩ := at_T86 HC.out (j : Int) (by omega) hj1
 subst e1
 rw [rd_nat86 hj, Int.toNat_natCast] at q0 q1 q2 q3
 replace q0 := (HB3.out.cell (World.block_lt_of_cell? w _ q0)).trans q0
 replace q1 := (HB3.out.cell (World.block_lt_of_cell? w _ q1)).trans q1
 replace q2 := (HB3.out.cell (World.block_lt_of_cell? w _ q2)).trans q2
 replace q3 := (HB3.out.cell (World.block_lt_of_cell? w _ q3)).trans q3
 have hbnd : 0 ≤ L[j].f2 ∧ L[j].f2 ≤ 1000 ∧ low ≤ L[j].f1 ∧ L[j].f1 ≤ low + 1 := by
  obtain ⟨g0, g1, g2, g3, g4, g5, g6, g7⟩ := hgood
  omega
 generalize hEq : L[j] = E at *
 have HEq := Aside0.mk hEq
 clear hEq hgood y0 y1 z0 z1
 have d1 : decide (sl < 1) = false := decide_eq_false (by omega)
 have d2 : decide (sl > 1000) = false := decide_eq_false (by omega)
 have hm2 : E.f2 ≤ sl := by omega
 have d3 : decide (sl < E.f2) = false := decide_eq_false (by omega)
 have u0 : (w3.alloc (.cells #[.int .i64 E.f0, .int .i64 E.f1, .int .i64 E.f2, .int .i64 sl] 86)).cell? ⟨w.heap.size, 0, none⟩ = some (Value.int .i64 low) := (za (zac HX3.out (.cells #[.int .i64 E.f0, .int .i64 E.f1, .int .i64 E.f2, .int .i64 sl] 86)) 0).trans rfl
 have u1 : (w3.alloc (.cells #[.int .i64 E.f0, .int .i64 E.f1, .int .i64 E.f2, .int .i64 sl] 86)).cell? ⟨w.heap.size, 1, none⟩ = some (Value.slice (some ad) L.length c) := (za (zac HX3.out (.cells #[.int .i64 E.f0, .int .i64 E.f1, .int .i64 E.f2, .int .i64 sl] 86)) 1).trans rfl
 have HB4 := Aside0.mk (zae HB3.out (.cells #[.int .i64 E.f0, .int .i64 E.f1, .int .i64 E.f2, .int .i64 sl] 86))
 have HY4 := Aside0.mk (zac HY3.out (.cells #[.int .i64 E.f0, .int .i64 E.f1, .int .i64 E.f2, .int .i64 sl] 86))
 go_wp2_with fail
 go_at_call 60
 refine (za5.calls low (some ad) c L (j : Int) E.f0 (E.f1) (E.f2) (sl) low _ _ (Kd.zbb HC.out HB4.out) Hc.out HSet.out).mono ?_
 rintro e w5 ⟨u9, rfl, hu, hb5⟩
 obtain ⟨A', c', rfl⟩ := Kd.zbr hu
 have hV5 : Kd.V k86 86 w5 0 (fun k => w3.heap.size ≤ k) (.slice A' _ c') _ := Kd.R_V (Kd.zbs (Kd.R_bound hu) (fun k hk => by have := hk.2.1; simp at this; omega))
 have hy5 := (hb5.block _ (zak HY4.out)).trans HY4.out
 have HB5 := Aside0.mk (zai HB4.out hb5)
 have y0 : w5.cell? ⟨w.heap.size + 1, 0, none⟩ = some (.int .i64 0) := (za hy5 0).trans rfl
 have y1 : w5.cell? ⟨w.heap.size + 1, 1, none⟩ = some (.slice none 0 0) := (za hy5 1).trans rfl
 have z0 := zaa hy5 0
 have z1 := zaa hy5 1
 have HY5 := Aside0.mk hy5
 have HV5 := Aside0.mk hV5
 have hsz3 := HB3.out.size
 have hsy := zak HY3.out
 clear hu hb5 hy5 hV5
 go_wp2_with fail
 refine bodyPost_ret (za4 rfl _ _ (w.heap.size + 1) 39 #[.int .i64 low, .slice A' _ c'] (0, 0) _ rfl (zal (zal HY5.out 0 _ rfl) 1 _ rfl) Try.underlying39 rfl (by kernel_rfl)) rfl ?_
 rw [HEq.out, HMn.out]
 exact ⟨_, rfl, ⟨A', c', rfl, Kd.za2 (Kd.V_far (p := ⟨w.heap.size + 1, 1, none⟩) (Kd.V_far (p := ⟨w.heap.size + 1, 0, none⟩) HV5.out (fun k hk => by show k ≠ w.heap.size + 1; omega) _) (fun k hk => by show k ≠ w.heap.size + 1; omega) _) (fun k hk => .inr (by omega))⟩, (HB5.out.setCell (p := ⟨w.heap.size + 1, 0, none⟩) (Nat.le_succ _) _).setCell (p := ⟨w.heap.size + 1, 1, none⟩) (Nat.le_succ _) _⟩
theorem ref_Resize_range {w : World} {P : Nat → Prop} {v : Value} {low : Int} {L : List S86} (h : RefAt w P v low L) (hL : L.length < 1000000) (id sl : Int) {tag left slice : Int} (hG : GoodB low L) (hk : look L id = some (tag, left, slice)) (hs : sl < 1 ∨ 1000 < sl) :
  Calls Try.prog 49 #[v, .int .i64 id, .int .i64 sl] w fun e w' => e = .returned (.tuple #[v, .int .i64 14]) ∧ Below w.heap.size w w' := by
 obtain ⟨A, c, rfl, hv⟩ := h
 obtain ⟨_, hc, hC⟩ := Kd.zay hv
 have HV := Aside0.mk hv
 have HC := Aside0.mk hC
 have Hc := Aside0.mk hc
 clear hv hC hc
 obtain ⟨i, hi, h2⟩ := zbl low id hL
 obtain ⟨j, hj, rfl, hid⟩ : ∃ j : Nat, ∃ h : j < L.length, i = (j : Int) ∧ L[j].f0 = id := by
  rcases h2 with ⟨h, _⟩ | h
  ·
   rw [h] at hk
   cases hk
  ·
   exact h
 have hval : look L id = some (L[j].f1, L[j].f2, L[j].f3) := by rw [← hid]; exact zbi hG.1 (List.getElem_mem hj)
 rw [hval] at hk
 obtain ⟨rfl⟩ : L[j].f1 = tag := by cases hk; rfl
 obtain ⟨rfl⟩ : L[j].f2 = left := by cases hk; rfl
 obtain ⟨rfl⟩ : L[j].f3 = slice := by cases hk; rfl
 subst hid
 obtain ⟨k, hk2⟩ := hi.get
 have HK := Aside0.mk hk2
 have hgood := hG.2 _ (List.getElem_mem hj)
 clear hi hk2 hk h2 hval
 have HS := Aside0.mk hs
 clear hs
 go_enter Try.func49, Try.ntmps49
 go_wp2_with fail
 have hx := zac (zau w (.cells #[.int .i64 low, .slice A L.length c] 39)) (.cells #[.int .i64 0, .slice none 0 0] 39)
 have hy := zau (w.alloc (.cells #[.int .i64 low, .slice A L.length c] 39)) (.cells #[.int .i64 0, .slice none 0 0] 39)
 have hB2 := zae (zae (Below.refl _ w) (.cells #[.int .i64 low, .slice A L.length c] 39)) (.cells #[.int .i64 0, .slice none 0 0] 39)
 rw [show (w.alloc (.cells #[.int .i64 low, .slice A L.length c] 39)).heap.size = w.heap.size + 1 by simp] at hy
 generalize (w.alloc (.cells #[.int .i64 low, .slice A L.length c] 39)).alloc (.cells #[.int .i64 0, .slice none 0 0] 39) = W2 at hx hy hB2 ⊢
 go_at_call 28
 refine (zam.calls k low A c L _ _ W2 (Kd.zbb HC.out hB2) Hc.out HK.out).mono ?_
 rintro e w3 ⟨rfl, hb3⟩
 have hx3 := (hb3.block _ (zak hx)).trans hx
 have hy3 := (hb3.block _ (zak hy)).trans hy
 have HB3 := Aside0.mk (zai hB2 hb3)
 have x0 : w3.cell? ⟨w.heap.size, 0, none⟩ = some (.int .i64 low) := (za hx3 0).trans rfl
 have x1 : w3.cell? ⟨w.heap.size, 1, none⟩ = some (.slice A L.length c) := (za hx3 1).trans rfl
 have y0 : w3.cell? ⟨w.heap.size + 1, 0, none⟩ = some (.int .i64 0) := (za hy3 0).trans rfl
 have y1 : w3.cell? ⟨w.heap.size + 1, 1, none⟩ = some (.slice none 0 0) := (za hy3 1).trans rfl
 have z0 := zaa hy3 0
 have z1 := zaa hy3 1
 have HX3 := Aside0.mk hx3
 have HY3 := Aside0.mk hy3
 clear hx hy hB2 hb3 hx3 hy3
 rcases HS.out with hs | hs
 ·
  have d1 : decide (sl < 1) = true := decide_eq_true hs
  clear hs
  go_wp2_with fail
  refine bodyPost_ret (za4 rfl _ _ (w.heap.size + 1) 39 #[.int .i64 low, .slice A L.length c] (0, 0) _ rfl (zal (zal HY3.out 0 _ rfl) 1 _ rfl) Try.underlying39 rfl (by kernel_rfl)) rfl ?_
  exact ⟨rfl, (HB3.out.setCell (p := ⟨w.heap.size + 1, 0, none⟩) (Nat.le_succ _) _).setCell (p := ⟨w.heap.size + 1, 1, none⟩) (Nat.le_succ _) _⟩
 ·
  have d1 : decide (sl < 1) = false := decide_eq_false (by omega)
  have d2 : decide (sl > 1000) = true := decide_eq_true hs
  clear hs
  go_wp2_with fail
  refine bodyPost_ret (za4 rfl _ _ (w.heap.size + 1) 39 #[.int .i64 low, .slice A L.length c] (0, 0) _ rfl (zal (zal HY3.out 0 _ rfl) 1 _ rfl) Try.underlying39 rfl (by kernel_rfl)) rfl ?_
  exact ⟨rfl, (HB3.out.setCell (p := ⟨w.heap.size + 1, 0, none⟩) (Nat.le_succ _) _).setCell (p := ⟨w.heap.size + 1, 1, none⟩) (Nat.le_succ _) _⟩
theorem results_cct {P : Program} {fn : Func} {p p' u : Tmp} {ty ty' : TypeId} (h : fn.results = #[.cell p ty, .cell p' ty', .tmp u]) (tmps : Array Value) (w : World) (g g' : Nat) (t t' : TypeId) (cs cs' : Array Value) (fr fr' : Nat × Nat) (d d' : TypeDesc)
  (hp : tmps.getD p undef = .pointer (some ⟨g, 0, none⟩)) (hg : w.heap[g]? = some (.cells cs t fr))
  (hu : P.underlying ty = some d) (hd : (match d with | .struct _ | .array _ _ => true | _ => false) = true) (hi : (P.info? ty).map (·.size) = some cs.size)
  (hp' : tmps.getD p' undef = .pointer (some ⟨g', 0, none⟩)) (hg' : w.heap[g']? = some (.cells cs' t' fr'))
  (hu' : P.underlying ty' = some d') (hd' : (match d' with | .struct _ | .array _ _ => true | _ => false) = true) (hi' : (P.info? ty').map (·.size) = some cs'.size) :
  (results fn tmps).run P w = .ok (.tuple #[.agg cs, .agg cs', tmps.getD u undef]) w := by
 have h1 : tmps[p]?.getD undef = .pointer (some ⟨g, 0, none⟩) := by simpa using hp
 have h2 : tmps[p']?.getD undef = .pointer (some ⟨g', 0, none⟩) := by simpa using hp'
 simp [results, h, h1, h2, asAddr, run_loadVar_row w g t ty cs fr d hg hu hd hi, run_loadVar_row w g' t' ty' cs' fr' d' hg' hu' hd' hi']
theorem ref_Leave_none {w : World} {P : Nat → Prop} {v : Value} {low : Int} {L : List S86} (h : RefAt w P v low L) (hL : L.length < 1000000) (id : Int) (hk : look L id = none) :
  Calls Try.prog 47 #[v, .int .i64 id] w fun e w' => e = .returned (.tuple #[v, .agg #[.int .i64 0, .int .i64 0, .int .i64 0, .int .i64 0], .int .i64 3]) ∧ Below w.heap.size w w' := by
 obtain ⟨A, c, rfl, hv⟩ := h
 obtain ⟨_, hc, hC⟩ := Kd.zay hv
 have HV := Aside0.mk hv
 have HC := Aside0.mk hC
 have Hc := Aside0.mk hc
 clear hv hC hc
 obtain ⟨i, hi, h2⟩ := zbl low id hL
 obtain ⟨rfl⟩ : i = -1 := by
  rcases h2 with ⟨_, h⟩ | ⟨j, hj, _, h3⟩
  ·
   exact h
  ·
   exact absurd h3 (zbk hk _ (List.getElem_mem hj))
 obtain ⟨k, hk2⟩ := hi.get
 have HK := Aside0.mk hk2
 clear hi hk2 hk h2
 go_enter Try.func47, Try.ntmps47
 go_wp2_with fail
 have hx := zac (zac (zau w (.cells #[.int .i64 low, .slice A L.length c] 39)) (.cells #[.int .i64 0, .slice none 0 0] 39)) (.cells #[.int .i64 0, .int .i64 0, .int .i64 0, .int .i64 0] 86)
 have hy := zac (zau (w.alloc (.cells #[.int .i64 low, .slice A L.length c] 39)) (.cells #[.int .i64 0, .slice none 0 0] 39)) (.cells #[.int .i64 0, .int .i64 0, .int .i64 0, .int .i64 0] 86)
 have he := zau ((w.alloc (.cells #[.int .i64 low, .slice A L.length c] 39)).alloc (.cells #[.int .i64 0, .slice none 0 0] 39)) (.cells #[.int .i64 0, .int .i64 0, .int .i64 0, .int .i64 0] 86)
 have hB2 := zae (zae (zae (Below.refl _ w) (.cells #[.int .i64 low, .slice A L.length c] 39)) (.cells #[.int .i64 0, .slice none 0 0] 39)) (.cells #[.int .i64 0, .int .i64 0, .int .i64 0, .int .i64 0] 86)
 rw [show (w.alloc (.cells #[.int .i64 low, .slice A L.length c] 39)).heap.size = w.heap.size + 1 by simp] at hy
 rw [show ((w.alloc (.cells #[.int .i64 low, .slice A L.length c] 39)).alloc (.cells #[.int .i64 0, .slice none 0 0] 39)).heap.size = w.heap.size + 2 by simp] at he
 generalize ((w.alloc (.cells #[.int .i64 low, .slice A L.length c] 39)).alloc (.cells #[.int .i64 0, .slice none 0 0] 39)).alloc (.cells #[.int .i64 0, .int .i64 0, .int .i64 0, .int .i64 0] 86) = W2 at hx hy he hB2 ⊢
 go_at_call 28
 refine (zam.calls k low A c L _ _ W2 (Kd.zbb HC.out hB2) Hc.out HK.out).mono ?_
 rintro e w3 ⟨rfl, hb3⟩
 have hx3 := (hb3.block _ (zak hx)).trans hx
 have hy3 := (hb3.block _ (zak hy)).trans hy
 have he3 := (hb3.block _ (zak he)).trans he
 have HB3 := Aside0.mk (zai hB2 hb3)
 have x0 : w3.cell? ⟨w.heap.size, 0, none⟩ = some (.int .i64 low) := (za hx3 0).trans rfl
 have x1 : w3.cell? ⟨w.heap.size, 1, none⟩ = some (.slice A L.length c) := (za hx3 1).trans rfl
 have y0 : w3.cell? ⟨w.heap.size + 1, 0, none⟩ = some (.int .i64 0) := (za hy3 0).trans rfl
 have y1 : w3.cell? ⟨w.heap.size + 1, 1, none⟩ = some (.slice none 0 0) := (za hy3 1).trans rfl
 have z0 := zaa hy3 0
 have z1 := zaa hy3 1
 have e0 : w3.cell? ⟨w.heap.size + 2, 0, none⟩ = some (.int .i64 0) := (za he3 0).trans rfl
 have e1 : w3.cell? ⟨w.heap.size + 2, 1, none⟩ = some (.int .i64 0) := (za he3 1).trans rfl
 have e2 : w3.cell? ⟨w.heap.size + 2, 2, none⟩ = some (.int .i64 0) := (za he3 2).trans rfl
 have e3 : w3.cell? ⟨w.heap.size + 2, 3, none⟩ = some (.int .i64 0) := (za he3 3).trans rfl
 have q0 := zaa he3 0
 have q1 := zaa he3 1
 have q2 := zaa he3 2
 have q3 := zaa he3 3
 have HX3 := Aside0.mk hx3
 have HY3 := Aside0.mk hy3
 have HE3 := Aside0.mk he3
 clear hx hy he hB2 hb3 hx3 hy3 he3
 go_wp2_with fail
 refine bodyPost_ret (results_cct rfl _ _ (w.heap.size + 1) (w.heap.size + 2) 39 86 #[.int .i64 low, .slice A L.length c] #[.int .i64 0, .int .i64 0, .int .i64 0, .int .i64 0] (0, 0) (0, 0) _ _ rfl ?hy Try.underlying39 rfl (by kernel_rfl) rfl ?he Try.underlying86 rfl (by kernel_rfl)) rfl ?_
 case hy =>
  refine za3 (za3 (za3 (za3 (zal (zal HY3.out 0 _ rfl) 1 _ rfl) ?_ _) ?_ _) ?_ _) ?_ _
  all_goals (show w.heap.size + 1 ≠ w.heap.size + 2; omega)
 case he =>
  refine zal (zal (zal (zal (za3 (za3 HE3.out ?_ _) ?_ _) 0 _ rfl) 1 _ rfl) 2 _ rfl) 3 _ rfl
  all_goals (show w.heap.size + 2 ≠ w.heap.size + 1; omega)
 exact ⟨rfl, (((((HB3.out.setCell (p := ⟨w.heap.size + 1, 0, none⟩) (Nat.le_succ _) _).setCell (p := ⟨w.heap.size + 1, 1, none⟩) (Nat.le_succ _) _).setCell (p := ⟨w.heap.size + 2, 0, none⟩) (Nat.le_add_right _ 2) _).setCell (p := ⟨w.heap.size + 2, 1, none⟩) (Nat.le_add_right _ 2) _).setCell (p := ⟨w.heap.size + 2, 2, none⟩) (Nat.le_add_right _ 2) _).setCell (p := ⟨w.heap.size + 2, 3, none⟩) (Nat.le_add_right _ 2) _⟩
theorem del_at {L : List S86} (h : Ids L) {j : Nat} (hj : j < L.length) : delL L[j].f0 L = L.take j ++ L.drop (j + 1) := by
 have e : L = L.take j ++ L[j] :: L.drop (j + 1) := by
  rw [← List.drop_eq_getElem_cons hj, List.take_append_drop]
 have hp := List.pairwise_iff_getElem.1 h
 unfold delL
 generalize hx : L[j].f0 = x
 have h1 : (L.take j).filter (fun e => !(e.f0 == x)) = L.take j := List.filter_eq_self.2 fun y hy => by
  obtain ⟨i, hi, rfl⟩ := List.mem_iff_getElem.1 hy
  rw [List.length_take] at hi
  have := hp i j (by omega) hj (by omega)
  rw [List.getElem_take]
  have h2 : ¬ L[i].f0 = x := by omega
  simp [h2]
 have h2 : (L.drop (j + 1)).filter (fun e => !(e.f0 == x)) = L.drop (j + 1) := List.filter_eq_self.2 fun y hy => by
  obtain ⟨i, hi, rfl⟩ := List.mem_iff_getElem.1 hy
  rw [List.length_drop] at hi
  have := hp j (j + 1 + i) hj (by omega) (by omega)
  rw [List.getElem_drop]
  have h2 : ¬ L[j + 1 + i].f0 = x := by omega
  simp [h2]
 conv =>
  lhs
  rw [e]
 rw [List.filter_append, List.filter_cons, h1, h2]
 simp [hx]
theorem ref_Leave_ok {w : World} {P : Nat → Prop} {v : Value} {low : Int} {L : List S86} (h : RefAt w P v low L) (hL : L.length < 1000000) (id : Int) {tag left slice : Int} (hG : GoodB low L) (hk : look L id = some (tag, left, slice)) :
  Calls Try.prog 47 #[v, .int .i64 id] w fun e w' => ∃ v', e = .returned (.tuple #[v', .agg #[.int .i64 id, .int .i64 tag, .int .i64 left, .int .i64 slice], .int .i64 0]) ∧ RefAt w' (fun k => P k ∨ w.heap.size ≤ k) v' low (delL id L) ∧ Below w.heap.size w w' := by
 obtain ⟨A, c, rfl, hv⟩ := h
 obtain ⟨_, hc, hC⟩ := Kd.zay hv
 have HV := Aside0.mk hv
 have HC := Aside0.mk hC
 have Hc := Aside0.mk hc
 clear hv hC hc
 obtain ⟨i, hi, h2⟩ := zbl low id hL
 obtain ⟨j, hj, rfl, hid⟩ : ∃ j : Nat, ∃ h : j < L.length, i = (j : Int) ∧ L[j].f0 = id := by
  rcases h2 with ⟨h, _⟩ | h
  ·
   rw [h] at hk
   cases hk
  ·
   exact h
 have hval : look L id = some (L[j].f1, L[j].f2, L[j].f3) := by rw [← hid]; exact zbi hG.1 (List.getElem_mem hj)
 rw [hval] at hk
 obtain ⟨rfl⟩ : L[j].f1 = tag := by cases hk; rfl
 obtain ⟨rfl⟩ : L[j].f2 = left := by cases hk; rfl
 obtain ⟨rfl⟩ : L[j].f3 = slice := by cases hk; rfl
 subst hid
 obtain ⟨k, hk2⟩ := hi.get
 have HK := Aside0.mk hk2
 have hgood := hG.2 _ (List.getElem_mem hj)
 clear hi hk2 hk h2 hval
 go_enter Try.func47, Try.ntmps47
 go_wp2_with fail
 have hx := zac (zac (zau w (.cells #[.int .i64 low, .slice A L.length c] 39)) (.cells #[.int .i64 0, .slice none 0 0] 39)) (.cells #[.int .i64 0, .int .i64 0, .int .i64 0, .int .i64 0] 86)
 have hy := zac (zau (w.alloc (.cells #[.int .i64 low, .slice A L.length c] 39)) (.cells #[.int .i64 0, .slice none 0 0] 39)) (.cells #[.int .i64 0, .int .i64 0, .int .i64 0, .int .i64 0] 86)
 have he := zau ((w.alloc (.cells #[.int .i64 low, .slice A L.length c] 39)).alloc (.cells #[.int .i64 0, .slice none 0 0] 39)) (.cells #[.int .i64 0, .int .i64 0, .int .i64 0, .int .i64 0] 86)
 have hB2 := zae (zae (zae (Below.refl _ w) (.cells #[.int .i64 low, .slice A L.length c] 39)) (.cells #[.int .i64 0, .slice none 0 0] 39)) (.cells #[.int .i64 0, .int .i64 0, .int .i64 0, .int .i64 0] 86)
 rw [show (w.alloc (.cells #[.int .i64 low, .slice A L.length c] 39)).heap.size = w.heap.size + 1 by simp] at hy
 rw [show ((w.alloc (.cells #[.int .i64 low, .slice A L.length c] 39)).alloc (.cells #[.int .i64 0, .slice none 0 0] 39)).heap.size = w.heap.size + 2 by simp] at he
 generalize ((w.alloc (.cells #[.int .i64 low, .slice A L.length c] 39)).alloc (.cells #[.int .i64 0, .slice none 0 0] 39)).alloc (.cells #[.int .i64 0, .int .i64 0, .int .i64 0, .int .i64 0] 86) = W2 at hx hy he hB2 ⊢
 go_at_call 28
 refine (zam.calls k low A c L _ _ W2 (Kd.zbb HC.out hB2) Hc.out HK.out).mono ?_
 rintro e w3 ⟨rfl, hb3⟩
 have hx3 := (hb3.block _ (zak hx)).trans hx
 have hy3 := (hb3.block _ (zak hy)).trans hy
 have he3 := (hb3.block _ (zak he)).trans he
 have HB3 := Aside0.mk (zai hB2 hb3)
 have x0 : w3.cell? ⟨w.heap.size, 0, none⟩ = some (.int .i64 low) := (za hx3 0).trans rfl
 have x1 : w3.cell? ⟨w.heap.size, 1, none⟩ = some (.slice A L.length c) := (za hx3 1).trans rfl
 have y0 : w3.cell? ⟨w.heap.size + 1, 0, none⟩ = some (.int .i64 0) := (za hy3 0).trans rfl
 have y1 : w3.cell? ⟨w.heap.size + 1, 1, none⟩ = some (.slice none 0 0) := (za hy3 1).trans rfl
 have z0 := zaa hy3 0
 have z1 := zaa hy3 1
 have e0 : w3.cell? ⟨w.heap.size + 2, 0, none⟩ = some (.int .i64 0) := (za he3 0).trans rfl
 have e1 : w3.cell? ⟨w.heap.size + 2, 1, none⟩ = some (.int .i64 0) := (za he3 1).trans rfl
 have e2 : w3.cell? ⟨w.heap.size + 2, 2, none⟩ = some (.int .i64 0) := (za he3 2).trans rfl
 have e3 : w3.cell? ⟨w.heap.size + 2, 3, none⟩ = some (.int .i64 0) := (za he3 3).trans rfl
 have q0 := zaa he3 0
 have q1 := zaa he3 1
 have q2 := zaa he3 2
 have q3 := zaa he3 3
 have HX3 := Aside0.mk hx3
 have HY3 := Aside0.mk hy3
 have HE3 := Aside0.mk he3
 clear hx hy he hB2 hb3 hx3 hy3 he3
 have hj1 : (j : Int) < (L.length : Int) := by omega
 obtain ⟨ad, ead, r0, r1, r2, r3⟩ := at_T86 HC.out (j : Int) (by omega) hj1
 subst ead
 rw [rd_nat86 hj, Int.toNat_natCast] at r0 r1 r2 r3
 have hblk : (ad.add (j * 4)).block < w.heap.size := World.block_lt_of_cell? w _ r0
 replace r0 := (HB3.out.cell (World.block_lt_of_cell? w _ r0)).trans r0
 replace r1 := (HB3.out.cell (World.block_lt_of_cell? w _ r1)).trans r1
 replace r2 := (HB3.out.cell (World.block_lt_of_cell? w _ r2)).trans r2
 replace r3 := (HB3.out.cell (World.block_lt_of_cell? w _ r3)).trans r3
 have hlt3 : w.heap.size + 1 ≤ w3.heap.size := by have := zak HY3.out; omega
 have HSK : Aside0 (∀ W, Below (w.heap.size + 1) w3 W → W.cell? ⟨w.heap.size, 0, none⟩ = some (.int .i64 low) ∧ W.cell? ⟨w.heap.size, 1, none⟩ = some (.slice (some ad) L.length c) ∧ W.cell? (ad.add (j * 4)) = some (.int .i64 L[j].f0) ∧ W.cell? ⟨(ad.add (j * 4)).block, (ad.add (j * 4)).off + 1, none⟩ = some (.int .i64 L[j].f1) ∧ W.cell? ⟨(ad.add (j * 4)).block, (ad.add (j * 4)).off + 2, none⟩ = some (.int .i64 L[j].f2) ∧ W.cell? ⟨(ad.add (j * 4)).block, (ad.add (j * 4)).off + 3, none⟩ = some (.int .i64 L[j].f3)) := ⟨fun W hW => by
  have hbk : (ad.add (j * 4)).block < w.heap.size + 1 := by have := hblk; omega
  refine ⟨?_, ?_, ?_, ?_, ?_, ?_⟩
  ·
   rw [hW.cell (show w.heap.size < w.heap.size + 1 by omega)]; exact x0
  ·
   rw [hW.cell (show w.heap.size < w.heap.size + 1 by omega)]; exact x1
  ·
   rw [hW.cell hbk]; exact r0
  ·
   rw [hW.cell (p := ⟨(ad.add (j * 4)).block, _, none⟩) hbk]; exact r1
  ·
   rw [hW.cell (p := ⟨(ad.add (j * 4)).block, _, none⟩) hbk]; exact r2
  ·
   rw [hW.cell (p := ⟨(ad.add (j * 4)).block, _, none⟩) hbk]; exact r3⟩
 obtain ⟨i86, hi86, hz86⟩ := Option.map_eq_some_iff.1 info86
 have hsz86 : i86.size = 4 := by simp only [Prod.mk.injEq] at hz86; exact hz86.2.1
 have hcutA : ∀ W : World, (Instr.slice 37 (.slice (some ad) L.length c) none (some (.int .i64 (j : Int))) none).run Try.prog W = .ok (.slice (some ad) j c) W := fun W => by
  have := cut_to (P := Try.prog) 37 86 .i64 Try.underlying37 hi86 (some ad) L.length c (j : Int) (by omega) (by omega) Hc.out W
  rw [Int.toNat_natCast] at this
  exact this
 obtain ⟨AD, hAD⟩ : ∃ AD, AD = (if c = j + 1 then some ad else (some ad).map (·.add ((j + 1) * 4)) : Option Addr) := ⟨_, rfl⟩
 have hcutB : ∀ W : World, (Instr.slice 37 (.slice (some ad) L.length c) (some (.int .i64 ((j : Int) + 1))) none none).run Try.prog W = .ok (.slice AD (L.length - (j + 1)) (c - (j + 1))) W := fun W => by
  have := cut_from (P := Try.prog) 37 86 .i64 Try.underlying37 hi86 4 hsz86 (some ad) L.length c ((j : Int) + 1) (by omega) (by omega) W
  rw [show ((j : Int) + 1).toNat = j + 1 by omega, ← hAD] at this
  exact this
 have HAD := Aside0.mk hAD
 clear hAD hz86 hi86 hsz86
 have dj1 : wrap64 ((j : Int) + 1) = (j : Int) + 1 := w64s (by omega) (by omega)
 have dj2 : IntKind.i64.wrap ((j : Int) + 1) = (j : Int) + 1 := IntWalk.i64_in _ (by omega)
 have hle1 : w.heap.size + 1 ≤ w.heap.size + 1 := Nat.le_refl _
 have hle2 : w.heap.size + 1 ≤ w.heap.size + 1 + 1 := Nat.le_succ _
 have HBL : Aside0 (Below w3.heap.size w3 (w3.alloc (.cells #[] 86)).drew) := ⟨(zae (Below.refl _ w3) _).drew⟩
 have HOL : Aside0 (Kd.R k86 86 (w3.alloc (.cells #[] 86)).drew w3.heap.size (fun k => w3.heap.size ≤ k) (.slice (some ⟨w3.heap.size, 0, none⟩) 0 0) ([] : List S86)) := ⟨⟨fun k hk => by
   have : w3.heap.size = k := by simpa [Value.ownBlock] using hk
   omega, [], ⟨rfl, .inr ⟨w3.heap.size, 0, #[], rfl, Nat.le_refl _, zau w3 _, Nat.le_refl _, Nat.zero_le _, rfl, rfl⟩⟩, Reps.none _ _⟩⟩
 have HSL := HBL.out.size
 have HC4 : Aside0 (∀ W, Below w3.heap.size w3 W → Kd.C k86 W (some ad) j (L.take j) ∧ Kd.C k86 W AD (L.length - (j + 1)) (L.drop (j + 1))) := ⟨fun W hW => by
  have h1 := Kd.zbb (Kd.zbb HC.out HB3.out) hW
  have h2 := Kd.C_take h1 (m := j) (by omega)
  have h3 := Kd.C_drop h1 (m := j + 1) (c := c) (by omega) Hc.out
  rw [List.length_take, Nat.min_eq_left (by omega)] at h2
  rw [List.length_drop] at h3
  refine ⟨h2, ?_⟩
  rw [HAD.out]
  exact h3⟩
 go_wp2_with fail
 go_region_held3 (fun W => W.cell? ⟨w.heap.size, 0, none⟩ = some (.int .i64 low) ∧ W.cell? ⟨w.heap.size, 1, none⟩ = some (.slice (some ad) L.length c) ∧ W.cell? (ad.add (j * 4)) = some (.int .i64 L[j].f0) ∧ W.cell? ⟨(ad.add (j * 4)).block, (ad.add (j * 4)).off + 1, none⟩ = some (.int .i64 L[j].f1) ∧ W.cell? ⟨(ad.add (j * 4)).block, (ad.add (j * 4)).off + 2, none⟩ = some (.int .i64 L[j].f2) ∧ W.cell? ⟨(ad.add (j * 4)).block, (ad.add (j * 4)).off + 3, none⟩ = some (.int .i64 L[j].f3)) (((with_reducible refine HSK.out _ ?_); (repeat (with_reducible refine Below.setCell ?_ hle2 _)); (repeat (with_reducible refine Below.setCell ?_ hle1 _)); first | (with_reducible exact HB6.out.mono hlt3) | (with_reducible exact HB5.out.mono hlt3) | (with_reducible exact (Below.refl _ w3).drew) | (with_reducible exact ((zae (Below.refl _ w3) (.cells #[] 86)).mono hlt3).drew))) (first | (refine Kd.za9 k86 (w0 := w3) w3.heap.size (by rfl) (.tmp 17) (.tmp 21) 37 86 (.agg #[(.int .i64 0), (.int .i64 0), (.int .i64 0), (.int .i64 0)]) 32 rfl Try.underlying37 info86 rfl (by decide) (by omega) (.slice (some ⟨w3.heap.size, 0, none⟩) 0 0) [] (L.take j) _ _ _ (fun k => w3.heap.size ≤ k) (fun _ => False) rfl rfl HOL.out (HC4.out _ HBL.out).1 (fun _ _ h => h) (fun _ h => h.elim) (fun k hk => Nat.le_trans HSL hk) HBL.out HSL (by simp; omega) ?_; intro v5 w5 ho5 hb5 hg5 hat5; have HB5 := Aside0.mk hb5; have HO5 := Aside0.mk ho5; have HSL5 := hb5.size; clear ho5 hb5 hg5 hat5) | (refine Kd.za9 k86 (w0 := w3) w3.heap.size (by rfl) (.tmp 22) (.tmp 27) 37 86 (.agg #[(.int .i64 0), (.int .i64 0), (.int .i64 0), (.int .i64 0)]) 32 rfl Try.underlying37 info86 rfl (by decide) (by omega) v5 ([] ++ L.take j) (L.drop (j + 1)) _ _ _ (fun k => w3.heap.size ≤ k) (fun _ => False) rfl rfl HO5.out (HC4.out _ HB5.out).2 (fun _ _ h => h) (fun _ h => h.elim) (fun k hk => Nat.le_trans HSL5 hk) HB5.out HSL5 (by simp; omega) ?_; intro v6 w6 ho6 hb6 hg6 hat6; have HB6 := Aside0.mk hb6; have HO6 := Aside0.mk ho6; obtain ⟨A6, c6, rfl⟩ := Kd.zbr ho6; have hy6 := (hb6.block _ (zak HY3.out)).trans HY3.out; have he6 := (hb6.block _ (zak HE3.out)).trans HE3.out; have y60 : w6.cell? ⟨w.heap.size + 1, 0, none⟩ = some (.int .i64 0) := (za hy6 0).trans rfl; have y61 : w6.cell? ⟨w.heap.size + 1, 1, none⟩ = some (.slice none 0 0) := (za hy6 1).trans rfl; have z60 := zaa hy6 0; have z61 := zaa hy6 1; have e60 : w6.cell? ⟨w.heap.size + 2, 0, none⟩ = some (.int .i64 0) := (za he6 0).trans rfl; have e61 : w6.cell? ⟨w.heap.size + 2, 1, none⟩ = some (.int .i64 0) := (za he6 1).trans rfl; have e62 : w6.cell? ⟨w.heap.size + 2, 2, none⟩ = some (.int .i64 0) := (za he6 2).trans rfl; have e63 : w6.cell? ⟨w.heap.size + 2, 3, none⟩ = some (.int .i64 0) := (za he6 3).trans rfl; have q60 := zaa he6 0; have q61 := zaa he6 1; have q62 := zaa he6 2; have q63 := zaa he6 3; have HY6 := Aside0.mk hy6; have HE6 := Aside0.mk he6; clear ho6 hb6 hg6 hat6 hy6 he6))
 all_goals
  go_wp2
  have hdel := del_at hG.1 hj
  have hlen : (delL L[j].f0 L).length = min j L.length + (L.length - (j + 1)) := by rw [hdel]; simp
  refine bodyPost_ret (results_cct rfl _ _ (w.heap.size + 1) (w.heap.size + 2) 39 86 #[.int .i64 low, .slice A6 (min j L.length + (L.length - (j + 1))) c6] #[.int .i64 L[j].f0, .int .i64 L[j].f1, .int .i64 L[j].f2, .int .i64 L[j].f3] (0, 0) (0, 0) _ _ rfl ?hy Try.underlying39 rfl (by kernel_rfl) rfl ?he Try.underlying86 rfl (by kernel_rfl)) rfl ?_
  case hy =>
   refine za3 (za3 (za3 (za3 (zal (zal HY6.out 0 _ rfl) 1 _ rfl) ?_ _) ?_ _) ?_ _) ?_ _
   all_goals (show w.heap.size + 1 ≠ w.heap.size + 2; omega)
  case he =>
   refine zal (zal (zal (zal (za3 (za3 HE6.out ?_ _) ?_ _) 0 _ rfl) 1 _ rfl) 2 _ rfl) 3 _ rfl
   all_goals (show w.heap.size + 2 ≠ w.heap.size + 1; omega)
  have hV : Kd.V k86 86 w6 0 (fun k => w3.heap.size ≤ k) (.slice A6 (delL L[j].f0 L).length c6) (delL L[j].f0 L) := by
   have h1 := Kd.R_V (base' := 0) HO6.out
   have h2 : [] ++ L.take j ++ L.drop (j + 1) = delL L[j].f0 L := by rw [hdel]; simp
   rw [h2] at h1
   exact h1
  have hsy := zak HE3.out
  refine ⟨_, rfl, ⟨A6, c6, by rw [hlen], ?_⟩, ?_⟩
  ·
   refine Kd.za2 (ok := fun k => w3.heap.size ≤ k) ?_ (fun k hk => .inr (by omega))
   refine Kd.V_far (p := ⟨w.heap.size + 2, 3, none⟩) (Kd.V_far (p := ⟨w.heap.size + 2, 2, none⟩) (Kd.V_far (p := ⟨w.heap.size + 2, 1, none⟩) (Kd.V_far (p := ⟨w.heap.size + 2, 0, none⟩) (Kd.V_far (p := ⟨w.heap.size + 1, 1, none⟩) (Kd.V_far (p := ⟨w.heap.size + 1, 0, none⟩) hV ?_ _) ?_ _) ?_ _) ?_ _) ?_ _) ?_ _
   all_goals
    intro k hk
    first
    | (show k ≠ w.heap.size + 1; omega)
    | (show k ≠ w.heap.size + 2; omega)
  ·
   have hB := zai HB3.out HB6.out
   exact (((((hB.setCell (p := ⟨w.heap.size + 1, 0, none⟩) (Nat.le_succ _) _).setCell (p := ⟨w.heap.size + 1, 1, none⟩) (Nat.le_succ _) _).setCell (p := ⟨w.heap.size + 2, 0, none⟩) (Nat.le_add_right _ 2) _).setCell (p := ⟨w.heap.size + 2, 1, none⟩) (Nat.le_add_right _ 2) _).setCell (p := ⟨w.heap.size + 2, 2, none⟩) (Nat.le_add_right _ 2) _).setCell (p := ⟨w.heap.size + 2, 3, none⟩) (Nat.le_add_right _ 2) _
def Bk (w : World) (b m n : Nat) (low : Int) (L : List S86) : Prop := BookAt w b m n low (look L)
theorem BookAt.ext {w : World} {b m n : Nat} {low : Int} {g g' : Int → Option E3} (h : BookAt w b m n low g) (e : ∀ k, g' k = g k) : BookAt w b m n low g' := ⟨h.1, h.2.1, h.2.2.ext e⟩
theorem Bk_Enter {w : World} {b m n : Nat} {low : Int} {L : List S86} (h : Bk w b m n low L) (hG : GoodB low L) (hlow : 0 < low ∧ low < 1000000) (hn : n < 1000000) {k : Int} (wf : (Lit.int .i64 k).wf = true) (tag left slice : Int) (hk : look L k = none) (hs : 1 ≤ slice ∧ slice ≤ 1000) (hl : 0 ≤ left) (ht : 0 ≤ tag ∧ tag ≤ low + 1) :
  Calls Try.prog 15 #[.pointer (some ⟨b, 0, none⟩), .int .i64 k, .int .i64 tag, .int .i64 left, .int .i64 slice] w fun e w' => e = .returned (.int .i64 0) ∧ Bk w' b m (n + 1) low (insL ⟨k, (inE low tag left slice).1, (inE low tag left slice).2.1, (inE low tag left slice).2.2⟩ L) ∧ GoodB low (insL ⟨k, (inE low tag left slice).1, (inE low tag left slice).2.1, (inE low tag left slice).2.2⟩ L) ∧ Wrote b m w w' := by
 refine (book_Enter_ok h hlow hn wf tag left slice hk hs hl ht).mono ?_
 rintro e w' ⟨rfl, hb, hw⟩
 exact ⟨rfl, BookAt.ext hb fun j => look_ins hG.1 hk j, hG.ins hk (inE_good wf hs hl ht), hw⟩
theorem Bk_Charge {w : World} {b m n : Nat} {low : Int} {L : List S86} (h : Bk w b m n low L) (hG : GoodB low L) (hlow : 0 < low ∧ low < 999999) (hn : n < 1000000) {k : Int} (tag left slice : Int) (hk : look L k = some (tag, left, slice)) (hl : 0 < left) :
  Calls Try.prog 16 #[.pointer (some ⟨b, 0, none⟩), .int .i64 k] w fun e w' => e = .returned (.tuple #[.bool (!decide (left - 1 > 0)), .int .i64 0]) ∧ Bk w' b m (n + 1) low (upd k (chE low tag left slice) L) ∧ GoodB low (upd k (chE low tag left slice) L) ∧ Wrote b m w w' := by
 obtain ⟨x, hx, rfl, he⟩ := zbh hk
 cases he
 obtain ⟨g0, g1, g2, g3, g4, g5, g6, g7⟩ := hG.2 x hx
 refine (book_Charge_ok h hn g0 x.f1 x.f2 x.f3 hk ⟨hl, by omega⟩ (by omega)).mono ?_
 rintro e w' ⟨rfl, hb, hw⟩
 have hs : (look L x.f0).isSome = true := by rw [hk]; rfl
 exact ⟨rfl, BookAt.ext hb fun j => look_upd hs j, hG.upd _ _ fun _ => chE_good (hG.2 x hx) hl, hw⟩
theorem awake12_ok (w : World) : Calls Try.prog 13 #[] w fun e w' => e = .returned (.bool true) ∧ Below w.heap.size w w' := by
 have g0 : GoodB 1 [] := ⟨List.Pairwise.nil, fun e h => by cases h⟩
 have G0 := Aside0.mk g0
 clear g0
 go_enter Try.func13, Try.ntmps13
 go_wp2_with fail
 go_at_call 14
 refine (book_New_ok w).mono ?_
 rintro e w1 ⟨b, m, rfl, hb, hm, hbk, hw⟩
 have HB := Aside0.mk hb
 have HM := Aside0.mk hm
 have HK1 : Aside0 (Bk w1 b m 0 1 []) := ⟨BookAt.ext hbk fun _ => rfl⟩
 have HW1 := Aside0.mk hw
 clear hb hm hbk hw
 go_wp2_with fail
 refine (Bk_Enter HK1.out G0.out (by decide) (by decide) (by decide) 0 0 1 rfl (by decide) (by decide) (by decide)).mono ?_
 rintro e w2 ⟨rfl, hk, hg, hw⟩
 have HK2 : Aside0 (Bk w2 b m 1 1 [⟨1, 1, 1, 1⟩]) := ⟨hk⟩
 have G2 : Aside0 (GoodB 1 [⟨1, 1, 1, 1⟩]) := ⟨hg⟩
 have HW2 := Aside0.mk (HW1.out.trans (hw.2 _ HB.out HM.out))
 clear hk hg hw
 go_wp2_with fail
 refine (Bk_Enter HK2.out G2.out (by decide) (by decide) (by decide) 0 0 1 rfl (by decide) (by decide) (by decide)).mono ?_
 rintro e w3 ⟨rfl, hk, hg, hw⟩
 have HK3 : Aside0 (Bk w3 b m 2 1 [⟨1, 1, 1, 1⟩, ⟨2, 1, 1, 1⟩]) := ⟨hk⟩
 have G3 : Aside0 (GoodB 1 [⟨1, 1, 1, 1⟩, ⟨2, 1, 1, 1⟩]) := ⟨hg⟩
 have HW3 := Aside0.mk (HW2.out.trans (hw.2 _ HB.out HM.out))
 clear hk hg hw
 go_wp2_with fail
 go_at_call 16
 refine (Bk_Charge HK3.out G3.out (by decide) (by decide) (k := 1) 1 1 1 rfl (by decide)).mono ?_
 rintro e w4 ⟨rfl, hk, hg, hw⟩
 have HK4 : Aside0 (Bk w4 b m 3 1 [⟨1, 2, 1, 1⟩, ⟨2, 1, 1, 1⟩]) := ⟨hk⟩
 have G4 : Aside0 (GoodB 1 [⟨1, 2, 1, 1⟩, ⟨2, 1, 1, 1⟩]) := ⟨hg⟩
 have HW4 := Aside0.mk (HW3.out.trans (hw.2 _ HB.out HM.out))
 clear hk hg hw
 go_wp2_with fail
 go_at_call 16
 refine (Bk_Charge HK4.out G4.out (by decide) (by decide) (k := 1) 2 1 1 rfl (by decide)).mono ?_
 rintro e w5 ⟨rfl, hk, hg, hw⟩
 have HK5 : Aside0 (Bk w5 b m 4 1 [⟨1, 2, 0, 1⟩, ⟨2, 1, 1, 1⟩]) := ⟨hk⟩
 have G5 : Aside0 (GoodB 1 [⟨1, 2, 0, 1⟩, ⟨2, 1, 1, 1⟩]) := ⟨hg⟩
 have HW5 := Aside0.mk (HW4.out.trans (hw.2 _ HB.out HM.out))
 clear hk hg hw
 go_wp2_with fail
 go_at_call 16
 refine (Bk_Charge HK5.out G5.out (by decide) (by decide) (k := 2) 1 1 1 rfl (by decide)).mono ?_
 rintro e w6 ⟨rfl, hk, hg, hw⟩
 have HK6 : Aside0 (Bk w6 b m 5 1 [⟨1, 2, 0, 1⟩, ⟨2, 2, 1, 1⟩]) := ⟨hk⟩
 have G6 : Aside0 (GoodB 1 [⟨1, 2, 0, 1⟩, ⟨2, 2, 1, 1⟩]) := ⟨hg⟩
 have HW6 := Aside0.mk (HW5.out.trans (hw.2 _ HB.out HM.out))
 clear hk hg hw
 go_wp2_with fail
 go_at_call 18
 refine (book_Settle_ok HK6.out G6.out (by decide) (by decide) (by decide)).mono ?_
 rintro e w7 ⟨v, rfl, _, hk, hw⟩
 have HK7 : Aside0 (BookAt w7 b m 5 2 (look [⟨1, 3, 1, 1⟩, ⟨2, 2, 1, 1⟩])) := ⟨hk⟩
 have HW7 := Aside0.mk (HW6.out.trans (hw.2 _ HB.out HM.out))
 clear hk hw
 go_wp2_with fail
 go_at_call 24
 refine (zbc HK7.out (by decide)).mono ?_
 rw [show look [⟨1, 3, 1, 1⟩, ⟨2, 2, 1, 1⟩] 1 = some (3, 1, 1) from rfl]
 dsimp only [ent, entCode, Option.getD]
 rintro e w8 ⟨rfl, hw⟩
 have HK8 := Aside0.mk (HK7.out.keep hw)
 have HW8 := Aside0.mk (zai HW7.out hw)
 clear hw
 go_wp2_with fail
 have HK9 := Aside0.mk (HK8.out.keep (zae (Below.refl _ w8) (.cells #[.int .i64 3, .int .i64 1, .int .i64 1] 48)))
 have HW9 := Aside0.mk (zae HW8.out (.cells #[.int .i64 3, .int .i64 1, .int .i64 1] 48))
 have hE := zau w8 (.cells #[.int .i64 3, .int .i64 1, .int .i64 1] 48)
 refine (book_Low_ok HK9.out).mono ?_
 rintro e w10 ⟨rfl, hd⟩
 have HW10 := Aside0.mk (zai HW9.out hd.below)
 have hE2 := (hd.below.block _ (zak hE)).trans hE
 have c0 := (za hE2 0).trans rfl
 have c1 := (za hE2 1).trans rfl
 clear hd hE hE2
 go_wp2_with fail
 go_ret
 exact ⟨rfl, HW10.out⟩
theorem GoodB.lo {low : Int} {L : List S86} (h : GoodB low L) {id tag left slice : Int} (hk : look L id = some (tag, left, slice)) : GoodE low ⟨id, tag, left, slice⟩ := by
 obtain ⟨x, hx, rfl, he⟩ := zbh hk
 cases he
 exact h.2 x hx
theorem Bk.keep {w w' : World} {b m n : Nat} {low : Int} {L : List S86} (h : Bk w b m n low L) (hb : Below w.heap.size w w') : Bk w' b m n low L := BookAt.keep h hb
theorem Bk.up {w : World} {b m n n' : Nat} {low : Int} {L : List S86} (h : Bk w b m n low L) (hn : n ≤ n') : Bk w b m n' low L := BookAt.mono h hn
theorem Enter_pair {low : Int} {L : List S86} (hG : GoodB low L) (hlow : 0 < low ∧ low < 900000) (hL : L.length < 900000) {id : Int} (wf : (Lit.int .i64 id).wf = true) (tag left slice : Int) :
  ∃ (code : Int) (L' : List S86), GoodB low L' ∧ L'.length ≤ L.length + 1 ∧
   (∀ (w : World) (b m n : Nat), Bk w b m n low L → n < 900000 → Calls Try.prog 15 #[.pointer (some ⟨b, 0, none⟩), .int .i64 id, .int .i64 tag, .int .i64 left, .int .i64 slice] w fun e w' => e = .returned (.int .i64 code) ∧ Bk w' b m (n + 1) low L' ∧ Wrote b m w w') ∧
   (∀ (w : World) (P : Nat → Prop) (v : Value), RefAt w P v low L → Calls Try.prog 46 #[v, .agg #[.int .i64 id, .int .i64 tag, .int .i64 left, .int .i64 slice]] w fun e w' => ∃ v', e = .returned (.tuple #[v', .int .i64 code]) ∧ RefAt w' (fun k => P k ∨ w.heap.size ≤ k) v' low L' ∧ Below w.heap.size w w') := by
 cases hk : look L id with
 | some e =>
  have hs : (look L id).isSome = true := by rw [hk]; rfl
  refine ⟨10, L, hG, by omega, fun w b m n hb hn => ?_, fun w P v hr => ref_Enter hr id tag left slice (ref_Enter_there low id tag left slice (by omega) hs)⟩
  refine (book_Enter_there hb wf tag left slice hs).mono ?_
  rintro e w' ⟨rfl, hbl⟩
  exact ⟨rfl, (Bk.keep hb hbl).up (Nat.le_succ _), Wrote.of_below hbl (BookAt.lt hb).1⟩
 | none =>
  by_cases hc : slice < 1 ∨ 1000 < slice ∨ left < 0 ∨ tag < 0 ∨ low + 1 < tag
  ·
   refine ⟨14, L, hG, by omega, fun w b m n hb hn => ?_, fun w P v hr => ref_Enter hr id tag left slice (ref_Enter_range low id tag left slice (by omega) (by omega) hk hc)⟩
   refine (book_Enter_range hb (by omega) wf tag left slice hk hc).mono ?_
   rintro e w' ⟨rfl, hbl⟩
   exact ⟨rfl, (Bk.keep hb hbl).up (Nat.le_succ _), Wrote.of_below hbl (BookAt.lt hb).1⟩
  ·
   refine ⟨0, _, hG.ins (x := ⟨id, (inE low tag left slice).1, (inE low tag left slice).2.1, (inE low tag left slice).2.2⟩) hk (inE_good wf (by omega) (by omega) (by omega)), by rw [insL_len]; omega, fun w b m n hb hn => ?_, fun w P v hr => ref_Enter hr id tag left slice (ref_Enter_ok low id tag left slice (by omega) (by omega) hk (by omega) (by omega) (by omega))⟩
   refine (Bk_Enter hb hG (by omega) (by omega) wf tag left slice hk (by omega) (by omega) (by omega)).mono ?_
   rintro e w' ⟨rfl, h1, _, h2⟩
   exact ⟨rfl, h1, h2⟩
theorem Leave_pair {low : Int} {L : List S86} (hG : GoodB low L) (hL : L.length < 900000) {id : Int} (wf : (Lit.int .i64 id).wf = true) :
  ∃ (code i0 a1 a2 a3 : Int) (L' : List S86), GoodB low L' ∧ L'.length ≤ L.length + 1 ∧ (a1, a2, a3) = ent (look L id) ∧ code = entCode (look L id) ∧ L' = delL id L ∧
   (∀ (w : World) (b m n : Nat), Bk w b m n low L → n < 900000 → Calls Try.prog 23 #[.pointer (some ⟨b, 0, none⟩), .int .i64 id] w fun e w' => e = .returned (.tuple #[.agg #[.int .i64 a1, .int .i64 a2, .int .i64 a3], .int .i64 code]) ∧ Bk w' b m (n + 1) low L' ∧ Wrote b m w w') ∧
   (∀ (w : World) (P : Nat → Prop) (v : Value), RefAt w P v low L → Calls Try.prog 47 #[v, .int .i64 id] w fun e w' => ∃ v', e = .returned (.tuple #[v', .agg #[.int .i64 i0, .int .i64 a1, .int .i64 a2, .int .i64 a3], .int .i64 code]) ∧ RefAt w' (fun k => P k ∨ w.heap.size ≤ k) v' low L' ∧ Below w.heap.size w w') := by
 cases hk : look L id with
 | none =>
  have hdel : delL id L = L := by
   unfold delL
   refine List.filter_eq_self.2 fun x hx => ?_
   have := zbk hk x hx
   simp [this]
  refine ⟨3, 0, 0, 0, 0, delL id L, hG.del id, by have := delL_len id L; omega, rfl, rfl, rfl, fun w b m n hb hn => ?_, fun w P v hr => ?_⟩
  ·
   refine (book_Leave_ok hb wf).mono ?_
   rw [hk]
   rintro e w' ⟨rfl, h1, h2⟩
   exact ⟨rfl, BookAt.mono (BookAt.ext h1 fun j => look_del hG.1 id j) (Nat.le_succ _), h2⟩
  ·
   refine (ref_Leave_none hr (by omega) id hk).mono ?_
   rintro e w' ⟨rfl, hb⟩
   rw [hdel]
   exact ⟨_, rfl, (hr.below hb).mono fun k hk => .inl hk, hb⟩
 | some e =>
  obtain ⟨a1, a2, a3⟩ := e
  refine ⟨0, id, a1, a2, a3, delL id L, hG.del id, by have := delL_len id L; omega, rfl, rfl, rfl, fun w b m n hb hn => ?_, fun w P v hr => ?_⟩
  ·
   refine (book_Leave_ok hb wf).mono ?_
   rw [hk]
   rintro e w' ⟨rfl, h1, h2⟩
   exact ⟨rfl, BookAt.mono (BookAt.ext h1 fun j => look_del hG.1 id j) (Nat.le_succ _), h2⟩
  ·
   exact ref_Leave_ok hr (by omega) id hG hk
theorem Charge_pair {low : Int} {L : List S86} (hG : GoodB low L) (hlow : 0 < low ∧ low < 900000) (hL : L.length < 900000) {id : Int} (wf : (Lit.int .i64 id).wf = true) :
  ∃ (code : Int) (over : Bool) (L' : List S86), GoodB low L' ∧ L'.length ≤ L.length + 1 ∧
   (∀ (w : World) (b m n : Nat), Bk w b m n low L → n < 900000 → Calls Try.prog 16 #[.pointer (some ⟨b, 0, none⟩), .int .i64 id] w fun e w' => e = .returned (.tuple #[.bool over, .int .i64 code]) ∧ Bk w' b m (n + 1) low L' ∧ Wrote b m w w') ∧
   (∀ (w : World) (P : Nat → Prop) (v : Value), RefAt w P v low L → Calls Try.prog 48 #[v, .int .i64 id] w fun e w' => ∃ v', e = .returned (.tuple #[v', .bool over, .int .i64 code]) ∧ RefAt w' (fun k => P k ∨ w.heap.size ≤ k) v' low L' ∧ Below w.heap.size w w') := by
 cases hk : look L id with
 | none =>
  refine ⟨3, false, L, hG, by omega, fun w b m n hb hn => ?_, fun w P v hr => ?_⟩
  ·
   refine (book_Charge_none hb wf hk).mono ?_
   rintro e w' ⟨rfl, hbl⟩
   exact ⟨rfl, (Bk.keep hb hbl).up (Nat.le_succ _), Wrote.of_below hbl (BookAt.lt hb).1⟩
  ·
   refine (ref_Charge_none hr (by omega) id hk).mono ?_
   rintro e w' ⟨rfl, hb⟩
   exact ⟨_, rfl, (hr.below hb).mono fun k hk => .inl hk, hb⟩
 | some e =>
  obtain ⟨tag, left, slice⟩ := e
  obtain ⟨g0, g1, g2, g3, g4, g5, g6, g7⟩ := hG.lo hk
  dsimp only at g0 g1 g2 g3 g4 g5 g6 g7
  by_cases hl : left = 0
  ·
   refine ⟨10, false, L, hG, by omega, fun w b m n hb hn => ?_, fun w P v hr => ?_⟩
   ·
    refine (book_Charge_spent hb wf tag left slice hk (by omega)).mono ?_
    rintro e w' ⟨rfl, hbl⟩
    exact ⟨rfl, (Bk.keep hb hbl).up (Nat.le_succ _), Wrote.of_below hbl (BookAt.lt hb).1⟩
   ·
    refine (ref_Charge_spent hr (by omega) id hG hk hl).mono ?_
    rintro e w' ⟨rfl, hb⟩
    exact ⟨_, rfl, (hr.below hb).mono fun k hk => .inl hk, hb⟩
  ·
   have hs : (look L id).isSome = true := by rw [hk]; rfl
   refine ⟨0, !decide (left - 1 > 0), upd id (chE low tag left slice) L, hG.upd _ _ fun _ => chE_good (hG.lo hk) (by omega), by rw [upd_len]; omega, fun w b m n hb hn => ?_, fun w P v hr => ?_⟩
   ·
    refine (Bk_Charge hb hG (by omega) (by omega) tag left slice hk (by omega)).mono ?_
    rintro e w' ⟨rfl, h1, _, h2⟩
    exact ⟨rfl, h1, h2⟩
   ·
    by_cases h1 : left - 1 > 0
    ·
     rw [show decide (left - 1 > 0) = true from decide_eq_true h1]
     exact ref_Charge_a hr (by omega) id hG (by omega) hk h1
    ·
     rw [show decide (left - 1 > 0) = false from decide_eq_false h1]
     by_cases h2 : tag = low
     ·
      exact ref_Charge_b hr (by omega) id hG (by omega) hk (by omega) h2
     ·
      exact ref_Charge_c hr (by omega) id hG (by omega) hk (by omega) h2
theorem Resize_pair {low : Int} {L : List S86} (hG : GoodB low L) (hlow : 0 < low ∧ low < 900000) (hL : L.length < 900000) {id : Int} (wf : (Lit.int .i64 id).wf = true) (sl : Int) :
  ∃ (code : Int) (L' : List S86), GoodB low L' ∧ L'.length ≤ L.length + 1 ∧
   (∀ (w : World) (b m n : Nat), Bk w b m n low L → n < 900000 → Calls Try.prog 25 #[.pointer (some ⟨b, 0, none⟩), .int .i64 id, .int .i64 sl] w fun e w' => e = .returned (.int .i64 code) ∧ Bk w' b m (n + 1) low L' ∧ Wrote b m w w') ∧
   (∀ (w : World) (P : Nat → Prop) (v : Value), RefAt w P v low L → Calls Try.prog 49 #[v, .int .i64 id, .int .i64 sl] w fun e w' => ∃ v', e = .returned (.tuple #[v', .int .i64 code]) ∧ RefAt w' (fun k => P k ∨ w.heap.size ≤ k) v' low L' ∧ Below w.heap.size w w') := by
 cases hk : look L id with
 | none =>
  refine ⟨3, L, hG, by omega, fun w b m n hb hn => ?_, fun w P v hr => ?_⟩
  ·
   refine (book_Resize_none hb wf sl hk).mono ?_
   rintro e w' ⟨rfl, hbl⟩
   exact ⟨rfl, (Bk.keep hb hbl).up (Nat.le_succ _), Wrote.of_below hbl (BookAt.lt hb).1⟩
  ·
   refine (ref_Resize_none hr (by omega) id sl hk).mono ?_
   rintro e w' ⟨rfl, hb⟩
   exact ⟨_, rfl, (hr.below hb).mono fun k hk => .inl hk, hb⟩
 | some e =>
  obtain ⟨tag, left, slice⟩ := e
  obtain ⟨g0, g1, g2, g3, g4, g5, g6, g7⟩ := hG.lo hk
  dsimp only at g0 g1 g2 g3 g4 g5 g6 g7
  by_cases hs : sl < 1 ∨ 1000 < sl
  ·
   refine ⟨14, L, hG, by omega, fun w b m n hb hn => ?_, fun w P v hr => ?_⟩
   ·
    refine (book_Resize_range hb wf tag left slice sl hk hs).mono ?_
    rintro e w' ⟨rfl, hbl⟩
    exact ⟨rfl, (Bk.keep hb hbl).up (Nat.le_succ _), Wrote.of_below hbl (BookAt.lt hb).1⟩
   ·
    refine (ref_Resize_range hr (by omega) id sl hG hk hs).mono ?_
    rintro e w' ⟨rfl, hb⟩
    exact ⟨_, rfl, (hr.below hb).mono fun k hk => .inl hk, hb⟩
  ·
   have hsome : (look L id).isSome = true := by rw [hk]; rfl
   have hmn := mn_le left sl
   have hm1 : mn left sl = 0 → left = 0 := by omega
   refine ⟨0, upd id (tag, mn left sl, sl) L, hG.upd _ _ fun _ => ⟨g0, g1, g2, by dsimp only; omega, by dsimp only; omega, by dsimp only; omega, by dsimp only; omega, fun h => g7 (hm1 h)⟩, by rw [upd_len]; omega, fun w b m n hb hn => ?_, fun w P v hr => ?_⟩
   ·
    refine (book_Resize_ok hb (by omega) wf tag left slice sl hk (by omega)).mono ?_
    rintro e w' ⟨rfl, h1, h2⟩
    exact ⟨rfl, BookAt.ext h1 fun j => look_upd hsome j, h2⟩
   ·
    by_cases hm : sl < left
    ·
     exact ref_Resize_a hr (by omega) id sl hG hk (by omega) hm
    ·
     exact ref_Resize_b hr (by omega) id sl hG hk (by omega) hm
def Boxes3 (w W : World) (low : Int) (A : Option Addr) (len c : Nat) (k id tag left slice : Int) : Prop :=
 Below w.heap.size w W ∧ W.heap.size = w.heap.size + 3 ∧ W.heap[w.heap.size]? = some (.cells #[.int .i64 low, .slice A len c] 39) ∧
 W.heap[w.heap.size + 1]? = some (.cells #[.int .u8 k, .int .i64 id, .int .i64 tag, .int .i64 left, .int .i64 slice] 42) ∧
 W.heap[w.heap.size + 2]? = some (.cells #[.int .i64 0, .slice none 0 0] 39)
theorem Boxes3.at (w : World) (low : Int) (A : Option Addr) (len c : Nat) (k id tag left slice : Int) :
  Boxes3 w (((w.alloc (.cells #[.int .i64 low, .slice A len c] 39)).alloc (.cells #[.int .u8 k, .int .i64 id, .int .i64 tag, .int .i64 left, .int .i64 slice] 42)).alloc (.cells #[.int .i64 0, .slice none 0 0] 39)) low A len c k id tag left slice := by
 have hx := zac (zac (zau w (.cells #[.int .i64 low, .slice A len c] 39)) (.cells #[.int .u8 k, .int .i64 id, .int .i64 tag, .int .i64 left, .int .i64 slice] 42)) (.cells #[.int .i64 0, .slice none 0 0] 39)
 have hy := zac (zau (w.alloc (.cells #[.int .i64 low, .slice A len c] 39)) (.cells #[.int .u8 k, .int .i64 id, .int .i64 tag, .int .i64 left, .int .i64 slice] 42)) (.cells #[.int .i64 0, .slice none 0 0] 39)
 have he := zau ((w.alloc (.cells #[.int .i64 low, .slice A len c] 39)).alloc (.cells #[.int .u8 k, .int .i64 id, .int .i64 tag, .int .i64 left, .int .i64 slice] 42)) (.cells #[.int .i64 0, .slice none 0 0] 39)
 have hB2 := zae (zae (zae (Below.refl _ w) (.cells #[.int .i64 low, .slice A len c] 39)) (.cells #[.int .u8 k, .int .i64 id, .int .i64 tag, .int .i64 left, .int .i64 slice] 42)) (.cells #[.int .i64 0, .slice none 0 0] 39)
 rw [show (w.alloc (.cells #[.int .i64 low, .slice A len c] 39)).heap.size = w.heap.size + 1 by simp] at hy
 rw [show ((w.alloc (.cells #[.int .i64 low, .slice A len c] 39)).alloc (.cells #[.int .u8 k, .int .i64 id, .int .i64 tag, .int .i64 left, .int .i64 slice] 42)).heap.size = w.heap.size + 2 by simp] at he
 exact ⟨hB2, by simp, hx, hy, he⟩
theorem Boxes3.keep {w W W' : World} {low : Int} {A : Option Addr} {len c : Nat} {k id tag left slice : Int} (h : Boxes3 w W low A len c k id tag left slice) (hb : Below W.heap.size W W') :
  W'.heap[w.heap.size]? = some (.cells #[.int .i64 low, .slice A len c] 39) ∧
  W'.heap[w.heap.size + 1]? = some (.cells #[.int .u8 k, .int .i64 id, .int .i64 tag, .int .i64 left, .int .i64 slice] 42) ∧
  W'.heap[w.heap.size + 2]? = some (.cells #[.int .i64 0, .slice none 0 0] 39) :=
 ⟨(hb.block _ (zak h.2.2.1)).trans h.2.2.1, (hb.block _ (zak h.2.2.2.1)).trans h.2.2.2.1, (hb.block _ (zak h.2.2.2.2)).trans h.2.2.2.2⟩
theorem RefAt.old {w w' : World} {P : Nat → Prop} {v : Value} {low : Int} {L : List S86} (h : RefAt w P v low L) (hb : Below w.heap.size w w') : RefAt w' (fun k => P k ∧ k < w.heap.size) v low L := by
 obtain ⟨A, c, e, h⟩ := h
 exact ⟨A, c, e, Kd.V_old h hb⟩
theorem do_end {w W4 w5 : World} {b m n q : Nat} {low' : Int} {L' : List S86} {P : Nat → Prop} {A' : Option Addr} {c' : Nat} {x1 x2 : Value} (hB4 : Below w.heap.size w W4) (hs : w.heap.size + 3 ≤ q) (hq : q ≤ W4.heap.size) (hbl : b < w.heap.size) (hml : m < w.heap.size) (hP : ∀ k, P k → k ≠ b ∧ k ≠ m)
  (hk5 : Bk w5 b m n low' L') (hw5 : Wrote b m W4.drew w5) (he5 : w5.heap[w.heap.size + 2]? = some (.cells #[x1, x2] 39)) (hr : Kd.V k86 86 W4 0 (fun k => P k ∧ k < w.heap.size ∨ q ≤ k) (.slice A' L'.length c') L') :
  ((w5.setCell ⟨w.heap.size + 2, 0, none⟩ (.int .i64 low')).setCell ⟨w.heap.size + 2, 1, none⟩ (.slice A' L'.length c')).heap[w.heap.size + 2]? = some (.cells #[.int .i64 low', .slice A' L'.length c'] 39) ∧
  Bk ((w5.setCell ⟨w.heap.size + 2, 0, none⟩ (.int .i64 low')).setCell ⟨w.heap.size + 2, 1, none⟩ (.slice A' L'.length c')) b m n low' L' ∧
  RefAt ((w5.setCell ⟨w.heap.size + 2, 0, none⟩ (.int .i64 low')).setCell ⟨w.heap.size + 2, 1, none⟩ (.slice A' L'.length c')) (fun k => P k ∨ w.heap.size ≤ k) (.agg #[.int .i64 low', .slice A' L'.length c']) low' L' ∧
  Wrote b m w ((w5.setCell ⟨w.heap.size + 2, 0, none⟩ (.int .i64 low')).setCell ⟨w.heap.size + 2, 1, none⟩ (.slice A' L'.length c')) := by
 refine ⟨zal (zal he5 0 _ rfl) 1 _ rfl, BookAt.other (BookAt.other hk5 (by omega) (by omega) _) (by omega) (by omega) _, ⟨A', c', rfl, ?_⟩, Wrote.other (Wrote.other ((Wrote.of_below hB4 hbl).drew.trans hw5) (by omega) (by omega) _) (by omega) (by omega) _⟩
 have h1 : Kd.V k86 86 w5 0 (fun k => P k ∧ k < w.heap.size ∨ q ≤ k) (.slice A' L'.length c') L' := by
  refine Kd.V_step (Kd.zba hr) fun k hk hlt => hw5.1.2 k hlt ?_ ?_
  ·
   rcases hk with h | h
   ·
    exact (hP k h.1).1
   ·
    omega
  ·
   rcases hk with h | h
   ·
    exact (hP k h.1).2
   ·
    omega
 refine Kd.za2 (Kd.V_far (p := ⟨w.heap.size + 2, 1, none⟩) (Kd.V_far (p := ⟨w.heap.size + 2, 0, none⟩) h1 (fun k hk => ?_) _) (fun k hk => ?_) _) (fun k hk => hk.elim (fun h => .inl h.1) (fun h => .inr (by omega)))
 all_goals
  show k ≠ w.heap.size + 2
  omega
theorem do_end2 {w w5 : World} {b m n q : Nat} {low' : Int} {L' : List S86} {P : Nat → Prop} {A' : Option Addr} {c' : Nat} {x1 x2 : Value} (hs : w.heap.size + 3 ≤ q) (hbl : b < w.heap.size) (hml : m < w.heap.size)
  (hk5 : Bk w5 b m n low' L') (hw5 : Wrote b m w w5) (he5 : w5.heap[w.heap.size + 2]? = some (.cells #[x1, x2] 39)) (h1 : Kd.V k86 86 w5 0 (fun k => P k ∧ k < w.heap.size ∨ q ≤ k) (.slice A' L'.length c') L') :
  ((w5.setCell ⟨w.heap.size + 2, 0, none⟩ (.int .i64 low')).setCell ⟨w.heap.size + 2, 1, none⟩ (.slice A' L'.length c')).heap[w.heap.size + 2]? = some (.cells #[.int .i64 low', .slice A' L'.length c'] 39) ∧
  Bk ((w5.setCell ⟨w.heap.size + 2, 0, none⟩ (.int .i64 low')).setCell ⟨w.heap.size + 2, 1, none⟩ (.slice A' L'.length c')) b m n low' L' ∧
  RefAt ((w5.setCell ⟨w.heap.size + 2, 0, none⟩ (.int .i64 low')).setCell ⟨w.heap.size + 2, 1, none⟩ (.slice A' L'.length c')) (fun k => P k ∨ w.heap.size ≤ k) (.agg #[.int .i64 low', .slice A' L'.length c']) low' L' ∧
  Wrote b m w ((w5.setCell ⟨w.heap.size + 2, 0, none⟩ (.int .i64 low')).setCell ⟨w.heap.size + 2, 1, none⟩ (.slice A' L'.length c')) := by
 refine ⟨zal (zal he5 0 _ rfl) 1 _ rfl, BookAt.other (BookAt.other hk5 (by omega) (by omega) _) (by omega) (by omega) _, ⟨A', c', rfl, ?_⟩, Wrote.other (Wrote.other hw5 (by omega) (by omega) _) (by omega) (by omega) _⟩
 refine Kd.za2 (Kd.V_far (p := ⟨w.heap.size + 2, 1, none⟩) (Kd.V_far (p := ⟨w.heap.size + 2, 0, none⟩) h1 (fun k hk => ?_) _) (fun k hk => ?_) _) (fun k hk => hk.elim (fun h => .inl h.1) (fun h => .inr (by omega)))
 all_goals
  show k ≠ w.heap.size + 2
  omega
def Same2 (k1 k2 : Nat) (W W' : World) : Prop := W'.heap[k1]? = W.heap[k1]? ∧ W'.heap[k2]? = W.heap[k2]?
theorem Same2.drew (k1 k2 : Nat) (W : World) : Same2 k1 k2 W W.drew := ⟨rfl, rfl⟩
theorem Same2.set {k1 k2 : Nat} {W W' : World} {p : Addr} (h : Same2 k1 k2 W W') (h1 : k1 ≠ p.block) (h2 : k2 ≠ p.block) (u : Value) : Same2 k1 k2 W (W'.setCell p u) :=
 ⟨(Below.heap_setCell W' p u _ h1).trans h.1, (Below.heap_setCell W' p u _ h2).trans h.2⟩
theorem do_0 {w : World} {P : Nat → Prop} {v : Value} {b m n : Nat} {low : Int} {L : List S86} (hb : Bk w b m n low L) (hr : RefAt w P v low L) (hP : ∀ k, P k → k ≠ b ∧ k ≠ m) (hG : GoodB low L) (hlow : 0 < low ∧ low < 900000) (hL : L.length < 900000) (hn : n < 900000) (k id tag left slice : Int) (hk : k.tmod 5 = 0) (wf : (Lit.int .i64 id).wf = true) :
  Calls Try.prog 21 #[.pointer (some ⟨b, 0, none⟩), v, .agg #[.int .u8 k, .int .i64 id, .int .i64 tag, .int .i64 left, .int .i64 slice]] w fun e w' => ∃ v' L', e = .returned (.tuple #[v', .bool true]) ∧ Bk w' b m (n + 1) low L' ∧ RefAt w' (fun k => P k ∨ w.heap.size ≤ k) v' low L' ∧ GoodB low L' ∧ L'.length ≤ L.length + 1 ∧ Wrote b m w w' := by
 obtain ⟨code, L', hG', hL', hA, hB⟩ := Enter_pair hG hlow hL wf tag left slice
 have d0 : (k.tmod 5 == 0) = true := beq_iff_eq.mpr hk
 have HB := Aside0.mk hb
 have HR := Aside0.mk hr
 have CA := Aside0.mk hA
 have CB := Aside0.mk hB
 have HP := Aside0.mk hP
 have HG' := Aside0.mk hG'
 have HL' := Aside0.mk hL'
 obtain ⟨A, c, rfl, hv⟩ := hr
 obtain ⟨hbl, hml⟩ := BookAt.lt hb
 clear hk hb hG hG' hL' hA hB hv hP
 go_enter Try.func21, Try.ntmps21
 go_wp2_with fail
 have hX := Boxes3.at w low A L.length c k id tag left slice
 generalize ((w.alloc (.cells #[.int .i64 low, .slice A L.length c] 39)).alloc (.cells #[.int .u8 k, .int .i64 id, .int .i64 tag, .int .i64 left, .int .i64 slice] 42)).alloc (.cells #[.int .i64 0, .slice none 0 0] 39) = W2 at hX ⊢
 have HX := Aside0.mk hX
 refine (CB.out W2 (fun k => P k ∧ k < w.heap.size) _ (HR.out.old hX.1)).mono ?_
 rintro e w3 ⟨v', rfl, hr3, hb3⟩
 have HB3 := Aside0.mk (zai hX.1 hb3)
 obtain ⟨A', c', rfl, hv3⟩ := hr3
 have HV3 := Aside0.mk hv3
 obtain ⟨hx3, hy3, he3⟩ := hX.keep hb3
 have HX3 := Aside0.mk hx3
 have HY3 := Aside0.mk hy3
 have HE3 := Aside0.mk he3
 have x0 : w3.cell? ⟨w.heap.size + 1, 1, none⟩ = some (.int .i64 id) := (za hy3 1).trans rfl
 have x1 : w3.cell? ⟨w.heap.size + 1, 2, none⟩ = some (.int .i64 tag) := (za hy3 2).trans rfl
 have x2 : w3.cell? ⟨w.heap.size + 1, 3, none⟩ = some (.int .i64 left) := (za hy3 3).trans rfl
 have x3 : w3.cell? ⟨w.heap.size + 1, 4, none⟩ = some (.int .i64 slice) := (za hy3 4).trans rfl
 have e0 : w3.cell? ⟨w.heap.size + 2, 0, none⟩ = some (.int .i64 0) := (za he3 0).trans rfl
 have e1 : w3.cell? ⟨w.heap.size + 2, 1, none⟩ = some (.slice none 0 0) := (za he3 1).trans rfl
 have q0 := zaa he3 0
 have q1 := zaa he3 1
 have hsz3 : w.heap.size + 3 ≤ w3.heap.size := by rw [← hX.2.1]; exact hb3.size
 have hn4 := zau w3 (.cells #[.int .i64 low, .slice A' L'.length c'] 39)
 have hy4 := zac hy3 (.cells #[.int .i64 low, .slice A' L'.length c'] 39)
 have he4 := zac he3 (.cells #[.int .i64 low, .slice A' L'.length c'] 39)
 have HB4 := Aside0.mk (zae HB3.out (.cells #[.int .i64 low, .slice A' L'.length c'] 39))
 have HV4 := Aside0.mk (Kd.zb hv3 (.cells #[.int .i64 low, .slice A' L'.length c'] 39))
 have hsz4 : W2.heap.size ≤ (w3.alloc (.cells #[.int .i64 low, .slice A' L'.length c'] 39)).heap.size := Nat.le_trans hb3.size (by simp)
 clear hX hb3 hv3 hx3 hy3 he3
 go_wp2_with fail
 clear x0 x1 x2 x3 e0 e1 q0
 generalize w3.alloc (.cells #[.int .i64 low, .slice A' L'.length c'] 39) = W4 at hsz4 hn4 hy4 he4 HB4 HV4 ⊢
 have x0 : W4.cell? ⟨w.heap.size + 1, 1, none⟩ = some (.int .i64 id) := (za hy4 1).trans rfl
 have x1 : W4.cell? ⟨w.heap.size + 1, 2, none⟩ = some (.int .i64 tag) := (za hy4 2).trans rfl
 have x2 : W4.cell? ⟨w.heap.size + 1, 3, none⟩ = some (.int .i64 left) := (za hy4 3).trans rfl
 have x3 : W4.cell? ⟨w.heap.size + 1, 4, none⟩ = some (.int .i64 slice) := (za hy4 4).trans rfl
 have e0 : W4.cell? ⟨w.heap.size + 2, 0, none⟩ = some (.int .i64 0) := (za he4 0).trans rfl
 have e1 : W4.cell? ⟨w.heap.size + 2, 1, none⟩ = some (.slice none 0 0) := (za he4 1).trans rfl
 have q0 := zaa he4 0
 have q1 := zaa he4 1
 have n0 : W4.cell? ⟨w3.heap.size, 0, none⟩ = some (.int .i64 low) := (za hn4 0).trans rfl
 have n1 : W4.cell? ⟨w3.heap.size, 1, none⟩ = some (.slice A' L'.length c') := (za hn4 1).trans rfl
 have HN4 := Aside0.mk hn4
 have HY4 := Aside0.mk hy4
 have HE4 := Aside0.mk he4
 have HK4 : Aside0 (Bk W4 b m n low L) := ⟨Bk.keep HB.out HB4.out⟩
 clear hn4 hy4 he4
 have HSK : Aside0 (∀ W, Same2 (w.heap.size + 1) w3.heap.size W4 W → W.cell? ⟨w.heap.size + 1, 1, none⟩ = some (.int .i64 id) ∧ W.cell? ⟨w.heap.size + 1, 2, none⟩ = some (.int .i64 tag) ∧ W.cell? ⟨w.heap.size + 1, 3, none⟩ = some (.int .i64 left) ∧ W.cell? ⟨w.heap.size + 1, 4, none⟩ = some (.int .i64 slice) ∧ W.cell? ⟨w3.heap.size, 0, none⟩ = some (.int .i64 low) ∧ W.cell? ⟨w3.heap.size, 1, none⟩ = some (.slice A' L'.length c')) := ⟨fun W h => by
  have h1 := h.1.trans HY4.out
  have h2 := h.2.trans HN4.out
  exact ⟨(za h1 1).trans rfl, (za h1 2).trans rfl, (za h1 3).trans rfl, (za h1 4).trans rfl, (za h2 0).trans rfl, (za h2 1).trans rfl⟩⟩
 have hn1 : w.heap.size + 1 ≠ w.heap.size + 2 := by omega
 have hn2 : w3.heap.size ≠ w.heap.size + 2 := by omega
 go_region_held3 (fun W => W.cell? ⟨w.heap.size + 1, 1, none⟩ = some (.int .i64 id) ∧ W.cell? ⟨w.heap.size + 1, 2, none⟩ = some (.int .i64 tag) ∧ W.cell? ⟨w.heap.size + 1, 3, none⟩ = some (.int .i64 left) ∧ W.cell? ⟨w.heap.size + 1, 4, none⟩ = some (.int .i64 slice) ∧ W.cell? ⟨w3.heap.size, 0, none⟩ = some (.int .i64 low) ∧ W.cell? ⟨w3.heap.size, 1, none⟩ = some (.slice A' L'.length c')) (((with_reducible refine HSK.out _ ?_); (repeat (with_reducible refine Same2.set ?_ hn1 hn2 _)); first | (with_reducible exact HS5.out) | (with_reducible exact Same2.drew _ _ _))) ((go_at_call 15; refine (CA.out W4.drew b m n HK4.out hn).mono ?_; rintro e w5 ⟨rfl, hk5, hw5⟩; have HK5 := Aside0.mk hk5; have HW5 := Aside0.mk hw5; have HS5 : Aside0 (Same2 (w.heap.size + 1) w3.heap.size W4 w5) := ⟨⟨hw5.1.2 _ (zak HY4.out) (by omega) (by omega), hw5.1.2 _ (zak HN4.out) (by omega) (by omega)⟩⟩; have he5 := (hw5.1.2 _ (zak HE4.out) (by omega) (by omega)).trans HE4.out; have y0 : w5.cell? ⟨w.heap.size + 2, 0, none⟩ = some (.int .i64 0) := (za he5 0).trans rfl; have y1 : w5.cell? ⟨w.heap.size + 2, 1, none⟩ = some (.slice none 0 0) := (za he5 1).trans rfl; have z0 := zaa he5 0; have z1 := zaa he5 1; have HE5 := Aside0.mk he5; clear hk5 hw5 he5))
 all_goals
  go_wp2
 all_goals
  obtain ⟨r1, r2, r3, r4⟩ := do_end (x1 := .int .i64 0) (x2 := .slice none 0 0) HB4.out (Nat.le_of_eq HX.out.2.1.symm) hsz4 hbl hml HP.out HK5.out HW5.out HE5.out HV4.out
  exact bodyPost_ret (za4 rfl _ _ (w.heap.size + 2) 39 #[.int .i64 low, .slice A' L'.length c'] (0, 0) _ rfl r1 Try.underlying39 rfl (by kernel_rfl)) rfl ⟨_, _, rfl, r2, r3, HG'.out, HL'.out, r4⟩
theorem do_2 {w : World} {P : Nat → Prop} {v : Value} {b m n : Nat} {low : Int} {L : List S86} (hb : Bk w b m n low L) (hr : RefAt w P v low L) (hP : ∀ k, P k → k ≠ b ∧ k ≠ m) (hG : GoodB low L) (hlow : 0 < low ∧ low < 900000) (hL : L.length < 900000) (hn : n < 900000) (k id tag left slice : Int) (hk : k.tmod 5 = 2) (wf : (Lit.int .i64 id).wf = true) :
  Calls Try.prog 21 #[.pointer (some ⟨b, 0, none⟩), v, .agg #[.int .u8 k, .int .i64 id, .int .i64 tag, .int .i64 left, .int .i64 slice]] w fun e w' => ∃ v' L', e = .returned (.tuple #[v', .bool true]) ∧ Bk w' b m (n + 1) low L' ∧ RefAt w' (fun k => P k ∨ w.heap.size ≤ k) v' low L' ∧ GoodB low L' ∧ L'.length ≤ L.length + 1 ∧ Wrote b m w w' := by
 obtain ⟨code, over, L', hG', hL', hA, hB⟩ := Charge_pair hG hlow hL wf
 have d0 : (k.tmod 5 == 0) = false := beq_eq_false_iff_ne.mpr (by omega)
 have d1 : (k.tmod 5 == 1) = false := beq_eq_false_iff_ne.mpr (by omega)
 have d2 : (k.tmod 5 == 2) = true := beq_iff_eq.mpr hk
 have HB := Aside0.mk hb
 have HR := Aside0.mk hr
 have CA := Aside0.mk hA
 have CB := Aside0.mk hB
 have HP := Aside0.mk hP
 have HG' := Aside0.mk hG'
 have HL' := Aside0.mk hL'
 obtain ⟨A, c, rfl, hv⟩ := hr
 obtain ⟨hbl, hml⟩ := BookAt.lt hb
 clear hk hb hG hG' hL' hA hB hv hP
 go_enter Try.func21, Try.ntmps21
 go_wp2_with fail
 have hX := Boxes3.at w low A L.length c k id tag left slice
 generalize ((w.alloc (.cells #[.int .i64 low, .slice A L.length c] 39)).alloc (.cells #[.int .u8 k, .int .i64 id, .int .i64 tag, .int .i64 left, .int .i64 slice] 42)).alloc (.cells #[.int .i64 0, .slice none 0 0] 39) = W2 at hX ⊢
 have HX := Aside0.mk hX
 have hsz2 := hX.2.1
 refine (CA.out W2 b m n (Bk.keep HB.out hX.1) hn).mono ?_
 rintro e w3 ⟨rfl, hk3, hw3⟩
 have HK3 := Aside0.mk hk3
 have HW3 := Aside0.mk ((Wrote.of_below hX.1 hbl).trans hw3)
 have hx3 := (hw3.1.2 _ (zak hX.2.2.1) (by omega) (by omega)).trans hX.2.2.1
 have hy3 := (hw3.1.2 _ (zak hX.2.2.2.1) (by omega) (by omega)).trans hX.2.2.2.1
 have he3 := (hw3.1.2 _ (zak hX.2.2.2.2) (by omega) (by omega)).trans hX.2.2.2.2
 have HR3 := Aside0.mk ((HR.out.old hX.1).only hw3.1 (fun k hk => HP.out k hk.1))
 have hsz3 : w.heap.size + 3 ≤ w3.heap.size := by rw [← hX.2.1]; exact hw3.1.1
 have x0 : w3.cell? ⟨w.heap.size, 0, none⟩ = some (.int .i64 low) := (za hx3 0).trans rfl
 have x1 : w3.cell? ⟨w.heap.size, 1, none⟩ = some (.slice A L.length c) := (za hx3 1).trans rfl
 have x2 : w3.cell? ⟨w.heap.size + 1, 1, none⟩ = some (.int .i64 id) := (za hy3 1).trans rfl
 have HE3 := Aside0.mk he3
 clear hX hk3 hw3 hx3 hy3 he3
 go_wp2_with fail
 go_at_call 48
 refine (CB.out w3 _ _ HR3.out).mono ?_
 rintro e w4 ⟨v', rfl, hr4, hb4⟩
 obtain ⟨A', c', rfl, hv4⟩ := hr4
 have hsz4 := hb4.size
 have he4 := zac ((hb4.block _ (zak HE3.out)).trans HE3.out) (.cells #[.int .i64 low, .slice A' L'.length c'] 39)
 have hn4 := zau w4 (.cells #[.int .i64 low, .slice A' L'.length c'] 39)
 have HV4 := Aside0.mk (Kd.zb hv4 (.cells #[.int .i64 low, .slice A' L'.length c'] 39))
 have HW4 := Aside0.mk ((HW3.out.step hb4 (by omega)).step (zae (Below.refl _ w4) (.cells #[.int .i64 low, .slice A' L'.length c'] 39)) (by omega))
 have HK4 : Aside0 (Bk (w4.alloc (.cells #[.int .i64 low, .slice A' L'.length c'] 39)) b m (n + 1) low L') := ⟨Bk.keep (Bk.keep HK3.out hb4) (zae (Below.refl _ w4) _)⟩
 clear hb4 hv4 x0 x1 x2
 have e0 : (w4.alloc (.cells #[.int .i64 low, .slice A' L'.length c'] 39)).cell? ⟨w.heap.size + 2, 0, none⟩ = some (.int .i64 0) := (za he4 0).trans rfl
 have e1 : (w4.alloc (.cells #[.int .i64 low, .slice A' L'.length c'] 39)).cell? ⟨w.heap.size + 2, 1, none⟩ = some (.slice none 0 0) := (za he4 1).trans rfl
 have q0 := zaa he4 0
 have q1 := zaa he4 1
 have HE4 := Aside0.mk he4
 clear he4 hn4
 go_wp2_with fail
 obtain ⟨r1, r2, r3, r4⟩ := do_end2 (x1 := .int .i64 0) (x2 := .slice none 0 0) hsz3 hbl hml HK4.out HW4.out HE4.out HV4.out
 exact bodyPost_ret (za4 rfl _ _ (w.heap.size + 2) 39 #[.int .i64 low, .slice A' L'.length c'] (0, 0) _ rfl r1 Try.underlying39 rfl (by kernel_rfl)) rfl ⟨_, _, rfl, r2, r3, HG'.out, HL'.out, r4⟩
theorem do_3 {w : World} {P : Nat → Prop} {v : Value} {b m n : Nat} {low : Int} {L : List S86} (hb : Bk w b m n low L) (hr : RefAt w P v low L) (hP : ∀ k, P k → k ≠ b ∧ k ≠ m) (hG : GoodB low L) (hlow : 0 < low ∧ low < 900000) (hL : L.length < 900000) (hn : n < 900000) (k id tag left slice : Int) (hk : k.tmod 5 = 3) (wf : (Lit.int .i64 id).wf = true) :
  Calls Try.prog 21 #[.pointer (some ⟨b, 0, none⟩), v, .agg #[.int .u8 k, .int .i64 id, .int .i64 tag, .int .i64 left, .int .i64 slice]] w fun e w' => ∃ v' L', e = .returned (.tuple #[v', .bool true]) ∧ Bk w' b m (n + 1) low L' ∧ RefAt w' (fun k => P k ∨ w.heap.size ≤ k) v' low L' ∧ GoodB low L' ∧ L'.length ≤ L.length + 1 ∧ Wrote b m w w' := by
 obtain ⟨code, L', hG', hL', hA, hB⟩ := Resize_pair hG hlow hL wf slice
 have d0 : (k.tmod 5 == 0) = false := beq_eq_false_iff_ne.mpr (by omega)
 have d1 : (k.tmod 5 == 1) = false := beq_eq_false_iff_ne.mpr (by omega)
 have d2 : (k.tmod 5 == 2) = false := beq_eq_false_iff_ne.mpr (by omega)
 have d3 : (k.tmod 5 == 3) = true := beq_iff_eq.mpr hk
 have HB := Aside0.mk hb
 have HR := Aside0.mk hr
 have CA := Aside0.mk hA
 have CB := Aside0.mk hB
 have HP := Aside0.mk hP
 have HG' := Aside0.mk hG'
 have HL' := Aside0.mk hL'
 obtain ⟨A, c, rfl, hv⟩ := hr
 obtain ⟨hbl, hml⟩ := BookAt.lt hb
 clear hk hb hG hG' hL' hA hB hv hP
 go_enter Try.func21, Try.ntmps21
 go_wp2_with fail
 have hX := Boxes3.at w low A L.length c k id tag left slice
 generalize ((w.alloc (.cells #[.int .i64 low, .slice A L.length c] 39)).alloc (.cells #[.int .u8 k, .int .i64 id, .int .i64 tag, .int .i64 left, .int .i64 slice] 42)).alloc (.cells #[.int .i64 0, .slice none 0 0] 39) = W2 at hX ⊢
 have HX := Aside0.mk hX
 refine (CB.out W2 (fun k => P k ∧ k < w.heap.size) _ (HR.out.old hX.1)).mono ?_
 rintro e w3 ⟨v', rfl, hr3, hb3⟩
 have HB3 := Aside0.mk (zai hX.1 hb3)
 obtain ⟨A', c', rfl, hv3⟩ := hr3
 have HV3 := Aside0.mk hv3
 obtain ⟨hx3, hy3, he3⟩ := hX.keep hb3
 have HX3 := Aside0.mk hx3
 have HY3 := Aside0.mk hy3
 have HE3 := Aside0.mk he3
 have x0 : w3.cell? ⟨w.heap.size + 1, 1, none⟩ = some (.int .i64 id) := (za hy3 1).trans rfl
 have x1 : w3.cell? ⟨w.heap.size + 1, 2, none⟩ = some (.int .i64 tag) := (za hy3 2).trans rfl
 have x2 : w3.cell? ⟨w.heap.size + 1, 3, none⟩ = some (.int .i64 left) := (za hy3 3).trans rfl
 have x3 : w3.cell? ⟨w.heap.size + 1, 4, none⟩ = some (.int .i64 slice) := (za hy3 4).trans rfl
 have e0 : w3.cell? ⟨w.heap.size + 2, 0, none⟩ = some (.int .i64 0) := (za he3 0).trans rfl
 have e1 : w3.cell? ⟨w.heap.size + 2, 1, none⟩ = some (.slice none 0 0) := (za he3 1).trans rfl
 have q0 := zaa he3 0
 have q1 := zaa he3 1
 have hsz3 : w.heap.size + 3 ≤ w3.heap.size := by rw [← hX.2.1]; exact hb3.size
 have hn4 := zau w3 (.cells #[.int .i64 low, .slice A' L'.length c'] 39)
 have hy4 := zac hy3 (.cells #[.int .i64 low, .slice A' L'.length c'] 39)
 have he4 := zac he3 (.cells #[.int .i64 low, .slice A' L'.length c'] 39)
 have HB4 := Aside0.mk (zae HB3.out (.cells #[.int .i64 low, .slice A' L'.length c'] 39))
 have HV4 := Aside0.mk (Kd.zb hv3 (.cells #[.int .i64 low, .slice A' L'.length c'] 39))
 have hsz4 : W2.heap.size ≤ (w3.alloc (.cells #[.int .i64 low, .slice A' L'.length c'] 39)).heap.size := Nat.le_trans hb3.size (by simp)
 clear hX hb3 hv3 hx3 hy3 he3
 go_wp2_with fail
 clear x0 x1 x2 x3 e0 e1 q0
 generalize w3.alloc (.cells #[.int .i64 low, .slice A' L'.length c'] 39) = W4 at hsz4 hn4 hy4 he4 HB4 HV4 ⊢
 have x0 : W4.cell? ⟨w.heap.size + 1, 1, none⟩ = some (.int .i64 id) := (za hy4 1).trans rfl
 have x1 : W4.cell? ⟨w.heap.size + 1, 2, none⟩ = some (.int .i64 tag) := (za hy4 2).trans rfl
 have x2 : W4.cell? ⟨w.heap.size + 1, 3, none⟩ = some (.int .i64 left) := (za hy4 3).trans rfl
 have x3 : W4.cell? ⟨w.heap.size + 1, 4, none⟩ = some (.int .i64 slice) := (za hy4 4).trans rfl
 have e0 : W4.cell? ⟨w.heap.size + 2, 0, none⟩ = some (.int .i64 0) := (za he4 0).trans rfl
 have e1 : W4.cell? ⟨w.heap.size + 2, 1, none⟩ = some (.slice none 0 0) := (za he4 1).trans rfl
 have q0 := zaa he4 0
 have q1 := zaa he4 1
 have n0 : W4.cell? ⟨w3.heap.size, 0, none⟩ = some (.int .i64 low) := (za hn4 0).trans rfl
 have n1 : W4.cell? ⟨w3.heap.size, 1, none⟩ = some (.slice A' L'.length c') := (za hn4 1).trans rfl
 have HN4 := Aside0.mk hn4
 have HY4 := Aside0.mk hy4
 have HE4 := Aside0.mk he4
 have HK4 : Aside0 (Bk W4 b m n low L) := ⟨Bk.keep HB.out HB4.out⟩
 clear hn4 hy4 he4
 have HSK : Aside0 (∀ W, Same2 (w.heap.size + 1) w3.heap.size W4 W → W.cell? ⟨w.heap.size + 1, 1, none⟩ = some (.int .i64 id) ∧ W.cell? ⟨w.heap.size + 1, 4, none⟩ = some (.int .i64 slice) ∧ W.cell? ⟨w3.heap.size, 0, none⟩ = some (.int .i64 low) ∧ W.cell? ⟨w3.heap.size, 1, none⟩ = some (.slice A' L'.length c')) := ⟨fun W h => by
  have h1 := h.1.trans HY4.out
  have h2 := h.2.trans HN4.out
  exact ⟨(za h1 1).trans rfl, (za h1 4).trans rfl, (za h2 0).trans rfl, (za h2 1).trans rfl⟩⟩
 have hn1 : w.heap.size + 1 ≠ w.heap.size + 2 := by omega
 have hn2 : w3.heap.size ≠ w.heap.size + 2 := by omega
 go_region_held3 (fun W => W.cell? ⟨w.heap.size + 1, 1, none⟩ = some (.int .i64 id) ∧ W.cell? ⟨w.heap.size + 1, 4, none⟩ = some (.int .i64 slice) ∧ W.cell? ⟨w3.heap.size, 0, none⟩ = some (.int .i64 low) ∧ W.cell? ⟨w3.heap.size, 1, none⟩ = some (.slice A' L'.length c')) (((with_reducible refine HSK.out _ ?_); (repeat (with_reducible refine Same2.set ?_ hn1 hn2 _)); first | (with_reducible exact HS5.out) | (with_reducible exact Same2.drew _ _ _))) ((go_at_call 25; refine (CA.out W4.drew b m n HK4.out hn).mono ?_; rintro e w5 ⟨rfl, hk5, hw5⟩; have HK5 := Aside0.mk hk5; have HW5 := Aside0.mk hw5; have HS5 : Aside0 (Same2 (w.heap.size + 1) w3.heap.size W4 w5) := ⟨⟨hw5.1.2 _ (zak HY4.out) (by omega) (by omega), hw5.1.2 _ (zak HN4.out) (by omega) (by omega)⟩⟩; have he5 := (hw5.1.2 _ (zak HE4.out) (by omega) (by omega)).trans HE4.out; have y0 : w5.cell? ⟨w.heap.size + 2, 0, none⟩ = some (.int .i64 0) := (za he5 0).trans rfl; have y1 : w5.cell? ⟨w.heap.size + 2, 1, none⟩ = some (.slice none 0 0) := (za he5 1).trans rfl; have z0 := zaa he5 0; have z1 := zaa he5 1; have HE5 := Aside0.mk he5; clear hk5 hw5 he5))
 all_goals
  go_wp2
 all_goals
  obtain ⟨r1, r2, r3, r4⟩ := do_end (x1 := .int .i64 0) (x2 := .slice none 0 0) HB4.out (Nat.le_of_eq HX.out.2.1.symm) hsz4 hbl hml HP.out HK5.out HW5.out HE5.out HV4.out
  exact bodyPost_ret (za4 rfl _ _ (w.heap.size + 2) 39 #[.int .i64 low, .slice A' L'.length c'] (0, 0) _ rfl r1 Try.underlying39 rfl (by kernel_rfl)) rfl ⟨_, _, rfl, r2, r3, HG'.out, HL'.out, r4⟩
theorem do_1 {w : World} {P : Nat → Prop} {v : Value} {b m n : Nat} {low : Int} {L : List S86} (hb : Bk w b m n low L) (hr : RefAt w P v low L) (hP : ∀ k, P k → k ≠ b ∧ k ≠ m) (hG : GoodB low L) (hlow : 0 < low ∧ low < 900000) (hL : L.length < 900000) (hn : n < 900000) (k id tag left slice : Int) (hk : k.tmod 5 = 1) (wf : (Lit.int .i64 id).wf = true) :
  Calls Try.prog 21 #[.pointer (some ⟨b, 0, none⟩), v, .agg #[.int .u8 k, .int .i64 id, .int .i64 tag, .int .i64 left, .int .i64 slice]] w fun e w' => ∃ v' L', e = .returned (.tuple #[v', .bool true]) ∧ Bk w' b m (n + 1) low L' ∧ RefAt w' (fun k => P k ∨ w.heap.size ≤ k) v' low L' ∧ GoodB low L' ∧ L'.length ≤ L.length + 1 ∧ Wrote b m w w' := by
 obtain ⟨code, i0, a1, a2, a3, L', hG', hL', hq1, hq2, hq3, hA, hB⟩ := Leave_pair hG hL wf
 clear hq1 hq2 hq3
 have d0 : (k.tmod 5 == 0) = false := beq_eq_false_iff_ne.mpr (by omega)
 have d1 : (k.tmod 5 == 1) = true := beq_iff_eq.mpr hk
 have HB := Aside0.mk hb
 have HR := Aside0.mk hr
 have CA := Aside0.mk hA
 have CB := Aside0.mk hB
 have HP := Aside0.mk hP
 have HG' := Aside0.mk hG'
 have HL' := Aside0.mk hL'
 obtain ⟨A, c, rfl, hv⟩ := hr
 obtain ⟨hbl, hml⟩ := BookAt.lt hb
 clear hk hb hG hG' hL' hA hB hv hP
 go_enter Try.func21, Try.ntmps21
 go_wp2_with fail
 have hX := Boxes3.at w low A L.length c k id tag left slice
 generalize ((w.alloc (.cells #[.int .i64 low, .slice A L.length c] 39)).alloc (.cells #[.int .u8 k, .int .i64 id, .int .i64 tag, .int .i64 left, .int .i64 slice] 42)).alloc (.cells #[.int .i64 0, .slice none 0 0] 39) = W2 at hX ⊢
 have HX := Aside0.mk hX
 have hsz2 := hX.2.1
 refine (CA.out W2 b m n (Bk.keep HB.out hX.1) hn).mono ?_
 rintro e w3 ⟨rfl, hk3, hw3⟩
 have HK3 := Aside0.mk hk3
 have HW3 := Aside0.mk ((Wrote.of_below hX.1 hbl).trans hw3)
 have hx3 := (hw3.1.2 _ (zak hX.2.2.1) (by omega) (by omega)).trans hX.2.2.1
 have hy3 := (hw3.1.2 _ (zak hX.2.2.2.1) (by omega) (by omega)).trans hX.2.2.2.1
 have he3 := (hw3.1.2 _ (zak hX.2.2.2.2) (by omega) (by omega)).trans hX.2.2.2.2
 have HR3 := Aside0.mk ((HR.out.old hX.1).only hw3.1 (fun k hk => HP.out k hk.1))
 have hsz3 : w.heap.size + 3 ≤ w3.heap.size := by rw [← hX.2.1]; exact hw3.1.1
 have HX4 := Aside0.mk (zau w3 (.cells #[.int .i64 a1, .int .i64 a2, .int .i64 a3] 48))
 have HE4 := Aside0.mk (zac he3 (.cells #[.int .i64 a1, .int .i64 a2, .int .i64 a3] 48))
 have x0 : (w3.alloc (.cells #[.int .i64 a1, .int .i64 a2, .int .i64 a3] 48)).cell? ⟨w.heap.size, 0, none⟩ = some (.int .i64 low) := (za (zac hx3 (.cells #[.int .i64 a1, .int .i64 a2, .int .i64 a3] 48)) 0).trans rfl
 have x1 : (w3.alloc (.cells #[.int .i64 a1, .int .i64 a2, .int .i64 a3] 48)).cell? ⟨w.heap.size, 1, none⟩ = some (.slice A L.length c) := (za (zac hx3 (.cells #[.int .i64 a1, .int .i64 a2, .int .i64 a3] 48)) 1).trans rfl
 have x2 : (w3.alloc (.cells #[.int .i64 a1, .int .i64 a2, .int .i64 a3] 48)).cell? ⟨w.heap.size + 1, 1, none⟩ = some (.int .i64 id) := (za (zac hy3 (.cells #[.int .i64 a1, .int .i64 a2, .int .i64 a3] 48)) 1).trans rfl
 clear hX hk3 hw3 hx3 hy3 he3
 go_wp2_with fail
 go_at_call 47
 have HR4 := Aside0.mk (HR3.out.below (zae (Below.refl _ w3) (.cells #[.int .i64 a1, .int .i64 a2, .int .i64 a3] 48)))
 have HK4 := Aside0.mk (Bk.keep HK3.out (zae (Below.refl _ w3) (.cells #[.int .i64 a1, .int .i64 a2, .int .i64 a3] 48)))
 have HW4 := Aside0.mk (HW3.out.step (zae (Below.refl _ w3) (.cells #[.int .i64 a1, .int .i64 a2, .int .i64 a3] 48)) (by omega))
 have hsz4 : w3.heap.size + 1 = (w3.alloc (.cells #[.int .i64 a1, .int .i64 a2, .int .i64 a3] 48)).heap.size := by simp
 have hsz3' : w.heap.size + 3 ≤ (w3.alloc (.cells #[.int .i64 a1, .int .i64 a2, .int .i64 a3] 48)).heap.size := by omega
 generalize w3.alloc (.cells #[.int .i64 a1, .int .i64 a2, .int .i64 a3] 48) = W4 at hsz3' HX4 HE4 HR4 HK4 HW4 x0 x1 x2 hsz4 ⊢
 refine (CB.out W4 _ _ HR4.out).mono ?_
 rintro e w5 ⟨v', rfl, hr5, hb5⟩
 obtain ⟨A', c', rfl, hv5⟩ := hr5
 have hsz5 := hb5.size
 have he5 := zac (zac ((hb5.block _ (zak HE4.out)).trans HE4.out) (.cells #[.int .i64 low, .slice A' L'.length c'] 39)) (.cells #[.int .i64 i0, .int .i64 a1, .int .i64 a2, .int .i64 a3] 86)
 have hx5 := zac (zac ((hb5.block _ (zak HX4.out)).trans HX4.out) (.cells #[.int .i64 low, .slice A' L'.length c'] 39)) (.cells #[.int .i64 i0, .int .i64 a1, .int .i64 a2, .int .i64 a3] 86)
 have hn5 := zac (zau w5 (.cells #[.int .i64 low, .slice A' L'.length c'] 39)) (.cells #[.int .i64 i0, .int .i64 a1, .int .i64 a2, .int .i64 a3] 86)
 have hm5 := zau (w5.alloc (.cells #[.int .i64 low, .slice A' L'.length c'] 39)) (.cells #[.int .i64 i0, .int .i64 a1, .int .i64 a2, .int .i64 a3] 86)
 have HV5 := Aside0.mk (Kd.zb (Kd.zb hv5 (.cells #[.int .i64 low, .slice A' L'.length c'] 39)) (.cells #[.int .i64 i0, .int .i64 a1, .int .i64 a2, .int .i64 a3] 86))
 have HW5 := Aside0.mk ((HW4.out.step hb5 (by omega)).step (zae (zae (Below.refl _ w5) (.cells #[.int .i64 low, .slice A' L'.length c'] 39)) (.cells #[.int .i64 i0, .int .i64 a1, .int .i64 a2, .int .i64 a3] 86)) (by omega))
 have HK5 : Aside0 (Bk ((w5.alloc (.cells #[.int .i64 low, .slice A' L'.length c'] 39)).alloc (.cells #[.int .i64 i0, .int .i64 a1, .int .i64 a2, .int .i64 a3] 86)) b m (n + 1) low L') := ⟨Bk.keep (Bk.keep HK4.out hb5) (zae (zae (Below.refl _ w5) _) _)⟩
 clear hb5 hv5 x0 x1 x2
 go_wp2_with fail
 rw [show (w5.alloc (.cells #[.int .i64 low, .slice A' L'.length c'] 39)).heap.size = w5.heap.size + 1 by simp] at hm5
 generalize (w5.alloc (.cells #[.int .i64 low, .slice A' L'.length c'] 39)).alloc (.cells #[.int .i64 i0, .int .i64 a1, .int .i64 a2, .int .i64 a3] 86) = W6 at he5 hx5 hn5 hm5 HV5 HW5 HK5 ⊢
 have e0 : W6.cell? ⟨w.heap.size + 2, 0, none⟩ = some (.int .i64 0) := (za he5 0).trans rfl
 have e1 : W6.cell? ⟨w.heap.size + 2, 1, none⟩ = some (.slice none 0 0) := (za he5 1).trans rfl
 have q0 := zaa he5 0
 have q1 := zaa he5 1
 have HE5 := Aside0.mk he5
 have HX5 := Aside0.mk hx5
 have HN5 := Aside0.mk hn5
 have HM5 := Aside0.mk hm5
 have HSK : Aside0 (∀ W : World, W.heap[w3.heap.size]? = W6.heap[w3.heap.size]? → W.heap[w5.heap.size]? = W6.heap[w5.heap.size]? → W.heap[w5.heap.size + 1]? = W6.heap[w5.heap.size + 1]? →
   W.cell? ⟨w3.heap.size, 0, none⟩ = some (.int .i64 a1) ∧ W.cell? ⟨w3.heap.size, 1, none⟩ = some (.int .i64 a2) ∧ W.cell? ⟨w3.heap.size, 2, none⟩ = some (.int .i64 a3) ∧
   W.cell? ⟨w5.heap.size, 0, none⟩ = some (.int .i64 low) ∧ W.cell? ⟨w5.heap.size, 1, none⟩ = some (.slice A' L'.length c') ∧
   W.cell? ⟨w5.heap.size + 1, 1, none⟩ = some (.int .i64 a1) ∧ W.cell? ⟨w5.heap.size + 1, 2, none⟩ = some (.int .i64 a2) ∧ W.cell? ⟨w5.heap.size + 1, 3, none⟩ = some (.int .i64 a3)) := ⟨fun W h1 h2 h3 => by
  have g1 := h1.trans HX5.out
  have g2 := h2.trans HN5.out
  have g3 := h3.trans HM5.out
  exact ⟨(za g1 0).trans rfl, (za g1 1).trans rfl, (za g1 2).trans rfl, (za g2 0).trans rfl, (za g2 1).trans rfl, (za g3 1).trans rfl, (za g3 2).trans rfl, (za g3 3).trans rfl⟩⟩
 clear he5 hx5 hn5 hm5
 obtain ⟨k0, k1, k2, k3, k4, k5, k6, k7⟩ := HSK.out W6 rfl rfl rfl
 go_region
 all_goals
  go_wp2
 all_goals
  obtain ⟨r1, r2, ⟨A9, c9, r3, r5⟩, r4⟩ := do_end2 (x1 := .int .i64 0) (x2 := .slice none 0 0) hsz3' hbl hml HK5.out HW5.out HE5.out HV5.out
  exact bodyPost_ret (za4 rfl _ _ (w.heap.size + 2) 39 #[.int .i64 low, .slice A' L'.length c'] (0, 0) _ rfl r1 Try.underlying39 rfl (by kernel_rfl)) rfl ⟨_, _, rfl, r2, ⟨A9, c9, r3, Kd.zba r5⟩, HG'.out, HL'.out, r4.drew⟩
end Go.Proofs.Ytbakdobjidjncaa.P
end
