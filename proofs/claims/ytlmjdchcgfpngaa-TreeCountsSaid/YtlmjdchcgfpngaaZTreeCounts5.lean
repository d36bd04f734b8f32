-- Written by a program of this session (wip/tools/shake.py) out of its own texts and of the kit's printed ones; not trusted: Lean checks it.
import Derived.Test.YtlmjdchcgfpngaaZTreeCounts4
set_option maxHeartbeats 8000000
set_option maxRecDepth 100000
set_option linter.unusedVariables false
set_option linter.unusedSimpArgs false
section
namespace Go.Proofs.Ytlmjdchcgfpngaa.P
open Go.RowKit Go.Proofs.YtlmjdchcgfpngaaW.PrintWords Go.Proofs.YtlmjdchcgfpngaaW.PrintLast Go.Proofs.YtlmjdchcgfpngaaW.PrintMore
attribute [local go_sem] zbq zbo max_two min_two zbh zbi zbp zbn
theorem rd_nat84 {L : List S84} {j : Nat} (hj : j < L.length) : rd_T84 L (j : Int) = L[j] := by
 simp [rd_T84, hj]
theorem at_go {L : List S84} (ro la id : Int) (hL : L.length < 1000000) : ∀ q i : Nat, i + q = L.length →
  (Ev (fun k => zae.l0 k id (L.length : Int) (i : Int) ro la L) (-1) ∧ ∀ j, i ≤ j → ∀ h : j < L.length, L[j].f0 ≠ id) ∨ ∃ j, ∃ h : j < L.length, L[j].f0 = id ∧ Ev (fun k => zae.l0 k id (L.length : Int) (i : Int) ro la L) (j : Int)
 | 0, i, hi => by
  refine .inl ⟨?_, fun j h1 h2 => by omega⟩
  exact Ev.step (fun _ => zae.l0.eq_2 ..) (Ev.neg_ (by omega) (Ev.const _))
 | q + 1, i, hi => by
  have hil : i < L.length := by omega
  by_cases e : L[i].f0 = id
  ·
   refine .inr ⟨i, hil, e, ?_⟩
   refine Ev.step (fun _ => zae.l0.eq_2 ..) (Ev.pos_ (by omega) (Ev.pos_ (by omega) (Ev.pos_ (by omega) (Ev.pos_ ?_ (Ev.const _)))))
   rw [rd_nat84 hil]
   exact e
  ·
   have step : ∀ r : Int, Ev (fun k => zae.l0 k id (L.length : Int) ((i + 1 : Nat) : Int) ro la L) r → Ev (fun k => zae.l0 k id (L.length : Int) (i : Int) ro la L) r := fun r h => by
    refine Ev.step (fun _ => zae.l0.eq_2 ..) (Ev.pos_ (by omega) (Ev.pos_ (by omega) (Ev.pos_ (by omega) (Ev.neg_ ?_ ?_))))
    ·
     rw [rd_nat84 hil]
     exact e
    ·
     rw [wadd1 i (by omega)]
     exact h
   rcases at_go ro la id hL q (i + 1) (by omega) with ⟨h1, h2⟩ | ⟨j, hj, h1, h2⟩
   ·
    refine .inl ⟨step _ h1, fun j hij hj => ?_⟩
    by_cases e2 : j = i
    ·
     subst e2
     exact e
    ·
     exact h2 j (by omega) hj
   ·
    exact .inr ⟨j, hj, h1, step _ h2⟩
theorem at_none {L : List S84} (hL : L.length < 1000000) {id : Int} (h : fnd L id = none) (ro la : Int) : Ev (fun k => zae.f k ro la L id) (-1) := by
 rcases at_go ro la id hL L.length 0 (by omega) with ⟨h1, _⟩ | ⟨j, hj, h1, _⟩
 ·
  exact h1
 ·
  exact absurd h1 (fnd_none h _ (List.getElem_mem hj))
theorem at_some {L : List S84} (hA : Asc L) (hL : L.length < 1000000) {id : Int} {g : S84} (h : fnd L id = some g) (ro la : Int) : ∃ j : Nat, j < L.length ∧ rd_T84 L (j : Int) = g ∧ L[j]? = some g ∧ Ev (fun k => zae.f k ro la L id) (j : Int) := by
 obtain ⟨hg, rfl⟩ := za2 h
 rcases at_go ro la g.f0 hL L.length 0 (by omega) with ⟨_, h1⟩ | ⟨j, hj, h1, h2⟩
 ·
  obtain ⟨j, hj, e⟩ := List.getElem_of_mem hg
  exact absurd (by rw [e]) (h1 j (Nat.zero_le _) hj)
 ·
  have e := hA.inj (List.getElem_mem hj) hg h1
  exact ⟨j, hj, by rw [rd_nat84 hj, e], by rw [List.getElem?_eq_getElem hj, e], h2⟩
theorem prt_fnd {L : List S84} {id p : Int} (h : prt L id = some p) : ∃ g, fnd L id = some g ∧ g.f1 = p := by
 unfold prt at h
 cases hf : fnd L id with
 | none => rw [hf] at h; cases h
 | some g => rw [hf] at h; cases h; exact ⟨g, rfl, rfl⟩
theorem depth_l {L : List S84} (hA : Asc L) (hL : L.length < 1000000) (ro la : Int) : ∀ (c : List Int) (id : Int) (n : Nat), Ch (prt L) c id → n + c.length < 1000000 → Ev (fun k => zaj.l0 k id (n : Int) ro la L) ((n + c.length : Nat) : Int)
 | [], id, n, h, _ => by
  have h0 : id < 0 := h
  exact Ev.step (fun _ => zaj.l0.eq_2 ..) (Ev.neg_ (by omega) (Ev.const _))
 | x :: c, id, n, h, hn => by
  obtain ⟨rfl, h0, p, hp, h1⟩ := h
  obtain ⟨g, hf, rfl⟩ := prt_fnd hp
  obtain ⟨j, hj, hr, _, hev⟩ := at_some hA hL hf ro la
  rw [List.length_cons] at hn ⊢
  refine Ev.step (fun _ => zaj.l0.eq_2 ..) (Ev.pos_ (by omega) (Ev.bind hev (Ev.pos_ (by omega) (Ev.pos_ (by omega) ?_))))
  rw [hr, wadd1 n (by omega)]
  have := depth_l hA hL ro la c g.f1 (n + 1) h1 (by omega)
  rw [show n + 1 + c.length = n + (c.length + 1) by omega] at this
  exact this
theorem depth_f {room : Nat} {last : Int} {L : List S84} (hG : GoodF room last L) {g : S84} (hg : g ∈ L) (ro la : Int) : Ev (fun k => zaj.f k ro la L g.f0) ((way L g.f0).length : Nat) := by
 have hl : L.length ≤ 64 := Nat.le_trans hG.2.1 hG.1
 obtain ⟨hc, hw⟩ := hG.way hg
 have := depth_l hG.2.2.2.2.1 (by omega) ro la _ _ 0 hc (by omega)
 rw [Nat.zero_add] at this
 exact this
theorem root_l {L : List S84} (hA : Asc L) (hL : L.length < 1000000) (ro la : Int) : ∀ (c : List Int) (id : Int), Ch (prt L) c id → 0 ≤ id → Ev (fun k => zah.l0 k id ro la L) (c.getLast?.getD 0)
 | [], id, h, h0 => by
  have : id < 0 := h
  omega
 | x :: c, id, h, h0 => by
  obtain ⟨rfl, _, p, hp, h1⟩ := h
  obtain ⟨g, hf, rfl⟩ := prt_fnd hp
  obtain ⟨j, hj, hr, _, hev⟩ := at_some hA hL hf ro la
  refine Ev.step (fun _ => zah.l0.eq_2 ..) (Ev.bind hev (Ev.pos_ (by omega) (Ev.pos_ (by omega) ?_)))
  rw [hr]
  cases c with
  | nil =>
   have h2 : g.f1 < 0 := h1
   exact Ev.neg_ (by omega) (Ev.const _)
  | cons y c =>
   have h2 : 0 ≤ g.f1 := h1.2.1
   refine Ev.pos_ (by omega) (Ev.bind hev (Ev.pos_ (by omega) (Ev.pos_ (by omega) ?_)))
   rw [hr, List.getLast?_cons_cons]
   exact root_l hA hL ro la (y :: c) g.f1 h1 h2
theorem root_f {room : Nat} {last : Int} {L : List S84} (hG : GoodF room last L) {g : S84} (hg : g ∈ L) (ro la : Int) : Ev (fun k => zah.f k ro la L g.f0) (rootG L g.f0) := by
 have hl : L.length ≤ 64 := Nat.le_trans hG.2.1 hG.1
 exact root_l hG.2.2.2.2.1 (by omega) ro la _ _ (hG.way hg).1 (by have := (hG.2.2.2.2.2 g hg).1; omega)
theorem below_l {L : List S84} (hA : Asc L) (hL : L.length < 1000000) (ro la top : Int) : ∀ (c : List Int) (id : Int), Ch (prt L) c id → Ev (fun k => zan.l0 k id top ro la L) (decide (top ∈ c))
 | [], id, h => by
  have h0 : id < 0 := h
  refine Ev.step (fun _ => zan.l0.eq_2 ..) (Ev.neg_ (by omega) ?_)
  rw [decide_eq_false (by simp)]
  exact Ev.const _
 | x :: c, id, h => by
  obtain ⟨rfl, h0, p, hp, h1⟩ := h
  obtain ⟨g, hf, rfl⟩ := prt_fnd hp
  obtain ⟨j, hj, hr, _, hev⟩ := at_some hA hL hf ro la
  refine Ev.step (fun _ => zan.l0.eq_2 ..) (Ev.pos_ (by omega) ?_)
  by_cases e : x = top
  ·
   refine Ev.pos_ e ?_
   rw [decide_eq_true (by simp [e])]
   exact Ev.const _
  ·
   refine Ev.neg_ e (Ev.bind hev (Ev.pos_ (by omega) (Ev.pos_ (by omega) ?_)))
   rw [hr, show decide (top ∈ x :: c) = decide (top ∈ c) from decide_eq_decide.2 ⟨fun h => by
    rcases List.mem_cons.1 h with h | h
    ·
     exact absurd h.symm e
    ·
     exact h, fun h => List.mem_cons_of_mem _ h⟩]
   exact below_l hA hL ro la top c g.f1 h1
theorem below_f {room : Nat} {last : Int} {L : List S84} (hG : GoodF room last L) {g : S84} (hg : g ∈ L) (ro la top : Int) : Ev (fun k => zan.f k ro la L g.f0 top) (decide (top ∈ way L g.f0)) := by
 have hl : L.length ≤ 64 := Nat.le_trans hG.2.1 hG.1
 exact below_l hG.2.2.2.2.1 (by omega) ro la top _ _ (hG.way hg).1
theorem children_l {L : List S84} (hL : L.length < 1000000) (ro la id : Int) : ∀ (q i : Nat) (out : List Int), i + q = L.length → out.length ≤ i →
  Ev (fun k => zaq.l0 k id out (L.length : Int) (i : Int) ro la L) (out ++ ((L.drop i).filter fun y => y.f1 == id && decide (0 < id)).map (·.f0))
 | 0, i, out, hi, ho => by
  rw [List.drop_of_length_le (by omega)]
  refine Ev.step (fun _ => zaq.l0.eq_2 ..) (Ev.neg_ (by omega) ?_)
  simp only [List.filter_nil, List.map_nil, List.append_nil]
  exact Ev.const _
 | q + 1, i, out, hi, ho => by
  have hil : i < L.length := by omega
  rw [List.drop_eq_getElem_cons hil, List.filter_cons]
  refine Ev.step (fun _ => zaq.l0.eq_2 ..) (Ev.pos_ (by omega) (Ev.pos_ (by omega) (Ev.pos_ (by omega) ?_)))
  rw [rd_nat84 hil, wadd1 i (by omega)]
  by_cases e : L[i].f1 = id
  ·
   refine Ev.pos_ e ?_
   by_cases e2 : 0 < id
   ·
    refine Ev.pos_ e2 (Ev.pos_ (by omega) ?_)
    rw [if_pos (by simp [e, e2]), List.map_cons]
    have := children_l hL ro la id q (i + 1) (out ++ [L[i].f0]) (by omega) (by rw [List.length_append, List.length_singleton]; omega)
    rw [List.append_assoc, List.singleton_append] at this
    exact this
   ·
    refine Ev.neg_ e2 ?_
    rw [if_neg (by simp [e2])]
    exact children_l hL ro la id q (i + 1) out (by omega) (by omega)
  ·
   refine Ev.neg_ e ?_
   rw [if_neg (by simp [e])]
   exact children_l hL ro la id q (i + 1) out (by omega) (by omega)
theorem children_f {room : Nat} {last : Int} {L : List S84} (hG : GoodF room last L) {id : Int} (h0 : 0 < id) (ro la : Int) : Ev (fun k => zaq.f k ro la L id) (kidsF L id) := by
 have hl : L.length ≤ 64 := Nat.le_trans hG.2.1 hG.1
 have := children_l (L := L) (by omega) ro la id L.length 0 [] (by omega) (Nat.zero_le _)
 rw [List.nil_append, List.drop_zero] at this
 have e : (L.filter fun y => y.f1 == id && decide (0 < id)) = L.filter fun y => decide (0 ≤ y.f1) && y.f1 == id := by
  refine List.filter_congr fun y _ => ?_
  by_cases e : y.f1 = id
  ·
   simp [e, h0, Int.le_of_lt h0]
  ·
   have e3 : (y.f1 == id) = false := beq_eq_false_iff_ne.mpr e
   rw [e3]
   simp
 rw [e] at this
 exact this
theorem kidsF_kid {L : List S84} {id : Int} (h0 : 0 < id) : ((kidsF L id).length : Int) = kid L id := by
 unfold kidsF kid
 rw [List.length_map]
 congr 2
 refine List.filter_congr fun y _ => ?_
 by_cases e : y.f1 = id
 ·
  simp [e, Int.le_of_lt h0]
 ·
  have e3 : (y.f1 == id) = false := beq_eq_false_iff_ne.mpr e
  rw [e3]
  simp
theorem fan_f {room : Nat} {last : Int} {L : List S84} (hG : GoodF room last L) {g : S84} (hg : g ∈ L) (ro la : Int) : Ev (fun k => zau.f k ro la L g.f0) (kid L g.f0 + g.f3) := by
 have hl : L.length ≤ 64 := Nat.le_trans hG.2.1 hG.1
 obtain ⟨g1, _, _, _, _, g6, g7, g8⟩ := hG.2.2.2.2.2 g hg
 obtain ⟨j, hj, hr, _, hev⟩ := at_some hG.2.2.2.2.1 (by omega) (fnd_mem hG.2.2.2.2.1 hg) ro la
 have hk := za9 L g.f0
 refine Ev.bind (children_f hG (by omega) ro la) (Ev.bind hev (Ev.pos_ (by omega) (Ev.pos_ (by omega) ?_)))
 rw [hr, kidsF_kid (by omega), w64s (by omega) (by omega)]
 exact Ev.const _
theorem more_f {room : Nat} {last : Int} {L : List S84} (hG : GoodF room last L) (ro p wt : Int) : zav.f ro last L p wt = some (ro, last + 1, L ++ [⟨last + 1, p, wt, 0, 0⟩], last + 1) := by
 have hl : L.length ≤ 64 := Nat.le_trans hG.2.1 hG.1
 obtain ⟨_, _, h0, h1, _⟩ := hG
 unfold zav.f
 rw [w64s (x := last + 1) (by omega) (by omega)]
 simp only [Option.bind_some, List.nil_append, List.length_nil, Nat.zero_add, List.length_singleton]
 rw [if_pos (by omega), if_pos (by omega)]
theorem setp_f {L : List S84} (hL : L.length < 1000000) (ro la : Int) {j : Nat} (hj : j < L.length) (a b c d e : Int) : za7.f ro la L (j : Int) a b c d e = some (ro, la, L.set j ⟨a, b, c, d, e⟩) := by
 unfold za7.f
 simp only [Option.bind_some, List.nil_append, List.length_nil, Nat.zero_add, Int.toNat_natCast]
 rw [if_pos (by omega), if_pos (by omega), if_pos (by omega)]
theorem set_setG {L : List S84} (hA : Asc L) {j : Nat} {g : S84} (hj : L[j]? = some g) (h : S84 → S84) : L.set j (h g) = setG L g.f0 h := by
 obtain ⟨hjl, hjg⟩ := List.getElem?_eq_some_iff.1 hj
 unfold setG
 refine List.ext_getElem (by simp) fun i h1 h2 => ?_
 rw [List.getElem_set, List.getElem_map]
 have hil : i < L.length := by simpa using h1
 by_cases e : j = i
 ·
  subst e
  rw [if_pos rfl, hjg, if_pos rfl]
 ·
  rw [if_neg e, if_neg]
  intro e2
  have := hA
  unfold Asc at this
  rw [List.pairwise_iff_getElem] at this
  subst hjg
  rcases Nat.lt_or_gt_of_ne e with h | h
  ·
   have := this j i hjl hil h
   omega
  ·
   have := this i j hil hjl h
   omega
theorem ref_AddRoot {room : Nat} {last : Int} {L : List S84} (hG : GoodF room last L) : zbb.f (room : Int) last L = some ((room : Int), (rootF room last L).1, (rootF room last L).2.1, (rootF room last L).2.2.1, (rootF room last L).2.2.2) := by
 unfold zbb.f rootF
 by_cases h : L.length = room
 ·
  rw [if_pos (by omega), if_pos h]
 ·
  rw [if_neg (by omega), if_neg h, more_f hG]
  rfl
theorem ref_Add {room : Nat} {last : Int} {L : List S84} (hG : GoodF room last L) (p wt : Int) : Ev (fun k => zax.f k (room : Int) last L p wt) ((room : Int), (addF room last L p wt).1, (addF room last L p wt).2.1, (addF room last L p wt).2.2.1, (addF room last L p wt).2.2.2) := by
 have hl : L.length ≤ 64 := Nat.le_trans hG.2.1 hG.1
 cases hf : fnd L p with
 | none =>
  rw [addF_none hf]
  exact Ev.bind (at_none (by omega) hf _ _) (Ev.pos_ (by omega) (Ev.const _))
 | some g =>
  rw [addF_some hf]
  obtain ⟨j, hj, hr, hjg, hev⟩ := at_some hG.2.2.2.2.1 (by omega) hf (room : Int) last
  obtain ⟨hg, rfl⟩ := za2 hf
  refine Ev.bind hev (Ev.neg_ (by omega) ?_)
  by_cases hw : wt < 1 ∨ 10000 < wt
  ·
   rw [if_pos hw]
   by_cases h1 : wt < 1
   ·
    exact Ev.pos_ h1 (Ev.step (fun _ => zax.j0.eq_2 ..) (Ev.pos_ rfl (Ev.const _)))
   ·
    exact Ev.neg_ h1 (Ev.step (fun _ => zax.j0.eq_2 ..) (Ev.pos_ (decide_eq_true (by omega)) (Ev.const _)))
  ·
   rw [if_neg hw]
   refine Ev.neg_ (by omega) (Ev.step (fun _ => zax.j0.eq_2 ..) (Ev.neg_ (by rw [decide_eq_false (by omega)]; decide) (Ev.bind (depth_f hG hg _ _) ?_)))
   by_cases hd : (way L g.f0).length = 8
   ·
    rw [if_pos hd]
    exact Ev.pos_ (by omega) (Ev.const _)
   ·
    rw [if_neg hd]
    refine Ev.neg_ (by omega) (Ev.bind (fan_f hG hg _ _) ?_)
    by_cases hk : kid L g.f0 + g.f3 = 32
    ·
     refine Ev.pos_ hk ?_
     rw [if_pos (show kid L g.f0 + g.f3 = 32 ∨ L.length = room from .inl hk)]
     exact Ev.const _
    ·
     refine Ev.neg_ hk ?_
     by_cases hlr : L.length = room
     ·
      refine Ev.pos_ (by omega) ?_
      rw [if_pos (show kid L g.f0 + g.f3 = 32 ∨ L.length = room from .inr hlr)]
      exact Ev.const _
     ·
      refine Ev.neg_ (by omega) ?_
      rw [if_neg (show ¬ (kid L g.f0 + g.f3 = 32 ∨ L.length = room) from fun hh => hh.elim hk hlr)]
      rw [more_f hG]
      exact Ev.const _
theorem ref_Drop {room : Nat} {last : Int} {L : List S84} (hG : GoodF room last L) (id : Int) : Ev (fun k => za0.f k (room : Int) last L id) ((room : Int), last, (drpF L id).1, (drpF L id).2) := by
 have hl : L.length ≤ 64 := Nat.le_trans hG.2.1 hG.1
 cases hf : fnd L id with
 | none =>
  rw [drpF_none hf]
  exact Ev.bind (at_none (by omega) hf _ _) (Ev.pos_ (by omega) (Ev.const _))
 | some g =>
  rw [drpF_some hf]
  obtain ⟨j, hj, hr, hjg, hev⟩ := at_some hG.2.2.2.2.1 (by omega) hf (room : Int) last
  obtain ⟨hg, rfl⟩ := za2 hf
  refine Ev.bind hev (Ev.neg_ (by omega) (Ev.pos_ (by omega) (Ev.pos_ (by omega) ?_)))
  rw [hr]
  by_cases h0 : g.f1 < 0
  ·
   rw [if_pos h0]
   exact Ev.pos_ h0 (Ev.const _)
  ·
   rw [if_neg h0]
   refine Ev.neg_ h0 (Ev.bind (fan_f hG hg _ _) ?_)
   by_cases hk : kid L g.f0 + g.f3 > 0
   ·
    refine Ev.pos_ hk ?_
    rw [if_pos hk]
    exact Ev.const _
   ·
    refine Ev.neg_ hk ?_
    rw [if_neg hk]
    have e : ([] : List S84) ++ L.take j ++ L.drop (j + 1) = delG L g.f0 := by
     obtain ⟨hjl, hjg2⟩ := List.getElem?_eq_some_iff.1 hjg
     have hA := hG.2.2.2.2.1
     have hA2 := hA
     rw [List.nil_append]
     have h1 : L = L.take j ++ g :: L.drop (j + 1) := by rw [← hjg2, ← List.drop_eq_getElem_cons hjl, List.take_append_drop]
     unfold Asc at hA
     rw [h1, List.pairwise_append] at hA
     obtain ⟨_, p2, p3⟩ := hA
     have p4 := (List.pairwise_cons.1 p2).1
     have e1 : delG (L.take j) g.f0 = L.take j := List.filter_eq_self.2 fun y hy => by
      have := p3 y hy g List.mem_cons_self
      simp
      omega
     have e2 : delG (L.drop (j + 1)) g.f0 = L.drop (j + 1) := List.filter_eq_self.2 fun y hy => by
      have := p4 y hy
      simp
      omega
     have e3 : delG L g.f0 = delG (L.take j) g.f0 ++ delG (L.drop (j + 1)) g.f0 := by
      unfold delG
      conv => lhs; rw [h1]
      rw [List.filter_append, List.filter_cons, if_neg (by simp)]
     rw [e3, e1, e2]
    refine Ev.bind (Ev.const _) (Ev.pos_ (by omega) (Ev.bind (Ev.const _) (Ev.pos_ (by rw [List.length_nil, List.length_take]; omega) (Ev.bind (Ev.const _) ?_))))
    rw [wadd1 j (by omega)]
    refine Ev.pos_ (by omega) (Ev.pos_ (by omega) (Ev.bind (Ev.const _) (Ev.pos_ (by rw [List.length_append, List.length_nil, List.length_take, List.length_drop]; omega) ?_)))
    rw [Int.toNat_natCast, Int.toNat_natCast, e]
    exact Ev.const _
def RefF (w : World) (P : Nat → Prop) (v : Value) (room : Nat) (last : Int) (L : List S84) : Prop := ∃ A c, v = .agg #[.int .i64 (room : Int), .int .i64 last, .slice A L.length c] ∧ Kd.V k84 84 w 0 P (.slice A L.length c) L
theorem RefF.below {w w' : World} {P : Nat → Prop} {v : Value} {room : Nat} {last : Int} {L : List S84} (h : RefF w P v room last L) (hb : Below w.heap.size w w') : RefF w' P v room last L := by
 obtain ⟨A, c, e, h⟩ := h
 exact ⟨A, c, e, Kd.zay h hb⟩
theorem RefF.mono {w : World} {P P' : Nat → Prop} {v : Value} {room : Nat} {last : Int} {L : List S84} (h : RefF w P v room last L) (hp : ∀ k, P k → P' k) : RefF w P' v room last L := by
 obtain ⟨A, c, e, h⟩ := h
 exact ⟨A, c, e, Kd.zbc h hp⟩
theorem RefF.step {w w' : World} {P : Nat → Prop} {v : Value} {room : Nat} {last : Int} {L : List S84} (h : RefF w P v room last L) (ho : ∀ k, P k → k < w.heap.size → w'.heap[k]? = w.heap[k]?) : RefF w' P v room last L := by
 obtain ⟨A, c, e, h⟩ := h
 exact ⟨A, c, e, Kd.V_step h ho⟩
theorem call_AddRoot {w : World} {P : Nat → Prop} {v : Value} {room : Nat} {last : Int} {L : List S84} (h : RefF w P v room last L) (hG : GoodF room last L) :
  Calls Try.prog 32 #[v] w fun e w' => ∃ v', e = .returned (.tuple #[v', .int .i64 (rootF room last L).2.2.1, .int .i64 (rootF room last L).2.2.2]) ∧ RefF w' (fun k => P k ∨ w.heap.size ≤ k) v' room (rootF room last L).1 (rootF room last L).2.1 ∧ Below w.heap.size w w' := by
 obtain ⟨A, c, rfl, hv⟩ := h
 refine (zbb.calls (room : Int) last P A c L _ _ _ _ _ w hv (ref_AddRoot hG)).mono ?_
 rintro e w' ⟨u, rfl, hu, hb⟩
 obtain ⟨A', c', rfl⟩ := Kd.V_slice hu
 exact ⟨_, rfl, ⟨A', c', rfl, hu⟩, hb⟩
theorem call_Add {w : World} {P : Nat → Prop} {v : Value} {room : Nat} {last : Int} {L : List S84} (h : RefF w P v room last L) (hG : GoodF room last L) (p wt : Int) :
  Calls Try.prog 33 #[v, .int .i64 p, .int .i64 wt] w fun e w' => ∃ v', e = .returned (.tuple #[v', .int .i64 (addF room last L p wt).2.2.1, .int .i64 (addF room last L p wt).2.2.2]) ∧ RefF w' (fun k => P k ∨ w.heap.size ≤ k) v' room (addF room last L p wt).1 (addF room last L p wt).2.1 ∧ Below w.heap.size w w' := by
 obtain ⟨A, c, rfl, hv⟩ := h
 obtain ⟨k, hk⟩ := (ref_Add hG p wt).get
 refine (zax.calls k (room : Int) last P A c L p wt _ _ _ _ _ w hv hk).mono ?_
 rintro e w' ⟨u, rfl, hu, hb⟩
 obtain ⟨A', c', rfl⟩ := Kd.V_slice hu
 exact ⟨_, rfl, ⟨A', c', rfl, hu⟩, hb⟩
theorem call_Drop {w : World} {P : Nat → Prop} {v : Value} {room : Nat} {last : Int} {L : List S84} (h : RefF w P v room last L) (hG : GoodF room last L) (id : Int) :
  Calls Try.prog 35 #[v, .int .i64 id] w fun e w' => ∃ v', e = .returned (.tuple #[v', .int .i64 (drpF L id).2]) ∧ RefF w' (fun k => P k ∨ w.heap.size ≤ k) v' room last (drpF L id).1 ∧ Below w.heap.size w w' := by
 obtain ⟨A, c, rfl, hv⟩ := h
 obtain ⟨k, hk⟩ := (ref_Drop hG id).get
 refine (za0.calls k (room : Int) last P A c L id _ _ _ _ w hv hk).mono ?_
 rintro e w' ⟨u, rfl, hu, hb⟩
 obtain ⟨A', c', rfl⟩ := Kd.V_slice hu
 exact ⟨_, rfl, ⟨A', c', rfl, hu⟩, hb⟩
theorem put3 {w : World} {b : Nat} {t : TypeId} {x0 x1 x2 : Value} (y0 y1 y2 : Value) (h : w.heap[b]? = some (.cells #[x0, x1, x2] t (0, 0))) : (((w.setCell ⟨b, 0, none⟩ y0).setCell ⟨b, 1, none⟩ y1).setCell ⟨b, 2, none⟩ y2).heap[b]? = some (.cells #[y0, y1, y2] t (0, 0)) := by
 have h0 : (w.setCell ⟨b, 0, none⟩ y0).heap[b]? = some (.cells #[y0, x1, x2] t (0, 0)) := zar h 0 y0 rfl
 have h1 : ((w.setCell ⟨b, 0, none⟩ y0).setCell ⟨b, 1, none⟩ y1).heap[b]? = some (.cells #[y0, y1, x2] t (0, 0)) := zar h0 1 y1 rfl
 exact zar h1 2 y2 rfl
theorem zbe {w w5 : World} {P Q : Nat → Prop} {room : Nat} {last : Int} {A' : Option Addr} {c' : Nat} {L' : List S84} {x0 x1 x2 : Value} (hB : Below w.heap.size w w5) (hY : w5.heap[w.heap.size + 1]? = some (.cells #[x0, x1, x2] 44 (0, 0)))
  (hV : Kd.V k84 84 w5 0 Q (.slice A' L'.length c') L') (hQ : ∀ k, Q k → (P k ∨ w.heap.size ≤ k) ∧ k ≠ w.heap.size + 1) :
  (((w5.setCell ⟨w.heap.size + 1, 0, none⟩ (.int .i64 (room : Int))).setCell ⟨w.heap.size + 1, 1, none⟩ (.int .i64 last)).setCell ⟨w.heap.size + 1, 2, none⟩ (.slice A' L'.length c')).heap[w.heap.size + 1]? = some (.cells #[.int .i64 (room : Int), .int .i64 last, .slice A' L'.length c'] 44 (0, 0)) ∧
  RefF (((w5.setCell ⟨w.heap.size + 1, 0, none⟩ (.int .i64 (room : Int))).setCell ⟨w.heap.size + 1, 1, none⟩ (.int .i64 last)).setCell ⟨w.heap.size + 1, 2, none⟩ (.slice A' L'.length c')) (fun k => P k ∨ w.heap.size ≤ k) (.agg #[.int .i64 (room : Int), .int .i64 last, .slice A' L'.length c']) room last L' ∧
  Below w.heap.size w (((w5.setCell ⟨w.heap.size + 1, 0, none⟩ (.int .i64 (room : Int))).setCell ⟨w.heap.size + 1, 1, none⟩ (.int .i64 last)).setCell ⟨w.heap.size + 1, 2, none⟩ (.slice A' L'.length c')) :=
 ⟨put3 _ _ _ hY, ⟨A', c', rfl, Kd.zbc (Kd.V_far (Kd.V_far (Kd.V_far hV (fun k hk => (hQ k hk).2) _) (fun k hk => (hQ k hk).2) _) (fun k hk => (hQ k hk).2) _) fun k hk => (hQ k hk).1⟩,
  ((hB.setCell (p := ⟨w.heap.size + 1, 0, none⟩) (Nat.le_succ _) _).setCell (p := ⟨w.heap.size + 1, 1, none⟩) (Nat.le_succ _) _).setCell (p := ⟨w.heap.size + 1, 2, none⟩) (Nat.le_succ _) _⟩
theorem call_Weight {w : World} {P : Nat → Prop} {v : Value} {room : Nat} {last : Int} {L : List S84} (h : RefF w P v room last L) (hG : GoodF room last L) (id wt : Int) :
  Calls Try.prog 38 #[v, .int .i64 id, .int .i64 wt] w fun e w' => ∃ v', e = .returned (.tuple #[v', .int .i64 (wgtF L id wt).2]) ∧ RefF w' (fun k => P k ∨ w.heap.size ≤ k) v' room last (wgtF L id wt).1 ∧ Below w.heap.size w w' := by
 obtain ⟨A, c, rfl, hv⟩ := h
 obtain ⟨_, hc, hC⟩ := Kd.zaw hv
 have hl : L.length ≤ 64 := Nat.le_trans hG.2.1 hG.1
 have HV := Aside0.mk hv
 have HC := Aside0.mk hC
 have Hc := Aside0.mk hc
 have HG := Aside0.mk hG
 clear hv hC hc hG
 cases hf : fnd L id with
 | none =>
  have HA := Aside0.mk (wgtF_none (wt := wt) hf)
  obtain ⟨ka, hka⟩ := (at_none (L := L) (by omega) hf (room : Int) last).get
  have HK := Aside0.mk hka
  clear hka hf
  go_enter Try.func38, Try.ntmps38
  go_wp2_with fail
  have hx := zac (za5 w (.cells #[.int .i64 (room : Int), .int .i64 last, .slice A L.length c] 44)) (.cells #[.int .i64 0, .int .i64 0, .slice none 0 0] 44)
  have hy := za5 (w.alloc (.cells #[.int .i64 (room : Int), .int .i64 last, .slice A L.length c] 44)) (.cells #[.int .i64 0, .int .i64 0, .slice none 0 0] 44)
  have hB2 := zaf (zaf (Below.refl _ w) (.cells #[.int .i64 (room : Int), .int .i64 last, .slice A L.length c] 44)) (.cells #[.int .i64 0, .int .i64 0, .slice none 0 0] 44)
  rw [show (w.alloc (.cells #[.int .i64 (room : Int), .int .i64 last, .slice A L.length c] 44)).heap.size = w.heap.size + 1 by simp] at hy
  generalize (w.alloc (.cells #[.int .i64 (room : Int), .int .i64 last, .slice A L.length c] 44)).alloc (.cells #[.int .i64 0, .int .i64 0, .slice none 0 0] 44) = W2 at hx hy hB2 ⊢
  go_at_call 55
  refine (zae.calls ka (room : Int) last A c L _ _ W2 (Kd.za3 HC.out hB2) Hc.out HK.out).mono ?_
  rintro e w3 ⟨rfl, hb3⟩
  have hx3 := (hb3.block _ (zao hx)).trans hx
  have hy3 := (hb3.block _ (zao hy)).trans hy
  have HB3 := Aside0.mk (zab hB2 hb3)
  have x0 : w3.cell? ⟨w.heap.size, 0, none⟩ = some (.int .i64 (room : Int)) := (za hx3 0).trans rfl
  have x1 : w3.cell? ⟨w.heap.size, 1, none⟩ = some (.int .i64 last) := (za hx3 1).trans rfl
  have x2 : w3.cell? ⟨w.heap.size, 2, none⟩ = some (.slice A L.length c) := (za hx3 2).trans rfl
  have y0 : w3.cell? ⟨w.heap.size + 1, 0, none⟩ = some (.int .i64 0) := (za hy3 0).trans rfl
  have y1 : w3.cell? ⟨w.heap.size + 1, 1, none⟩ = some (.int .i64 0) := (za hy3 1).trans rfl
  have y2 : w3.cell? ⟨w.heap.size + 1, 2, none⟩ = some (.slice none 0 0) := (za hy3 2).trans rfl
  have z0 := zaa hy3 0
  have z1 := zaa hy3 1
  have z2 := zaa hy3 2
  have HX3 := Aside0.mk hx3
  have HY3 := Aside0.mk hy3
  have HV3 := Aside0.mk (Kd.zay (Kd.V_bound HV.out) HB3.out)
  clear hx hy hB2 hb3 hx3 hy3
  go_wp2_with fail
  obtain ⟨r1, r2, r3⟩ := zbe (room := room) (last := last) (P := P) HB3.out HY3.out HV3.out (fun k hk => ⟨.inl hk.1, by omega⟩)
  rw [HA.out]
  exact bodyPost_ret (zat rfl _ _ (w.heap.size + 1) 44 #[.int .i64 (room : Int), .int .i64 last,  .slice A L.length c] (0, 0) _ rfl r1 Try.underlying44 rfl (by kernel_rfl)) rfl ⟨_, rfl, r2, r3⟩
 | some g =>
  have HS := Aside0.mk (wgtF_some (wt := wt) hf)
  obtain ⟨j, hj, hr, hjg, hev⟩ := at_some HG.out.2.2.2.2.1 (by omega) hf (room : Int) last
  obtain ⟨hg, rfl⟩ := za2 hf
  obtain ⟨ka, hka⟩ := hev.get
  have HK := Aside0.mk hka
  have HM := Aside0.mk hg
  have HR := Aside0.mk hr
  have HJG := Aside0.mk hjg
  have hj1 : (j : Int) < (L.length : Int) := by omega
  have hj0 : decide ((j : Int) < 0) = false := decide_eq_false (by omega)
  have hj2 : 0 ≤ (j : Int) ∧ (j : Int) < (L.length : Int) := by omega
  clear hka hf hg hr hjg hev
  go_enter Try.func38, Try.ntmps38
  go_wp2_with fail
  have hx := zac (za5 w (.cells #[.int .i64 (room : Int), .int .i64 last, .slice A L.length c] 44)) (.cells #[.int .i64 0, .int .i64 0, .slice none 0 0] 44)
  have hy := za5 (w.alloc (.cells #[.int .i64 (room : Int), .int .i64 last, .slice A L.length c] 44)) (.cells #[.int .i64 0, .int .i64 0, .slice none 0 0] 44)
  have hB2 := zaf (zaf (Below.refl _ w) (.cells #[.int .i64 (room : Int), .int .i64 last, .slice A L.length c] 44)) (.cells #[.int .i64 0, .int .i64 0, .slice none 0 0] 44)
  rw [show (w.alloc (.cells #[.int .i64 (room : Int), .int .i64 last, .slice A L.length c] 44)).heap.size = w.heap.size + 1 by simp] at hy
  generalize (w.alloc (.cells #[.int .i64 (room : Int), .int .i64 last, .slice A L.length c] 44)).alloc (.cells #[.int .i64 0, .int .i64 0, .slice none 0 0] 44) = W2 at hx hy hB2 ⊢
  go_at_call 55
  refine (zae.calls ka (room : Int) last A c L _ _ W2 (Kd.za3 HC.out hB2) Hc.out HK.out).mono ?_
  rintro e w3 ⟨rfl, hb3⟩
  have hx3 := (hb3.block _ (zao hx)).trans hx
  have hy3 := (hb3.block _ (zao hy)).trans hy
  have HB3 := Aside0.mk (zab hB2 hb3)
  have x0 : w3.cell? ⟨w.heap.size, 0, none⟩ = some (.int .i64 (room : Int)) := (za hx3 0).trans rfl
  have x1 : w3.cell? ⟨w.heap.size, 1, none⟩ = some (.int .i64 last) := (za hx3 1).trans rfl
  have x2 : w3.cell? ⟨w.heap.size, 2, none⟩ = some (.slice A L.length c) := (za hx3 2).trans rfl
  have y0 : w3.cell? ⟨w.heap.size + 1, 0, none⟩ = some (.int .i64 0) := (za hy3 0).trans rfl
  have y1 : w3.cell? ⟨w.heap.size + 1, 1, none⟩ = some (.int .i64 0) := (za hy3 1).trans rfl
  have y2 : w3.cell? ⟨w.heap.size + 1, 2, none⟩ = some (.slice none 0 0) := (za hy3 2).trans rfl
  have z0 := zaa hy3 0
  have z1 := zaa hy3 1
  have z2 := zaa hy3 2
  have HX3 := Aside0.mk hx3
  have HY3 := Aside0.mk hy3
  have HV3 := Aside0.mk (Kd.zay (Kd.V_bound HV.out) HB3.out)
  clear hx hy hB2 hb3 hx3 hy3
  obtain ⟨ad, e1, q0, q1, q2, q3, q4⟩ := at_T84 HC.out (j : Int) (by omega) hj1
  subst e1
  rw [HR.out, Int.toNat_natCast] at q0 q1 q2 q3 q4
  replace q0 := (HB3.out.cell (World.block_lt_of_cell? w _ q0)).trans q0
  replace q1 := (HB3.out.cell (World.block_lt_of_cell? w _ q1)).trans q1
  replace q2 := (HB3.out.cell (World.block_lt_of_cell? w _ q2)).trans q2
  replace q3 := (HB3.out.cell (World.block_lt_of_cell? w _ q3)).trans q3
  replace q4 := (HB3.out.cell (World.block_lt_of_cell? w _ q4)).trans q4
  by_cases h0 : g.f1 < 0
  ·
   have HA := Aside0.mk (HS.out.trans (if_pos h0))
   have d0 : decide (g.f1 < 0) = true := decide_eq_true h0
   go_wp2_with fail
   obtain ⟨r1, r2, r3⟩ := zbe (room := room) (last := last) (P := P) HB3.out HY3.out HV3.out (fun k hk => ⟨.inl hk.1, by omega⟩)
   rw [HA.out]
   exact bodyPost_ret (zat rfl _ _ (w.heap.size + 1) 44 #[.int .i64 (room : Int), .int .i64 last,  .slice (some ad) L.length c] (0, 0) _ rfl r1 Try.underlying44 rfl (by kernel_rfl)) rfl ⟨_, rfl, r2, r3⟩
  ·
   have HS1 := Aside0.mk (HS.out.trans (if_neg h0))
   have d0 : decide (g.f1 < 0) = false := decide_eq_false h0
   by_cases h1 : wt < 1
   ·
    have HA := Aside0.mk (HS1.out.trans (if_pos (.inl h1)))
    have d1 : decide (wt < 1) = true := decide_eq_true h1
    go_wp2_with fail
    obtain ⟨r1, r2, r3⟩ := zbe (room := room) (last := last) (P := P) HB3.out HY3.out HV3.out (fun k hk => ⟨.inl hk.1, by omega⟩)
    rw [HA.out]
    exact bodyPost_ret (zat rfl _ _ (w.heap.size + 1) 44 #[.int .i64 (room : Int), .int .i64 last,  .slice (some ad) L.length c] (0, 0) _ rfl r1 Try.underlying44 rfl (by kernel_rfl)) rfl ⟨_, rfl, r2, r3⟩
   ·
    have d1 : decide (wt < 1) = false := decide_eq_false h1
    by_cases h2 : wt > 10000
    ·
     have HA := Aside0.mk (HS1.out.trans (if_pos (.inr h2)))
     have d2 : decide (wt > 10000) = true := decide_eq_true h2
     go_wp2_with fail
     obtain ⟨r1, r2, r3⟩ := zbe (room := room) (last := last) (P := P) HB3.out HY3.out HV3.out (fun k hk => ⟨.inl hk.1, by omega⟩)
     rw [HA.out]
     exact bodyPost_ret (zat rfl _ _ (w.heap.size + 1) 44 #[.int .i64 (room : Int), .int .i64 last,  .slice (some ad) L.length c] (0, 0) _ rfl r1 Try.underlying44 rfl (by kernel_rfl)) rfl ⟨_, rfl, r2, r3⟩
    ·
     have HA := Aside0.mk (HS1.out.trans (if_neg (by omega)))
     have d2 : decide (wt > 10000) = false := decide_eq_false h2
     have hset := setp_f (by omega) (room : Int) last hj g.f0 g.f1 wt g.f3 g.f4
     rw [set_setG HG.out.2.2.2.2.1 HJG.out (fun g => ⟨g.f0, g.f1, wt, g.f3, g.f4⟩)] at hset
     have HSet := Aside0.mk hset
     have u0 : (w3.alloc (.cells #[.int .i64 g.f0, .int .i64 g.f1, .int .i64 wt, .int .i64 g.f3, .int .i64 g.f4] 84)).cell? ⟨w.heap.size, 0, none⟩ = some (Value.int .i64 (room : Int)) := (za (zac HX3.out (.cells #[.int .i64 g.f0, .int .i64 g.f1, .int .i64 wt, .int .i64 g.f3, .int .i64 g.f4] 84)) 0).trans rfl
     have u1 : (w3.alloc (.cells #[.int .i64 g.f0, .int .i64 g.f1, .int .i64 wt, .int .i64 g.f3, .int .i64 g.f4] 84)).cell? ⟨w.heap.size, 1, none⟩ = some (Value.int .i64 last) := (za (zac HX3.out (.cells #[.int .i64 g.f0, .int .i64 g.f1, .int .i64 wt, .int .i64 g.f3, .int .i64 g.f4] 84)) 1).trans rfl
     have u2 : (w3.alloc (.cells #[.int .i64 g.f0, .int .i64 g.f1, .int .i64 wt, .int .i64 g.f3, .int .i64 g.f4] 84)).cell? ⟨w.heap.size, 2, none⟩ = some (Value.slice (some ad) L.length c) := (za (zac HX3.out (.cells #[.int .i64 g.f0, .int .i64 g.f1, .int .i64 wt, .int .i64 g.f3, .int .i64 g.f4] 84)) 2).trans rfl
     have HB4 := Aside0.mk (zaf HB3.out (.cells #[.int .i64 g.f0, .int .i64 g.f1, .int .i64 wt, .int .i64 g.f3, .int .i64 g.f4] 84))
     have HY4 := Aside0.mk (zac HY3.out (.cells #[.int .i64 g.f0, .int .i64 g.f1, .int .i64 wt, .int .i64 g.f3, .int .i64 g.f4] 84))
     clear hset y0 y1 y2 z0 z1 z2
     go_wp2_with fail
     go_at_call 59
     refine (za7.calls (room : Int) last (some ad) c L (j : Int) g.f0 g.f1 wt g.f3 g.f4 (room : Int) last _ _ (Kd.za3 HC.out HB4.out) Hc.out HSet.out).mono ?_
     rintro e w5 ⟨u9, rfl, hu, hb5⟩
     obtain ⟨A', c', rfl⟩ := Kd.zbx hu
     have hV5 : Kd.V k84 84 w5 0 (fun k => w3.heap.size ≤ k) (.slice A' _ c') _ := Kd.R_V (Kd.zbf (Kd.zbw hu) (fun k hk => by have := hk.2.1; simp at this; omega))
     have hy5 := (hb5.block _ (zao HY4.out)).trans HY4.out
     have HB5 := Aside0.mk (zab HB4.out hb5)
     have y0 : w5.cell? ⟨w.heap.size + 1, 0, none⟩ = some (.int .i64 0) := (za hy5 0).trans rfl
     have y1 : w5.cell? ⟨w.heap.size + 1, 1, none⟩ = some (.int .i64 0) := (za hy5 1).trans rfl
     have y2 : w5.cell? ⟨w.heap.size + 1, 2, none⟩ = some (.slice none 0 0) := (za hy5 2).trans rfl
     have z0 := zaa hy5 0
     have z1 := zaa hy5 1
     have z2 := zaa hy5 2
     have HY5 := Aside0.mk hy5
     have HV5 := Aside0.mk hV5
     have hsz3 := HB3.out.size
     have hsy := zao HY3.out
     clear hu hb5 hy5 hV5
     go_wp2_with fail
     obtain ⟨r1, r2, r3⟩ := zbe (room := room) (last := last) (P := P) HB5.out HY5.out HV5.out (fun k hk => ⟨.inr (by omega), by omega⟩)
     rw [HA.out]
     exact bodyPost_ret (zat rfl _ _ (w.heap.size + 1) 44 #[.int .i64 (room : Int), .int .i64 last, .slice A' _ c'] (0, 0) _ rfl r1 Try.underlying44 rfl (by kernel_rfl)) rfl ⟨_, rfl, r2, r3⟩
theorem call_Count {w : World} {P : Nat → Prop} {v : Value} {room : Nat} {last : Int} {L : List S84} (h : RefF w P v room last L) (hG : GoodF room last L) (id dm da : Int) (hm : -1 ≤ dm ∧ dm ≤ 1) (hda : -1 ≤ da ∧ da ≤ 1) :
  Calls Try.prog 39 #[v, .int .i64 id, .int .i64 dm, .int .i64 da] w fun e w' => ∃ v', e = .returned (.tuple #[v', .int .i64 (cntF L id dm da).2]) ∧ RefF w' (fun k => P k ∨ w.heap.size ≤ k) v' room last (cntF L id dm da).1 ∧ Below w.heap.size w w' := by
 obtain ⟨A, c, rfl, hv⟩ := h
 obtain ⟨_, hc, hC⟩ := Kd.zaw hv
 have hl : L.length ≤ 64 := Nat.le_trans hG.2.1 hG.1
 have HV := Aside0.mk hv
 have HC := Aside0.mk hC
 have Hc := Aside0.mk hc
 have HG := Aside0.mk hG
 clear hv hC hc hG
 cases hf : fnd L id with
 | none =>
  have HA := Aside0.mk (cntF_none (dm := dm) (da := da) hf)
  obtain ⟨ka, hka⟩ := (at_none (L := L) (by omega) hf (room : Int) last).get
  have HK := Aside0.mk hka
  clear hka hf
  go_enter Try.func39, Try.ntmps39
  go_wp2_with fail
  have hx := zac (za5 w (.cells #[.int .i64 (room : Int), .int .i64 last, .slice A L.length c] 44)) (.cells #[.int .i64 0, .int .i64 0, .slice none 0 0] 44)
  have hy := za5 (w.alloc (.cells #[.int .i64 (room : Int), .int .i64 last, .slice A L.length c] 44)) (.cells #[.int .i64 0, .int .i64 0, .slice none 0 0] 44)
  have hB2 := zaf (zaf (Below.refl _ w) (.cells #[.int .i64 (room : Int), .int .i64 last, .slice A L.length c] 44)) (.cells #[.int .i64 0, .int .i64 0, .slice none 0 0] 44)
  rw [show (w.alloc (.cells #[.int .i64 (room : Int), .int .i64 last, .slice A L.length c] 44)).heap.size = w.heap.size + 1 by simp] at hy
  generalize (w.alloc (.cells #[.int .i64 (room : Int), .int .i64 last, .slice A L.length c] 44)).alloc (.cells #[.int .i64 0, .int .i64 0, .slice none 0 0] 44) = W2 at hx hy hB2 ⊢
  go_at_call 55
  refine (zae.calls ka (room : Int) last A c L _ _ W2 (Kd.za3 HC.out hB2) Hc.out HK.out).mono ?_
  rintro e w3 ⟨rfl, hb3⟩
  have hx3 := (hb3.block _ (zao hx)).trans hx
  have hy3 := (hb3.block _ (zao hy)).trans hy
  have HB3 := Aside0.mk (zab hB2 hb3)
  have x0 : w3.cell? ⟨w.heap.size, 0, none⟩ = some (.int .i64 (room : Int)) := (za hx3 0).trans rfl
  have x1 : w3.cell? ⟨w.heap.size, 1, none⟩ = some (.int .i64 last) := (za hx3 1).trans rfl
  have x2 : w3.cell? ⟨w.heap.size, 2, none⟩ = some (.slice A L.length c) := (za hx3 2).trans rfl
  have y0 : w3.cell? ⟨w.heap.size + 1, 0, none⟩ = some (.int .i64 0) := (za hy3 0).trans rfl
  have y1 : w3.cell? ⟨w.heap.size + 1, 1, none⟩ = some (.int .i64 0) := (za hy3 1).trans rfl
  have y2 : w3.cell? ⟨w.heap.size + 1, 2, none⟩ = some (.slice none 0 0) := (za hy3 2).trans rfl
  have z0 := zaa hy3 0
  have z1 := zaa hy3 1
  have z2 := zaa hy3 2
  have HX3 := Aside0.mk hx3
  have HY3 := Aside0.mk hy3
  have HV3 := Aside0.mk (Kd.zay (Kd.V_bound HV.out) HB3.out)
  clear hx hy hB2 hb3 hx3 hy3
  go_wp2_with fail
  obtain ⟨r1, r2, r3⟩ := zbe (room := room) (last := last) (P := P) HB3.out HY3.out HV3.out (fun k hk => ⟨.inl hk.1, by omega⟩)
  rw [HA.out]
  exact bodyPost_ret (zat rfl _ _ (w.heap.size + 1) 44 #[.int .i64 (room : Int), .int .i64 last,  .slice A L.length c] (0, 0) _ rfl r1 Try.underlying44 rfl (by kernel_rfl)) rfl ⟨_, rfl, r2, r3⟩
 | some g =>
  have HS := Aside0.mk (cntF_some (dm := dm) (da := da) hf)
  obtain ⟨j, hj, hr, hjg, hev⟩ := at_some HG.out.2.2.2.2.1 (by omega) hf (room : Int) last
  obtain ⟨hg, rfl⟩ := za2 hf
  obtain ⟨ka, hka⟩ := hev.get
  obtain ⟨g1, g2, g3, _, g5, g6, g7, g8⟩ := HG.out.2.2.2.2.2 g hg
  have hk0 := za9 L g.f0
  have HK := Aside0.mk hka
  have HM := Aside0.mk hg
  have HR := Aside0.mk hr
  have HJG := Aside0.mk hjg
  have hj1 : (j : Int) < (L.length : Int) := by omega
  have hj0 : decide ((j : Int) < 0) = false := decide_eq_false (by omega)
  have hj2 : 0 ≤ (j : Int) ∧ (j : Int) < (L.length : Int) := by omega
  clear hka hf hg hr hjg hev
  go_enter Try.func39, Try.ntmps39
  go_wp2_with fail
  have hx := zac (za5 w (.cells #[.int .i64 (room : Int), .int .i64 last, .slice A L.length c] 44)) (.cells #[.int .i64 0, .int .i64 0, .slice none 0 0] 44)
  have hy := za5 (w.alloc (.cells #[.int .i64 (room : Int), .int .i64 last, .slice A L.length c] 44)) (.cells #[.int .i64 0, .int .i64 0, .slice none 0 0] 44)
  have hB2 := zaf (zaf (Below.refl _ w) (.cells #[.int .i64 (room : Int), .int .i64 last, .slice A L.length c] 44)) (.cells #[.int .i64 0, .int .i64 0, .slice none 0 0] 44)
  rw [show (w.alloc (.cells #[.int .i64 (room : Int), .int .i64 last, .slice A L.length c] 44)).heap.size = w.heap.size + 1 by simp] at hy
  generalize (w.alloc (.cells #[.int .i64 (room : Int), .int .i64 last, .slice A L.length c] 44)).alloc (.cells #[.int .i64 0, .int .i64 0, .slice none 0 0] 44) = W2 at hx hy hB2 ⊢
  go_at_call 55
  refine (zae.calls ka (room : Int) last A c L _ _ W2 (Kd.za3 HC.out hB2) Hc.out HK.out).mono ?_
  rintro e w3 ⟨rfl, hb3⟩
  have hx3 := (hb3.block _ (zao hx)).trans hx
  have hy3 := (hb3.block _ (zao hy)).trans hy
  have HB3 := Aside0.mk (zab hB2 hb3)
  have x0 : w3.cell? ⟨w.heap.size, 0, none⟩ = some (.int .i64 (room : Int)) := (za hx3 0).trans rfl
  have x1 : w3.cell? ⟨w.heap.size, 1, none⟩ = some (.int .i64 last) := (za hx3 1).trans rfl
  have x2 : w3.cell? ⟨w.heap.size, 2, none⟩ = some (.slice A L.length c) := (za hx3 2).trans rfl
  have y0 : w3.cell? ⟨w.heap.size + 1, 0, none⟩ = some (.int .i64 0) := (za hy3 0).trans rfl
  have y1 : w3.cell? ⟨w.heap.size + 1, 1, none⟩ = some (.int .i64 0) := (za hy3 1).trans rfl
  have y2 : w3.cell? ⟨w.heap.size + 1, 2, none⟩ = some (.slice none 0 0) := (za hy3 2).trans rfl
  have z0 := zaa hy3 0
  have z1 := zaa hy3 1
  have z2 := zaa hy3 2
  have HX3 := Aside0.mk hx3
  have HY3 := Aside0.mk hy3
  have HV3 := Aside0.mk (Kd.zay (Kd.V_bound HV.out) HB3.out)
  clear hx hy hB2 hb3 hx3 hy3
  obtain ⟨ad, e1, q0, q1, q2, q3, q4⟩ := at_T84 HC.out (j : Int) (by omega) hj1
  subst e1
  rw [HR.out, Int.toNat_natCast] at q0 q1 q2 q3 q4
  replace q0 := (HB3.out.cell (World.block_lt_of_cell? w _ q0)).trans q0
  replace q1 := (HB3.out.cell (World.block_lt_of_cell? w _ q1)).trans q1
  replace q2 := (HB3.out.cell (World.block_lt_of_cell? w _ q2)).trans q2
  replace q3 := (HB3.out.cell (World.block_lt_of_cell? w _ q3)).trans q3
  replace q4 := (HB3.out.cell (World.block_lt_of_cell? w _ q4)).trans q4
  by_cases hd : dm > 0
  ·
   have d0 : decide (dm > 0) = true := decide_eq_true hd
   obtain ⟨kf, hkf⟩ := (fan_f HG.out HM.out (room : Int) last).get
   have HKF := Aside0.mk hkf
   have HQ : Aside0 (∀ w' : World, Below w3.heap.size w3 w' → w'.cell? (ad.add (j * 5)) = some (.int .i64 g.f0) ∧ w'.cell? ⟨(ad.add (j * 5)).block, (ad.add (j * 5)).off + 1, none⟩ = some (.int .i64 g.f1) ∧ w'.cell? ⟨(ad.add (j * 5)).block, (ad.add (j * 5)).off + 2, none⟩ = some (.int .i64 g.f2) ∧ w'.cell? ⟨(ad.add (j * 5)).block, (ad.add (j * 5)).off + 3, none⟩ = some (.int .i64 g.f3) ∧ w'.cell? ⟨(ad.add (j * 5)).block, (ad.add (j * 5)).off + 4, none⟩ = some (.int .i64 g.f4)) := ⟨fun w' hb => ⟨(hb.cell (World.block_lt_of_cell? w3 _ q0)).trans q0, (hb.cell (World.block_lt_of_cell? w3 _ q1)).trans q1, (hb.cell (World.block_lt_of_cell? w3 _ q2)).trans q2, (hb.cell (World.block_lt_of_cell? w3 _ q3)).trans q3, (hb.cell (World.block_lt_of_cell? w3 _ q4)).trans q4⟩⟩
   clear hkf
   go_wp2_with fail
   refine (zau.calls kf (room : Int) last (some ad) c L g.f0 _ _ (Kd.za3 HC.out HB3.out) Hc.out HKF.out).mono ?_
   rintro e w4 ⟨rfl, hb4⟩
   have hx4 := (hb4.block _ (zao HX3.out)).trans HX3.out
   have hy4 := (hb4.block _ (zao HY3.out)).trans HY3.out
   obtain ⟨q0, q1, q2, q3, q4⟩ := HQ.out w4 hb4
   have HB4 := Aside0.mk (zab HB3.out hb4)
   have HX4 := Aside0.mk hx4
   have HY4 := Aside0.mk hy4
   have HV4 := Aside0.mk (Kd.zay HV3.out hb4)
   have x0 : w4.cell? ⟨w.heap.size, 0, none⟩ = some (.int .i64 (room : Int)) := (za hx4 0).trans rfl
   have x1 : w4.cell? ⟨w.heap.size, 1, none⟩ = some (.int .i64 last) := (za hx4 1).trans rfl
   have x2 : w4.cell? ⟨w.heap.size, 2, none⟩ = some (.slice (some ad) L.length c) := (za hx4 2).trans rfl
   have y0 : w4.cell? ⟨w.heap.size + 1, 0, none⟩ = some (.int .i64 0) := (za hy4 0).trans rfl
   have y1 : w4.cell? ⟨w.heap.size + 1, 1, none⟩ = some (.int .i64 0) := (za hy4 1).trans rfl
   have y2 : w4.cell? ⟨w.heap.size + 1, 2, none⟩ = some (.slice none 0 0) := (za hy4 2).trans rfl
   have z0 := zaa hy4 0
   have z1 := zaa hy4 1
   have z2 := zaa hy4 2
   clear hb4 hx4 hy4
   by_cases hfan : kid L g.f0 + g.f3 = 32
   ·
    have HA := Aside0.mk (HS.out.trans (if_pos ⟨hd, hfan⟩))
    have d1 : (kid L g.f0 + g.f3 == 32) = true := beq_iff_eq.mpr hfan
    clear hfan
    go_wp2_with fail
    obtain ⟨r1, r2, r3⟩ := zbe (room := room) (last := last) (P := P) HB4.out HY4.out HV4.out (fun k hk => ⟨.inl hk.1, by omega⟩)
    rw [HA.out]
    exact bodyPost_ret (zat rfl _ _ (w.heap.size + 1) 44 #[.int .i64 (room : Int), .int .i64 last, .slice (some ad) L.length c] (0, 0) _ rfl r1 Try.underlying44 rfl (by kernel_rfl)) rfl ⟨_, rfl, r2, r3⟩
   ·
    have HS2 := Aside0.mk (HS.out.trans (if_neg (fun hh => hfan hh.2)))
    have d1 : (kid L g.f0 + g.f3 == 32) = false := beq_eq_false_iff_ne.mpr hfan
    clear hfan
    have u0 : (w4.alloc (.cells #[.int .i64 g.f0, .int .i64 g.f1, .int .i64 g.f2, .int .i64 (g.f3 + dm), .int .i64 (g.f4 + da)] 84)).cell? ⟨w.heap.size, 0, none⟩ = some (Value.int .i64 (room : Int)) := (za (zac HX4.out (.cells #[.int .i64 g.f0, .int .i64 g.f1, .int .i64 g.f2, .int .i64 (g.f3 + dm), .int .i64 (g.f4 + da)] 84)) 0).trans rfl
    have u1 : (w4.alloc (.cells #[.int .i64 g.f0, .int .i64 g.f1, .int .i64 g.f2, .int .i64 (g.f3 + dm), .int .i64 (g.f4 + da)] 84)).cell? ⟨w.heap.size, 1, none⟩ = some (Value.int .i64 last) := (za (zac HX4.out (.cells #[.int .i64 g.f0, .int .i64 g.f1, .int .i64 g.f2, .int .i64 (g.f3 + dm), .int .i64 (g.f4 + da)] 84)) 1).trans rfl
    have u2 : (w4.alloc (.cells #[.int .i64 g.f0, .int .i64 g.f1, .int .i64 g.f2, .int .i64 (g.f3 + dm), .int .i64 (g.f4 + da)] 84)).cell? ⟨w.heap.size, 2, none⟩ = some (Value.slice (some ad) L.length c) := (za (zac HX4.out (.cells #[.int .i64 g.f0, .int .i64 g.f1, .int .i64 g.f2, .int .i64 (g.f3 + dm), .int .i64 (g.f4 + da)] 84)) 2).trans rfl
    have v0 : (w4.alloc (.cells #[.int .i64 g.f0, .int .i64 g.f1, .int .i64 g.f2, .int .i64 (g.f3 + dm), .int .i64 (g.f4 + da)] 84)).cell? ⟨w.heap.size + 1, 0, none⟩ = some (Value.int .i64 0) := (za (zac HY4.out (.cells #[.int .i64 g.f0, .int .i64 g.f1, .int .i64 g.f2, .int .i64 (g.f3 + dm), .int .i64 (g.f4 + da)] 84)) 0).trans rfl
    have v1 : (w4.alloc (.cells #[.int .i64 g.f0, .int .i64 g.f1, .int .i64 g.f2, .int .i64 (g.f3 + dm), .int .i64 (g.f4 + da)] 84)).cell? ⟨w.heap.size + 1, 1, none⟩ = some (Value.int .i64 0) := (za (zac HY4.out (.cells #[.int .i64 g.f0, .int .i64 g.f1, .int .i64 g.f2, .int .i64 (g.f3 + dm), .int .i64 (g.f4 + da)] 84)) 1).trans rfl
    have v2 : (w4.alloc (.cells #[.int .i64 g.f0, .int .i64 g.f1, .int .i64 g.f2, .int .i64 (g.f3 + dm), .int .i64 (g.f4 + da)] 84)).cell? ⟨w.heap.size + 1, 2, none⟩ = some (.slice none 0 0) := (za (zac HY4.out (.cells #[.int .i64 g.f0, .int .i64 g.f1, .int .i64 g.f2, .int .i64 (g.f3 + dm), .int .i64 (g.f4 + da)] 84)) 2).trans rfl
    have t0 := zaa (zac HY4.out (.cells #[.int .i64 g.f0, .int .i64 g.f1, .int .i64 g.f2, .int .i64 (g.f3 + dm), .int .i64 (g.f4 + da)] 84)) 0
    have t1 := zaa (zac HY4.out (.cells #[.int .i64 g.f0, .int .i64 g.f1, .int .i64 g.f2, .int .i64 (g.f3 + dm), .int .i64 (g.f4 + da)] 84)) 1
    have t2 := zaa (zac HY4.out (.cells #[.int .i64 g.f0, .int .i64 g.f1, .int .i64 g.f2, .int .i64 (g.f3 + dm), .int .i64 (g.f4 + da)] 84)) 2
    have HBn := Aside0.mk (zaf HB4.out (.cells #[.int .i64 g.f0, .int .i64 g.f1, .int .i64 g.f2, .int .i64 (g.f3 + dm), .int .i64 (g.f4 + da)] 84))
    have HYn := Aside0.mk (zac HY4.out (.cells #[.int .i64 g.f0, .int .i64 g.f1, .int .i64 g.f2, .int .i64 (g.f3 + dm), .int .i64 (g.f4 + da)] 84))
    have HVn := Aside0.mk (Kd.zbg HV4.out (.cells #[.int .i64 g.f0, .int .i64 g.f1, .int .i64 g.f2, .int .i64 (g.f3 + dm), .int .i64 (g.f4 + da)] 84))
    have wl3 : wrap64 (g.f3 + dm) = g.f3 + dm := w64s (by omega) (by omega)
    have wl4 : wrap64 (g.f4 + da) = g.f4 + da := w64s (by omega) (by omega)
    by_cases hneg : g.f4 + da < 0
    ·
     have HA := Aside0.mk (HS2.out.trans (if_pos (.inl hneg)))
     have d5 : decide (g.f4 + da < 0) = true := decide_eq_true hneg
     go_wp2_with fail
     obtain ⟨r1, r2, r3⟩ := zbe (room := room) (last := last) (P := P) HBn.out HYn.out HVn.out (fun k hk => ⟨.inl hk.1, by omega⟩)
     rw [HA.out]
     exact bodyPost_ret (zat rfl _ _ (w.heap.size + 1) 44 #[.int .i64 (room : Int), .int .i64 last, .slice (some ad) L.length c] (0, 0) _ rfl r1 Try.underlying44 rfl (by kernel_rfl)) rfl ⟨_, rfl, r2, r3⟩
    ·
     have d5 : decide (g.f4 + da < 0) = false := decide_eq_false hneg
     by_cases hov : g.f4 + da > g.f3 + dm
     ·
      have HA := Aside0.mk (HS2.out.trans (if_pos (.inr hov)))
      have d6 : decide (g.f4 + da > g.f3 + dm) = true := decide_eq_true hov
      clear hov hneg
      go_wp2_with fail
      obtain ⟨r1, r2, r3⟩ := zbe (room := room) (last := last) (P := P) HBn.out HYn.out HVn.out (fun k hk => ⟨.inl hk.1, by omega⟩)
      rw [HA.out]
      exact bodyPost_ret (zat rfl _ _ (w.heap.size + 1) 44 #[.int .i64 (room : Int), .int .i64 last, .slice (some ad) L.length c] (0, 0) _ rfl r1 Try.underlying44 rfl (by kernel_rfl)) rfl ⟨_, rfl, r2, r3⟩
     ·
      have HA := Aside0.mk (HS2.out.trans (if_neg (fun hh => hh.elim hneg hov)))
      have d6 : decide (g.f4 + da > g.f3 + dm) = false := decide_eq_false hov
      clear hov hneg
      have hset := setp_f (by omega) (room : Int) last hj g.f0 g.f1 g.f2 (g.f3 + dm) (g.f4 + da)
      rw [set_setG HG.out.2.2.2.2.1 HJG.out (fun g => ⟨g.f0, g.f1, g.f2, g.f3 + dm, g.f4 + da⟩)] at hset
      have HSet := Aside0.mk hset
      clear hset v0 v1 v2 t0 t1 t2
      go_wp2_with fail
      go_at_call 59
      refine (za7.calls (room : Int) last (some ad) c L (j : Int) g.f0 g.f1 g.f2 (g.f3 + dm) (g.f4 + da) (room : Int) last _ _ (Kd.za3 HC.out HBn.out) Hc.out HSet.out).mono ?_
      rintro e w5 ⟨u9, rfl, hu, hb5⟩
      obtain ⟨A', c', rfl⟩ := Kd.zbx hu
      have hV5 : Kd.V k84 84 w5 0 (fun k => w4.heap.size ≤ k) (.slice A' _ c') _ := Kd.R_V (Kd.zbf (Kd.zbw hu) (fun k hk => by have := hk.2.1; simp at this; omega))
      have hy5 := (hb5.block _ (zao HYn.out)).trans HYn.out
      have HB5 := Aside0.mk (zab HBn.out hb5)
      have y0 : w5.cell? ⟨w.heap.size + 1, 0, none⟩ = some (.int .i64 0) := (za hy5 0).trans rfl
      have y1 : w5.cell? ⟨w.heap.size + 1, 1, none⟩ = some (.int .i64 0) := (za hy5 1).trans rfl
      have y2 : w5.cell? ⟨w.heap.size + 1, 2, none⟩ = some (.slice none 0 0) := (za hy5 2).trans rfl
      have z0 := zaa hy5 0
      have z1 := zaa hy5 1
      have z2 := zaa hy5 2
      have HY5 := Aside0.mk hy5
      have HV5 := Aside0.mk hV5
      have hsz3 := HB4.out.size
      have hsy := zao HY4.out
      clear hu hb5 hy5 hV5
      go_wp2_with fail
      obtain ⟨r1, r2, r3⟩ := zbe (room := room) (last := last) (P := P) HB5.out HY5.out HV5.out (fun k hk => ⟨.inr (by omega), by omega⟩)
      rw [HA.out]
      exact bodyPost_ret (zat rfl _ _ (w.heap.size + 1) 44 #[.int .i64 (room : Int), .int .i64 last, .slice A' _ c'] (0, 0) _ rfl r1 Try.underlying44 rfl (by kernel_rfl)) rfl ⟨_, rfl, r2, r3⟩
  ·
   have d0 : decide (dm > 0) = false := decide_eq_false hd
   have HS2 := Aside0.mk (HS.out.trans (if_neg (fun hh => hd hh.1)))
   have u0 : (w3.alloc (.cells #[.int .i64 g.f0, .int .i64 g.f1, .int .i64 g.f2, .int .i64 (g.f3 + dm), .int .i64 (g.f4 + da)] 84)).cell? ⟨w.heap.size, 0, none⟩ = some (Value.int .i64 (room : Int)) := (za (zac HX3.out (.cells #[.int .i64 g.f0, .int .i64 g.f1, .int .i64 g.f2, .int .i64 (g.f3 + dm), .int .i64 (g.f4 + da)] 84)) 0).trans rfl
   have u1 : (w3.alloc (.cells #[.int .i64 g.f0, .int .i64 g.f1, .int .i64 g.f2, .int .i64 (g.f3 + dm), .int .i64 (g.f4 + da)] 84)).cell? ⟨w.heap.size, 1, none⟩ = some (Value.int .i64 last) := (za (zac HX3.out (.cells #[.int .i64 g.f0, .int .i64 g.f1, .int .i64 g.f2, .int .i64 (g.f3 + dm), .int .i64 (g.f4 + da)] 84)) 1).trans rfl
   have u2 : (w3.alloc (.cells #[.int .i64 g.f0, .int .i64 g.f1, .int .i64 g.f2, .int .i64 (g.f3 + dm), .int .i64 (g.f4 + da)] 84)).cell? ⟨w.heap.size, 2, none⟩ = some (Value.slice (some ad) L.length c) := (za (zac HX3.out (.cells #[.int .i64 g.f0, .int .i64 g.f1, .int .i64 g.f2, .int .i64 (g.f3 + dm), .int .i64 (g.f4 + da)] 84)) 2).trans rfl
   have v0 : (w3.alloc (.cells #[.int .i64 g.f0, .int .i64 g.f1, .int .i64 g.f2, .int .i64 (g.f3 + dm), .int .i64 (g.f4 + da)] 84)).cell? ⟨w.heap.size + 1, 0, none⟩ = some (Value.int .i64 0) := (za (zac HY3.out (.cells #[.int .i64 g.f0, .int .i64 g.f1, .int .i64 g.f2, .int .i64 (g.f3 + dm), .int .i64 (g.f4 + da)] 84)) 0).trans rfl
   have v1 : (w3.alloc (.cells #[.int .i64 g.f0, .int .i64 g.f1, .int .i64 g.f2, .int .i64 (g.f3 + dm), .int .i64 (g.f4 + da)] 84)).cell? ⟨w.heap.size + 1, 1, none⟩ = some (Value.int .i64 0) := (za (zac HY3.out (.cells #[.int .i64 g.f0, .int .i64 g.f1, .int .i64 g.f2, .int .i64 (g.f3 + dm), .int .i64 (g.f4 + da)] 84)) 1).trans rfl
   have v2 : (w3.alloc (.cells #[.int .i64 g.f0, .int .i64 g.f1, .int .i64 g.f2, .int .i64 (g.f3 + dm), .int .i64 (g.f4 + da)] 84)).cell? ⟨w.heap.size + 1, 2, none⟩ = some (.slice none 0 0) := (za (zac HY3.out (.cells #[.int .i64 g.f0, .int .i64 g.f1, .int .i64 g.f2, .int .i64 (g.f3 + dm), .int .i64 (g.f4 + da)] 84)) 2).trans rfl
   have t0 := zaa (zac HY3.out (.cells #[.int .i64 g.f0, .int .i64 g.f1, .int .i64 g.f2, .int .i64 (g.f3 + dm), .int .i64 (g.f4 + da)] 84)) 0
   have t1 := zaa (zac HY3.out (.cells #[.int .i64 g.f0, .int .i64 g.f1, .int .i64 g.f2, .int .i64 (g.f3 + dm), .int .i64 (g.f4 + da)] 84)) 1
   have t2 := zaa (zac HY3.out (.cells #[.int .i64 g.f0, .int .i64 g.f1, .int .i64 g.f2, .int .i64 (g.f3 + dm), .int .i64 (g.f4 + da)] 84)) 2
   have HBn := Aside0.mk (zaf HB3.out (.cells #[.int .i64 g.f0, .int .i64 g.f1, .int .i64 g.f2, .int .i64 (g.f3 + dm), .int .i64 (g.f4 + da)] 84))
   have HYn := Aside0.mk (zac HY3.out (.cells #[.int .i64 g.f0, .int .i64 g.f1, .int .i64 g.f2, .int .i64 (g.f3 + dm), .int .i64 (g.f4 + da)] 84))
   have HVn := Aside0.mk (Kd.zbg HV3.out (.cells #[.int .i64 g.f0, .int .i64 g.f1, .int .i64 g.f2, .int .i64 (g.f3 + dm), .int .i64 (g.f4 + da)] 84))
   have wl3 : wrap64 (g.f3 + dm) = g.f3 + dm := w64s (by omega) (by omega)
   have wl4 : wrap64 (g.f4 + da) = g.f4 + da := w64s (by omega) (by omega)
   by_cases hneg : g.f4 + da < 0
   ·
    have HA := Aside0.mk (HS2.out.trans (if_pos (.inl hneg)))
    have d5 : decide (g.f4 + da < 0) = true := decide_eq_true hneg
    go_wp2_with fail
    obtain ⟨r1, r2, r3⟩ := zbe (room := room) (last := last) (P := P) HBn.out HYn.out HVn.out (fun k hk => ⟨.inl hk.1, by omega⟩)
    rw [HA.out]
    exact bodyPost_ret (zat rfl _ _ (w.heap.size + 1) 44 #[.int .i64 (room : Int), .int .i64 last, .slice (some ad) L.length c] (0, 0) _ rfl r1 Try.underlying44 rfl (by kernel_rfl)) rfl ⟨_, rfl, r2, r3⟩
   ·
    have d5 : decide (g.f4 + da < 0) = false := decide_eq_false hneg
    by_cases hov : g.f4 + da > g.f3 + dm
    ·
     have HA := Aside0.mk (HS2.out.trans (if_pos (.inr hov)))
     have d6 : decide (g.f4 + da > g.f3 + dm) = true := decide_eq_true hov
     clear hov hneg
     go_wp2_with fail
     obtain ⟨r1, r2, r3⟩ := zbe (room := room) (last := last) (P := P) HBn.out HYn.out HVn.out (fun k hk => ⟨.inl hk.1, by omega⟩)
     rw [HA.out]
     exact bodyPost_ret (zat rfl _ _ (w.heap.size + 1) 44 #[.int .i64 (room : Int), .int .i64 last, .slice (some ad) L.length c] (0, 0) _ rfl r1 Try.underlying44 rfl (by kernel_rfl)) rfl ⟨_, rfl, r2, r3⟩
    ·
     have HA := Aside0.mk (HS2.out.trans (if_neg (fun hh => hh.elim hneg hov)))
     have d6 : decide (g.f4 + da > g.f3 + dm) = false := decide_eq_false hov
     clear hov hneg
     have hset := setp_f (by omega) (room : Int) last hj g.f0 g.f1 g.f2 (g.f3 + dm) (g.f4 + da)
     rw [set_setG HG.out.2.2.2.2.1 HJG.out (fun g => ⟨g.f0, g.f1, g.f2, g.f3 + dm, g.f4 + da⟩)] at hset
     have HSet := Aside0.mk hset
     clear hset v0 v1 v2 t0 t1 t2
     go_wp2_with fail
     go_at_call 59
     refine (za7.calls (room : Int) last (some ad) c L (j : Int) g.f0 g.f1 g.f2 (g.f3 + dm) (g.f4 + da) (room : Int) last _ _ (Kd.za3 HC.out HBn.out) Hc.out HSet.out).mono ?_
     rintro e w5 ⟨u9, rfl, hu, hb5⟩
     obtain ⟨A', c', rfl⟩ := Kd.zbx hu
     have hV5 : Kd.V k84 84 w5 0 (fun k => w3.heap.size ≤ k) (.slice A' _ c') _ := Kd.R_V (Kd.zbf (Kd.zbw hu) (fun k hk => by have := hk.2.1; simp at this; omega))
     have hy5 := (hb5.block _ (zao HYn.out)).trans HYn.out
     have HB5 := Aside0.mk (zab HBn.out hb5)
     have y0 : w5.cell? ⟨w.heap.size + 1, 0, none⟩ = some (.int .i64 0) := (za hy5 0).trans rfl
     have y1 : w5.cell? ⟨w.heap.size + 1, 1, none⟩ = some (.int .i64 0) := (za hy5 1).trans rfl
     have y2 : w5.cell? ⟨w.heap.size + 1, 2, none⟩ = some (.slice none 0 0) := (za hy5 2).trans rfl
     have z0 := zaa hy5 0
     have z1 := zaa hy5 1
     have z2 := zaa hy5 2
     have HY5 := Aside0.mk hy5
     have HV5 := Aside0.mk hV5
     have hsz3 := HB3.out.size
     have hsy := zao HY3.out
     clear hu hb5 hy5 hV5
     go_wp2_with fail
     obtain ⟨r1, r2, r3⟩ := zbe (room := room) (last := last) (P := P) HB5.out HY5.out HV5.out (fun k hk => ⟨.inr (by omega), by omega⟩)
     rw [HA.out]
     exact bodyPost_ret (zat rfl _ _ (w.heap.size + 1) 44 #[.int .i64 (room : Int), .int .i64 last, .slice A' _ c'] (0, 0) _ rfl r1 Try.underlying44 rfl (by kernel_rfl)) rfl ⟨_, rfl, r2, r3⟩
def QS (w : World) (a : Addr) (g : S84) : Prop := w.cell? a = some (.int .i64 g.f0) ∧ w.cell? ⟨a.block, a.off + 1, none⟩ = some (.int .i64 g.f1) ∧ w.cell? ⟨a.block, a.off + 2, none⟩ = some (.int .i64 g.f2) ∧ w.cell? ⟨a.block, a.off + 3, none⟩ = some (.int .i64 g.f3) ∧ w.cell? ⟨a.block, a.off + 4, none⟩ = some (.int .i64 g.f4)
theorem QS.below {w w' : World} {a : Addr} {g : S84} (h : QS w a g) (hb : Below w.heap.size w w') : QS w' a g :=
 ⟨(hb.cell (World.block_lt_of_cell? w _ h.1)).trans h.1, (hb.cell (World.block_lt_of_cell? w _ h.2.1)).trans h.2.1, (hb.cell (World.block_lt_of_cell? w _ h.2.2.1)).trans h.2.2.1, (hb.cell (World.block_lt_of_cell? w _ h.2.2.2.1)).trans h.2.2.2.1, (hb.cell (World.block_lt_of_cell? w _ h.2.2.2.2)).trans h.2.2.2.2⟩
def mvT6 : Bool × List (List Nat × List Nat) := (true, [([], []), ([], []), ([0, 1], [0, 1]), ([], []), ([], []), ([3, 4, 2], [3, 4]), ([2, 5], [2, 5]), ([6, 5], [6])])
def mvB6 : List Nat := [0, 0, 3, 0, 0, 31, 63, 127]
theorem mvtab6 : rtab .any (opsOf Try.f36 6) = mvT6 := by kernel_rfl
theorem mvbits6 : waitsOk mvT6.2 mvB6 = true := by kernel_rfl
def mvT13 : Bool × List (List Nat × List Nat) := (true, [([], []), ([], []), ([1], [1]), ([], []), ([2, 3], [2, 3]), ([4], [4]), ([5], [5]), ([], []), ([0, 6, 7], [0, 6, 7]), ([8, 8], [8]), ([9], [9]), ([9], [9]), ([11, 9], [9, 11]), ([9], [9]), ([12, 13, 9], [9, 12, 13]), ([14, 9], [9, 14]), ([15, 9], [9, 15]), ([10, 16, 9, 9], [9, 10, 16]), ([9], [9]), ([9], [9]), ([18, 19, 17, 9], [9, 18, 19]), ([17, 20, 9], [9, 17, 20]), ([9], [9]), ([9], [9]), ([22, 23, 20, 9], [9, 22, 23]), ([21, 24, 9], [9, 21, 24]), ([25, 9], [9, 25]), ([26, 9], [9, 26]), ([9, 27], [9, 27])])
def mvB13 : List Nat := [0, 0, 2, 0, 14, 30, 62, 0, 255, 511, 1023, 1023, 3071, 1023, 15359, 31743, 64511, 131071, 1023, 1023, 1048575, 2097151, 1023, 1023, 14680063, 33554431, 67108863, 134217727, 268435455]
theorem mvtab13 : rtab .any (opsOf Try.f36 13) = mvT13 := by kernel_rfl
theorem mvbits13 : waitsOk mvT13.2 mvB13 = true := by kernel_rfl
theorem call_Move {w : World} {P : Nat → Prop} {v : Value} {room : Nat} {last : Int} {L : List S84} (h : RefF w P v room last L) (hG : GoodF room last L) (id p : Int) :
  Calls Try.prog 36 #[v, .int .i64 id, .int .i64 p] w fun e w' => ∃ v', e = .returned (.tuple #[v', .int .i64 (movF L id p).2]) ∧ RefF w' (fun k => P k ∨ w.heap.size ≤ k) v' room last (movF L id p).1 ∧ Below w.heap.size w w' := by
 obtain ⟨A, c, rfl, hv⟩ := h
 obtain ⟨_, hc, hC⟩ := Kd.zaw hv
 have hl : L.length ≤ 64 := Nat.le_trans hG.2.1 hG.1
 have HV := Aside0.mk hv
 have HC := Aside0.mk hC
 have Hc := Aside0.mk hc
 have HG := Aside0.mk hG
 clear hv hC hc hG
 cases hf : fnd L id with
 | none =>
  have HA := Aside0.mk (movF_none (p := p) (.inl hf))
  obtain ⟨ka, hka⟩ := (at_none (L := L) (by omega) hf (room : Int) last).get
  have HK := Aside0.mk hka
  clear hka hf
  go_enter Try.func36, Try.ntmps36
  go_wp2_with fail
  have hx := zac (za5 w (.cells #[.int .i64 (room : Int), .int .i64 last, .slice A L.length c] 44)) (.cells #[.int .i64 0, .int .i64 0, .slice none 0 0] 44)
  have hy := za5 (w.alloc (.cells #[.int .i64 (room : Int), .int .i64 last, .slice A L.length c] 44)) (.cells #[.int .i64 0, .int .i64 0, .slice none 0 0] 44)
  have hB2 := zaf (zaf (Below.refl _ w) (.cells #[.int .i64 (room : Int), .int .i64 last, .slice A L.length c] 44)) (.cells #[.int .i64 0, .int .i64 0, .slice none 0 0] 44)
  rw [show (w.alloc (.cells #[.int .i64 (room : Int), .int .i64 last, .slice A L.length c] 44)).heap.size = w.heap.size + 1 by simp] at hy
  generalize (w.alloc (.cells #[.int .i64 (room : Int), .int .i64 last, .slice A L.length c] 44)).alloc (.cells #[.int .i64 0, .int .i64 0, .slice none 0 0] 44) = W2 at hx hy hB2 ⊢
  go_at_call 55
  refine (zae.calls ka (room : Int) last A c L _ _ W2 (Kd.za3 HC.out hB2) Hc.out HK.out).mono ?_
  rintro e w3 ⟨rfl, hb3⟩
  have hx3 := (hb3.block _ (zao hx)).trans hx
  have hy3 := (hb3.block _ (zao hy)).trans hy
  have HB3 := Aside0.mk (zab hB2 hb3)
  have x0 : w3.cell? ⟨w.heap.size, 0, none⟩ = some (.int .i64 (room : Int)) := (za hx3 0).trans rfl
  have x1 : w3.cell? ⟨w.heap.size, 1, none⟩ = some (.int .i64 last) := (za hx3 1).trans rfl
  have x2 : w3.cell? ⟨w.heap.size, 2, none⟩ = some (.slice A L.length c) := (za hx3 2).trans rfl
  have y0 : w3.cell? ⟨w.heap.size + 1, 0, none⟩ = some (.int .i64 0) := (za hy3 0).trans rfl
  have y1 : w3.cell? ⟨w.heap.size + 1, 1, none⟩ = some (.int .i64 0) := (za hy3 1).trans rfl
  have y2 : w3.cell? ⟨w.heap.size + 1, 2, none⟩ = some (.slice none 0 0) := (za hy3 2).trans rfl
  have z0 := zaa hy3 0
  have z1 := zaa hy3 1
  have z2 := zaa hy3 2
  have HX3 := Aside0.mk hx3
  have HY3 := Aside0.mk hy3
  have HV3 := Aside0.mk (Kd.zay (Kd.V_bound HV.out) HB3.out)
  clear hx hy hB2 hb3 hx3 hy3
  go_wp2_with fail
  obtain ⟨r1, r2, r3⟩ := zbe (room := room) (last := last) (P := P) HB3.out HY3.out HV3.out (fun k hk => ⟨.inl hk.1, by omega⟩)
  rw [HA.out]
  exact bodyPost_ret (zat rfl _ _ (w.heap.size + 1) 44 #[.int .i64 (room : Int), .int .i64 last, .slice A L.length c] (0, 0) _ rfl r1 Try.underlying44 rfl (by kernel_rfl)) rfl ⟨_, rfl, r2, r3⟩
 | some g =>
  obtain ⟨j, hj, hr, hjg, hev⟩ := at_some HG.out.2.2.2.2.1 (by omega) hf (room : Int) last
  have HF := Aside0.mk hf
  obtain ⟨hg, rfl⟩ := za2 hf
  obtain ⟨ka, hka⟩ := hev.get
  obtain ⟨g1, g2, g3, _, g5, g6, g7, g8⟩ := HG.out.2.2.2.2.2 g hg
  have HK := Aside0.mk hka
  have HM := Aside0.mk hg
  have HR := Aside0.mk hr
  have HJG := Aside0.mk hjg
  have hj1 : (j : Int) < (L.length : Int) := by omega
  have hj0 : decide ((j : Int) < 0) = false := decide_eq_false (by omega)
  have hj2 : 0 ≤ (j : Int) ∧ (j : Int) < (L.length : Int) := by omega
  clear hka hf hg hr hjg hev
  cases hq : fnd L p with
  | none =>
   have HA := Aside0.mk (movF_none (id := g.f0) (.inr hq))
   obtain ⟨kp, hkp⟩ := (at_none (L := L) (by omega) hq (room : Int) last).get
   have HKP := Aside0.mk hkp
   clear hkp hq
   go_enter Try.func36, Try.ntmps36
   go_wp2_with fail
   have hx := zac (za5 w (.cells #[.int .i64 (room : Int), .int .i64 last, .slice A L.length c] 44)) (.cells #[.int .i64 0, .int .i64 0, .slice none 0 0] 44)
   have hy := za5 (w.alloc (.cells #[.int .i64 (room : Int), .int .i64 last, .slice A L.length c] 44)) (.cells #[.int .i64 0, .int .i64 0, .slice none 0 0] 44)
   have hB2 := zaf (zaf (Below.refl _ w) (.cells #[.int .i64 (room : Int), .int .i64 last, .slice A L.length c] 44)) (.cells #[.int .i64 0, .int .i64 0, .slice none 0 0] 44)
   rw [show (w.alloc (.cells #[.int .i64 (room : Int), .int .i64 last, .slice A L.length c] 44)).heap.size = w.heap.size + 1 by simp] at hy
   generalize (w.alloc (.cells #[.int .i64 (room : Int), .int .i64 last, .slice A L.length c] 44)).alloc (.cells #[.int .i64 0, .int .i64 0, .slice none 0 0] 44) = W2 at hx hy hB2 ⊢
   go_at_call 55
   refine (zae.calls ka (room : Int) last A c L _ _ W2 (Kd.za3 HC.out hB2) Hc.out HK.out).mono ?_
   rintro e w3 ⟨rfl, hb3⟩
   have hx3 := (hb3.block _ (zao hx)).trans hx
   have hy3 := (hb3.block _ (zao hy)).trans hy
   have HB3 := Aside0.mk (zab hB2 hb3)
   have x0 : w3.cell? ⟨w.heap.size, 0, none⟩ = some (.int .i64 (room : Int)) := (za hx3 0).trans rfl
   have x1 : w3.cell? ⟨w.heap.size, 1, none⟩ = some (.int .i64 last) := (za hx3 1).trans rfl
   have x2 : w3.cell? ⟨w.heap.size, 2, none⟩ = some (.slice A L.length c) := (za hx3 2).trans rfl
   have y0 : w3.cell? ⟨w.heap.size + 1, 0, none⟩ = some (.int .i64 0) := (za hy3 0).trans rfl
   have y1 : w3.cell? ⟨w.heap.size + 1, 1, none⟩ = some (.int .i64 0) := (za hy3 1).trans rfl
   have y2 : w3.cell? ⟨w.heap.size + 1, 2, none⟩ = some (.slice none 0 0) := (za hy3 2).trans rfl
   have z0 := zaa hy3 0
   have z1 := zaa hy3 1
   have z2 := zaa hy3 2
   have HX3 := Aside0.mk hx3
   have HY3 := Aside0.mk hy3
   have HV3 := Aside0.mk (Kd.zay (Kd.V_bound HV.out) HB3.out)
   clear hx hy hB2 hb3 hx3 hy3
   go_wp2_with fail
   refine (zae.calls kp (room : Int) last A c L _ _ w3 (Kd.za3 HC.out HB3.out) Hc.out HKP.out).mono ?_
   rintro e w4 ⟨rfl, hb4⟩
   have hx4 := (hb4.block _ (zao HX3.out)).trans HX3.out
   have hy4 := (hb4.block _ (zao HY3.out)).trans HY3.out
   have HB4 := Aside0.mk (zab HB3.out hb4)
   have HX4 := Aside0.mk hx4
   have HY4 := Aside0.mk hy4
   have HV4 := Aside0.mk (Kd.zay HV3.out hb4)
   clear x0 x1 x2 y0 y1 y2 z0 z1 z2 HX3 HY3 HV3 HB3
   have x0 : w4.cell? ⟨w.heap.size, 0, none⟩ = some (.int .i64 (room : Int)) := (za hx4 0).trans rfl
   have x1 : w4.cell? ⟨w.heap.size, 1, none⟩ = some (.int .i64 last) := (za hx4 1).trans rfl
   have x2 : w4.cell? ⟨w.heap.size, 2, none⟩ = some (.slice A L.length c) := (za hx4 2).trans rfl
   have y0 : w4.cell? ⟨w.heap.size + 1, 0, none⟩ = some (.int .i64 0) := (za hy4 0).trans rfl
   have y1 : w4.cell? ⟨w.heap.size + 1, 1, none⟩ = some (.int .i64 0) := (za hy4 1).trans rfl
   have y2 : w4.cell? ⟨w.heap.size + 1, 2, none⟩ = some (.slice none 0 0) := (za hy4 2).trans rfl
   have z0 := zaa hy4 0
   have z1 := zaa hy4 1
   have z2 := zaa hy4 2
   clear hb4 hx4 hy4
   go_wp2_with fail
   obtain ⟨r1, r2, r3⟩ := zbe (room := room) (last := last) (P := P) HB4.out HY4.out HV4.out (fun k hk => ⟨.inl hk.1, by omega⟩)
   rw [HA.out]
   exact bodyPost_ret (zat rfl _ _ (w.heap.size + 1) 44 #[.int .i64 (room : Int), .int .i64 last, .slice A L.length c] (0, 0) _ rfl r1 Try.underlying44 rfl (by kernel_rfl)) rfl ⟨_, rfl, r2, r3⟩
  | some q =>
   have HS := Aside0.mk (movF_some HF.out hq)
   obtain ⟨jp, hjp, _, _, hevp⟩ := at_some HG.out.2.2.2.2.1 (by omega) hq (room : Int) last
   obtain ⟨hqm, rfl⟩ := za2 hq
   obtain ⟨kp, hkp⟩ := hevp.get
   have HKP := Aside0.mk hkp
   have HMQ := Aside0.mk hqm
   have jp0 : decide ((jp : Int) < 0) = false := decide_eq_false (by omega)
   clear hkp hq hqm hevp
   go_enter Try.func36, Try.ntmps36
   go_wp2_with fail
   have hx := zac (za5 w (.cells #[.int .i64 (room : Int), .int .i64 last, .slice A L.length c] 44)) (.cells #[.int .i64 0, .int .i64 0, .slice none 0 0] 44)
   have hy := za5 (w.alloc (.cells #[.int .i64 (room : Int), .int .i64 last, .slice A L.length c] 44)) (.cells #[.int .i64 0, .int .i64 0, .slice none 0 0] 44)
   have hB2 := zaf (zaf (Below.refl _ w) (.cells #[.int .i64 (room : Int), .int .i64 last, .slice A L.length c] 44)) (.cells #[.int .i64 0, .int .i64 0, .slice none 0 0] 44)
   rw [show (w.alloc (.cells #[.int .i64 (room : Int), .int .i64 last, .slice A L.length c] 44)).heap.size = w.heap.size + 1 by simp] at hy
   generalize (w.alloc (.cells #[.int .i64 (room : Int), .int .i64 last, .slice A L.length c] 44)).alloc (.cells #[.int .i64 0, .int .i64 0, .slice none 0 0] 44) = W2 at hx hy hB2 ⊢
   go_at_call 55
   refine (zae.calls ka (room : Int) last A c L _ _ W2 (Kd.za3 HC.out hB2) Hc.out HK.out).mono ?_
   rintro e w3 ⟨rfl, hb3⟩
   have hx3 := (hb3.block _ (zao hx)).trans hx
   have hy3 := (hb3.block _ (zao hy)).trans hy
   have HB3 := Aside0.mk (zab hB2 hb3)
   have x0 : w3.cell? ⟨w.heap.size, 0, none⟩ = some (.int .i64 (room : Int)) := (za hx3 0).trans rfl
   have x1 : w3.cell? ⟨w.heap.size, 1, none⟩ = some (.int .i64 last) := (za hx3 1).trans rfl
   have x2 : w3.cell? ⟨w.heap.size, 2, none⟩ = some (.slice A L.length c) := (za hx3 2).trans rfl
   have y0 : w3.cell? ⟨w.heap.size + 1, 0, none⟩ = some (.int .i64 0) := (za hy3 0).trans rfl
   have y1 : w3.cell? ⟨w.heap.size + 1, 1, none⟩ = some (.int .i64 0) := (za hy3 1).trans rfl
   have y2 : w3.cell? ⟨w.heap.size + 1, 2, none⟩ = some (.slice none 0 0) := (za hy3 2).trans rfl
   have z0 := zaa hy3 0
   have z1 := zaa hy3 1
   have z2 := zaa hy3 2
   have HX3 := Aside0.mk hx3
   have HY3 := Aside0.mk hy3
   have HV3 := Aside0.mk (Kd.zay (Kd.V_bound HV.out) HB3.out)
   clear hx hy hB2 hb3 hx3 hy3
   obtain ⟨ad, e1, hqs⟩ := at_T84 HC.out (j : Int) (by omega) hj1
   subst e1
   rw [HR.out, Int.toNat_natCast] at hqs
   have HQ3 : Aside0 (QS w3 (ad.add (j * 5)) g) := ⟨QS.below hqs (HB3.out)⟩
   obtain ⟨q0, q1, q2, q3, q4⟩ := HQ3.out
   clear hqs
   go_wp2_with fail
   refine (zae.calls kp (room : Int) last (some ad) c L _ _ w3 (Kd.za3 HC.out HB3.out) Hc.out HKP.out).mono ?_
   rintro e w4 ⟨rfl, hb4⟩
   have hx4 := (hb4.block _ (zao HX3.out)).trans HX3.out
   have hy4 := (hb4.block _ (zao HY3.out)).trans HY3.out
   have HB4 := Aside0.mk (zab HB3.out hb4)
   have HX4 := Aside0.mk hx4
   have HY4 := Aside0.mk hy4
   have HV4 := Aside0.mk (Kd.zay HV3.out hb4)
   have HQ4 : Aside0 (QS w4 (ad.add (j * 5)) g) := ⟨HQ3.out.below hb4⟩
   clear q0 q1 q2 q3 q4
   obtain ⟨q0, q1, q2, q3, q4⟩ := HQ4.out
   clear x0 x1 x2 y0 y1 y2 z0 z1 z2 HX3 HY3 HV3 HB3 HQ3
   have x0 : w4.cell? ⟨w.heap.size, 0, none⟩ = some (.int .i64 (room : Int)) := (za hx4 0).trans rfl
   have x1 : w4.cell? ⟨w.heap.size, 1, none⟩ = some (.int .i64 last) := (za hx4 1).trans rfl
   have x2 : w4.cell? ⟨w.heap.size, 2, none⟩ = some (.slice (some ad) L.length c) := (za hx4 2).trans rfl
   have y0 : w4.cell? ⟨w.heap.size + 1, 0, none⟩ = some (.int .i64 0) := (za hy4 0).trans rfl
   have y1 : w4.cell? ⟨w.heap.size + 1, 1, none⟩ = some (.int .i64 0) := (za hy4 1).trans rfl
   have y2 : w4.cell? ⟨w.heap.size + 1, 2, none⟩ = some (.slice none 0 0) := (za hy4 2).trans rfl
   have z0 := zaa hy4 0
   have z1 := zaa hy4 1
   have z2 := zaa hy4 2
   clear hb4 hx4 hy4
   by_cases hr0 : g.f1 < 0
   ·
    have HA := Aside0.mk (HS.out.trans (if_pos hr0))
    have d1 : decide (g.f1 < 0) = true := decide_eq_true hr0
    go_wp2_with fail
    obtain ⟨r1, r2, r3⟩ := zbe (room := room) (last := last) (P := P) HB4.out HY4.out HV4.out (fun k hk => ⟨.inl hk.1, by omega⟩)
    rw [HA.out]
    exact bodyPost_ret (zat rfl _ _ (w.heap.size + 1) 44 #[.int .i64 (room : Int), .int .i64 last, .slice (some ad) L.length c] (0, 0) _ rfl r1 Try.underlying44 rfl (by kernel_rfl)) rfl ⟨_, rfl, r2, r3⟩
   ·
    have HS1 := Aside0.mk (HS.out.trans (if_neg hr0))
    have d1 : decide (g.f1 < 0) = false := decide_eq_false hr0
    obtain ⟨k1, hk1⟩ := (root_f HG.out HM.out (room : Int) last).get
    obtain ⟨k2, hk2⟩ := (root_f HG.out HMQ.out (room : Int) last).get
    have HK1 := Aside0.mk hk1
    have HK2 := Aside0.mk hk2
    clear hk1 hk2
    have HRS : Aside0 (∀ W' : World, Below w4.heap.size w4 W' → W'.cell? ⟨w.heap.size, 0, none⟩ = some (.int .i64 (room : Int)) ∧ W'.cell? ⟨w.heap.size, 1, none⟩ = some (.int .i64 last) ∧ W'.cell? ⟨w.heap.size, 2, none⟩ = some (.slice (some ad) L.length c)) :=
     ⟨fun W' hb => ⟨(hb.cell (World.block_lt_of_cell? w4 _ x0)).trans x0, (hb.cell (World.block_lt_of_cell? w4 _ x1)).trans x1, (hb.cell (World.block_lt_of_cell? w4 _ x2)).trans x2⟩⟩
    go_wp2_with fail
    refine start_ (n := 8) (S := fun w' => w'.cell? ⟨w.heap.size, 0, none⟩ = some (.int .i64 (room : Int)) ∧ w'.cell? ⟨w.heap.size, 1, none⟩ = some (.int .i64 last) ∧ w'.cell? ⟨w.heap.size, 2, none⟩ = some (.slice (some ad) L.length c)) (ds := []) #[false, false, false, false, false, false, false, false] (by kernel_rfl) rfl rfl (HRS.out _ (Below.refl _ w4).drew) (fun hHeld => ?_); refine zbl mvtab6 mvbits6 (fun HT_ HW_ => ?_)
    refine pure_ (i := 1) (N := some 35) (v := ?_) (a' := ?_) #[false, true, false, false, false, false, false, false] rfl rfl (zas HT_.out (by kernel_rfl)) (fun _ _ _ h => h) (Or.inl ⟨by rfl, ?_⟩) ?_ ?_
    rotate_left
    ·
     intro w'
     go_simp
     with_reducible rfl
    rotate_left
    ·
     simp only [Act.put, List.setIfInBounds_toArray, List.set_cons_zero, List.set_cons_succ, i64_w, i32_w]
     rfl
    refine pure_ (i := 4) (N := some 38) (v := ?_) (a' := ?_) #[false, true, false, false, true, false, false, false] rfl rfl (zas HT_.out (by kernel_rfl)) (fun _ _ _ h => h) (Or.inl ⟨by rfl, ?_⟩) ?_ ?_
    rotate_left
    ·
     intro w'
     go_simp
     with_reducible rfl
    rotate_left
    ·
     simp only [Act.put, List.setIfInBounds_toArray, List.set_cons_zero, List.set_cons_succ, i64_w, i32_w]
     rfl
    refine take_ (i := 0) (N := some 34) (v := ?_) (a' := ?_) #[true, true, false, false, true, false, false, false] rfl rfl (za1 HT_.out HW_.out (by kernel_rfl)) (fun _ _ _ h => h) (Or.inl ⟨by rfl, ?_⟩) hHeld ?_ ?_
    rotate_left
    ·
     rintro w' ⟨s0, s1, s2⟩
     go_simp
     with_reducible rfl
    rotate_left
    ·
     simp only [Act.put, List.setIfInBounds_toArray, List.set_cons_zero, List.set_cons_succ, i64_w, i32_w]
     rfl
    refine take_ (i := 3) (N := some 37) (v := ?_) (a' := ?_) #[true, true, false, true, true, false, false, false] rfl rfl (za1 HT_.out HW_.out (by kernel_rfl)) (fun _ _ _ h => h) (Or.inl ⟨by rfl, ?_⟩) hHeld ?_ ?_
    rotate_left
    ·
     rintro w' ⟨s0, s1, s2⟩
     go_simp
     with_reducible rfl
    rotate_left
    ·
     simp only [Act.put, List.setIfInBounds_toArray, List.set_cons_zero, List.set_cons_succ, i64_w, i32_w]
     rfl
    refine one_ (i := 2) (N := some 36) #[true, true, true, true, true, false, false, false] rfl rfl (zbk HT_.out (by kernel_rfl)) (by decide) (fun K hK => ?_)
    refine goes_ Try.func44 (by kernel_rfl) rfl #[.agg #[.int .i64 (room : Int), .int .i64 last, .slice (some ad) L.length c], .int .i64 g.f0] (by rfl) rfl rfl (by (try simp only [List.map_toArray, List.map_cons, List.map_nil]); first | done | rfl) ?_
    refine (zah.calls k1 (room : Int) last (some ad) c L g.f0 _ w4.drew (Kd.za3 HC.out (zab HB4.out (Below.refl w4.heap.size w4).drew)) Hc.out HK1.out).mono ?_
    rintro e w5 ⟨rfl, hb⟩
    refine ⟨_, rfl, ?_⟩
    have HB5 : Aside0 (Below w4.heap.size w4 w5) := ⟨zab (Below.refl w4.heap.size w4).drew hb⟩
    clear hb
    refine hK.out _ _ (HRS.out _ HB5.out) (fun hHeld => ?_)
    clear hK K
    refine norm_ (a' := ?_) ?_ ?_
    rotate_left
    ·
     show Act.put _ (some 36) _ = _
     simp only [Act.put, List.setIfInBounds_toArray, List.set_cons_zero, List.set_cons_succ, i64_w, i32_w]
     rfl
    refine one_ (i := 5) (N := some 39) #[true, true, true, true, true, true, false, false] rfl rfl (zbk HT_.out (by kernel_rfl)) (by decide) (fun K hK => ?_)
    refine goes_ Try.func44 (by kernel_rfl) rfl #[.agg #[.int .i64 (room : Int), .int .i64 last, .slice (some ad) L.length c], .int .i64 q.f0] (by rfl) rfl rfl (by (try simp only [List.map_toArray, List.map_cons, List.map_nil]); first | done | rfl) ?_
    refine (zah.calls k2 (room : Int) last (some ad) c L q.f0 _ w5 (Kd.za3 HC.out (zab HB4.out HB5.out)) Hc.out HK2.out).mono ?_
    rintro e w6 ⟨rfl, hb⟩
    refine ⟨_, rfl, ?_⟩
    have HB6 : Aside0 (Below w4.heap.size w4 w6) := ⟨zab HB5.out hb⟩
    clear hb
    refine hK.out _ _ (HRS.out _ HB6.out) (fun hHeld => ?_)
    clear hK K
    refine norm_ (a' := ?_) ?_ ?_
    rotate_left
    ·
     show Act.put _ (some 39) _ = _
     simp only [Act.put, List.setIfInBounds_toArray, List.set_cons_zero, List.set_cons_succ, i64_w, i32_w]
     rfl
    refine pure_ (i := 6) (N := some 40) (v := ?_) (a' := ?_) #[true, true, true, true, true, true, true, false] rfl rfl (zas HT_.out (by kernel_rfl)) (fun _ _ _ h => h) (Or.inl ⟨by rfl, ?_⟩) ?_ ?_
    rotate_left
    ·
     intro w'
     go_simp
     with_reducible rfl
    rotate_left
    ·
     simp only [Act.put, List.setIfInBounds_toArray, List.set_cons_zero, List.set_cons_succ, i64_w, i32_w]
     rfl
    refine pure_ (i := 7) (N := some 33) (v := ?_) (a' := ?_) #[true, true, true, true, true, true, true, true] rfl rfl (zas HT_.out (by kernel_rfl)) (fun _ _ _ h => h) (Or.inl ⟨by rfl, ?_⟩) ?_ ?_
    rotate_left
    ·
     intro w'
     go_simp
     with_reducible rfl
    rotate_left
    ·
     simp only [Act.put, List.setIfInBounds_toArray, List.set_cons_zero, List.set_cons_succ, i64_w, i32_w]
     rfl
    refine done_ (done_of HT_.out (by kernel_rfl)) ?_
    have hb6 := HB6.out
    clear HB5 HB6
    have hx6 := (hb6.block _ (zao HX4.out)).trans HX4.out
    have hy6 := (hb6.block _ (zao HY4.out)).trans HY4.out
    have HB6 := Aside0.mk (zab HB4.out hb6)
    have HX6 := Aside0.mk hx6
    have HY6 := Aside0.mk hy6
    have HV6 := Aside0.mk (Kd.zay HV4.out hb6)
    have HQ6 : Aside0 (QS w6 (ad.add (j * 5)) g) := ⟨HQ4.out.below hb6⟩
    clear q0 q1 q2 q3 q4
    obtain ⟨q0, q1, q2, q3, q4⟩ := HQ6.out
    clear x0 x1 x2 y0 y1 y2 z0 z1 z2 HX4 HY4 HV4 HB4 HQ4
    have x0 : w6.cell? ⟨w.heap.size, 0, none⟩ = some (.int .i64 (room : Int)) := (za hx6 0).trans rfl
    have x1 : w6.cell? ⟨w.heap.size, 1, none⟩ = some (.int .i64 last) := (za hx6 1).trans rfl
    have x2 : w6.cell? ⟨w.heap.size, 2, none⟩ = some (.slice (some ad) L.length c) := (za hx6 2).trans rfl
    have y0 : w6.cell? ⟨w.heap.size + 1, 0, none⟩ = some (.int .i64 0) := (za hy6 0).trans rfl
    have y1 : w6.cell? ⟨w.heap.size + 1, 1, none⟩ = some (.int .i64 0) := (za hy6 1).trans rfl
    have y2 : w6.cell? ⟨w.heap.size + 1, 2, none⟩ = some (.slice none 0 0) := (za hy6 2).trans rfl
    have z0 := zaa hy6 0
    have z1 := zaa hy6 1
    have z2 := zaa hy6 2
    clear hb6 hx6 hy6
    by_cases hrr : rootG L g.f0 = rootG L q.f0
    ·
     have HS2 := Aside0.mk (HS1.out.trans (if_neg (fun hh => hh hrr)))
     have d2 : (rootG L g.f0 != rootG L q.f0) = false := bne_eq_false_iff_eq.mpr hrr
     obtain ⟨k3, hk3⟩ := (below_f HG.out HMQ.out (room : Int) last g.f0).get
     have HK3 := Aside0.mk hk3
     clear hk3
     go_wp2_with fail
     refine (zan.calls k3 (room : Int) last (some ad) c L _ _ _ w6 (Kd.za3 HC.out HB6.out) Hc.out HK3.out).mono ?_
     rintro e w7 ⟨rfl, hb7⟩
     have hx7 := (hb7.block _ (zao HX6.out)).trans HX6.out
     have hy7 := (hb7.block _ (zao HY6.out)).trans HY6.out
     have HB7 := Aside0.mk (zab HB6.out hb7)
     have HX7 := Aside0.mk hx7
     have HY7 := Aside0.mk hy7
     have HV7 := Aside0.mk (Kd.zay HV6.out hb7)
     have HQ7 : Aside0 (QS w7 (ad.add (j * 5)) g) := ⟨HQ6.out.below hb7⟩
     clear q0 q1 q2 q3 q4
     obtain ⟨q0, q1, q2, q3, q4⟩ := HQ7.out
     clear x0 x1 x2 y0 y1 y2 z0 z1 z2 HX6 HY6 HV6 HB6 HQ6
     have x0 : w7.cell? ⟨w.heap.size, 0, none⟩ = some (.int .i64 (room : Int)) := (za hx7 0).trans rfl
     have x1 : w7.cell? ⟨w.heap.size, 1, none⟩ = some (.int .i64 last) := (za hx7 1).trans rfl
     have x2 : w7.cell? ⟨w.heap.size, 2, none⟩ = some (.slice (some ad) L.length c) := (za hx7 2).trans rfl
     have y0 : w7.cell? ⟨w.heap.size + 1, 0, none⟩ = some (.int .i64 0) := (za hy7 0).trans rfl
     have y1 : w7.cell? ⟨w.heap.size + 1, 1, none⟩ = some (.int .i64 0) := (za hy7 1).trans rfl
     have y2 : w7.cell? ⟨w.heap.size + 1, 2, none⟩ = some (.slice none 0 0) := (za hy7 2).trans rfl
     have z0 := zaa hy7 0
     have z1 := zaa hy7 1
     have z2 := zaa hy7 2
     clear hb7 hx7 hy7
     by_cases hbl : g.f0 ∈ way L q.f0
     ·
      have HA := Aside0.mk (HS2.out.trans (if_pos hbl))
      have d3 : decide (g.f0 ∈ way L q.f0) = true := decide_eq_true hbl
      go_wp2_with fail
      obtain ⟨r1, r2, r3⟩ := zbe (room := room) (last := last) (P := P) HB7.out HY7.out HV7.out (fun k hk => ⟨.inl hk.1, by omega⟩)
      rw [HA.out]
      exact bodyPost_ret (zat rfl _ _ (w.heap.size + 1) 44 #[.int .i64 (room : Int), .int .i64 last, .slice (some ad) L.length c] (0, 0) _ rfl r1 Try.underlying44 rfl (by kernel_rfl)) rfl ⟨_, rfl, r2, r3⟩
     ·
      have HS3 := Aside0.mk (HS2.out.trans (if_neg hbl))
      have d3 : decide (g.f0 ∈ way L q.f0) = false := decide_eq_false hbl
      go_wp2_with fail
      go_loopg [51] L.length (fun gk v51 w' => ∃ i : Nat, v51 = .int .i64 (i : Int) ∧ i + gk = L.length ∧ Aside0 (Below w7.heap.size w7 w') ∧ Aside0 (∀ k, k < i → ∀ hk : k < L.length, ¬ (g.f0 ∈ way L L[k].f0 ∧ 8 < ((way L L[k].f0).length : Int) - (way L g.f0).length + (way L q.f0).length + 1)))
      case atStart => exact ⟨0, rfl, Nat.zero_add _, ⟨Below.refl _ w7⟩, ⟨fun k hk => absurd hk (Nat.not_lt_zero k)⟩⟩
      case round =>
       obtain ⟨i, rfl, hi, hb0, HNO⟩ := hrel
       have hbr := hb0.out
       have HB7r := Aside0.mk hbr
       clear hb0
       have hxr := (hbr.block _ (zao HX7.out)).trans HX7.out
       have hyr := (hbr.block _ (zao HY7.out)).trans HY7.out
       have HBr := Aside0.mk (zab HB7.out hbr)
       have HXr := Aside0.mk hxr
       have HYr := Aside0.mk hyr
       have HVr := Aside0.mk (Kd.zay HV7.out hbr)
       have HQr : Aside0 (QS wr (ad.add (j * 5)) g) := ⟨HQ7.out.below hbr⟩
       clear q0 q1 q2 q3 q4
       obtain ⟨q0, q1, q2, q3, q4⟩ := HQr.out
       clear x0 x1 x2 y0 y1 y2 z0 z1 z2 HX7 HY7 HV7 HB7 HQ7
       have x0 : wr.cell? ⟨w.heap.size, 0, none⟩ = some (.int .i64 (room : Int)) := (za hxr 0).trans rfl
       have x1 : wr.cell? ⟨w.heap.size, 1, none⟩ = some (.int .i64 last) := (za hxr 1).trans rfl
       have x2 : wr.cell? ⟨w.heap.size, 2, none⟩ = some (.slice (some ad) L.length c) := (za hxr 2).trans rfl
       have y0 : wr.cell? ⟨w.heap.size + 1, 0, none⟩ = some (.int .i64 0) := (za hyr 0).trans rfl
       have y1 : wr.cell? ⟨w.heap.size + 1, 1, none⟩ = some (.int .i64 0) := (za hyr 1).trans rfl
       have y2 : wr.cell? ⟨w.heap.size + 1, 2, none⟩ = some (.slice none 0 0) := (za hyr 2).trans rfl
       have z0 := zaa hyr 0
       have z1 := zaa hyr 1
       have z2 := zaa hyr 2
       clear hbr hxr hyr
       by_cases hil : i < L.length
       ·
        obtain ⟨y, hy⟩ : ∃ y, L[i] = y := ⟨_, rfl⟩
        have hym : y ∈ L := hy ▸ List.getElem_mem hil
        obtain ⟨kb, hkb⟩ := (below_f HG.out hym (room : Int) last g.f0).get
        have HKB := Aside0.mk hkb
        have i1 : decide ((i : Int) < (L.length : Int)) = true := decide_eq_true (by omega)
        have i2 : 0 ≤ (i : Int) ∧ (i : Int) < (L.length : Int) := by omega
        have hl' : 1 ≤ y.f0 := (HG.out.2.2.2.2.2 y hym).1
        obtain ⟨_, e1, c0, c1, c2, c3, c4⟩ := at_T84 HC.out (i : Int) (by omega) (by omega)
        cases e1
        rw [rd_nat84 hil, hy, Int.toNat_natCast] at c0 c1 c2 c3 c4
        have HRW : Aside0 (∀ W' : World, Below wr.heap.size wr W' → (fun w' => w'.cell? ⟨w.heap.size, 0, none⟩ = some (.int .i64 (room : Int)) ∧ w'.cell? ⟨w.heap.size, 1, none⟩ = some (.int .i64 last) ∧ w'.cell? ⟨w.heap.size, 2, none⟩ = some (.slice (some ad) L.length c) ∧ w'.cell? (ad.add (i * 5)) = some (.int .i64 y.f0) ∧ w'.cell? ⟨(ad.add (i * 5)).block, (ad.add (i * 5)).off + 1, none⟩ = some (.int .i64 y.f1) ∧ w'.cell? ⟨(ad.add (i * 5)).block, (ad.add (i * 5)).off + 2, none⟩ = some (.int .i64 y.f2) ∧ w'.cell? ⟨(ad.add (i * 5)).block, (ad.add (i * 5)).off + 3, none⟩ = some (.int .i64 y.f3) ∧ w'.cell? ⟨(ad.add (i * 5)).block, (ad.add (i * 5)).off + 4, none⟩ = some (.int .i64 y.f4)) W') :=
         ⟨fun W' hb => by
          have hs : Below w.heap.size w W' := zab HBr.out hb
          exact ⟨(hb.cell (World.block_lt_of_cell? wr _ x0)).trans x0, (hb.cell (World.block_lt_of_cell? wr _ x1)).trans x1, (hb.cell (World.block_lt_of_cell? wr _ x2)).trans x2, QS.below ⟨c0, c1, c2, c3, c4⟩ hs⟩⟩
        clear hkb c0 c1 c2 c3 c4
        obtain ⟨c0, c1, c2, c3, c4, c5, c6, c7⟩ := HRW.out wr (Below.refl _ wr)
        by_cases hbe : g.f0 ∈ way L y.f0
        ·
         have HKB1 := Aside0.mk (HKB.out.trans (congrArg some (decide_eq_true hbe)))
         obtain ⟨ky, hky⟩ := (depth_f HG.out hym (room : Int) last).get
         obtain ⟨kg, hkg⟩ := (depth_f HG.out HM.out (room : Int) last).get
         obtain ⟨kq, hkq⟩ := (depth_f HG.out HMQ.out (room : Int) last).get
         have HKY := Aside0.mk hky
         have HKG := Aside0.mk hkg
         have HKQ := Aside0.mk hkq
         clear hky hkg hkq
         clear HKB
         have HKB := HKB1
         clear HKB1
         have wy := (HG.out.way hym).2
         have wg := (HG.out.way HM.out).2
         have wq := (HG.out.way HMQ.out).2
         have e8 : wrap64 (wrap64 (wrap64 (((way L y.f0).length : Int) - ((way L g.f0).length : Int)) + ((way L q.f0).length : Int)) + 1) = ((way L y.f0).length : Int) - (way L g.f0).length + (way L q.f0).length + 1 := by
          rw [w64s (x := ((way L y.f0).length : Int) - ((way L g.f0).length : Int)) (by omega) (by omega), w64s (x := ((way L y.f0).length : Int) - ((way L g.f0).length : Int) + ((way L q.f0).length : Int)) (by omega) (by omega), w64s (by omega) (by omega)]
         go_wp2_with fail
         refine start_ (n := 29) (S := fun w' => w'.cell? ⟨w.heap.size, 0, none⟩ = some (.int .i64 (room : Int)) ∧ w'.cell? ⟨w.heap.size, 1, none⟩ = some (.int .i64 last) ∧ w'.cell? ⟨w.heap.size, 2, none⟩ = some (.slice (some ad) L.length c) ∧ w'.cell? (ad.add (i * 5)) = some (.int .i64 y.f0) ∧ w'.cell? ⟨(ad.add (i * 5)).block, (ad.add (i * 5)).off + 1, none⟩ = some (.int .i64 y.f1) ∧ w'.cell? ⟨(ad.add (i * 5)).block, (ad.add (i * 5)).off + 2, none⟩ = some (.int .i64 y.f2) ∧ w'.cell? ⟨(ad.add (i * 5)).block, (ad.add (i * 5)).off + 3, none⟩ = some (.int .i64 y.f3) ∧ w'.cell? ⟨(ad.add (i * 5)).block, (ad.add (i * 5)).off + 4, none⟩ = some (.int .i64 y.f4)) (ds := []) #[false, false, false, false, false, false, false, false, false, false, false, false, false, false, false, false, false, false, false, false, false, false, false, false, false, false, false, false, false] (by kernel_rfl) rfl rfl (HRW.out _ (Below.refl _ wr).drew) (fun hHeld => ?_); refine zbl mvtab13 mvbits13 (fun HT_ HW_ => ?_)
         refine pure_ (i := 1) (N := some 55) (v := ?_) (a' := ?_) #[false, true, false, false, false, false, false, false, false, false, false, false, false, false, false, false, false, false, false, false, false, false, false, false, false, false, false, false, false] rfl rfl (zas HT_.out (by kernel_rfl)) (fun _ _ _ h => h) (Or.inl ⟨by rfl, ?_⟩) ?_ ?_
         rotate_left
         ·
          intro w'
          go_simp
          with_reducible rfl
         rotate_left
         ·
          simp only [Act.put, List.setIfInBounds_toArray, List.set_cons_zero, List.set_cons_succ, i64_w, i32_w]
          rfl
         refine pure_ (i := 3) (N := some 57) (v := ?_) (a' := ?_) #[false, true, false, true, false, false, false, false, false, false, false, false, false, false, false, false, false, false, false, false, false, false, false, false, false, false, false, false, false] rfl rfl (zas HT_.out (by kernel_rfl)) (fun _ _ _ h => h) (Or.inl ⟨by rfl, ?_⟩) ?_ ?_
         rotate_left
         ·
          intro w'
          go_simp
          with_reducible rfl
         rotate_left
         ·
          simp only [Act.put, List.setIfInBounds_toArray, List.set_cons_zero, List.set_cons_succ, i64_w, i32_w]
          rfl
         refine pure_ (i := 7) (N := some 61) (v := ?_) (a' := ?_) #[false, true, false, true, false, false, false, true, false, false, false, false, false, false, false, false, false, false, false, false, false, false, false, false, false, false, false, false, false] rfl rfl (zas HT_.out (by kernel_rfl)) (fun _ _ _ h => h) (Or.inl ⟨by rfl, ?_⟩) ?_ ?_
         rotate_left
         ·
          intro w'
          go_simp
          with_reducible rfl
         rotate_left
         ·
          simp only [Act.put, List.setIfInBounds_toArray, List.set_cons_zero, List.set_cons_succ, i64_w, i32_w]
          rfl
         refine take_ (i := 0) (N := some 54) (v := ?_) (a' := ?_) #[true, true, false, true, false, false, false, true, false, false, false, false, false, false, false, false, false, false, false, false, false, false, false, false, false, false, false, false, false] rfl rfl (za1 HT_.out HW_.out (by kernel_rfl)) (fun _ _ _ h => h) (Or.inl ⟨by rfl, ?_⟩) hHeld ?_ ?_
         rotate_left
         ·
          rintro w' ⟨s0, s1, s2, s3, s4, s5, s6, s7⟩
          go_simp
          with_reducible rfl
         rotate_left
         ·
          simp only [Act.put, List.setIfInBounds_toArray, List.set_cons_zero, List.set_cons_succ, i64_w, i32_w]
          rfl
         refine take_ (i := 2) (N := some 56) (v := ?_) (a' := ?_) #[true, true, true, true, false, false, false, true, false, false, false, false, false, false, false, false, false, false, false, false, false, false, false, false, false, false, false, false, false] rfl rfl (za1 HT_.out HW_.out (by kernel_rfl)) (fun _ _ _ h => h) (Or.inl ⟨by rfl, ?_⟩) hHeld ?_ ?_
         rotate_left
         ·
          rintro w' ⟨s0, s1, s2, s3, s4, s5, s6, s7⟩
          go_simp
          with_reducible rfl
         rotate_left
         ·
          simp only [Act.put, List.setIfInBounds_toArray, List.set_cons_zero, List.set_cons_succ, i64_w, i32_w]
          rfl
         refine pure_ (i := 4) (N := some 58) (v := ?_) (a' := ?_) #[true, true, true, true, true, false, false, true, false, false, false, false, false, false, false, false, false, false, false, false, false, false, false, false, false, false, false, false, false] rfl rfl (zas HT_.out (by kernel_rfl)) (fun _ _ _ h => h) (Or.inl ⟨by rfl, ?_⟩) ?_ ?_
         rotate_left
         ·
          intro w'
          go_simp
          with_reducible rfl
         rotate_left
         ·
          simp only [Act.put, List.setIfInBounds_toArray, List.set_cons_zero, List.set_cons_succ, i64_w, i32_w]
          rfl
         refine pure_ (i := 5) (N := some 59) (v := ?_) (a' := ?_) #[true, true, true, true, true, true, false, true, false, false, false, false, false, false, false, false, false, false, false, false, false, false, false, false, false, false, false, false, false] rfl rfl (zas HT_.out (by kernel_rfl)) (fun _ _ _ h => h) (Or.inl ⟨by rfl, ?_⟩) ?_ ?_
         rotate_left
         ·
          intro w'
          go_simp
          with_reducible rfl
         rotate_left
         ·
          simp only [Act.put, List.setIfInBounds_toArray, List.set_cons_zero, List.set_cons_succ, i64_w, i32_w]
          rfl
         refine take_ (i := 6) (N := some 60) (v := ?_) (a' := ?_) #[true, true, true, true, true, true, true, true, false, false, false, false, false, false, false, false, false, false, false, false, false, false, false, false, false, false, false, false, false] rfl rfl (za1 HT_.out HW_.out (by kernel_rfl)) (fun _ _ _ h => h) (Or.inl ⟨by rfl, ?_⟩) hHeld ?_ ?_
         rotate_left
         ·
          rintro w' ⟨s0, s1, s2, s3, s4, s5, s6, s7⟩
          go_simp
          with_reducible rfl
         rotate_left
         ·
          simp only [Act.put, List.setIfInBounds_toArray, List.set_cons_zero, List.set_cons_succ, i64_w, i32_w]
          rfl
         refine one_ (i := 8) (N := some 62) #[true, true, true, true, true, true, true, true, true, false, false, false, false, false, false, false, false, false, false, false, false, false, false, false, false, false, false, false, false] rfl rfl (zbk HT_.out (by kernel_rfl)) (by decide) (fun K hK => ?_)
         refine goes_ Try.func58 (by kernel_rfl) rfl #[.agg #[.int .i64 (room : Int), .int .i64 last, .slice (some ad) L.length c], .int .i64 y.f0, .int .i64 g.f0] (by rfl) rfl rfl (by (try simp only [List.map_toArray, List.map_cons, List.map_nil]); first | done | rfl) ?_
         refine (zan.calls kb (room : Int) last (some ad) c L y.f0 g.f0 _ wr.drew (Kd.za3 HC.out (zab HBr.out (Below.refl wr.heap.size wr).drew)) Hc.out HKB.out).mono ?_
         rintro e wa ⟨rfl, hb⟩
         refine ⟨_, rfl, ?_⟩
         have HBa : Aside0 (Below wr.heap.size wr wa) := ⟨zab (Below.refl wr.heap.size wr).drew hb⟩
         clear hb
         refine hK.out _ _ (HRW.out _ HBa.out) (fun hHeld => ?_)
         clear hK K
         refine norm_ (a' := ?_) ?_ ?_
         rotate_left
         ·
          show Act.put _ (some 62) _ = _
          simp only [Act.put, List.setIfInBounds_toArray, List.set_cons_zero, List.set_cons_succ, i64_w, i32_w]
          rfl
         refine pure_ (i := 9) (N := some 63) (v := ?_) (a' := ?_) #[true, true, true, true, true, true, true, true, true, true, false, false, false, false, false, false, false, false, false, false, false, false, false, false, false, false, false, false, false] rfl rfl (zas HT_.out (by kernel_rfl)) (fun _ _ _ h => h) (Or.inl ⟨by rfl, ?_⟩) ?_ ?_
         rotate_left
         ·
          intro w'
          go_simp
          with_reducible rfl
         rotate_left
         ·
          simp only [Act.put, List.setIfInBounds_toArray, List.set_cons_zero, List.set_cons_succ, i64_w, i32_w]
          rfl
         refine pure_ (i := 11) (N := some 65) (v := ?_) (a' := ?_) #[true, true, true, true, true, true, true, true, true, true, false, true, false, false, false, false, false, false, false, false, false, false, false, false, false, false, false, false, false] rfl rfl (zas HT_.out (by kernel_rfl)) (fun _ _ _ h => h) (Or.inl ⟨by rfl, ?_⟩) ?_ ?_
         rotate_left
         ·
          intro w'
          go_simp
          with_reducible rfl
         rotate_left
         ·
          simp only [Act.put, List.setIfInBounds_toArray, List.set_cons_zero, List.set_cons_succ, i64_w, i32_w]
          rfl
         refine pure_ (i := 13) (N := some 67) (v := ?_) (a' := ?_) #[true, true, true, true, true, true, true, true, true, true, false, true, false, true, false, false, false, false, false, false, false, false, false, false, false, false, false, false, false] rfl rfl (zas HT_.out (by kernel_rfl)) (fun _ _ _ h => h) (Or.inl ⟨by rfl, ?_⟩) ?_ ?_
         rotate_left
         ·
          intro w'
          go_simp
          with_reducible rfl
         rotate_left
         ·
          simp only [Act.put, List.setIfInBounds_toArray, List.set_cons_zero, List.set_cons_succ, i64_w, i32_w]
          rfl
         refine pure_ (i := 19) (N := some 73) (v := ?_) (a' := ?_) #[true, true, true, true, true, true, true, true, true, true, false, true, false, true, false, false, false, false, false, true, false, false, false, false, false, false, false, false, false] rfl rfl (zas HT_.out (by kernel_rfl)) (fun _ _ _ h => h) (Or.inl ⟨by rfl, ?_⟩) ?_ ?_
         rotate_left
         ·
          intro w'
          go_simp
          with_reducible rfl
         rotate_left
         ·
          simp only [Act.put, List.setIfInBounds_toArray, List.set_cons_zero, List.set_cons_succ, i64_w, i32_w]
          rfl
         refine pure_ (i := 23) (N := some 77) (v := ?_) (a' := ?_) #[true, true, true, true, true, true, true, true, true, true, false, true, false, true, false, false, false, false, false, true, false, false, false, true, false, false, false, false, false] rfl rfl (zas HT_.out (by kernel_rfl)) (fun _ _ _ h => h) (Or.inl ⟨by rfl, ?_⟩) ?_ ?_
         rotate_left
         ·
          intro w'
          go_simp
          with_reducible rfl
         rotate_left
         ·
          simp only [Act.put, List.setIfInBounds_toArray, List.set_cons_zero, List.set_cons_succ, i64_w, i32_w]
          rfl
         refine take_ (i := 10) (N := some 64) (v := ?_) (a' := ?_) #[true, true, true, true, true, true, true, true, true, true, true, true, false, true, false, false, false, false, false, true, false, false, false, true, false, false, false, false, false] rfl rfl (za1 HT_.out HW_.out (by kernel_rfl)) (fun _ _ _ h => h) (Or.inl ⟨by rfl, ?_⟩) hHeld ?_ ?_
         rotate_left
         ·
          rintro w' ⟨s0, s1, s2, s3, s4, s5, s6, s7⟩
          go_simp
          with_reducible rfl
         rotate_left
         ·
          simp only [Act.put, List.setIfInBounds_toArray, List.set_cons_zero, List.set_cons_succ, i64_w, i32_w]
          rfl
         refine take_ (i := 12) (N := some 66) (v := ?_) (a' := ?_) #[true, true, true, true, true, true, true, true, true, true, true, true, true, true, false, false, false, false, false, true, false, false, false, true, false, false, false, false, false] rfl rfl (za1 HT_.out HW_.out (by kernel_rfl)) (fun _ _ _ h => h) (Or.inl ⟨by rfl, ?_⟩) hHeld ?_ ?_
         rotate_left
         ·
          rintro w' ⟨s0, s1, s2, s3, s4, s5, s6, s7⟩
          go_simp
          with_reducible rfl
         rotate_left
         ·
          simp only [Act.put, List.setIfInBounds_toArray, List.set_cons_zero, List.set_cons_succ, i64_w, i32_w]
          rfl
         refine pure_ (i := 14) (N := some 68) (v := ?_) (a' := ?_) #[true, true, true, true, true, true, true, true, true, true, true, true, true, true, true, false, false, false, false, true, false, false, false, true, false, false, false, false, false] rfl rfl (zas HT_.out (by kernel_rfl)) (fun _ _ _ h => h) (Or.inl ⟨by rfl, ?_⟩) ?_ ?_
         rotate_left
         ·
          intro w'
          go_simp
          with_reducible rfl
         rotate_left
         ·
          simp only [Act.put, List.setIfInBounds_toArray, List.set_cons_zero, List.set_cons_succ, i64_w, i32_w]
          rfl
         refine pure_ (i := 15) (N := some 69) (v := ?_) (a' := ?_) #[true, true, true, true, true, true, true, true, true, true, true, true, true, true, true, true, false, false, false, true, false, false, false, true, false, false, false, false, false] rfl rfl (zas HT_.out (by kernel_rfl)) (fun _ _ _ h => h) (Or.inl ⟨by rfl, ?_⟩) ?_ ?_
         rotate_left
         ·
          intro w'
          go_simp
          with_reducible rfl
         rotate_left
         ·
          simp only [Act.put, List.setIfInBounds_toArray, List.set_cons_zero, List.set_cons_succ, i64_w, i32_w]
          rfl
         refine take_ (i := 16) (N := some 70) (v := ?_) (a' := ?_) #[true, true, true, true, true, true, true, true, true, true, true, true, true, true, true, true, true, false, false, true, false, false, false, true, false, false, false, false, false] rfl rfl (za1 HT_.out HW_.out (by kernel_rfl)) (fun _ _ _ h => h) (Or.inl ⟨by rfl, ?_⟩) hHeld ?_ ?_
         rotate_left
         ·
          rintro w' ⟨s0, s1, s2, s3, s4, s5, s6, s7⟩
          go_simp
          with_reducible rfl
         rotate_left
         ·
          simp only [Act.put, List.setIfInBounds_toArray, List.set_cons_zero, List.set_cons_succ, i64_w, i32_w]
          rfl
         refine take_ (i := 18) (N := some 72) (v := ?_) (a' := ?_) #[true, true, true, true, true, true, true, true, true, true, true, true, true, true, true, true, true, false, true, true, false, false, false, true, false, false, false, false, false] rfl rfl (za1 HT_.out HW_.out (by kernel_rfl)) (fun _ _ _ h => h) (Or.inl ⟨by rfl, ?_⟩) hHeld ?_ ?_
         rotate_left
         ·
          rintro w' ⟨s0, s1, s2, s3, s4, s5, s6, s7⟩
          go_simp
          with_reducible rfl
         rotate_left
         ·
          simp only [Act.put, List.setIfInBounds_toArray, List.set_cons_zero, List.set_cons_succ, i64_w, i32_w]
          rfl
         refine take_ (i := 22) (N := some 76) (v := ?_) (a' := ?_) #[true, true, true, true, true, true, true, true, true, true, true, true, true, true, true, true, true, false, true, true, false, false, true, true, false, false, false, false, false] rfl rfl (za1 HT_.out HW_.out (by kernel_rfl)) (fun _ _ _ h => h) (Or.inl ⟨by rfl, ?_⟩) hHeld ?_ ?_
         rotate_left
         ·
          rintro w' ⟨s0, s1, s2, s3, s4, s5, s6, s7⟩
          go_simp
          with_reducible rfl
         rotate_left
         ·
          simp only [Act.put, List.setIfInBounds_toArray, List.set_cons_zero, List.set_cons_succ, i64_w, i32_w]
          rfl
         refine one_ (i := 17) (N := some 71) #[true, true, true, true, true, true, true, true, true, true, true, true, true, true, true, true, true, true, true, true, false, false, true, true, false, false, false, false, false] rfl rfl (zbk HT_.out (by kernel_rfl)) (by decide) (fun K hK => ?_)
         refine goes_ Try.func43 (by kernel_rfl) rfl #[.agg #[.int .i64 (room : Int), .int .i64 last, .slice (some ad) L.length c], .int .i64 y.f0] (by rfl) rfl rfl (by (try simp only [List.map_toArray, List.map_cons, List.map_nil]); first | done | rfl) ?_
         refine (zaj.calls ky (room : Int) last (some ad) c L y.f0 _ wa (Kd.za3 HC.out (zab HBr.out HBa.out)) Hc.out HKY.out).mono ?_
         rintro e wb ⟨rfl, hb⟩
         refine ⟨_, rfl, ?_⟩
         have HBb : Aside0 (Below wr.heap.size wr wb) := ⟨zab HBa.out hb⟩
         clear hb
         refine hK.out _ _ (HRW.out _ HBb.out) (fun hHeld => ?_)
         clear hK K
         refine norm_ (a' := ?_) ?_ ?_
         rotate_left
         ·
          show Act.put _ (some 71) _ = _
          simp only [Act.put, List.setIfInBounds_toArray, List.set_cons_zero, List.set_cons_succ, i64_w, i32_w]
          rfl
         refine one_ (i := 20) (N := some 74) #[true, true, true, true, true, true, true, true, true, true, true, true, true, true, true, true, true, true, true, true, true, false, true, true, false, false, false, false, false] rfl rfl (zbk HT_.out (by kernel_rfl)) (by decide) (fun K hK => ?_)
         refine goes_ Try.func43 (by kernel_rfl) rfl #[.agg #[.int .i64 (room : Int), .int .i64 last, .slice (some ad) L.length c], .int .i64 g.f0] (by rfl) rfl rfl (by (try simp only [List.map_toArray, List.map_cons, List.map_nil]); first | done | rfl) ?_
         refine (zaj.calls kg (room : Int) last (some ad) c L g.f0 _ wb (Kd.za3 HC.out (zab HBr.out HBb.out)) Hc.out HKG.out).mono ?_
         rintro e wc ⟨rfl, hb⟩
         refine ⟨_, rfl, ?_⟩
         have HBc : Aside0 (Below wr.heap.size wr wc) := ⟨zab HBb.out hb⟩
         clear hb
         refine hK.out _ _ (HRW.out _ HBc.out) (fun hHeld => ?_)
         clear hK K
         refine norm_ (a' := ?_) ?_ ?_
         rotate_left
         ·
          show Act.put _ (some 74) _ = _
          simp only [Act.put, List.setIfInBounds_toArray, List.set_cons_zero, List.set_cons_succ, i64_w, i32_w]
          rfl
         refine pure_ (i := 21) (N := some 75) (v := ?_) (a' := ?_) #[true, true, true, true, true, true, true, true, true, true, true, true, true, true, true, true, true, true, true, true, true, true, true, true, false, false, false, false, false] rfl rfl (zas HT_.out (by kernel_rfl)) (fun _ _ _ h => h) (Or.inl ⟨by rfl, ?_⟩) ?_ ?_
         rotate_left
         ·
          intro w'
          go_simp
          with_reducible rfl
         rotate_left
         ·
          simp only [Act.put, List.setIfInBounds_toArray, List.set_cons_zero, List.set_cons_succ, i64_w, i32_w]
          rfl
         refine one_ (i := 24) (N := some 78) #[true, true, true, true, true, true, true, true, true, true, true, true, true, true, true, true, true, true, true, true, true, true, true, true, true, false, false, false, false] rfl rfl (zbk HT_.out (by kernel_rfl)) (by decide) (fun K hK => ?_)
         refine goes_ Try.func43 (by kernel_rfl) rfl #[.agg #[.int .i64 (room : Int), .int .i64 last, .slice (some ad) L.length c], .int .i64 q.f0] (by rfl) rfl rfl (by (try simp only [List.map_toArray, List.map_cons, List.map_nil]); first | done | rfl) ?_
         refine (zaj.calls kq (room : Int) last (some ad) c L q.f0 _ wc (Kd.za3 HC.out (zab HBr.out HBc.out)) Hc.out HKQ.out).mono ?_
         rintro e wd ⟨rfl, hb⟩
         refine ⟨_, rfl, ?_⟩
         have HBd : Aside0 (Below wr.heap.size wr wd) := ⟨zab HBc.out hb⟩
         clear hb
         refine hK.out _ _ (HRW.out _ HBd.out) (fun hHeld => ?_)
         clear hK K
         refine norm_ (a' := ?_) ?_ ?_
         rotate_left
         ·
          show Act.put _ (some 78) _ = _
          simp only [Act.put, List.setIfInBounds_toArray, List.set_cons_zero, List.set_cons_succ, i64_w, i32_w]
          rfl
         refine pure_ (i := 25) (N := some 79) (v := ?_) (a' := ?_) #[true, true, true, true, true, true, true, true, true, true, true, true, true, true, true, true, true, true, true, true, true, true, true, true, true, true, false, false, false] rfl rfl (zas HT_.out (by kernel_rfl)) (fun _ _ _ h => h) (Or.inl ⟨by rfl, ?_⟩) ?_ ?_
         rotate_left
         ·
          intro w'
          go_simp
          with_reducible rfl
         rotate_left
         ·
          simp only [Act.put, List.setIfInBounds_toArray, List.set_cons_zero, List.set_cons_succ, i64_w, i32_w]
          rfl
         refine pure_ (i := 26) (N := some 80) (v := ?_) (a' := ?_) #[true, true, true, true, true, true, true, true, true, true, true, true, true, true, true, true, true, true, true, true, true, true, true, true, true, true, true, false, false] rfl rfl (zas HT_.out (by kernel_rfl)) (fun _ _ _ h => h) (Or.inl ⟨by rfl, ?_⟩) ?_ ?_
         rotate_left
         ·
          intro w'
          go_simp
          with_reducible rfl
         rotate_left
         ·
          simp only [Act.put, List.setIfInBounds_toArray, List.set_cons_zero, List.set_cons_succ, i64_w, i32_w]
          rfl
         refine pure_ (i := 27) (N := some 81) (v := ?_) (a' := ?_) #[true, true, true, true, true, true, true, true, true, true, true, true, true, true, true, true, true, true, true, true, true, true, true, true, true, true, true, true, false] rfl rfl (zas HT_.out (by kernel_rfl)) (fun _ _ _ h => h) (Or.inl ⟨by rfl, ?_⟩) ?_ ?_
         rotate_left
         ·
          intro w'
          go_simp
          with_reducible rfl
         rotate_left
         ·
          simp only [Act.put, List.setIfInBounds_toArray, List.set_cons_zero, List.set_cons_succ, i64_w, i32_w]
          rfl
         refine pure_ (i := 28) (N := some 82) (v := ?_) (a' := ?_) #[true, true, true, true, true, true, true, true, true, true, true, true, true, true, true, true, true, true, true, true, true, true, true, true, true, true, true, true, true] rfl rfl (zas HT_.out (by kernel_rfl)) (fun _ _ _ h => h) (Or.inl ⟨by rfl, ?_⟩) ?_ ?_
         rotate_left
         ·
          intro w'
          go_simp
          with_reducible rfl
         rotate_left
         ·
          simp only [Act.put, List.setIfInBounds_toArray, List.set_cons_zero, List.set_cons_succ, i64_w, i32_w]
          rfl
         refine done_ (done_of HT_.out (by kernel_rfl)) ?_
         rw [e8]
         by_cases h8 : 8 < ((way L y.f0).length : Int) - (way L g.f0).length + (way L q.f0).length + 1
         ·
          have HA := Aside0.mk (HS3.out.trans (if_pos ⟨y, hym, hbe, h8⟩))
          have d8 : decide (((way L y.f0).length : Int) - (way L g.f0).length + (way L q.f0).length + 1 > 8) = true := decide_eq_true h8
          have hbd := HBd.out
          clear e8 HBa HBb HBc HBd
          have hxd := (hbd.block _ (zao HXr.out)).trans HXr.out
          have hyd := (hbd.block _ (zao HYr.out)).trans HYr.out
          have HBd := Aside0.mk (zab HBr.out hbd)
          have HXd := Aside0.mk hxd
          have HYd := Aside0.mk hyd
          have HVd := Aside0.mk (Kd.zay HVr.out hbd)
          have HQd : Aside0 (QS wd (ad.add (j * 5)) g) := ⟨HQr.out.below hbd⟩
          clear q0 q1 q2 q3 q4
          obtain ⟨q0, q1, q2, q3, q4⟩ := HQd.out
          clear x0 x1 x2 y0 y1 y2 z0 z1 z2 HXr HYr HVr HBr HQr
          have x0 : wd.cell? ⟨w.heap.size, 0, none⟩ = some (.int .i64 (room : Int)) := (za hxd 0).trans rfl
          have x1 : wd.cell? ⟨w.heap.size, 1, none⟩ = some (.int .i64 last) := (za hxd 1).trans rfl
          have x2 : wd.cell? ⟨w.heap.size, 2, none⟩ = some (.slice (some ad) L.length c) := (za hxd 2).trans rfl
          have y0 : wd.cell? ⟨w.heap.size + 1, 0, none⟩ = some (.int .i64 0) := (za hyd 0).trans rfl
          have y1 : wd.cell? ⟨w.heap.size + 1, 1, none⟩ = some (.int .i64 0) := (za hyd 1).trans rfl
          have y2 : wd.cell? ⟨w.heap.size + 1, 2, none⟩ = some (.slice none 0 0) := (za hyd 2).trans rfl
          have z0 := zaa hyd 0
          have z1 := zaa hyd 1
          have z2 := zaa hyd 2
          clear hbd hxd hyd
          go_wp2_with fail
          all_goals try (exfalso; omega)
          obtain ⟨r1, r2, r3⟩ := zbe (room := room) (last := last) (P := P) HBd.out HYd.out HVd.out (fun k hk => ⟨.inl hk.1, by omega⟩)
          rw [HA.out]
          exact bodyPost_ret (zat rfl _ _ (w.heap.size + 1) 44 #[.int .i64 (room : Int), .int .i64 last, .slice (some ad) L.length c] (0, 0) _ rfl r1 Try.underlying44 rfl (by kernel_rfl)) rfl ⟨_, rfl, r2, r3⟩
         ·
          have d8 : decide (((way L y.f0).length : Int) - (way L g.f0).length + (way L q.f0).length + 1 > 8) = false := decide_eq_false h8
          clear e8
          have H8 := Aside0.mk h8
          go_wp2_with fail
          all_goals try (exfalso; omega)
          go_roundg (L.length - (i + 1))
          case measure => omega
          case rel =>
           exact ⟨i + 1, by first | rfl | (simp; done), by omega, ⟨zab (HB7r.out) HBd.out⟩, ⟨fun k hk hkl => by
            by_cases e : k = i
            ·
             subst e
             rw [hy]
             exact fun hh => absurd hh.2 (by have := H8.out; omega)
            ·
             exact HNO.out k (by omega) hkl⟩⟩
        ·
         have HKB1 := Aside0.mk (HKB.out.trans (congrArg some (decide_eq_false hbe)))
         clear HKB
         have HKB := HKB1
         clear HKB1
         go_wp2_with fail
         refine start_ (n := 29) (S := fun w' => w'.cell? ⟨w.heap.size, 0, none⟩ = some (.int .i64 (room : Int)) ∧ w'.cell? ⟨w.heap.size, 1, none⟩ = some (.int .i64 last) ∧ w'.cell? ⟨w.heap.size, 2, none⟩ = some (.slice (some ad) L.length c) ∧ w'.cell? (ad.add (i * 5)) = some (.int .i64 y.f0) ∧ w'.cell? ⟨(ad.add (i * 5)).block, (ad.add (i * 5)).off + 1, none⟩ = some (.int .i64 y.f1) ∧ w'.cell? ⟨(ad.add (i * 5)).block, (ad.add (i * 5)).off + 2, none⟩ = some (.int .i64 y.f2) ∧ w'.cell? ⟨(ad.add (i * 5)).block, (ad.add (i * 5)).off + 3, none⟩ = some (.int .i64 y.f3) ∧ w'.cell? ⟨(ad.add (i * 5)).block, (ad.add (i * 5)).off + 4, none⟩ = some (.int .i64 y.f4)) (ds := []) #[false, false, false, false, false, false, false, false, false, false, false, false, false, false, false, false, false, false, false, false, false, false, false, false, false, false, false, false, false] (by kernel_rfl) rfl rfl (HRW.out _ (Below.refl _ wr).drew) (fun hHeld => ?_); refine zbl mvtab13 mvbits13 (fun HT_ HW_ => ?_)
         refine pure_ (i := 1) (N := some 55) (v := ?_) (a' := ?_) #[false, true, false, false, false, false, false, false, false, false, false, false, false, false, false, false, false, false, false, false, false, false, false, false, false, false, false, false, false] rfl rfl (zas HT_.out (by kernel_rfl)) (fun _ _ _ h => h) (Or.inl ⟨by rfl, ?_⟩) ?_ ?_
         rotate_left
         ·
          intro w'
          go_simp
          with_reducible rfl
         rotate_left
         ·
          simp only [Act.put, List.setIfInBounds_toArray, List.set_cons_zero, List.set_cons_succ, i64_w, i32_w]
          rfl
         refine pure_ (i := 3) (N := some 57) (v := ?_) (a' := ?_) #[false, true, false, true, false, false, false, false, false, false, false, false, false, false, false, false, false, false, false, false, false, false, false, false, false, false, false, false, false] rfl rfl (zas HT_.out (by kernel_rfl)) (fun _ _ _ h => h) (Or.inl ⟨by rfl, ?_⟩) ?_ ?_
         rotate_left
         ·
          intro w'
          go_simp
          with_reducible rfl
         rotate_left
         ·
          simp only [Act.put, List.setIfInBounds_toArray, List.set_cons_zero, List.set_cons_succ, i64_w, i32_w]
          rfl
         refine pure_ (i := 7) (N := some 61) (v := ?_) (a' := ?_) #[false, true, false, true, false, false, false, true, false, false, false, false, false, false, false, false, false, false, false, false, false, false, false, false, false, false, false, false, false] rfl rfl (zas HT_.out (by kernel_rfl)) (fun _ _ _ h => h) (Or.inl ⟨by rfl, ?_⟩) ?_ ?_
         rotate_left
         ·
          intro w'
          go_simp
          with_reducible rfl
         rotate_left
         ·
          simp only [Act.put, List.setIfInBounds_toArray, List.set_cons_zero, List.set_cons_succ, i64_w, i32_w]
          rfl
         refine take_ (i := 0) (N := some 54) (v := ?_) (a' := ?_) #[true, true, false, true, false, false, false, true, false, false, false, false, false, false, false, false, false, false, false, false, false, false, false, false, false, false, false, false, false] rfl rfl (za1 HT_.out HW_.out (by kernel_rfl)) (fun _ _ _ h => h) (Or.inl ⟨by rfl, ?_⟩) hHeld ?_ ?_
         rotate_left
         ·
          rintro w' ⟨s0, s1, s2, s3, s4, s5, s6, s7⟩
          go_simp
          with_reducible rfl
         rotate_left
         ·
          simp only [Act.put, List.setIfInBounds_toArray, List.set_cons_zero, List.set_cons_succ, i64_w, i32_w]
          rfl
         refine take_ (i := 2) (N := some 56) (v := ?_) (a' := ?_) #[true, true, true, true, false, false, false, true, false, false, false, false, false, false, false, false, false, false, false, false, false, false, false, false, false, false, false, false, false] rfl rfl (za1 HT_.out HW_.out (by kernel_rfl)) (fun _ _ _ h => h) (Or.inl ⟨by rfl, ?_⟩) hHeld ?_ ?_
         rotate_left
         ·
          rintro w' ⟨s0, s1, s2, s3, s4, s5, s6, s7⟩
          go_simp
          with_reducible rfl
         rotate_left
         ·
          simp only [Act.put, List.setIfInBounds_toArray, List.set_cons_zero, List.set_cons_succ, i64_w, i32_w]
          rfl
         refine pure_ (i := 4) (N := some 58) (v := ?_) (a' := ?_) #[true, true, true, true, true, false, false, true, false, false, false, false, false, false, false, false, false, false, false, false, false, false, false, false, false, false, false, false, false] rfl rfl (zas HT_.out (by kernel_rfl)) (fun _ _ _ h => h) (Or.inl ⟨by rfl, ?_⟩) ?_ ?_
         rotate_left
         ·
          intro w'
          go_simp
          with_reducible rfl
         rotate_left
         ·
          simp only [Act.put, List.setIfInBounds_toArray, List.set_cons_zero, List.set_cons_succ, i64_w, i32_w]
          rfl
         refine pure_ (i := 5) (N := some 59) (v := ?_) (a' := ?_) #[true, true, true, true, true, true, false, true, false, false, false, false, false, false, false, false, false, false, false, false, false, false, false, false, false, false, false, false, false] rfl rfl (zas HT_.out (by kernel_rfl)) (fun _ _ _ h => h) (Or.inl ⟨by rfl, ?_⟩) ?_ ?_
         rotate_left
         ·
          intro w'
          go_simp
          with_reducible rfl
         rotate_left
         ·
          simp only [Act.put, List.setIfInBounds_toArray, List.set_cons_zero, List.set_cons_succ, i64_w, i32_w]
          rfl
         refine take_ (i := 6) (N := some 60) (v := ?_) (a' := ?_) #[true, true, true, true, true, true, true, true, false, false, false, false, false, false, false, false, false, false, false, false, false, false, false, false, false, false, false, false, false] rfl rfl (za1 HT_.out HW_.out (by kernel_rfl)) (fun _ _ _ h => h) (Or.inl ⟨by rfl, ?_⟩) hHeld ?_ ?_
         rotate_left
         ·
          rintro w' ⟨s0, s1, s2, s3, s4, s5, s6, s7⟩
          go_simp
          with_reducible rfl
         rotate_left
         ·
          simp only [Act.put, List.setIfInBounds_toArray, List.set_cons_zero, List.set_cons_succ, i64_w, i32_w]
          rfl
         refine one_ (i := 8) (N := some 62) #[true, true, true, true, true, true, true, true, true, false, false, false, false, false, false, false, false, false, false, false, false, false, false, false, false, false, false, false, false] rfl rfl (zbk HT_.out (by kernel_rfl)) (by decide) (fun K hK => ?_)
         refine goes_ Try.func58 (by kernel_rfl) rfl #[.agg #[.int .i64 (room : Int), .int .i64 last, .slice (some ad) L.length c], .int .i64 y.f0, .int .i64 g.f0] (by rfl) rfl rfl (by (try simp only [List.map_toArray, List.map_cons, List.map_nil]); first | done | rfl) ?_
         refine (zan.calls kb (room : Int) last (some ad) c L y.f0 g.f0 _ wr.drew (Kd.za3 HC.out (zab HBr.out (Below.refl wr.heap.size wr).drew)) Hc.out HKB.out).mono ?_
         rintro e wa ⟨rfl, hb⟩
         refine ⟨_, rfl, ?_⟩
         have HBa : Aside0 (Below wr.heap.size wr wa) := ⟨zab (Below.refl wr.heap.size wr).drew hb⟩
         clear hb
         refine hK.out _ _ (HRW.out _ HBa.out) (fun hHeld => ?_)
         clear hK K
         refine norm_ (a' := ?_) ?_ ?_
         rotate_left
         ·
          show Act.put _ (some 62) _ = _
          simp only [Act.put, List.setIfInBounds_toArray, List.set_cons_zero, List.set_cons_succ, i64_w, i32_w]
          rfl
         refine pure_ (i := 9) (N := some 63) (v := ?_) (a' := ?_) #[true, true, true, true, true, true, true, true, true, true, false, false, false, false, false, false, false, false, false, false, false, false, false, false, false, false, false, false, false] rfl rfl (zas HT_.out (by kernel_rfl)) (fun _ _ _ h => h) (Or.inl ⟨by rfl, ?_⟩) ?_ ?_
         rotate_left
         ·
          intro w'
          go_simp
          with_reducible rfl
         rotate_left
         ·
          simp only [Act.put, List.setIfInBounds_toArray, List.set_cons_zero, List.set_cons_succ, i64_w, i32_w]
          rfl
         refine pure_ (i := 10) (N := some 64) (v := undef) (a' := ?_) #[true, true, true, true, true, true, true, true, true, true, true, false, false, false, false, false, false, false, false, false, false, false, false, false, false, false, false, false, false] rfl rfl (zas HT_.out (by kernel_rfl)) (fun _ _ _ h => h) (Or.inr ⟨by rfl, rfl⟩) ?_ ?_
         rotate_left
         ·
          simp only [Act.put, List.setIfInBounds_toArray, List.set_cons_zero, List.set_cons_succ, i64_w, i32_w]
          rfl
         refine pure_ (i := 11) (N := some 65) (v := undef) (a' := ?_) #[true, true, true, true, true, true, true, true, true, true, true, true, false, false, false, false, false, false, false, false, false, false, false, false, false, false, false, false, false] rfl rfl (zas HT_.out (by kernel_rfl)) (fun _ _ _ h => h) (Or.inr ⟨by rfl, rfl⟩) ?_ ?_
         rotate_left
         ·
          simp only [Act.put, List.setIfInBounds_toArray, List.set_cons_zero, List.set_cons_succ, i64_w, i32_w]
          rfl
         refine pure_ (i := 12) (N := some 66) (v := undef) (a' := ?_) #[true, true, true, true, true, true, true, true, true, true, true, true, true, false, false, false, false, false, false, false, false, false, false, false, false, false, false, false, false] rfl rfl (zas HT_.out (by kernel_rfl)) (fun _ _ _ h => h) (Or.inr ⟨by rfl, rfl⟩) ?_ ?_
         rotate_left
         ·
          simp only [Act.put, List.setIfInBounds_toArray, List.set_cons_zero, List.set_cons_succ, i64_w, i32_w]
          rfl
         refine pure_ (i := 13) (N := some 67) (v := undef) (a' := ?_) #[true, true, true, true, true, true, true, true, true, true, true, true, true, true, false, false, false, false, false, false, false, false, false, false, false, false, false, false, false] rfl rfl (zas HT_.out (by kernel_rfl)) (fun _ _ _ h => h) (Or.inr ⟨by rfl, rfl⟩) ?_ ?_
         rotate_left
         ·
          simp only [Act.put, List.setIfInBounds_toArray, List.set_cons_zero, List.set_cons_succ, i64_w, i32_w]
          rfl
         refine pure_ (i := 14) (N := some 68) (v := undef) (a' := ?_) #[true, true, true, true, true, true, true, true, true, true, true, true, true, true, true, false, false, false, false, false, false, false, false, false, false, false, false, false, false] rfl rfl (zas HT_.out (by kernel_rfl)) (fun _ _ _ h => h) (Or.inr ⟨by rfl, rfl⟩) ?_ ?_
         rotate_left
         ·
          simp only [Act.put, List.setIfInBounds_toArray, List.set_cons_zero, List.set_cons_succ, i64_w, i32_w]
          rfl
         refine pure_ (i := 15) (N := some 69) (v := undef) (a' := ?_) #[true, true, true, true, true, true, true, true, true, true, true, true, true, true, true, true, false, false, false, false, false, false, false, false, false, false, false, false, false] rfl rfl (zas HT_.out (by kernel_rfl)) (fun _ _ _ h => h) (Or.inr ⟨by rfl, rfl⟩) ?_ ?_
         rotate_left
         ·
          simp only [Act.put, List.setIfInBounds_toArray, List.set_cons_zero, List.set_cons_succ, i64_w, i32_w]
          rfl
         refine pure_ (i := 16) (N := some 70) (v := undef) (a' := ?_) #[true, true, true, true, true, true, true, true, true, true, true, true, true, true, true, true, true, false, false, false, false, false, false, false, false, false, false, false, false] rfl rfl (zas HT_.out (by kernel_rfl)) (fun _ _ _ h => h) (Or.inr ⟨by rfl, rfl⟩) ?_ ?_
         rotate_left
         ·
          simp only [Act.put, List.setIfInBounds_toArray, List.set_cons_zero, List.set_cons_succ, i64_w, i32_w]
          rfl
         refine pure_ (i := 17) (N := some 71) (v := undef) (a' := ?_) #[true, true, true, true, true, true, true, true, true, true, true, true, true, true, true, true, true, true, false, false, false, false, false, false, false, false, false, false, false] rfl rfl (zas HT_.out (by kernel_rfl)) (fun _ _ _ h => h) (Or.inr ⟨by rfl, rfl⟩) ?_ ?_
         rotate_left
         ·
          simp only [Act.put, List.setIfInBounds_toArray, List.set_cons_zero, List.set_cons_succ, i64_w, i32_w]
          rfl
         refine pure_ (i := 18) (N := some 72) (v := undef) (a' := ?_) #[true, true, true, true, true, true, true, true, true, true, true, true, true, true, true, true, true, true, true, false, false, false, false, false, false, false, false, false, false] rfl rfl (zas HT_.out (by kernel_rfl)) (fun _ _ _ h => h) (Or.inr ⟨by rfl, rfl⟩) ?_ ?_
         rotate_left
         ·
          simp only [Act.put, List.setIfInBounds_toArray, List.set_cons_zero, List.set_cons_succ, i64_w, i32_w]
          rfl
         refine pure_ (i := 19) (N := some 73) (v := undef) (a' := ?_) #[true, true, true, true, true, true, true, true, true, true, true, true, true, true, true, true, true, true, true, true, false, false, false, false, false, false, false, false, false] rfl rfl (zas HT_.out (by kernel_rfl)) (fun _ _ _ h => h) (Or.inr ⟨by rfl, rfl⟩) ?_ ?_
         rotate_left
         ·
          simp only [Act.put, List.setIfInBounds_toArray, List.set_cons_zero, List.set_cons_succ, i64_w, i32_w]
          rfl
         refine pure_ (i := 20) (N := some 74) (v := undef) (a' := ?_) #[true, true, true, true, true, true, true, true, true, true, true, true, true, true, true, true, true, true, true, true, true, false, false, false, false, false, false, false, false] rfl rfl (zas HT_.out (by kernel_rfl)) (fun _ _ _ h => h) (Or.inr ⟨by rfl, rfl⟩) ?_ ?_
         rotate_left
         ·
          simp only [Act.put, List.setIfInBounds_toArray, List.set_cons_zero, List.set_cons_succ, i64_w, i32_w]
          rfl
         refine pure_ (i := 21) (N := some 75) (v := undef) (a' := ?_) #[true, true, true, true, true, true, true, true, true, true, true, true, true, true, true, true, true, true, true, true, true, true, false, false, false, false, false, false, false] rfl rfl (zas HT_.out (by kernel_rfl)) (fun _ _ _ h => h) (Or.inr ⟨by rfl, rfl⟩) ?_ ?_
         rotate_left
         ·
          simp only [Act.put, List.setIfInBounds_toArray, List.set_cons_zero, List.set_cons_succ, i64_w, i32_w]
          rfl
         refine pure_ (i := 22) (N := some 76) (v := undef) (a' := ?_) #[true, true, true, true, true, true, true, true, true, true, true, true, true, true, true, true, true, true, true, true, true, true, true, false, false, false, false, false, false] rfl rfl (zas HT_.out (by kernel_rfl)) (fun _ _ _ h => h) (Or.inr ⟨by rfl, rfl⟩) ?_ ?_
         rotate_left
         ·
          simp only [Act.put, List.setIfInBounds_toArray, List.set_cons_zero, List.set_cons_succ, i64_w, i32_w]
          rfl
         refine pure_ (i := 23) (N := some 77) (v := undef) (a' := ?_) #[true, true, true, true, true, true, true, true, true, true, true, true, true, true, true, true, true, true, true, true, true, true, true, true, false, false, false, false, false] rfl rfl (zas HT_.out (by kernel_rfl)) (fun _ _ _ h => h) (Or.inr ⟨by rfl, rfl⟩) ?_ ?_
         rotate_left
         ·
          simp only [Act.put, List.setIfInBounds_toArray, List.set_cons_zero, List.set_cons_succ, i64_w, i32_w]
          rfl
         refine pure_ (i := 24) (N := some 78) (v := undef) (a' := ?_) #[true, true, true, true, true, true, true, true, true, true, true, true, true, true, true, true, true, true, true, true, true, true, true, true, true, false, false, false, false] rfl rfl (zas HT_.out (by kernel_rfl)) (fun _ _ _ h => h) (Or.inr ⟨by rfl, rfl⟩) ?_ ?_
         rotate_left
         ·
          simp only [Act.put, List.setIfInBounds_toArray, List.set_cons_zero, List.set_cons_succ, i64_w, i32_w]
          rfl
         refine pure_ (i := 25) (N := some 79) (v := undef) (a' := ?_) #[true, true, true, true, true, true, true, true, true, true, true, true, true, true, true, true, true, true, true, true, true, true, true, true, true, true, false, false, false] rfl rfl (zas HT_.out (by kernel_rfl)) (fun _ _ _ h => h) (Or.inr ⟨by rfl, rfl⟩) ?_ ?_
         rotate_left
         ·
          simp only [Act.put, List.setIfInBounds_toArray, List.set_cons_zero, List.set_cons_succ, i64_w, i32_w]
          rfl
         refine pure_ (i := 26) (N := some 80) (v := undef) (a' := ?_) #[true, true, true, true, true, true, true, true, true, true, true, true, true, true, true, true, true, true, true, true, true, true, true, true, true, true, true, false, false] rfl rfl (zas HT_.out (by kernel_rfl)) (fun _ _ _ h => h) (Or.inr ⟨by rfl, rfl⟩) ?_ ?_
         rotate_left
         ·
          simp only [Act.put, List.setIfInBounds_toArray, List.set_cons_zero, List.set_cons_succ, i64_w, i32_w]
          rfl
         refine pure_ (i := 27) (N := some 81) (v := undef) (a' := ?_) #[true, true, true, true, true, true, true, true, true, true, true, true, true, true, true, true, true, true, true, true, true, true, true, true, true, true, true, true, false] rfl rfl (zas HT_.out (by kernel_rfl)) (fun _ _ _ h => h) (Or.inr ⟨by rfl, rfl⟩) ?_ ?_
         rotate_left
         ·
          simp only [Act.put, List.setIfInBounds_toArray, List.set_cons_zero, List.set_cons_succ, i64_w, i32_w]
          rfl
         refine pure_ (i := 28) (N := some 82) (v := ?_) (a' := ?_) #[true, true, true, true, true, true, true, true, true, true, true, true, true, true, true, true, true, true, true, true, true, true, true, true, true, true, true, true, true] rfl rfl (zas HT_.out (by kernel_rfl)) (fun _ _ _ h => h) (Or.inl ⟨by rfl, ?_⟩) ?_ ?_
         rotate_left
         ·
          intro w'
          go_simp
          with_reducible rfl
         rotate_left
         ·
          simp only [Act.put, List.setIfInBounds_toArray, List.set_cons_zero, List.set_cons_succ, i64_w, i32_w]
          rfl
         refine done_ (done_of HT_.out (by kernel_rfl)) ?_
         go_wp2_with fail
         go_roundg (L.length - (i + 1))
         case measure => omega
         case rel =>
          exact ⟨i + 1, by first | rfl | (simp; done), by omega, ⟨zab (HB7r.out) HBa.out⟩, ⟨fun k hk hkl => by
           by_cases e : k = i
           ·
            subst e
            rw [hy]
            exact fun hh => hbe hh.1
           ·
            exact HNO.out k (by omega) hkl⟩⟩
       ·
        have HS4 := Aside0.mk (HS3.out.trans (if_neg (fun hh => by
         obtain ⟨y, hym, h1, h2⟩ := hh
         obtain ⟨k, hk, e⟩ := List.getElem_of_mem hym
         subst e
         exact HNO.out k (by omega) hk ⟨h1, h2⟩)))
        have i1 : decide ((i : Int) < (L.length : Int)) = false := decide_eq_false (by omega)
        by_cases hpp : g.f1 = q.f0
        ·
         have HS5 := Aside0.mk (HS4.out.trans (if_neg (fun hh => hh.1 hpp)))
         have d4 : (g.f1 != q.f0) = false := bne_eq_false_iff_eq.mpr hpp
         have HA := HS5
         have u0 : (wr.alloc (.cells #[.int .i64 g.f0, .int .i64 q.f0, .int .i64 g.f2, .int .i64 g.f3, .int .i64 g.f4] 84)).cell? ⟨w.heap.size, 0, none⟩ = some (Value.int .i64 (room : Int)) := (za (zac HXr.out (.cells #[.int .i64 g.f0, .int .i64 q.f0, .int .i64 g.f2, .int .i64 g.f3, .int .i64 g.f4] 84)) 0).trans rfl
         have u1 : (wr.alloc (.cells #[.int .i64 g.f0, .int .i64 q.f0, .int .i64 g.f2, .int .i64 g.f3, .int .i64 g.f4] 84)).cell? ⟨w.heap.size, 1, none⟩ = some (Value.int .i64 last) := (za (zac HXr.out (.cells #[.int .i64 g.f0, .int .i64 q.f0, .int .i64 g.f2, .int .i64 g.f3, .int .i64 g.f4] 84)) 1).trans rfl
         have u2 : (wr.alloc (.cells #[.int .i64 g.f0, .int .i64 q.f0, .int .i64 g.f2, .int .i64 g.f3, .int .i64 g.f4] 84)).cell? ⟨w.heap.size, 2, none⟩ = some (Value.slice (some ad) L.length c) := (za (zac HXr.out (.cells #[.int .i64 g.f0, .int .i64 q.f0, .int .i64 g.f2, .int .i64 g.f3, .int .i64 g.f4] 84)) 2).trans rfl
         have HBn := Aside0.mk (zaf HBr.out (.cells #[.int .i64 g.f0, .int .i64 q.f0, .int .i64 g.f2, .int .i64 g.f3, .int .i64 g.f4] 84))
         have HYn := Aside0.mk (zac HYr.out (.cells #[.int .i64 g.f0, .int .i64 q.f0, .int .i64 g.f2, .int .i64 g.f3, .int .i64 g.f4] 84))
         have HVn := Aside0.mk (Kd.zbg HVr.out (.cells #[.int .i64 g.f0, .int .i64 q.f0, .int .i64 g.f2, .int .i64 g.f3, .int .i64 g.f4] 84))
         have hset := setp_f (by omega) (room : Int) last hj g.f0 q.f0 g.f2 g.f3 g.f4
         rw [set_setG HG.out.2.2.2.2.1 HJG.out (fun g => ⟨g.f0, q.f0, g.f2, g.f3, g.f4⟩)] at hset
         have HSet := Aside0.mk hset
         clear hset
         go_wp2_with fail
         go_at_call 59
         refine (za7.calls (room : Int) last (some ad) c L (j : Int) g.f0 q.f0 g.f2 g.f3 g.f4 (room : Int) last _ _ (Kd.za3 HC.out HBn.out) Hc.out HSet.out).mono ?_
         rintro e w5 ⟨u9, rfl, hu, hb5⟩
         obtain ⟨A', c', rfl⟩ := Kd.zbx hu
         have hV5 : Kd.V k84 84 w5 0 (fun k => wr.heap.size ≤ k) (.slice A' _ c') _ := Kd.R_V (Kd.zbf (Kd.zbw hu) (fun k hk => by have := hk.2.1; simp at this; omega))
         have hy5 := (hb5.block _ (zao HYn.out)).trans HYn.out
         have HB5 := Aside0.mk (zab HBn.out hb5)
         have y0 : w5.cell? ⟨w.heap.size + 1, 0, none⟩ = some (.int .i64 0) := (za hy5 0).trans rfl
         have y1 : w5.cell? ⟨w.heap.size + 1, 1, none⟩ = some (.int .i64 0) := (za hy5 1).trans rfl
         have y2 : w5.cell? ⟨w.heap.size + 1, 2, none⟩ = some (.slice none 0 0) := (za hy5 2).trans rfl
         have z0 := zaa hy5 0
         have z1 := zaa hy5 1
         have z2 := zaa hy5 2
         have HY5 := Aside0.mk hy5
         have HV5 := Aside0.mk hV5
         have hsz3 := HBr.out.size
         have hsy := zao HYr.out
         clear hu hb5 hy5 hV5
         go_wp2_with fail
         obtain ⟨r1, r2, r3⟩ := zbe (room := room) (last := last) (P := P) HB5.out HY5.out HV5.out (fun k hk => ⟨.inr (by omega), by omega⟩)
         rw [HA.out]
         exact bodyPost_ret (zat rfl _ _ (w.heap.size + 1) 44 #[.int .i64 (room : Int), .int .i64 last, .slice A' _ c'] (0, 0) _ rfl r1 Try.underlying44 rfl (by kernel_rfl)) rfl ⟨_, rfl, r2, r3⟩
        ·
         have d4 : (g.f1 != q.f0) = true := bne_iff_ne.mpr hpp
         obtain ⟨kf, hkf⟩ := (fan_f HG.out HMQ.out (room : Int) last).get
         have HKF := Aside0.mk hkf
         clear hkf
         go_wp2_with fail
         refine (zau.calls kf (room : Int) last (some ad) c L _ _ wr (Kd.za3 HC.out HBr.out) Hc.out HKF.out).mono ?_
         rintro e w8 ⟨rfl, hb8⟩
         have hx8 := (hb8.block _ (zao HXr.out)).trans HXr.out
         have hy8 := (hb8.block _ (zao HYr.out)).trans HYr.out
         have HB8 := Aside0.mk (zab HBr.out hb8)
         have HX8 := Aside0.mk hx8
         have HY8 := Aside0.mk hy8
         have HV8 := Aside0.mk (Kd.zay HVr.out hb8)
         have HQ8 : Aside0 (QS w8 (ad.add (j * 5)) g) := ⟨HQr.out.below hb8⟩
         clear q0 q1 q2 q3 q4
         obtain ⟨q0, q1, q2, q3, q4⟩ := HQ8.out
         clear x0 x1 x2 y0 y1 y2 z0 z1 z2 HXr HYr HVr HBr HQr
         have x0 : w8.cell? ⟨w.heap.size, 0, none⟩ = some (.int .i64 (room : Int)) := (za hx8 0).trans rfl
         have x1 : w8.cell? ⟨w.heap.size, 1, none⟩ = some (.int .i64 last) := (za hx8 1).trans rfl
         have x2 : w8.cell? ⟨w.heap.size, 2, none⟩ = some (.slice (some ad) L.length c) := (za hx8 2).trans rfl
         have y0 : w8.cell? ⟨w.heap.size + 1, 0, none⟩ = some (.int .i64 0) := (za hy8 0).trans rfl
         have y1 : w8.cell? ⟨w.heap.size + 1, 1, none⟩ = some (.int .i64 0) := (za hy8 1).trans rfl
         have y2 : w8.cell? ⟨w.heap.size + 1, 2, none⟩ = some (.slice none 0 0) := (za hy8 2).trans rfl
         have z0 := zaa hy8 0
         have z1 := zaa hy8 1
         have z2 := zaa hy8 2
         clear hb8 hx8 hy8
         by_cases hfan : kid L q.f0 + q.f3 = 32
         ·
          have HA := Aside0.mk (HS4.out.trans (if_pos ⟨hpp, hfan⟩))
          have d6 : (kid L q.f0 + q.f3 == 32) = true := beq_iff_eq.mpr hfan
          go_wp2_with fail
          obtain ⟨r1, r2, r3⟩ := zbe (room := room) (last := last) (P := P) HB8.out HY8.out HV8.out (fun k hk => ⟨.inl hk.1, by omega⟩)
          rw [HA.out]
          exact bodyPost_ret (zat rfl _ _ (w.heap.size + 1) 44 #[.int .i64 (room : Int), .int .i64 last, .slice (some ad) L.length c] (0, 0) _ rfl r1 Try.underlying44 rfl (by kernel_rfl)) rfl ⟨_, rfl, r2, r3⟩
         ·
          have HA := Aside0.mk (HS4.out.trans (if_neg (fun hh => hfan hh.2)))
          have d6 : (kid L q.f0 + q.f3 == 32) = false := beq_eq_false_iff_ne.mpr hfan
          have u0 : (w8.alloc (.cells #[.int .i64 g.f0, .int .i64 q.f0, .int .i64 g.f2, .int .i64 g.f3, .int .i64 g.f4] 84)).cell? ⟨w.heap.size, 0, none⟩ = some (Value.int .i64 (room : Int)) := (za (zac HX8.out (.cells #[.int .i64 g.f0, .int .i64 q.f0, .int .i64 g.f2, .int .i64 g.f3, .int .i64 g.f4] 84)) 0).trans rfl
          have u1 : (w8.alloc (.cells #[.int .i64 g.f0, .int .i64 q.f0, .int .i64 g.f2, .int .i64 g.f3, .int .i64 g.f4] 84)).cell? ⟨w.heap.size, 1, none⟩ = some (Value.int .i64 last) := (za (zac HX8.out (.cells #[.int .i64 g.f0, .int .i64 q.f0, .int .i64 g.f2, .int .i64 g.f3, .int .i64 g.f4] 84)) 1).trans rfl
          have u2 : (w8.alloc (.cells #[.int .i64 g.f0, .int .i64 q.f0, .int .i64 g.f2, .int .i64 g.f3, .int .i64 g.f4] 84)).cell? ⟨w.heap.size, 2, none⟩ = some (Value.slice (some ad) L.length c) := (za (zac HX8.out (.cells #[.int .i64 g.f0, .int .i64 q.f0, .int .i64 g.f2, .int .i64 g.f3, .int .i64 g.f4] 84)) 2).trans rfl
          have HBn := Aside0.mk (zaf HB8.out (.cells #[.int .i64 g.f0, .int .i64 q.f0, .int .i64 g.f2, .int .i64 g.f3, .int .i64 g.f4] 84))
          have HYn := Aside0.mk (zac HY8.out (.cells #[.int .i64 g.f0, .int .i64 q.f0, .int .i64 g.f2, .int .i64 g.f3, .int .i64 g.f4] 84))
          have HVn := Aside0.mk (Kd.zbg HV8.out (.cells #[.int .i64 g.f0, .int .i64 q.f0, .int .i64 g.f2, .int .i64 g.f3, .int .i64 g.f4] 84))
          have hset := setp_f (by omega) (room : Int) last hj g.f0 q.f0 g.f2 g.f3 g.f4
          rw [set_setG HG.out.2.2.2.2.1 HJG.out (fun g => ⟨g.f0, q.f0, g.f2, g.f3, g.f4⟩)] at hset
          have HSet := Aside0.mk hset
          clear hset
          go_wp2_with fail
          go_at_call 59
          refine (za7.calls (room : Int) last (some ad) c L (j : Int) g.f0 q.f0 g.f2 g.f3 g.f4 (room : Int) last _ _ (Kd.za3 HC.out HBn.out) Hc.out HSet.out).mono ?_
          rintro e w5 ⟨u9, rfl, hu, hb5⟩
          obtain ⟨A', c', rfl⟩ := Kd.zbx hu
          have hV5 : Kd.V k84 84 w5 0 (fun k => w8.heap.size ≤ k) (.slice A' _ c') _ := Kd.R_V (Kd.zbf (Kd.zbw hu) (fun k hk => by have := hk.2.1; simp at this; omega))
          have hy5 := (hb5.block _ (zao HYn.out)).trans HYn.out
          have HB5 := Aside0.mk (zab HBn.out hb5)
          have y0 : w5.cell? ⟨w.heap.size + 1, 0, none⟩ = some (.int .i64 0) := (za hy5 0).trans rfl
          have y1 : w5.cell? ⟨w.heap.size + 1, 1, none⟩ = some (.int .i64 0) := (za hy5 1).trans rfl
          have y2 : w5.cell? ⟨w.heap.size + 1, 2, none⟩ = some (.slice none 0 0) := (za hy5 2).trans rfl
          have z0 := zaa hy5 0
          have z1 := zaa hy5 1
          have z2 := zaa hy5 2
          have HY5 := Aside0.mk hy5
          have HV5 := Aside0.mk hV5
          have hsz3 := HB8.out.size
          have hsy := zao HY8.out
          clear hu hb5 hy5 hV5
          go_wp2_with fail
          obtain ⟨r1, r2, r3⟩ := zbe (room := room) (last := last) (P := P) HB5.out HY5.out HV5.out (fun k hk => ⟨.inr (by omega), by omega⟩)
          rw [HA.out]
          exact bodyPost_ret (zat rfl _ _ (w.heap.size + 1) 44 #[.int .i64 (room : Int), .int .i64 last, .slice A' _ c'] (0, 0) _ rfl r1 Try.underlying44 rfl (by kernel_rfl)) rfl ⟨_, rfl, r2, r3⟩
    ·
     have HA := Aside0.mk (HS1.out.trans (if_pos hrr))
     have d2 : (rootG L g.f0 != rootG L q.f0) = true := bne_iff_ne.mpr hrr
     go_wp2_with fail
     obtain ⟨r1, r2, r3⟩ := zbe (room := room) (last := last) (P := P) HB6.out HY6.out HV6.out (fun k hk => ⟨.inl hk.1, by omega⟩)
     rw [HA.out]
     exact bodyPost_ret (zat rfl _ _ (w.heap.size + 1) 44 #[.int .i64 (room : Int), .int .i64 last, .slice (some ad) L.length c] (0, 0) _ rfl r1 Try.underlying44 rfl (by kernel_rfl)) rfl ⟨_, rfl, r2, r3⟩
end Go.Proofs.Ytlmjdchcgfpngaa.P
end
section
namespace Go.Proofs.Ytlmjdchcgfpngaa.P
open Go.RowKit Go.Proofs.YtlmjdchcgfpngaaW.PrintWords Go.Proofs.YtlmjdchcgfpngaaW.PrintLast Go.Proofs.YtlmjdchcgfpngaaW.PrintMore
attribute [local go_sem] zbq zbo max_two min_two zbh zbi zbp zbn
def ForS (S : Nat → Prop) (w : World) (fb n room : Nat) (last : Int) (L : List S84) : Prop := ∃ tb ts m nb, FAt w fb tb ts m nb n room last L ∧ (∀ k, FS fb tb ts m nb L k → S k) ∧ ∀ k, S k → k < w.heap.size
def StepS (S : Nat → Prop) (w w' : World) (fb n room : Nat) (last : Int) (L : List S84) : Prop := ∃ S' : Nat → Prop, ForS S' w' fb n room last L ∧ (∀ k, S k → S' k) ∧ (∀ k, S' k → S k ∨ w.heap.size ≤ k) ∧ Wr S w w'
section
variable {S : Nat → Prop} {w w' : World} {fb n room : Nat} {last : Int} {L : List S84}
theorem ForS.keep (h : ForS S w fb n room last L) (hb : Below w.heap.size w w') : ForS S w' fb n room last L := by
 obtain ⟨tb, ts, m, nb, h1, h2, h3⟩ := h
 exact ⟨tb, ts, m, nb, h1.keep hb, h2, fun k hk => Nat.lt_of_lt_of_le (h3 k hk) hb.size⟩
theorem ForS.blocks (h : ForS S w fb n room last L) (he : ∀ k, S k → w'.heap[k]? = w.heap[k]?) (hs : w.heap.size ≤ w'.heap.size) : ForS S w' fb n room last L := by
 obtain ⟨tb, ts, m, nb, h1, h2, h3⟩ := h
 exact ⟨tb, ts, m, nb, h1.blocks fun k hk => he k (h2 k hk), h2, fun k hk => Nat.lt_of_lt_of_le (h3 k hk) hs⟩
theorem ForS.other (h : ForS S w fb n room last L) {p : Addr} (hp : ¬ S p.block) (u : Value) : ForS S (w.setCell p u) fb n room last L :=
 h.blocks (fun k hk => Below.heap_setCell w p u k fun e => hp (e ▸ hk)) (by simp)
theorem ForS.drew (h : ForS S w fb n room last L) : ForS S w.drew fb n room last L := h
theorem ForS.up {n' : Nat} (h : ForS S w fb n room last L) (hn : n ≤ n') : ForS S w fb n' room last L := by
 obtain ⟨tb, ts, m, nb, h1, h2, h3⟩ := h
 exact ⟨tb, ts, m, nb, h1.mono hn, h2, h3⟩
theorem ForS.forB (h : ForS S w fb n room last L) : ForB 0 w fb n room last L := by
 obtain ⟨tb, ts, m, nb, h1, _, _⟩ := h
 exact ⟨tb, ts, m, nb, h1, fun _ _ => Nat.zero_le _, Nat.zero_le _⟩
theorem ForS.step {tb ts m : Nat} {nb nb' : Int → Nat} {L' : List S84} {last' : Int} {n' : Nat} (h2 : ∀ k, FS fb tb ts m nb L k → S k) (h3 : ∀ k, S k → k < w.heap.size) (hF : FAt w' fb tb ts m nb' n' room last' L') (hW : Wr (FS fb tb ts m nb L) w w') (hS : ∀ k, FS fb tb ts m nb' L' k → FS fb tb ts m nb L k ∨ w.heap.size ≤ k) : StepS S w w' fb n' room last' L' := by
 refine ⟨fun k => S k ∨ (w.heap.size ≤ k ∧ FS fb tb ts m nb' L' k), ⟨tb, ts, m, nb', hF, fun k hk => (hS k hk).elim (fun h => .inl (h2 k h)) (fun h => .inr ⟨h, hk⟩), fun k hk => hk.elim (fun h => Nat.lt_of_lt_of_le (h3 k h) hW.size) fun h => hF.lt h.2⟩, fun k hk => .inl hk, fun k hk => hk.elim .inl fun h => .inr h.1, hW.mono h2⟩
theorem StepS.of_same {tb ts m : Nat} {nb : Int → Nat} {L' : List S84} (h2 : ∀ k, FS fb tb ts m nb L k → S k) (h3 : ∀ k, S k → k < w.heap.size) (hid : L'.map (·.f0) = L.map (·.f0)) (hF : FAt w' fb tb ts m nb n room last L') (hW : Wr (FS fb tb ts m nb L) w w') : StepS S w w' fb n room last L' :=
 ForS.step h2 h3 hF hW fun k hk => .inl (FS.same hid hk)
theorem StepS.up {n' : Nat} (h : StepS S w w' fb n room last L) (hn : n ≤ n') : StepS S w w' fb n' room last L := by
 obtain ⟨S', h1, h2⟩ := h
 exact ⟨S', h1.up hn, h2⟩
theorem forS_New (m : Nat) (h1 : 1 ≤ m) (h2 : m ≤ 64) (w : World) :
  Calls Try.prog 9 #[.int .i64 (m : Int)] w fun e w' => ∃ fb, e = .returned (.tuple #[.pointer (some ⟨fb, 0, none⟩), .int .i64 0]) ∧ (∃ S, ForS S w' fb 0 m 0 [] ∧ ∀ k, S k → w.heap.size ≤ k) ∧ Below w.heap.size w w' := by
 refine (forest_New_ok m h1 h2 w).mono ?_
 rintro e w' ⟨fb, tb, ts, mb, rfl, b1, b2, b3, b4, hF, hW⟩
 refine ⟨fb, rfl, ⟨FS fb tb ts mb (fun _ => 0) [], ⟨tb, ts, mb, _, hF, fun k hk => hk, fun k hk => hF.lt hk⟩, ?_⟩, hW⟩
 rintro k (rfl | rfl | rfl | rfl | ⟨g, hg, _⟩)
 ·
  exact b1
 ·
  exact b2
 ·
  exact b3
 ·
  exact b4
 ·
  cases hg
theorem forS_Root (h : ForS S w fb n room last L) (hG : GoodF room last L) (hnn : n < 1000000) :
  Calls Try.prog 10 #[.pointer (some ⟨fb, 0, none⟩)] w fun e w' => e = .returned (.tuple #[.int .i64 (rootF room last L).2.2.1, .int .i64 (rootF room last L).2.2.2]) ∧ StepS S w w' fb (n + 1) room (rootF room last L).1 (rootF room last L).2.1 := by
 obtain ⟨tb, ts, m, nb, h1, h2, h3⟩ := h
 refine (forest_Root_ok h1 hG hnn).mono ?_
 rintro e w' ⟨nb', rfl, hF, hW, hS⟩
 exact ⟨rfl, ForS.step h2 h3 hF hW hS⟩
theorem forS_Add (h : ForS S w fb n room last L) (hG : GoodF room last L) (hnn : n < 1000000) {p : Int} (wt : Int) (wf : (Lit.int .i64 p).wf = true) :
  Calls Try.prog 11 #[.pointer (some ⟨fb, 0, none⟩), .int .i64 p, .int .i64 wt] w fun e w' => e = .returned (.tuple #[.int .i64 (addF room last L p wt).2.2.1, .int .i64 (addF room last L p wt).2.2.2]) ∧ StepS S w w' fb (n + 1) room (addF room last L p wt).1 (addF room last L p wt).2.1 := by
 obtain ⟨tb, ts, m, nb, h1, h2, h3⟩ := h
 refine (forest_Add_ok h1 hG hnn wt wf).mono ?_
 rintro e w' ⟨nb', rfl, hF, hW, hS⟩
 exact ⟨rfl, ForS.step h2 h3 hF hW hS⟩
theorem forS_Drop (h : ForS S w fb n room last L) (hG : GoodF room last L) {id : Int} (wf : (Lit.int .i64 id).wf = true) :
  Calls Try.prog 34 #[.pointer (some ⟨fb, 0, none⟩), .int .i64 id] w fun e w' => e = .returned (.int .i64 (drpF L id).2) ∧ StepS S w w' fb n room last (drpF L id).1 := by
 obtain ⟨tb, ts, m, nb, h1, h2, h3⟩ := h
 refine (forest_Drop_ok h1 hG wf).mono ?_
 rintro e w' ⟨rfl, hF, hW⟩
 refine ⟨rfl, ForS.step h2 h3 hF hW fun k hk => .inl ?_⟩
 rcases hk with hk | hk | hk | hk | ⟨g, hg, rfl⟩
 ·
  exact .inl hk
 ·
  exact .inr (.inl hk)
 ·
  exact .inr (.inr (.inl hk))
 ·
  exact .inr (.inr (.inr (.inl hk)))
 ·
  exact .inr (.inr (.inr (.inr ⟨g, drpF_ids L id g hg, rfl⟩)))
theorem forS_Move (h : ForS S w fb n room last L) (hG : GoodF room last L) {id p : Int} (wf : (Lit.int .i64 id).wf = true) (wf2 : (Lit.int .i64 p).wf = true) :
  Calls Try.prog 12 #[.pointer (some ⟨fb, 0, none⟩), .int .i64 id, .int .i64 p] w fun e w' => e = .returned (.int .i64 (movF L id p).2) ∧ StepS S w w' fb n room last (movF L id p).1 := by
 obtain ⟨tb, ts, m, nb, h1, h2, h3⟩ := h
 refine (forest_Move_ok h1 hG wf wf2).mono ?_
 rintro e w' ⟨rfl, hF, hW⟩
 exact ⟨rfl, StepS.of_same h2 h3 (movF_ids L id p) hF hW⟩
theorem forS_Weight (h : ForS S w fb n room last L) (hG : GoodF room last L) {id : Int} (wt : Int) (wf : (Lit.int .i64 id).wf = true) :
  Calls Try.prog 37 #[.pointer (some ⟨fb, 0, none⟩), .int .i64 id, .int .i64 wt] w fun e w' => e = .returned (.int .i64 (wgtF L id wt).2) ∧ StepS S w w' fb n room last (wgtF L id wt).1 := by
 obtain ⟨tb, ts, m, nb, h1, h2, h3⟩ := h
 refine (weight_ok h1 hG wt wf).mono ?_
 rintro e w' ⟨rfl, hF, hW⟩
 exact ⟨rfl, StepS.of_same h2 h3 (wgtF_ids L id wt) hF hW⟩
theorem forS_Join (h : ForS S w fb n room last L) (hG : GoodF room last L) {id : Int} (wf : (Lit.int .i64 id).wf = true) :
  Calls Try.prog 15 #[.pointer (some ⟨fb, 0, none⟩), .int .i64 id] w fun e w' => e = .returned (.int .i64 (cntF L id 1 0).2) ∧ StepS S w w' fb n room last (cntF L id 1 0).1 := by
 obtain ⟨tb, ts, m, nb, h1, h2, h3⟩ := h
 refine (join_ok h1 hG wf).mono ?_
 rintro e w' ⟨rfl, hF, hW⟩
 exact ⟨rfl, StepS.of_same h2 h3 (cntF_ids _ _ _ _) hF hW⟩
theorem forS_Leave (h : ForS S w fb n room last L) (hG : GoodF room last L) {id : Int} (wf : (Lit.int .i64 id).wf = true) :
  Calls Try.prog 40 #[.pointer (some ⟨fb, 0, none⟩), .int .i64 id] w fun e w' => e = .returned (.int .i64 (cntF L id (-1) 0).2) ∧ StepS S w w' fb n room last (cntF L id (-1) 0).1 := by
 obtain ⟨tb, ts, m, nb, h1, h2, h3⟩ := h
 refine (leave_ok h1 hG wf).mono ?_
 rintro e w' ⟨rfl, hF, hW⟩
 exact ⟨rfl, StepS.of_same h2 h3 (cntF_ids _ _ _ _) hF hW⟩
theorem forS_Wake (h : ForS S w fb n room last L) (hG : GoodF room last L) {id : Int} (wf : (Lit.int .i64 id).wf = true) :
  Calls Try.prog 41 #[.pointer (some ⟨fb, 0, none⟩), .int .i64 id] w fun e w' => e = .returned (.int .i64 (cntF L id 0 1).2) ∧ StepS S w w' fb n room last (cntF L id 0 1).1 := by
 obtain ⟨tb, ts, m, nb, h1, h2, h3⟩ := h
 refine (wake_ok h1 hG wf).mono ?_
 rintro e w' ⟨rfl, hF, hW⟩
 exact ⟨rfl, StepS.of_same h2 h3 (cntF_ids _ _ _ _) hF hW⟩
theorem forS_Sleep (h : ForS S w fb n room last L) (hG : GoodF room last L) {id : Int} (wf : (Lit.int .i64 id).wf = true) :
  Calls Try.prog 42 #[.pointer (some ⟨fb, 0, none⟩), .int .i64 id] w fun e w' => e = .returned (.int .i64 (cntF L id 0 (-1)).2) ∧ StepS S w w' fb n room last (cntF L id 0 (-1)).1 := by
 obtain ⟨tb, ts, m, nb, h1, h2, h3⟩ := h
 refine (sleep_ok h1 hG wf).mono ?_
 rintro e w' ⟨rfl, hF, hW⟩
 exact ⟨rfl, StepS.of_same h2 h3 (cntF_ids _ _ _ _) hF hW⟩
end
end Go.Proofs.Ytlmjdchcgfpngaa.P
end
