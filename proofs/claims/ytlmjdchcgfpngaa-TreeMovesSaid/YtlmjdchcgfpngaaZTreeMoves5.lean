-- Written by a program of this session (wip/tools/shake.py) out of its own texts and of the kit's printed ones; not trusted: Lean checks it.
import Derived.Test.YtlmjdchcgfpngaaZTreeMoves4
set_option maxHeartbeats 8000000
set_option maxRecDepth 100000
set_option linter.unusedVariables false
set_option linter.unusedSimpArgs false
section
namespace Go.Proofs.Ytlmjdchcgfpngaa.P
open Go.RowKit Go.Proofs.YtlmjdchcgfpngaaW.PrintWords Go.Proofs.YtlmjdchcgfpngaaW.PrintLast Go.Proofs.YtlmjdchcgfpngaaW.PrintMore
attribute [local go_sem] zbo zbq zbz zbx zbi zbg zbr zbp
theorem bound_aux {a b : Int} (h1 : 0 ≤ a ∧ a ≤ 2048) (h2 : 0 ≤ b ∧ b ≤ 2048) (c : Prop) [Decidable c] : -1000000 < (a + if c then -b else 0) + b ∧ (a + if c then -b else 0) + b < 1000000 := by
 split <;> omega
theorem forest_Move_ok {w : World} {fb tb ts m : Nat} {nb : Int → Nat} {n room : Nat} {last : Int} {L : List S84} (h : FAt w fb tb ts m nb n room last L) (hG : GoodF room last L) {id p : Int} (wf : (Lit.int .i64 id).wf = true) (wf2 : (Lit.int .i64 p).wf = true) :
  Calls Try.prog 12 #[.pointer (some ⟨fb, 0, none⟩), .int .i64 id, .int .i64 p] w fun e w' => e = .returned (.int .i64 (movF L id p).2) ∧ FAt w' fb tb ts m nb n room last (movF L id p).1 ∧ Wr (FS fb tb ts m nb L) w w' := by
 obtain ⟨f0, f1⟩ := h.facts
 obtain ⟨l1, l2⟩ := h.look2 wf
 obtain ⟨k1, k2⟩ := h.look2 wf2
 have H := Aside0.mk h
 have HG := Aside0.mk hG
 cases hf : fnd L id with
 | none =>
  have l3 := l2 hf
  rw [zbt (.inl hf)]
  cases ht : fnd L p with
  | none =>
   have k3 := k2 ht
   clear l1 l2 k1 k2 h hG hf ht
   go_enter Try.func12, Try.ntmps12
   go_wp2_with fail
   go_ret
   exact ⟨rfl, H.out, Wr.refl _ _⟩
  | some y =>
   have k3 := k1 _ ht
   clear l1 l2 k1 k2 h hG hf ht
   go_enter Try.func12, Try.ntmps12
   go_wp2_with fail
   go_ret
   exact ⟨rfl, H.out, Wr.refl _ _⟩
 | some g =>
  have l3 := l1 _ hf
  cases ht : fnd L p with
  | none =>
   have k3 := k2 ht
   rw [zbt (.inr ht)]
   clear l1 l2 k1 k2 h hG hf ht
   go_enter Try.func12, Try.ntmps12
   go_wp2_with fail
   go_ret
   exact ⟨rfl, H.out, Wr.refl _ _⟩
  | some q =>
   have k3 := k1 _ ht
   have HS := Aside0.mk (movF_some hf ht)
   obtain ⟨hg, rfl⟩ := za5 hf
   obtain ⟨hq, rfl⟩ := za5 ht
   have HM := Aside0.mk hg
   have HQ := Aside0.mk hq
   have hn := h.2.2.2 g hg
   have c1 : w.cell? ⟨nb g.f0, 1, none⟩ = some (pOf nb g.f1) := (za hn 1).trans rfl
   clear l1 l2 k1 k2 h hG hf ht hg hq hn
   by_cases h0 : g.f1 < 0
   ·
    have HA := Aside0.mk (HS.out.trans (if_pos h0))
    rw [show pOf nb g.f1 = .pointer none by unfold pOf; rw [if_pos h0]] at c1
    go_enter Try.func12, Try.ntmps12
    go_wp2_with fail
    go_ret
    rw [HA.out]
    exact ⟨rfl, H.out, Wr.refl _ _⟩
   ·
    have HS1 := Aside0.mk (HS.out.trans (if_neg h0))
    rw [show pOf nb g.f1 = .pointer (some ⟨nb g.f1, 0, none⟩) by unfold pOf; rw [if_neg h0]] at c1
    go_enter Try.func12, Try.ntmps12
    go_wp2_with fail
    go_at_call 27
    refine (root_node H.out HG.out HM.out).mono ?_
    rintro e w1 ⟨rfl, hb1⟩
    have HB1 := Aside0.mk hb1
    clear hb1
    go_wp2_with fail
    go_at_call 27
    refine (root_node (H.out.keep HB1.out) HG.out HQ.out).mono ?_
    rintro e w2 ⟨rfl, hb2⟩
    have HB2 := Aside0.mk (zab HB1.out hb2)
    clear hb2
    have hne : (binOp .neq 64 (.pointer (some ⟨nb (rootG L g.f0), 0, none⟩)) (.pointer (some ⟨nb (rootG L q.f0), 0, none⟩))).run Try.prog w2 = .ok (.bool (!decide (rootG L g.f0 = rootG L q.f0))) w2 := by
     obtain ⟨r1, hr1, e1⟩ := (rootG_mem HG.out HM.out).2
     obtain ⟨r2, hr2, e2⟩ := (rootG_mem HG.out HQ.out).2
     have H2 := H.out.keep HB2.out
     rw [← e1, ← e2, ptr_neq (H2.live hr1) (H2.live hr2)]
     congr 3
     exact decide_eq_decide.2 ⟨fun e => H2.inj hr1 hr2 e, fun e => by rw [e]⟩
    by_cases hro : rootG L g.f0 = rootG L q.f0
    ·
     have HS2 := Aside0.mk (HS1.out.trans (if_neg (fun hh => hh hro)))
     rw [decide_eq_true hro] at hne
     clear hro
     have hne' : (binOp .neq 64 (.pointer (some ⟨nb (rootG L g.f0), 0, none⟩)) (.pointer (some ⟨nb (rootG L q.f0), 0, none⟩))).run Try.prog w2 = .ok (.bool false) w2 := hne
     clear hne
     generalize rootG L g.f0 = rg at hne' ⊢
     generalize rootG L q.f0 = rq at hne' ⊢
     go_wp2_with fail
     clear hne'
     go_at_call 28
     refine (below_nodes (H.out.keep HB2.out) HG.out HQ.out HM.out).mono ?_
     by_cases hbe : g.f0 ∈ way L q.f0
     ·
      have HA := Aside0.mk (HS2.out.trans (if_pos hbe))
      rw [decide_eq_true hbe]
      rintro e w3 ⟨rfl, hb3⟩
      have HB3 := Aside0.mk (zab HB2.out hb3)
      clear hb3 hbe
      go_wp2_with fail
      go_ret
      rw [HA.out]
      exact ⟨rfl, H.out.keep HB3.out, Wr.of_below HB3.out⟩
     ·
      have HS3 := Aside0.mk (HS2.out.trans (if_neg hbe))
      rw [decide_eq_false hbe]
      rintro e w3 ⟨rfl, hb3⟩
      have HB3 := Aside0.mk (zab HB2.out hb3)
      have HNL := Aside0.mk hbe
      clear hb3 hbe
      go_wp2_with fail
      go_at_call 25
      refine (path_node (H.out.keep HB3.out) HG.out HQ.out).mono ?_
      rintro e w4 ⟨A4, c4, rfl, hb4⟩
      have HB4 := Aside0.mk (zab HB3.out hb4)
      clear hb4
      have hwq := (HG.out.way HQ.out).2
      generalize hlq : (way L q.f0).length = lq at hwq
      have HLQ := Aside0.mk hlq
      clear hlq
      go_wp2_with fail
      go_at_call 29
      refine (high_ok (H.out.keep HB4.out) HG.out HM.out).mono ?_
      rintro e w5 ⟨r, rfl, hr, hb5⟩
      have HB5 := Aside0.mk (zab HB4.out hb5)
      have hr0 := hr.1
      have hr1 := hr.2.1
      have HR := Aside0.mk hr
      clear hb5 hr
      have wl : wrap64 ((lq : Int) + r) = (lq : Int) + r := w64s (by omega) (by omega)
      by_cases hde : (lq : Int) + r > 8
      ·
       have d1 : decide ((lq : Int) + r > 8) = true := decide_eq_true hde
       have HA := Aside0.mk (HS3.out.trans (if_pos (by
        rcases HR.out.2.2.2 with e | ⟨y, hy, hm, e⟩
        ·
         omega
        ·
         exact ⟨y, hy, hm, by rw [HLQ.out]; omega⟩)))
       go_wp2_with fail
       go_ret
       rw [HA.out]
       exact ⟨rfl, H.out.keep HB5.out, Wr.of_below HB5.out⟩
      ·
       have d1 : decide ((lq : Int) + r > 8) = false := decide_eq_false hde
       have HS4 := Aside0.mk (HS3.out.trans (if_neg (by
        rintro ⟨y, hy, hm, e⟩
        have := HR.out.2.2.1 y hy trivial hm
        rw [HLQ.out] at e
        omega)))
       have hn5 := (H.out.keep HB5.out).2.2.2 g HM.out
       have c1 : w5.cell? ⟨nb g.f0, 1, none⟩ = some (.pointer (some ⟨nb g.f1, 0, none⟩)) := (za hn5 1).trans (by unfold pOf; rw [if_neg (show ¬ g.f1 < 0 by omega)]; rfl)
       have heq : (binOp .eql 64 (.pointer (some ⟨nb g.f1, 0, none⟩)) (.pointer (some ⟨nb q.f0, 0, none⟩))).run Try.prog w5 = .ok (.bool (decide (g.f1 = q.f0))) w5 := by
        obtain ⟨pp, hpp, e1⟩ := par_in HG.out HM.out (by omega)
        have H5 := H.out.keep HB5.out
        rw [← e1, ptr_eql (H5.live hpp) (H5.live HQ.out)]
        congr 2
        exact decide_eq_decide.2 ⟨fun e => H5.inj hpp HQ.out e, fun e => by rw [e]⟩
       clear hn5 hr0 hr1 hwq
       by_cases hsame : g.f1 = q.f0
       ·
        have HA := Aside0.mk (HS4.out.trans ((if_neg (fun hh => hh.1 hsame)).trans (by rw [movG_same HG.out.2.2.2.2.1 HM.out hsame])))
        rw [decide_eq_true hsame] at heq
        clear hsame
        generalize nb g.f1 = ng at c1 heq
        go_wp2_with fail
        go_ret
        rw [HA.out]
        exact ⟨rfl, H.out.keep HB5.out, Wr.of_below HB5.out⟩
       ·
        rw [decide_eq_false hsame] at heq
        have HSM := Aside0.mk hsame
        clear hsame
        go_wp2_with fail
        clear heq
        go_at_call 26
        have hq1 := HG.out.2.2.2.2.2 q HQ.out
        have kq := zba L q.f0
        obtain ⟨_, _, _, _, _, q6, q7, q8⟩ := hq1
        refine (fan_ok ((H.out.keep HB5.out).2.2.2 q HQ.out) (by omega)).mono ?_
        rintro e w6 ⟨rfl, hb6⟩
        have HB6 := Aside0.mk (zab HB5.out hb6)
        clear hb6
        by_cases hfan : kid L q.f0 + q.f3 = 32
        ·
         have d3 : (kid L q.f0 + q.f3 == 32) = true := beq_iff_eq.mpr hfan
         have HA := Aside0.mk (HS4.out.trans (if_pos ⟨HSM.out, hfan⟩))
         clear hfan
         go_wp2_with fail
         go_ret
         rw [HA.out]
         exact ⟨rfl, H.out.keep HB6.out, Wr.of_below HB6.out⟩
        ·
         have d3 : (kid L q.f0 + q.f3 == 32) = false := beq_eq_false_iff_ne.mpr hfan
         have HA := Aside0.mk (HS4.out.trans (if_neg (fun hh => hfan hh.2)))
         obtain ⟨pp, hpp, e1⟩ := par_in HG.out HM.out (by omega)
         have H6 := H.out.keep HB6.out
         have hn6 := H6.2.2.2 g HM.out
         have c1 : w6.cell? ⟨nb g.f0, 1, none⟩ = some (.pointer (some ⟨nb g.f1, 0, none⟩)) := (za hn6 1).trans (by unfold pOf; rw [if_neg (show ¬ g.f1 < 0 by omega)]; rfl)
         have c5 : w6.cell? ⟨nb g.f0, 5, none⟩ = some (.int .i64 (act L g.f0)) := (za hn6 5).trans rfl
         have hA := act_bounds HG.out g.f0
         have wn : wrap64 (-(act L g.f0)) = -(act L g.f0) := w64s (by omega) (by omega)
         have wn' : IntKind.i64.wrap (-(act L g.f0)) = -(act L g.f0) := by rw [IntKind.wrap_i64]; omega
         have hcp : Ch (prt L) (way L g.f1) g.f1 := by
          rw [← e1]
          exact (HG.out.way hpp).1
         have hgn : g.f0 ∉ way L g.f1 := by
          have hcg := (HG.out.way HM.out).1
          obtain ⟨c2, hc2⟩ := hcg.head (by have := (HG.out.2.2.2.2.2 g HM.out).1; omega)
          have hnd := hcg.nodup
          rw [hc2] at hcg hnd
          obtain ⟨_, _, x, hx, h1⟩ := hcg
          rw [prt_mem HG.out.2.2.2.2.1 HM.out] at hx
          cases hx
          rw [way_eq h1]
          exact (List.nodup_cons.1 hnd).1
         have hC := count_any (w1 := w6.drew) H6 HG.out hcp (more := -act L g.f0) ((H6.path HG.out.2.2.2.2.1 hcp).1.blocks (w' := w6.drew) fun _ _ => rfl) (fun y => pOf nb y.f1) (fun y => y.f2) (fun y => y.f3) (fun y => y.f4) (fun y => act L y.f0) (fun y => kid L y.f0) (fun y hy => by have := act_bounds HG.out y.f0; omega) H6.2.2.2
         rw [pOf_pos (by omega)] at hC
         have HC := Aside0.mk hC
         have HPP := Aside0.mk hpp
         have HE1 := Aside0.mk e1
         have HGN := Aside0.mk hgn
         clear hC hpp e1 hn6 H6 hcp hgn
         have hkp := zba L g.f1
         have hkp2 := kid_le L g.f1
         have hLl : L.length ≤ 64 := Nat.le_trans HG.out.2.1 HG.out.1
         have wk : wrap64 (kid L g.f1 - 1) = kid L g.f1 - 1 := w64s (by omega) (by omega)
         have wk2 : wrap64 (kid L q.f0 + 1) = kid L q.f0 + 1 := w64s (by omega) (by omega)
         have hne1 : nb q.f0 ≠ nb g.f1 := fun e => HSM.out (by rw [← HE1.out] at e ⊢; exact (H.out.inj HQ.out HPP.out e).symm)
         have hne2 : nb g.f1 ≠ nb q.f0 := fun e => hne1 e.symm
         have HFX : Aside0 (∀ W : World, (∀ y ∈ L, W.heap[nb y.f0]? = some (nodeV y.f0 (pOf nb y.f1) y.f2 y.f3 y.f4 (act L y.f0 + if y.f0 ∈ way L g.f1 then -act L g.f0 else 0) (kid L y.f0))) →
           W.cell? ⟨nb g.f0, 1, none⟩ = some (.pointer (some ⟨nb g.f1, 0, none⟩)) ∧ W.cell? ⟨nb g.f0, 5, none⟩ = some (.int .i64 (act L g.f0)) ∧ W.frozen? ⟨nb g.f0, 1, none⟩ = false ∧ W.cell? ⟨nb g.f1, 6, none⟩ = some (.int .i64 (kid L g.f1)) ∧ W.frozen? ⟨nb g.f1, 6, none⟩ = false ∧ W.cell? ⟨nb q.f0, 6, none⟩ = some (.int .i64 (kid L q.f0)) ∧ W.frozen? ⟨nb q.f0, 6, none⟩ = false) := ⟨fun W hW => by
          have g7 := hW g HM.out
          rw [if_neg HGN.out, Int.add_zero] at g7
          have p7 := hW pp HPP.out
          rw [HE1.out] at p7
          have q7' := hW q HQ.out
          exact ⟨(za g7 1).trans (by unfold pOf; rw [if_neg (show ¬ g.f1 < 0 by omega)]; rfl), (za g7 5).trans rfl, zaa g7 1, (za p7 6).trans rfl, zaa p7 6, (za q7' 6).trans rfl, zaa q7' 6⟩⟩
         go_wp2_with fail
         go_region_held3 (fun W => W.cell? ⟨nb g.f0, 1, none⟩ = some (.pointer (some ⟨nb g.f1, 0, none⟩)) ∧ W.cell? ⟨nb g.f0, 5, none⟩ = some (.int .i64 (act L g.f0))) (first | exact ⟨d10, d5⟩ | exact ⟨c1, c5⟩) (first | (go_at_call 30; refine HC.out.mono ?_; rintro e w7 ⟨rfl, hn7, hw7⟩; obtain ⟨d10, d5, zz1, d6, zz6, d7, zz7⟩ := HFX.out w7 hn7; have HN7 := Aside0.mk hn7; have HW7 := Aside0.mk hw7; clear hn7 hw7))
         obtain ⟨W10, hW10⟩ : ∃ W10, ((w7.setCell ⟨nb g.f1, 6, none⟩ (.int .i64 (kid L g.f1 - 1))).setCell ⟨nb g.f0, 1, none⟩ (.pointer (some ⟨nb q.f0, 0, none⟩))).setCell ⟨nb q.f0, 6, none⟩ (.int .i64 (kid L q.f0 + 1)) = W10 := ⟨_, rfl⟩
         have hn10 : ∀ y ∈ L, W10.heap[nb y.f0]? = some (nodeV y.f0 (if y.f0 = g.f0 then .pointer (some ⟨nb q.f0, 0, none⟩) else pOf nb y.f1) y.f2 y.f3 y.f4 (act L y.f0 + if y.f0 ∈ way L g.f1 then -act L g.f0 else 0) (if y.f0 = q.f0 then kid L q.f0 + 1 else if y.f0 = g.f1 then kid L g.f1 - 1 else kid L y.f0)) := by
          rw [← hW10]
          have s1 := nodes_set6 H.out HN7.out HPP.out (kid L g.f1 - 1)
          rw [HE1.out] at s1
          have s2 := nodes_set1 H.out s1 HM.out (.pointer (some ⟨nb q.f0, 0, none⟩))
          exact nodes_set6 H.out s2 HQ.out (kid L q.f0 + 1)
         have hw10 : Wr (FS fb tb ts m nb L) w W10 := by
          rw [← hW10]
          have h1 : Wr (FS fb tb ts m nb L) w w7 := (Wr.of_below (S := FS fb tb ts m nb L) HB6.out).drew.trans HW7.out fun k hk => .inl (.inr (.inr (.inr (.inr hk))))
          exact ((h1.set (.inl (.inr (.inr (.inr (.inr ⟨pp, HPP.out, by rw [HE1.out]⟩))))) _).set (.inl (.inr (.inr (.inr (.inr ⟨g, HM.out, rfl⟩))))) _).set (.inl (.inr (.inr (.inr (.inr ⟨q, HQ.out, rfl⟩))))) _
         have he10 : ∀ k, k = fb ∨ k = tb ∨ k = ts ∨ k = m → W10.heap[k]? = w.heap[k]? := fun k hk => by
          have hk' : FS fb tb ts m nb L k := by rcases hk with hk | hk | hk | hk; exact .inl hk; exact .inr (.inl hk); exact .inr (.inr (.inl hk)); exact .inr (.inr (.inr (.inl hk)))
          have hno : ∀ y ∈ L, k ≠ nb y.f0 := fun y hy e => by
           obtain ⟨a1, a2, a3, a4⟩ := H.out.apart hy
           rw [← e] at a1 a2 a3 a4
           rcases hk with hk | hk | hk | hk
           ·
            exact a1 hk
           ·
            exact a2 hk
           ·
            exact a3 hk
           ·
            exact a4 hk
          have h6 := HB6.out.block k (H.out.lt hk')
          rw [← hW10, Below.heap_setCell _ _ _ _ (hno q HQ.out), Below.heap_setCell _ _ _ _ (hno g HM.out), Below.heap_setCell _ _ _ _ (by rw [← HE1.out]; exact hno pp HPP.out), ← h6]
          exact HW7.out.2 k (Nat.lt_of_lt_of_le (H.out.lt hk') HB6.out.size) (fun ⟨y, hy, e⟩ => hno y hy e)
         have hcq := (HG.out.way HQ.out).1
         have hp10 := path_nodes hn10 hcq (fun y hy hm => by
          rw [if_neg]
          intro e
          rw [e] at hm
          exact HNL.out hm)
         have hC2 := count_any (w1 := W10) H.out HG.out hcq (more := act L g.f0) hp10.1 (fun y => if y.f0 = g.f0 then .pointer (some ⟨nb q.f0, 0, none⟩) else pOf nb y.f1) (fun y => y.f2) (fun y => y.f3) (fun y => y.f4) (fun y => act L y.f0 + if y.f0 ∈ way L g.f1 then -act L g.f0 else 0) (fun y => if y.f0 = q.f0 then kid L q.f0 + 1 else if y.f0 = g.f1 then kid L g.f1 - 1 else kid L y.f0) (fun y hy => bound_aux (act_bounds HG.out y.f0) (act_bounds HG.out g.f0) _) hn10
         rw [pOf_pos (by have := (HG.out.2.2.2.2.2 q HQ.out).1; omega)] at hC2
         have e10 := hn10 g HM.out
         rw [if_neg HGN.out, Int.add_zero] at e10
         have e5 : W10.cell? ⟨nb g.f0, 5, none⟩ = some (.int .i64 (act L g.f0)) := (za e10 5).trans rfl
         clear e10
         have HC2 := Aside0.mk hC2
         have HW10 := Aside0.mk hw10
         have HE10 := Aside0.mk he10
         clear hC2 hw10 he10 hn10 hcq hp10
         go_wp2_with fail
         try rw [hW10]
         refine HC2.out.mono ?_
         rintro e w11 ⟨rfl, hn11, hw11⟩
         have HN11 := Aside0.mk hn11
         have HW11 := Aside0.mk hw11
         clear hn11 hw11
         go_wp2_with fail
         go_ret
         rw [HA.out]
         refine ⟨rfl, H.out.moved HG.out HM.out HQ.out (by omega) HNL.out (fun k hk => ?_) (fun y hy => ?_), HW10.out.trans HW11.out fun k hk => .inl (.inr (.inr (.inr (.inr hk))))⟩
         ·
          have hk' : FS fb tb ts m nb L k := by rcases hk with hk | hk | hk | hk; exact .inl hk; exact .inr (.inl hk); exact .inr (.inr (.inl hk)); exact .inr (.inr (.inr (.inl hk)))
          rw [← HE10.out k hk]
          exact HW11.out.2 k (Nat.lt_of_lt_of_le (H.out.lt hk') HW10.out.size) (fun ⟨y, hy, e⟩ => by
           obtain ⟨a1, a2, a3, a4⟩ := H.out.apart hy
           rw [← e] at a1 a2 a3 a4
           rcases hk with hk | hk | hk | hk
           ·
            exact a1 hk
           ·
            exact a2 hk
           ·
            exact a3 hk
           ·
            exact a4 hk)
         ·
          have h1 := HN11.out y hy
          rw [h1]
          have ep : pOf nb q.f0 = .pointer (some ⟨nb q.f0, 0, none⟩) := pOf_pos (by have := (HG.out.2.2.2.2.2 q HQ.out).1; omega)
          have ek : (if y.f0 = q.f0 then kid L q.f0 + 1 else if y.f0 = g.f1 then kid L g.f1 - 1 else kid L y.f0) = kid L y.f0 - (if y.f0 = g.f1 then 1 else 0) + if y.f0 = q.f0 then 1 else 0 := by
           by_cases e2 : y.f0 = q.f0
           ·
            rw [if_pos e2, if_pos e2, if_neg (fun e3 => HSM.out (by rw [← e3, e2])), e2]
            omega
           ·
            rw [if_neg e2, if_neg e2]
            by_cases e3 : y.f0 = g.f1
            ·
             rw [if_pos e3, if_pos e3, e3]
             omega
            ·
             rw [if_neg e3, if_neg e3]
             omega
          rw [ek, ep]
    ·
     have HA := Aside0.mk (HS1.out.trans (if_pos hro))
     rw [decide_eq_false hro] at hne
     clear hro
     have hne' : (binOp .neq 64 (.pointer (some ⟨nb (rootG L g.f0), 0, none⟩)) (.pointer (some ⟨nb (rootG L q.f0), 0, none⟩))).run Try.prog w2 = .ok (.bool true) w2 := hne
     clear hne
     generalize rootG L g.f0 = rg at hne' ⊢
     generalize rootG L q.f0 = rq at hne' ⊢
     go_wp2_with fail
     go_ret
     rw [HA.out]
     exact ⟨rfl, H.out.keep HB2.out, Wr.of_below HB2.out⟩
theorem info3t : (Try.prog.info? 3).map (fun i => (i.zero, i.size, i.bytes)) = some (some (.int .i64 0), 1, 8) := by kernel_rfl
def kidsF (L : List S84) (g : Int) : List Int := (L.filter fun y => decide (0 ≤ y.f1) && y.f1 == g).map (·.f0)
theorem kidsF_rise {L : List S84} (hA : Asc L) (g : Int) : (kidsF L g).Pairwise (· < ·) := List.pairwise_map.2 ((hA.filter _).imp fun {a b} h => h)
theorem kidsF_mem {L : List S84} {g k : Int} : k ∈ kidsF L g ↔ ∃ y ∈ L, y.f0 = k ∧ 0 ≤ y.f1 ∧ y.f1 = g := by
 unfold kidsF
 rw [List.mem_map]
 constructor
 ·
  rintro ⟨y, hy, rfl⟩
  obtain ⟨h1, h2⟩ := List.mem_filter.1 hy
  simp at h2
  exact ⟨y, h1, rfl, h2.1, h2.2⟩
 ·
  rintro ⟨y, h1, rfl, h2, h3⟩
  exact ⟨y, List.mem_filter.2 ⟨h1, by simp [h3 ▸ h2, h3]⟩, rfl⟩
theorem children_ok {w : World} {fb tb ts m : Nat} {nb : Int → Nat} {n room : Nat} {last : Int} {L : List S84} (h : FAt w fb tb ts m nb n room last L) (hG : GoodF room last L) (hnn : n < 1000000) (g : Int) :
  Calls Try.prog 16 #[.pointer (some ⟨fb, 0, none⟩), .int .i64 g] w fun e w' => ∃ v, e = .returned v ∧ IntsAt w' v (kidsF L g) ∧ Below w.heap.size w w' := by
 obtain ⟨f0, f1⟩ := h.facts
 obtain ⟨w2, cnt, s1, s2, s3, s4⟩ := h.2.2.1.range (t := 60) (e := 64) Try.underlying3 Try.underlying60
 have hml := h.lt (.inr (.inr (.inr (.inl rfl))))
 have H := Aside0.mk h
 have HG := Aside0.mk hG
 have S2 := Aside0.mk s2
 have S3 := Aside0.mk s3
 clear h hG s2 s3
 go_enter Try.func16, Try.ntmps16
 go_wp2_with fail
 clear s1 f0 f1
 go_loopg [5] cnt (fun gk v5 w' => ∃ (left : Int → Bool) (l1 : List Int), Aside0 (Kd.R (Kd.int .i64) 3 w' w.heap.size (fun k => w.heap.size ≤ k) v5 l1) ∧ Aside0 (RangeAt Try.prog 3 mkP w' m w.heap.size n (fun id => (fnd L id).map fun _ => nb id) left gk) ∧ Aside0 (Below w.heap.size w w') ∧ Aside0 (l1.Nodup ∧ ∀ k, k ∈ l1 ↔ left k = false ∧ ∃ y ∈ L, y.f0 = k ∧ 0 ≤ y.f1 ∧ y.f1 = g) ∧ l1.length + gk ≤ cnt)
 case atStart =>
  refine ⟨_, [], ⟨Kd.R_nil _ _ _ _ _⟩, S2, S3, ⟨List.nodup_nil, fun k => ⟨fun h => (by cases h), fun h => ?_⟩⟩, by simp⟩
  obtain ⟨h1, y, hy, rfl, _⟩ := h
  have h1' : ((fnd L y.f0).map fun _ => nb y.f0).isSome = false := h1
  rw [fnd_mem HG.out.2.2.2.2.1 hy] at h1'
  cases h1'
 case round =>
  obtain ⟨left, l1, HO, HR, HB, HL, hl1⟩ := hrel
  rcases HR.out.next Try.underlying3 0 with ⟨h0, hl, hrun⟩ | ⟨k, a, w4, cnt', wf, hlk, hg, hrun, hr4, hlt4, hbl, hen, hgr⟩
  ·
   have hp : l1.Perm (kidsF L g) := by
    refine (List.perm_ext_iff_of_nodup HL.out.1 ((kidsF_rise HG.out.2.2.2.2.1 g).imp fun {a b} h => Int.ne_of_lt h)).2 fun k => ?_
    rw [HL.out.2 k, hl k, kidsF_mem]
    simp
   have HPM := Aside0.mk hp
   clear hl hp
   go_wp2_with fail
   go_at_call 31
   refine (Sort_own HO.out (by omega)).mono ?_
   rw [sort_perm HPM.out (kidsF_rise HG.out.2.2.2.2.1 g)]
   rintro e w5 ⟨rfl, hi5, hb5⟩
   have HI := Aside0.mk hi5
   have HB5 := Aside0.mk (HB.out.trans hb5)
   clear hi5 hb5
   go_wp2_with fail
   go_ret
   exact ⟨_, rfl, HI.out, HB5.out⟩
  ·
   have hrun' : (Instr.next (.pointer (some ⟨w.heap.size, 0, none⟩)) false 0).run Try.prog wr = .ok (.tuple #[.bool true, .int .i64 k, .pointer (some ⟨a, 0, none⟩)]) w4 := hrun
   have hen' : (Instr.entry (.pointer (some ⟨w.heap.size, 0, none⟩))).run Try.prog w4 = .ok (.tuple #[.int .i64 k, .pointer (some ⟨a, 0, none⟩)]) w4 := hen
   obtain ⟨y, hyk, rfl⟩ : ∃ y, fnd L k = some y ∧ a = nb k := by
    cases hf : fnd L k with
    | none => rw [hf] at hg; cases hg
    | some y => rw [hf] at hg; cases hg; exact ⟨y, rfl, rfl⟩
   obtain ⟨hy, rfl⟩ := za5 hyk
   have hb4 := HB.out.trans (hbl _ (Nat.le_refl _))
   have HB4 := Aside0.mk hb4
   have HR4 := Aside0.mk hr4
   have HY := Aside0.mk hy
   have HLK := Aside0.mk hlk
   have hO4 : Kd.R (Kd.int .i64) 3 w4 w.heap.size (fun k => w.heap.size ≤ k) u5 l1 := by
    have hne := iter_ne HR.out HO.out
    have h1 := Kd.R_flat (ok' := fun k => w.heap.size ≤ k ∧ k ≠ w.heap.size) (fun h => h) HO.out (fun k hk hok => ⟨hok, fun e => hne (by rw [← e]; exact hk.symm)⟩)
    exact Kd.zbn (Kd.R_grown h1 hgr (fun k hk e => hk.2 (by cases e; rfl))) (fun k hk => hk.1)
   have HO4 := Aside0.mk hO4
   have hsz4 := hb4.size
   have hn4 := (H.out.keep hb4).2.2.2 y hy
   have c1 : w4.cell? ⟨nb y.f0, 1, none⟩ = some (pOf nb y.f1) := (za hn4 1).trans rfl
   have hpin : 0 ≤ y.f1 → w4.cell? ⟨nb y.f1, 0, none⟩ = some (.int .i64 y.f1) := fun h0 => by
    obtain ⟨pp, hpp, e⟩ := par_in HG.out hy h0
    have := (H.out.keep hb4).2.2.2 pp hpp
    rw [NodeAt, e] at this
    exact (za this 0).trans rfl
   clear hrun hen hg hbl hr4 hgr hyk hy hlk hO4 hb4 hn4
   have HNO : Aside0 (¬ (0 ≤ y.f1 ∧ y.f1 = g) → ∀ k, k ∈ l1 ↔ (left k && !(k == y.f0)) = false ∧ ∃ y ∈ L, y.f0 = k ∧ 0 ≤ y.f1 ∧ y.f1 = g) := ⟨fun hno k => by
    rw [HL.out.2 k]
    by_cases e : k = y.f0
    ·
     subst e
     constructor
     ·
      rintro ⟨h, _⟩
      rw [HLK.out] at h
      cases h
     ·
      rintro ⟨_, z, hz, e1, h1, h2⟩
      obtain rfl := HG.out.2.2.2.2.1.inj hz HY.out e1
      exact absurd ⟨h1, h2⟩ hno
    ·
     simp [e]⟩
   by_cases h0 : y.f1 < 0
   ·
    rw [show pOf nb y.f1 = .pointer none by unfold pOf; rw [if_pos h0]] at c1
    have HNO2 := Aside0.mk (HNO.out (by omega))
    go_wp2_with fail
    go_roundg cnt'
    case measure => exact hlt4
    case rel => exact ⟨_, l1, HO4, HR4, HB4, ⟨HL.out.1, HNO2.out⟩, by omega⟩
   ·
    rw [show pOf nb y.f1 = .pointer (some ⟨nb y.f1, 0, none⟩) by unfold pOf; rw [if_neg h0]] at c1
    have c0 := hpin (by omega)
    clear hpin
    by_cases hyg : y.f1 = g
    ·
     have d1 : (y.f1 == g) = true := beq_iff_eq.mpr hyg
     have HYG := Aside0.mk hyg
     have hll : (l1.length + 1) * 8 ≤ 140737488355328 := by omega
     have HLL := Aside0.mk hll
     have hown := HO4.out.1
     have HOWN := Aside0.mk hown
     clear hyg hll hown
     go_wp2_with (first | ((with_reducible refine zcc (b := .append) (xs := #[.tmp 34, .tmp 36]) rfl ?_); at_builtin; refine Kd.R_append (Kd.int .i64) (w0 := w) w.heap.size rfl (.tmp 34) (.tmp 36) 38 3 (.int .i64 0) 8 rfl Try.underlying38 info3t rfl (by decide) (by omega) u5 l1 y.f0 [.int .i64 y.f0] (fun k_ => w.heap.size ≤ k_) (fun _ => False) rfl (by first | rfl | simp [Act.eval]) rfl (fun _ hk => hk.elim) (fun k_ hk => Nat.le_trans hsz4 hk) HO4.out HB4.out hsz4 HLL.out ?_; intro v9 w9 ho9 hb9 hg9 hat9; have HO9 := Aside0.mk ho9; have HB9 := Aside0.mk hb9; have HG9 := Aside0.mk hg9; clear ho9 hb9 hg9 hat9))
     go_roundg cnt'
     case measure => exact hlt4
     case rel =>
      refine ⟨_, l1 ++ [y.f0], HO9, ⟨HR4.out.grown HG9.out (fun e => by have := HOWN.out m e.symm; omega) (iter_ne HR4.out HO4.out)⟩, HB9, ⟨?_, fun k => ?_⟩, by rw [List.length_append, List.length_singleton]; omega⟩
      ·
       refine List.nodup_append.2 ⟨HL.out.1, by simp, fun x hx z hz => ?_⟩
       simp only [List.mem_singleton] at hz
       subst hz
       intro e
       subst e
       have := ((HL.out.2 y.f0).1 hx).1
       rw [HLK.out] at this
       cases this
      ·
       rw [List.mem_append, HL.out.2 k, List.mem_singleton]
       by_cases e : k = y.f0
       ·
        subst e
        constructor
        ·
         intro _
         exact ⟨by simp, y, HY.out, rfl, by omega, HYG.out⟩
        ·
         intro _
         exact .inr rfl
       ·
        simp [e]
    ·
     have d1 : (y.f1 == g) = false := beq_eq_false_iff_ne.mpr hyg
     have HNO2 := Aside0.mk (HNO.out (fun hh => hyg hh.2))
     clear hyg
     go_wp2_with fail
     go_roundg cnt'
     case measure => exact hlt4
     case rel => exact ⟨_, l1, HO4, HR4, HB4, ⟨HL.out.1, HNO2.out⟩, by omega⟩
def ForB (B : Nat) (w : World) (fb n room : Nat) (last : Int) (L : List S84) : Prop := ∃ tb ts m nb, FAt w fb tb ts m nb n room last L ∧ (∀ k, FS fb tb ts m nb L k → B ≤ k) ∧ B ≤ w.heap.size
section
variable {B : Nat} {w w' : World} {fb n room : Nat} {last : Int} {L : List S84}
theorem ForB.keep (h : ForB B w fb n room last L) (hb : Below w.heap.size w w') : ForB B w' fb n room last L := by
 obtain ⟨tb, ts, m, nb, h1, h2, h3⟩ := h
 exact ⟨tb, ts, m, nb, h1.keep hb, h2, Nat.le_trans h3 hb.size⟩
theorem ForB.up {n' : Nat} (h : ForB B w fb n room last L) (hn : n ≤ n') : ForB B w fb n' room last L := by
 obtain ⟨tb, ts, m, nb, h1, h2, h3⟩ := h
 exact ⟨tb, ts, m, nb, h1.mono hn, h2, h3⟩
theorem forB_New (m : Nat) (h1 : 1 ≤ m) (h2 : m ≤ 64) (w : World) :
  Calls Try.prog 9 #[.int .i64 (m : Int)] w fun e w' => ∃ fb, e = .returned (.tuple #[.pointer (some ⟨fb, 0, none⟩), .int .i64 0]) ∧ ForB w.heap.size w' fb 0 m 0 [] ∧ Below w.heap.size w w' := by
 refine (forest_New_ok m h1 h2 w).mono ?_
 rintro e w' ⟨fb, tb, ts, mb, rfl, b1, b2, b3, b4, hF, hb⟩
 refine ⟨fb, rfl, ⟨tb, ts, mb, _, hF, fun k hk => ?_, hb.size⟩, hb⟩
 rcases hk with rfl | rfl | rfl | rfl | ⟨g, hg, _⟩
 ·
  exact b1
 ·
  exact b2
 ·
  exact b3
 ·
  exact b4
 ·
  cases hg
theorem forB_Root (h : ForB B w fb n room last L) (hG : GoodF room last L) (hnn : n < 1000000) :
  Calls Try.prog 10 #[.pointer (some ⟨fb, 0, none⟩)] w fun e w' => e = .returned (.tuple #[.int .i64 (rootF room last L).2.2.1, .int .i64 (rootF room last L).2.2.2]) ∧ ForB B w' fb (n + 1) room (rootF room last L).1 (rootF room last L).2.1 ∧ Below B w w' := by
 obtain ⟨tb, ts, m, nb, h1, h2, h3⟩ := h
 refine (forest_Root_ok h1 hG hnn).mono ?_
 rintro e w' ⟨nb', rfl, hF, hW, hS⟩
 exact ⟨rfl, ⟨tb, ts, m, nb', hF, fun k hk => (hS k hk).elim (h2 k) fun h => Nat.le_trans h3 h, Nat.le_trans h3 hW.size⟩, hW.below h3 h2⟩
theorem forB_Add (h : ForB B w fb n room last L) (hG : GoodF room last L) (hnn : n < 1000000) {p : Int} (wt : Int) (wf : (Lit.int .i64 p).wf = true) :
  Calls Try.prog 11 #[.pointer (some ⟨fb, 0, none⟩), .int .i64 p, .int .i64 wt] w fun e w' => e = .returned (.tuple #[.int .i64 (addF room last L p wt).2.2.1, .int .i64 (addF room last L p wt).2.2.2]) ∧ ForB B w' fb (n + 1) room (addF room last L p wt).1 (addF room last L p wt).2.1 ∧ Below B w w' := by
 obtain ⟨tb, ts, m, nb, h1, h2, h3⟩ := h
 refine (forest_Add_ok h1 hG hnn wt wf).mono ?_
 rintro e w' ⟨nb', rfl, hF, hW, hS⟩
 exact ⟨rfl, ⟨tb, ts, m, nb', hF, fun k hk => (hS k hk).elim (h2 k) fun h => Nat.le_trans h3 h, Nat.le_trans h3 hW.size⟩, hW.below h3 h2⟩
theorem FS.same {fb tb ts m : Nat} {nb : Int → Nat} {L L' : List S84} (h : L'.map (·.f0) = L.map (·.f0)) {k : Nat} (hk : FS fb tb ts m nb L' k) : FS fb tb ts m nb L k := by
 rcases hk with hk | hk | hk | hk | ⟨g, hg, rfl⟩
 ·
  exact .inl hk
 ·
  exact .inr (.inl hk)
 ·
  exact .inr (.inr (.inl hk))
 ·
  exact .inr (.inr (.inr (.inl hk)))
 ·
  have h1 : g.f0 ∈ L.map (·.f0) := by
   rw [← h]
   exact List.mem_map.2 ⟨g, hg, rfl⟩
  obtain ⟨y, hy, e⟩ := List.mem_map.1 h1
  exact .inr (.inr (.inr (.inr ⟨y, hy, by rw [e]⟩)))
theorem cntF_ids (L : List S84) (id dm da : Int) : (cntF L id dm da).1.map (·.f0) = L.map (·.f0) := by
 unfold cntF
 cases fnd L id with
 | none => rfl
 | some g =>
  dsimp only
  split
  ·
   rfl
  ·
   split
   ·
    rfl
   ·
    exact setG_ids fun _ => rfl
theorem wgtF_ids (L : List S84) (id wt : Int) : (wgtF L id wt).1.map (·.f0) = L.map (·.f0) := by
 unfold wgtF
 cases fnd L id with
 | none => rfl
 | some g =>
  dsimp only
  split
  ·
   rfl
  ·
   split
   ·
    rfl
   ·
    exact setG_ids fun _ => rfl
theorem movF_ids (L : List S84) (id p : Int) : (movF L id p).1.map (·.f0) = L.map (·.f0) := by
 cases hf : fnd L id with
 | none => rw [zbt (.inl hf)]
 | some g =>
  cases hq : fnd L p with
  | none => rw [zbt (.inr hq)]
  | some q =>
   rw [movF_some hf hq]
   split
   ·
    rfl
   ·
    split
    ·
     rfl
    ·
     split
     ·
      rfl
     ·
      split
      ·
       rfl
      ·
       split
       ·
        rfl
       ·
        exact setG_ids fun _ => rfl
theorem ForB.same {tb ts m : Nat} {nb : Int → Nat} {L' : List S84} (h2 : ∀ k, FS fb tb ts m nb L k → B ≤ k) (h3 : B ≤ w.heap.size) (hid : L'.map (·.f0) = L.map (·.f0)) (hF : FAt w' fb tb ts m nb n room last L') (hW : Wr (FS fb tb ts m nb L) w w') : ForB B w' fb n room last L' ∧ Below B w w' :=
 ⟨⟨tb, ts, m, nb, hF, fun k hk => h2 k (hk.same hid), Nat.le_trans h3 hW.size⟩, hW.below h3 h2⟩
theorem forB_Move (h : ForB B w fb n room last L) (hG : GoodF room last L) {id p : Int} (wf : (Lit.int .i64 id).wf = true) (wf2 : (Lit.int .i64 p).wf = true) :
  Calls Try.prog 12 #[.pointer (some ⟨fb, 0, none⟩), .int .i64 id, .int .i64 p] w fun e w' => e = .returned (.int .i64 (movF L id p).2) ∧ ForB B w' fb n room last (movF L id p).1 ∧ Below B w w' := by
 obtain ⟨tb, ts, m, nb, h1, h2, h3⟩ := h
 refine (forest_Move_ok h1 hG wf wf2).mono ?_
 rintro e w' ⟨rfl, hF, hW⟩
 exact ⟨rfl, ForB.same h2 h3 (movF_ids _ _ _) hF hW⟩
theorem zbe (h : ForB B w fb n room last L) (hG : GoodF room last L) {id : Int} (wf : (Lit.int .i64 id).wf = true) :
  Calls Try.prog 13 #[.pointer (some ⟨fb, 0, none⟩), .int .i64 id] w fun e w' => e = .returned (.tuple #[grpV L id, .int .i64 (grpE L id)]) ∧ Below w.heap.size w w' := by
 obtain ⟨tb, ts, m, nb, h1, h2, h3⟩ := h
 exact group_ok h1 hG wf
theorem forB_Below (h : ForB B w fb n room last L) (hG : GoodF room last L) {g t : Int} (wf : (Lit.int .i64 g).wf = true) (wf2 : (Lit.int .i64 t).wf = true) :
  Calls Try.prog 14 #[.pointer (some ⟨fb, 0, none⟩), .int .i64 g, .int .i64 t] w fun e w' => e = .returned (.bool ((fnd L g).isSome && (fnd L t).isSome && decide (t ∈ way L g))) ∧ Below w.heap.size w w' := by
 obtain ⟨tb, ts, m, nb, h1, h2, h3⟩ := h
 exact forest_Below_ok h1 hG wf wf2
theorem forB_Children (h : ForB B w fb n room last L) (hG : GoodF room last L) (hnn : n < 1000000) (g : Int) :
  Calls Try.prog 16 #[.pointer (some ⟨fb, 0, none⟩), .int .i64 g] w fun e w' => ∃ v, e = .returned v ∧ IntsAt w' v (kidsF L g) ∧ Below w.heap.size w w' := by
 obtain ⟨tb, ts, m, nb, h1, h2, h3⟩ := h
 exact children_ok h1 hG hnn g
theorem zbw (h : ForB B w fb n room last L) (hG : GoodF room last L) {id : Int} (wf : (Lit.int .i64 id).wf = true) :
  Calls Try.prog 21 #[.pointer (some ⟨fb, 0, none⟩), .int .i64 id] w fun e w' => e = .returned (.int .i64 (if (fnd L id).isSome then act L id else 0)) ∧ Below w.heap.size w w' := by
 obtain ⟨tb, ts, m, nb, h1, h2, h3⟩ := h
 exact active_ok h1 hG wf
end
theorem good_nil (room : Nat) (h : room ≤ 64) : GoodF room 0 [] := ⟨h, Nat.zero_le _, Int.le_refl _, by decide, List.Pairwise.nil, fun g hg => by cases hg⟩
theorem awake08_ok (w : World) : Calls Try.prog 8 #[] w fun e w' => e = .returned (.bool true) ∧ Below w.heap.size w w' := by
 have hG1 : GoodF 5 1 [⟨1, -1, 1, 0, 0⟩] := (good_nil 5 (by decide)).app (by decide) (by decide) (by decide) (.inl rfl)
 have w1 : way [⟨1, -1, 1, 0, 0⟩] 1 = [1] := way_eq ⟨rfl, by decide, -1, rfl, (show (-1 : Int) < 0 by decide)⟩
 have hG2 : GoodF 5 2 [⟨1, -1, 1, 0, 0⟩, ⟨2, 1, 5, 0, 0⟩] := hG1.app (p := 1) (wt := 5) (by decide) (by decide) (by decide) (.inr ⟨⟨1, -1, 1, 0, 0⟩, by simp, rfl, by rw [w1]; decide, by decide⟩)
 have w2 : way [⟨1, -1, 1, 0, 0⟩, ⟨2, 1, 5, 0, 0⟩] 2 = [2, 1] := way_eq ⟨rfl, by decide, 1, rfl, rfl, by decide, -1, rfl, (show (-1 : Int) < 0 by decide)⟩
 have hG3 : GoodF 5 3 [⟨1, -1, 1, 0, 0⟩, ⟨2, 1, 5, 0, 0⟩, ⟨3, 2, 7, 0, 0⟩] := hG2.app (p := 2) (wt := 7) (by decide) (by decide) (by decide) (.inr ⟨⟨2, 1, 5, 0, 0⟩, by simp, rfl, by rw [w2]; decide, by decide⟩)
 have v2 : way [⟨1, -1, 1, 0, 0⟩, ⟨2, 1, 5, 0, 0⟩, ⟨3, 2, 7, 0, 0⟩] 2 = [2, 1] := way_eq ⟨rfl, by decide, 1, rfl, rfl, by decide, -1, rfl, (show (-1 : Int) < 0 by decide)⟩
 have v3 : way [⟨1, -1, 1, 0, 0⟩, ⟨2, 1, 5, 0, 0⟩, ⟨3, 2, 7, 0, 0⟩] 3 = [3, 2, 1] := way_eq ⟨rfl, by decide, 2, rfl, rfl, by decide, 1, rfl, rfl, by decide, -1, rfl, (show (-1 : Int) < 0 by decide)⟩
 have r0 : rootF 5 0 [] = (1, [⟨1, -1, 1, 0, 0⟩], 1, 0) := by rfl
 have r1 : addF 5 1 [⟨1, -1, 1, 0, 0⟩] 1 5 = (2, [⟨1, -1, 1, 0, 0⟩, ⟨2, 1, 5, 0, 0⟩], 2, 0) := by
  rw [addF_some (g := ⟨1, -1, 1, 0, 0⟩) rfl, if_neg (by decide), w1, if_neg (by decide), if_neg (by decide)]
  rfl
 have r2 : addF 5 2 [⟨1, -1, 1, 0, 0⟩, ⟨2, 1, 5, 0, 0⟩] 2 7 = (3, [⟨1, -1, 1, 0, 0⟩, ⟨2, 1, 5, 0, 0⟩, ⟨3, 2, 7, 0, 0⟩], 3, 0) := by
  rw [addF_some (g := ⟨2, 1, 5, 0, 0⟩) rfl, if_neg (by decide), w2, if_neg (by decide), if_neg (by decide)]
  rfl
 have r3 : movF [⟨1, -1, 1, 0, 0⟩, ⟨2, 1, 5, 0, 0⟩, ⟨3, 2, 7, 0, 0⟩] 2 3 = ([⟨1, -1, 1, 0, 0⟩, ⟨2, 1, 5, 0, 0⟩, ⟨3, 2, 7, 0, 0⟩], 12) := by
  rw [movF_some (g := ⟨2, 1, 5, 0, 0⟩) (q := ⟨3, 2, 7, 0, 0⟩) rfl rfl, if_neg (by decide), if_neg (by unfold rootG; rw [v2, v3]; decide), v3, if_pos (by decide)]
 have R0 := Aside0.mk r0
 have R1 := Aside0.mk r1
 have R2 := Aside0.mk r2
 have R3 := Aside0.mk r3
 have V3 := Aside0.mk v3
 have G1 := Aside0.mk hG1
 have G2 := Aside0.mk hG2
 have G3 := Aside0.mk hG3
 clear r0 r1 r2 r3 v2 v3 w1 w2 hG1 hG2 hG3
 go_enter Try.func8, Try.ntmps8
 go_wp2_with fail
 go_at_call 9
 refine (forB_New 5 (by decide) (by decide) w).mono ?_
 rintro e w1 ⟨fb, rfl, hF1, hb1⟩
 have HF1 := Aside0.mk hF1
 have HB1 := Aside0.mk hb1
 clear hF1 hb1
 go_wp2_with fail
 have c1 := forB_Root HF1.out (good_nil 5 (by decide)) (by decide)
 rw [R0.out] at c1
 refine c1.mono ?_
 rintro e w2 ⟨rfl, hF2, hb2⟩
 have HF2 := Aside0.mk hF2
 have HB2 := Aside0.mk (HB1.out.trans hb2)
 clear hF2 hb2 c1
 go_wp2_with fail
 have c2 := forB_Add HF2.out G1.out (by decide) (p := 1) 5 (by decide)
 rw [R1.out] at c2
 refine c2.mono ?_
 rintro e w3 ⟨rfl, hF3, hb3⟩
 have HF3 := Aside0.mk hF3
 have HB3 := Aside0.mk (HB2.out.trans hb3)
 clear hF3 hb3 c2
 go_wp2_with fail
 have c3 := forB_Add HF3.out G2.out (by decide) (p := 2) 7 (by decide)
 rw [R2.out] at c3
 refine c3.mono ?_
 rintro e w4 ⟨rfl, hF4, hb4⟩
 have HF4 := Aside0.mk hF4
 have HB4 := Aside0.mk (HB3.out.trans hb4)
 clear hF4 hb4 c3
 go_wp2_with fail
 have c4 := forB_Move HF4.out G3.out (id := 2) (p := 3) (by decide) (by decide)
 rw [R3.out] at c4
 refine c4.mono ?_
 rintro e w5 ⟨rfl, hF5, hb5⟩
 have HF5 := Aside0.mk hF5
 have HB5 := Aside0.mk (HB4.out.trans hb5)
 clear hF5 hb5 c4
 go_wp2_with fail
 have c5 := forB_Below HF5.out G3.out (g := 3) (t := 1) (by decide) (by decide)
 rw [V3.out] at c5
 refine c5.mono ?_
 rintro e w6 ⟨rfl, hb6⟩
 have HB6 := Aside0.mk (zab HB5.out hb6)
 clear hb6 c5
 go_wp2_with fail
 go_ret
 exact ⟨by rfl, HB6.out⟩
def drpF (L : List S84) (id : Int) : List S84 × Int :=
 match fnd L id with
 | none => (L, 4)
 | some g => if g.f1 < 0 then (L, 15) else if kid L id + g.f3 > 0 then (L, 11) else (delG L id, 0)
theorem drpF_none {L : List S84} {id : Int} (h : fnd L id = none) : drpF L id = (L, 4) := by
 unfold drpF
 rw [h]
theorem drpF_some {L : List S84} {id : Int} {g : S84} (h : fnd L id = some g) : drpF L id = if g.f1 < 0 then (L, 15) else if kid L id + g.f3 > 0 then (L, 11) else (delG L id, 0) := by
 unfold drpF
 rw [h]
theorem drpF_good {room : Nat} {last : Int} {L : List S84} (hG : GoodF room last L) (id : Int) : GoodF room last (drpF L id).1 := by
 cases hf : fnd L id with
 | none =>
  rw [drpF_none hf]
  exact hG
 | some g =>
  rw [drpF_some hf]
  obtain ⟨hg, rfl⟩ := za5 hf
  have hk := zba L g.f0
  obtain ⟨_, _, _, _, _, g6, g7, _⟩ := hG.2.2.2.2.2 g hg
  split
  ·
   exact hG
  ·
   split
   ·
    exact hG
   ·
    exact hG.del hg (by omega)
theorem drpF_ids (L : List S84) (id : Int) : ∀ y ∈ (drpF L id).1, y ∈ L := by
 unfold drpF
 cases fnd L id with
 | none => exact fun y hy => hy
 | some g =>
  dsimp only
  split
  ·
   exact fun y hy => hy
  ·
   split
   ·
    exact fun y hy => hy
   ·
    exact fun y hy => (mem_del.1 hy).1
theorem forest_Drop_ok {w : World} {fb tb ts m : Nat} {nb : Int → Nat} {n room : Nat} {last : Int} {L : List S84} (h : FAt w fb tb ts m nb n room last L) (hG : GoodF room last L) {id : Int} (wf : (Lit.int .i64 id).wf = true) :
  Calls Try.prog 34 #[.pointer (some ⟨fb, 0, none⟩), .int .i64 id] w fun e w' => e = .returned (.int .i64 (drpF L id).2) ∧ FAt w' fb tb ts m nb n room last (drpF L id).1 ∧ Wr (FS fb tb ts m nb L) w w' := by
 obtain ⟨f0, f1⟩ := h.facts
 obtain ⟨l1, l2⟩ := h.look2 wf
 have H := Aside0.mk h
 have HG := Aside0.mk hG
 cases hf : fnd L id with
 | none =>
  have l3 := l2 hf
  rw [drpF_none hf]
  clear l1 l2 h hG hf
  go_enter Try.func34, Try.ntmps34
  go_wp2_with fail
  go_ret
  exact ⟨rfl, H.out, Wr.refl _ _⟩
 | some g =>
  have l3 := l1 g hf
  have HS := Aside0.mk (drpF_some hf)
  obtain ⟨hg, rfl⟩ := za5 hf
  have hn := h.2.2.2 g hg
  have HN := Aside0.mk hn
  have HM := Aside0.mk hg
  have c1 : w.cell? ⟨nb g.f0, 1, none⟩ = some (pOf nb g.f1) := (za hn 1).trans rfl
  obtain ⟨g1, g2, g3, _, g5, g6, g7, g8⟩ := hG.2.2.2.2.2 g hg
  have k0 := zba L g.f0
  clear l1 l2 h hG hf hn hg
  by_cases h0 : g.f1 < 0
  ·
   have HA := Aside0.mk (HS.out.trans (if_pos h0))
   rw [show pOf nb g.f1 = .pointer none by unfold pOf; rw [if_pos h0]] at c1
   go_enter Try.func34, Try.ntmps34
   go_wp2_with fail
   go_ret
   rw [HA.out]
   exact ⟨rfl, H.out, Wr.refl _ _⟩
  ·
   have HS1 := Aside0.mk (HS.out.trans (if_neg h0))
   rw [show pOf nb g.f1 = .pointer (some ⟨nb g.f1, 0, none⟩) by unfold pOf; rw [if_neg h0]] at c1
   by_cases hfan : kid L g.f0 + g.f3 > 0
   ·
    have HA := Aside0.mk (HS1.out.trans (if_pos hfan))
    have d1 : decide (kid L g.f0 + g.f3 > 0) = true := decide_eq_true hfan
    go_enter Try.func34, Try.ntmps34
    go_wp2_with fail
    go_at_call 26
    refine (fan_ok HN.out (by omega)).mono ?_
    rintro e w1 ⟨rfl, hb1⟩
    have HB := Aside0.mk hb1
    clear hb1
    go_wp2_with fail
    go_ret
    rw [HA.out]
    exact ⟨rfl, H.out.keep HB.out, Wr.of_below HB.out⟩
   ·
    have HA := Aside0.mk (HS1.out.trans (if_neg hfan))
    have d1 : decide (kid L g.f0 + g.f3 > 0) = false := decide_eq_false hfan
    have hk0 : kid L g.f0 = 0 := by omega
    have hf4 : g.f4 = 0 := by omega
    go_enter Try.func34, Try.ntmps34
    go_wp2_with fail
    go_at_call 26
    refine (fan_ok HN.out (by omega)).mono ?_
    rintro e w1 ⟨rfl, hb1⟩
    have HB := Aside0.mk hb1
    have h1 := H.out.keep hb1
    obtain ⟨pp, hpp, e1⟩ := par_in HG.out HM.out (by omega)
    have p1 := h1.2.2.2 pp hpp
    rw [NodeAt, e1] at p1
    have c1 : w1.cell? ⟨nb g.f0, 1, none⟩ = some (.pointer (some ⟨nb g.f1, 0, none⟩)) := (za (h1.2.2.2 g HM.out) 1).trans (by unfold pOf; rw [if_neg (show ¬ g.f1 < 0 by omega)]; rfl)
    have c6 : w1.cell? ⟨nb g.f1, 6, none⟩ = some (.int .i64 (kid L g.f1)) := (za p1 6).trans rfl
    have z6 := zaa p1 6
    have hkp := zba L g.f1
    have hkp2 := kid_le L g.f1
    have hLl : L.length ≤ 64 := Nat.le_trans HG.out.2.1 HG.out.1
    have wk : wrap64 (kid L g.f1 - 1) = kid L g.f1 - 1 := w64s (by omega) (by omega)
    have ha := h1.apart hpp
    rw [e1] at ha
    have HPP := Aside0.mk hpp
    have HE1 := Aside0.mk e1
    have hn2 := nodes_set6 h1 h1.2.2.2 hpp (kid L g.f1 - 1)
    rw [e1] at hn2
    have hF2 : (w1.setCell ⟨nb g.f1, 6, none⟩ (.int .i64 (kid L g.f1 - 1))).heap[fb]? = _ := (Below.heap_setCell w1 _ _ _ ha.1.symm).trans h1.1
    have hT2 : TabF (w1.setCell ⟨nb g.f1, 6, none⟩ (.int .i64 (kid L g.f1 - 1))) tb ts room last (L.map (·.f0)) := h1.2.1.blocks (Below.heap_setCell _ _ _ _ ha.2.1.symm) (Below.heap_setCell _ _ _ _ ha.2.2.1.symm)
    have hM2 := h1.2.2.1.set (a := ⟨nb g.f1, 6, none⟩) ha.2.2.2.symm (.int .i64 (kid L g.f1 - 1))
    have hW2 : Wr (FS fb tb ts m nb L) w (w1.setCell ⟨nb g.f1, 6, none⟩ (.int .i64 (kid L g.f1 - 1))) := (Wr.of_below HB.out).set (.inl (.inr (.inr (.inr (.inr ⟨pp, hpp, by rw [e1]⟩))))) _
    obtain ⟨w3, s1, s2, s3⟩ := hM2.drop (t := 60) (e := 64) Try.underlying3 Try.underlying60 wf 0
    have f2 : w1.cell? ⟨fb, 1, none⟩ = some (.map (some m)) := h1.facts.2
    have f3 : (w1.setCell ⟨nb g.f1, 6, none⟩ (.int .i64 (kid L g.f1 - 1))).cell? ⟨fb, 1, none⟩ = some (.map (some m)) := (za hF2 1).trans rfl
    have hblk : ∀ k, k ≠ m → w3.heap[k]? = (w1.setCell ⟨nb g.f1, 6, none⟩ (.int .i64 (kid L g.f1 - 1))).heap[k]? := fun k hk => by
     obtain ⟨es, clock, es', clock', hb, rfl⟩ := s3
     exact ChangeMaps.heap_setBlock_other hb _ hk
    have ha2 := h1.apart2
    have hF3 := (hblk fb ha2.2.2.1).trans hF2
    have f4 : w3.cell? ⟨fb, 0, none⟩ = some (.pointer (some ⟨tb, 0, none⟩)) := (za hF3 0).trans rfl
    have HF3 := Aside0.mk hF3
    have HT3 := Aside0.mk (hT2.blocks (hblk tb ha2.2.2.2.1) (hblk ts ha2.2.2.2.2))
    have HN3 : Aside0 (∀ y ∈ L, w3.heap[nb y.f0]? = some (nodeV y.f0 (pOf nb y.f1) y.f2 y.f3 y.f4 (act L y.f0) (if y.f0 = g.f1 then kid L g.f1 - 1 else kid L y.f0))) := ⟨fun y hy => (hblk _ (h1.apart hy).2.2.2).trans (hn2 y hy)⟩
    have HM3 := Aside0.mk s2
    have HW3 := Aside0.mk (hW2.turned s3 (.inl (.inr (.inr (.inr (.inl rfl))))))
    have HA2 := Aside0.mk ha2
    have H1 := Aside0.mk h1
    clear hblk hF3 hF2 hT2 hM2 hW2 hn2 s2 s3 ha ha2 h1 hb1 p1 hpp e1
    go_wp2_with fail
    go_at_call 57
    refine (tabF_DropW HT3.out (asc_nodup HG.out.2.2.2.2.1) (List.mem_map.2 ⟨g, HM.out, rfl⟩) (by omega)).mono ?_
    rintro e w4 ⟨rfl, hT4, hW4⟩
    have HT4 := Aside0.mk hT4
    have HW4 := Aside0.mk hW4
    clear hT4 hW4
    go_wp2_with fail
    go_ret
    rw [HA.out]
    have hsz := HW3.out.size
    have hkeep : ∀ k, FS fb tb ts m nb L k → k ≠ tb → k ≠ ts → w4.heap[k]? = w3.heap[k]? := fun k hk h1 h2 => HW4.out.2 k (Nat.lt_of_lt_of_le (H.out.lt hk) hsz) (fun hh => hh.elim h1 h2)
    refine ⟨rfl, ⟨(hkeep fb (.inl rfl) HA2.out.1 HA2.out.2.1).trans HF3.out, ?_, ?_, fun y hy => ?_⟩, HW3.out.trans HW4.out fun k hk => .inl (by rcases hk with rfl | rfl; exact .inr (.inl rfl); exact .inr (.inr (.inl rfl)))⟩
    ·
     dsimp only
     rw [del_ids]
     exact HT4.out
    ·
     obtain ⟨D, ⟨es, clock, m1, m2⟩, m3⟩ := HM3.out
     refine MapAt.ext (g := fun j => if j = g.f0 then none else (fnd L j).map fun _ => nb j) ⟨D, ⟨es, clock, (hkeep m (.inr (.inr (.inr (.inl rfl)))) HA2.out.2.2.2.1.symm HA2.out.2.2.2.2.symm).trans m1, m2⟩, m3⟩ fun k => ?_
     dsimp only
     rw [fnd_del]
     split
     ·
      rfl
     ·
      rfl
    ·
     obtain ⟨hy1, hy2⟩ := mem_del.1 hy
     have hay := H.out.apart hy1
     have h3 := (hkeep _ (.inr (.inr (.inr (.inr ⟨y, hy1, rfl⟩)))) hay.2.1 hay.2.2.1).trans (HN3.out y hy1)
     unfold NodeAt
     dsimp only
     rw [h3, act_del HG.out HM.out hk0 hf4, kid_del HG.out.2.2.2.2.1 HM.out]
     have ek : (if y.f0 = g.f1 then kid L g.f1 - 1 else kid L y.f0) = kid L y.f0 - if g.f1 = y.f0 then 1 else 0 := by
      by_cases e : y.f0 = g.f1
      ·
       rw [if_pos e, if_pos e.symm, e]
      ·
       rw [if_neg e, if_neg (fun e2 => e e2.symm)]
       omega
     rw [ek]
end Go.Proofs.Ytlmjdchcgfpngaa.P
end
section
namespace Go.Proofs
open Go.Shelf
def Try.keysA_ren : Go.Shelf.Ren := ⟨fun | 7 => 49 | 10 => 61 | n => n, fun | 23 => 60 | 26 => 3 | 3 => 64 | 28 => 91 | 0 => 0 | 27 => 90 | 33 => 66 | 4 => 4 | n => n, fun | n => n⟩
theorem Try.keysA : Go.Proofs.SlLaysZI.n7 Try.prog Try.keysA_ren := {
 mixed := by kernel_rfl
 f7 := ⟨Try.f49.name, by decide, Try.func49.trans (congrArg some (by kernel_rfl))⟩
 f10 := ⟨Try.f61.name, by decide, Try.func61.trans (congrArg some (by kernel_rfl))⟩
 t0 := Try.underlying0
 a0 := Try.isAgg0
 z0 := Try.sizeOf0
 v0 := Try.zeroValue0
 t4 := Try.underlying4
 a4 := Try.isAgg4
 z4 := Try.sizeOf4
 v4 := Try.zeroValue4
 t23 := Try.underlying60
 a23 := Try.isAgg60
 z23 := Try.sizeOf60
 v23 := Try.zeroValue60
 t26 := Try.underlying3
 a26 := Try.isAgg3
 z26 := Try.sizeOf3
 v26 := Try.zeroValue3
 t27 := Try.underlying90
 a27 := Try.isAgg90
 z27 := Try.sizeOf90
 v27 := Try.zeroValue90
 t28 := Try.underlying91
 a28 := Try.isAgg91
 z28 := Try.sizeOf91
 v28 := Try.zeroValue91
 t33 := Try.underlying66
 a33 := Try.isAgg66
 z33 := Try.sizeOf66
 v33 := Try.zeroValue66 }
def Try.sortedA_ren : Go.Shelf.Ren := ⟨fun | 6 => 48 | 8 => 60 | 9 => 31 | 11 => 76 | 13 => 53 | 12 => 52 | 23 => 73 | 24 => 74 | 14 => 64 | 15 => 65 | 16 => 66 | 17 => 67 | 18 => 68 | 19 => 69 | 20 => 70 | 21 => 71 | 22 => 72 | 25 => 77 | 26 => 78 | 27 => 79 | 28 => 80 | 29 => 81 | 30 => 82 | 31 => 83 | n => n, fun | 26 => 3 | 28 => 91 | 24 => 38 | 0 => 0 | 3 => 3 | 37 => 100 | 48 => 114 | 50 => 116 | 4 => 4 | 40 => 107 | 39 => 106 | 45 => 111 | 5 => 5 | 9 => 9 | 51 => 119 | 55 => 123 | 57 => 125 | 58 => 126 | 33 => 66 | n => n, fun | n => n⟩
theorem Try.sortedA : Go.Proofs.SlLaysZI.n6 Try.prog Try.sortedA_ren := {
 mixed := by kernel_rfl
 f6 := ⟨Try.f48.name, by decide, Try.func48.trans (congrArg some (by kernel_rfl))⟩
 f8 := ⟨Try.f60.name, by decide, Try.func60.trans (congrArg some (by kernel_rfl))⟩
 f11 := ⟨Try.f76.name, by decide, Try.func76.trans (congrArg some (by kernel_rfl))⟩
 t0 := Try.underlying0
 a0 := Try.isAgg0
 z0 := Try.sizeOf0
 v0 := Try.zeroValue0
 t24 := Try.underlying38
 a24 := Try.isAgg38
 z24 := Try.sizeOf38
 v24 := Try.zeroValue38
 t26 := Try.underlying3
 a26 := Try.isAgg3
 z26 := Try.sizeOf3
 v26 := Try.zeroValue3
 t28 := Try.underlying91
 a28 := Try.isAgg91
 z28 := Try.sizeOf91
 v28 := Try.zeroValue91
 i26 := by kernel_rfl }
end Go.Proofs
end
section
namespace Go.Proofs.Ytlmjdchcgfpngaa.P
open Go.RowKit Go.Proofs.YtlmjdchcgfpngaaW.PrintWords Go.Proofs.YtlmjdchcgfpngaaW.PrintLast Go.Proofs.YtlmjdchcgfpngaaW.PrintMore
attribute [local go_sem] zbo zbq zbz zbx zbi zbg zbr zbp
section
open Go.Maps Go.Sort Go.Shelf
theorem sortsA (m : Nat) : AnyZI.SortsIn Try.prog Try.sortedA_ren Fence.wide m :=
 ⟨fun blk off cap ss W hH hblk hsz => callsIn_wide.2 (Try.slices_Sort_int blk off cap ss W hH hblk hsz),
  fun p cap W => callsIn_wide.2 (Try.slices_Sort_int_none p cap W)⟩
theorem keys_ok (mb : Option Nat) (W : World) : Calls Try.prog 49 #[.map mb] W fun e w' => e = .returned (.func (.func 61) #[] #[.pointer (some ⟨W.heap.size, 0, none⟩)]) ∧ w' = W.alloc (.cells #[.map mb] 60) :=
 (callsIn_wide (n := 5)).1 (AnyZI.keys_in Try.keysA Fence.wide 5 trivial rfl mb W)
theorem sorted_ok {H : Type} (b nn : Nat) (D0 : DataW H) (R : Value → Option (DataW H × List MemPlace)) (w : World) (hown : w.ownsMap Try.prog 3 R b nn D0) (hmax : Maps.size D0 ≤ maxLen) (hbytes : Maps.size D0 * 8 ≤ 140737488355328) :
  Calls Try.prog 48 #[.func (.func 61) #[] #[.pointer (some ⟨w.heap.size, 0, none⟩)]] (w.alloc (.cells #[.map (some b)] 60)) fun e w' => ∃ (v : Value) (ss : List Int), e = .returned v ∧ ss.Perm (intKeys D0) ∧
   w'.ownsRow (w.alloc (.cells #[.map (some b)] 60)).heap.size 3 1 v ss.length ((ss.mergeSort (fun x y => decide (x ≤ y))).map encZ) ∧ (v = .slice none 0 0 ↔ ss = []) ∧ Below (w.alloc (.cells #[.map (some b)] 60)).heap.size (w.alloc (.cells #[.map (some b)] 60)) w' := by
 have hbl := hown.lt
 have hseq : SeqGives Fence.wide 2 Try.prog 61 #[.pointer (some ⟨w.heap.size, 0, none⟩)] encZ (fun ss => ss.Perm (intKeys D0)) (Maps.size D0) (w.alloc (.cells #[.map (some b)] 60)) :=
  AnyZI.keys_gives (ρ := Try.keysA_ren) { Try.keysA with } Fence.wide _ trivial rfl (by omega) w.heap.size b nn D0 _ (by simp) (by simp) (by
   obtain ⟨es, clock, hb, Ft, hs, hD⟩ := hown
   exact ⟨es, clock, (Below.heap_alloc _ _ b hbl).trans hb, Ft, hs, hD⟩)
 have cS := AnyZI.sorted_in Try.sortedA Fence.wide 5 trivial trivial trivial trivial rfl (by omega) (sortsA _) (enters_of Try.func31 (by kernel_rfl) rfl ) 61 #[.pointer (some ⟨w.heap.size, 0, none⟩)] trivial (enters_of Try.func61 (by kernel_rfl) rfl) _ _ hmax hbytes _ hseq
 change CallsIn _ _ Try.prog 48 _ _ _ at cS
 exact (callsIn_wide (n := 5)).1 cS
theorem ids_perm {w : World} {m n : Nat} {nb : Int → Nat} {L : List S84} (hA : Asc L) {D : DataW Nat} (hown : w.ownsMap Try.prog 3 (mkR mkP) m n D) (hd : HoldsM D (fun id => (fnd L id).map fun _ => nb id)) : (L.map (·.f0)).Perm (intKeys D) := by
 refine CollectedI.perm (left := fun _ => false) ⟨?_, fun x => ?_⟩ hown (Maps.int_keyed Try.underlying3) Try.underlying3 (fun _ => rfl)
 ·
  exact (List.pairwise_map.2 hA).imp (fun h e => by omega)
 ·
  rw [hd.has]
  constructor
  ·
   intro hx
   obtain ⟨e, he, rfl⟩ := List.mem_map.1 hx
   exact ⟨by rw [fnd_mem hA he]; rfl, rfl⟩
  ·
   rintro ⟨hx, _⟩
   cases hf : fnd L x with
   | none => rw [hf] at hx; cases hx
   | some y =>
    obtain ⟨h1, h2⟩ := za5 hf
    exact List.mem_map.2 ⟨y, h1, h2⟩
end
theorem row_ints {w : World} {base : Nat} {v : Value} {n : Nat} {l : List Int} (h : w.ownsRow base 3 1 v n (l.map encZ)) : IntsAt w v l := by
 have hl : l.length = n := by have := h.1; simpa using this
 subst hl
 obtain ⟨_, hv⟩ := h
 rcases hv with ⟨rfl, h0⟩ | ⟨g, cap, cur, rfl, hb, hg, hc, hm, hsz, ht⟩
 ·
  obtain rfl : l = [] := List.length_eq_zero_iff.1 h0
  exact IntsAt.nil w none 0
 ·
  refine ⟨_, _, rfl, hc, rfl, by simp [maxLen] at hm; omega, fun _ => ⟨_, rfl, fun j p hj => ⟨[.int .i64 p], rfl, rfl, fun i u hu => ?_⟩⟩⟩
  match i, hu with
  | 0, hu =>
   have e : (Addr.add ⟨g, 0, none⟩ (j * (Kd.int .i64).sz + 0)) = ⟨g, j, none⟩ := by
    show (Addr.add ⟨g, 0, none⟩ (j * 1 + 0)) = _
    rw [Nat.mul_one, Nat.add_zero, add_plain]
   rw [e, za hg]
   have h1 : (cur.toList.take (l.length * 1))[j]? = (l.map encZ)[j]? := by rw [ht]
   obtain ⟨hjl, hjp⟩ := List.getElem?_eq_some_iff.1 hj
   rw [List.getElem?_take, if_pos (by omega), List.getElem?_map, hj] at h1
   rw [← Array.getElem?_toList, h1]
   simpa [encZ] using hu
theorem ids_ok {w : World} {fb tb ts m : Nat} {nb : Int → Nat} {n room : Nat} {last : Int} {L : List S84} (h : FAt w fb tb ts m nb n room last L) (hG : GoodF room last L) :
  Calls Try.prog 20 #[.pointer (some ⟨fb, 0, none⟩)] w fun e w' => ∃ v, e = .returned v ∧ IntsAt w' v (L.map (·.f0)) ∧ Below w.heap.size w w' := by
 obtain ⟨D, hown, hd⟩ := h.2.2.1
 have hA := hG.2.2.2.2.1
 have hL : L.length ≤ 64 := Nat.le_trans hG.2.1 hG.1
 have hp := ids_perm hA hown hd
 have hsz : Maps.size D = L.length := by
  have h1 := hp.length_eq
  rw [List.length_map] at h1
  rw [h1]
  cases D <;> simp [Maps.size, intKeys]
 obtain ⟨f0, f1⟩ := h.facts
 have HP := Aside0.mk hp
 have HS := Aside0.mk (sorted_ok m n D (mkR mkP) w hown (by rw [hsz]; simp [maxLen]; omega) (by rw [hsz]; omega))
 have HI := Aside0.mk hA
 clear hown hd hp hsz h hA hG
 go_enter Try.func20, Try.ntmps20
 go_wp2_with fail
 go_at_call 49
 refine (keys_ok _ _).mono ?_
 rintro e w1 ⟨rfl, rfl⟩
 go_wp2_with fail
 go_at_call 48
 refine HS.out.mono ?_
 rintro e w2 ⟨v, ss, rfl, hss, hrow, _, hb⟩
 rw [sort_perm (hss.trans HP.out.symm) (List.pairwise_map.2 HI.out)] at hrow
 have HR := Aside0.mk (row_ints hrow)
 have HB := Aside0.mk (zab (zad (Below.refl _ w) _) hb)
 clear hss hrow hb
 go_wp2_with fail
 go_ret
 exact ⟨v, rfl, HR.out, HB.out⟩
theorem forB_Ids {B : Nat} {w : World} {fb n room : Nat} {last : Int} {L : List S84} (h : ForB B w fb n room last L) (hG : GoodF room last L) :
  Calls Try.prog 20 #[.pointer (some ⟨fb, 0, none⟩)] w fun e w' => ∃ v, e = .returned v ∧ IntsAt w' v (L.map (·.f0)) ∧ Below w.heap.size w w' := by
 obtain ⟨tb, ts, m, nb, h1, h2, h3⟩ := h
 exact ids_ok h1 hG
end Go.Proofs.Ytlmjdchcgfpngaa.P
end
section
namespace Go.Proofs.Ytlmjdchcgfpngaa.P
open Go.RowKit Go.Proofs.YtlmjdchcgfpngaaW.PrintWords Go.Proofs.YtlmjdchcgfpngaaW.PrintLast Go.Proofs.YtlmjdchcgfpngaaW.PrintMore
attribute [local go_sem] zbo zbq zbz zbx zbi zbg zbr zbp
theorem rd_nat84 {L : List S84} {j : Nat} (hj : j < L.length) : rd_T84 L (j : Int) = L[j] := by
 simp [rd_T84, hj]
theorem at_go {L : List S84} (ro la id : Int) (hL : L.length < 1000000) : ∀ q i : Nat, i + q = L.length →
  (Ev (fun k => zae.l0 k id (L.length : Int) (i : Int) ro la L) (-1) ∧ ∀ j, i ≤ j → ∀ h : j < L.length, L[j].f0 ≠ id) ∨ ∃ j, ∃ h : j < L.length, L[j].f0 = id ∧ Ev (fun k => zae.l0 k id (L.length : Int) (i : Int) ro la L) (j : Int)
 | 0, i, hi => by
  refine .inl ⟨?_, fun j h1 h2 => by omega⟩
  exact Ev.step (fun _ => zae.l0.eq_2 ..) (Ev.neg_ (by omega) (Ev.const _))
 | q + 1, i, hi => by
  have hil : i < L.length := by omega
  by_cases e : L[i].f0 = id
  ·
   refine .inr ⟨i, hil, e, ?_⟩
   refine Ev.step (fun _ => zae.l0.eq_2 ..) (Ev.pos_ (by omega) (Ev.pos_ (by omega) (Ev.pos_ (by omega) (Ev.pos_ ?_ (Ev.const _)))))
   rw [rd_nat84 hil]
   exact e
  ·
   have step : ∀ r : Int, Ev (fun k => zae.l0 k id (L.length : Int) ((i + 1 : Nat) : Int) ro la L) r → Ev (fun k => zae.l0 k id (L.length : Int) (i : Int) ro la L) r := fun r h => by
    refine Ev.step (fun _ => zae.l0.eq_2 ..) (Ev.pos_ (by omega) (Ev.pos_ (by omega) (Ev.pos_ (by omega) (Ev.neg_ ?_ ?_))))
    ·
     rw [rd_nat84 hil]
     exact e
    ·
     rw [wadd1 i (by omega)]
     exact h
   rcases at_go ro la id hL q (i + 1) (by omega) with ⟨h1, h2⟩ | ⟨j, hj, h1, h2⟩
   ·
    refine .inl ⟨step _ h1, fun j hij hj => ?_⟩
    by_cases e2 : j = i
    ·
     subst e2
     exact e
    ·
     exact h2 j (by omega) hj
   ·
    exact .inr ⟨j, hj, h1, step _ h2⟩
theorem at_none {L : List S84} (hL : L.length < 1000000) {id : Int} (h : fnd L id = none) (ro la : Int) : Ev (fun k => zae.f k ro la L id) (-1) := by
 rcases at_go ro la id hL L.length 0 (by omega) with ⟨h1, _⟩ | ⟨j, hj, h1, _⟩
 ·
  exact h1
 ·
  exact absurd h1 (fnd_none h _ (List.getElem_mem hj))
theorem at_some {L : List S84} (hA : Asc L) (hL : L.length < 1000000) {id : Int} {g : S84} (h : fnd L id = some g) (ro la : Int) : ∃ j : Nat, j < L.length ∧ rd_T84 L (j : Int) = g ∧ L[j]? = some g ∧ Ev (fun k => zae.f k ro la L id) (j : Int) := by
 obtain ⟨hg, rfl⟩ := za5 h
 rcases at_go ro la g.f0 hL L.length 0 (by omega) with ⟨_, h1⟩ | ⟨j, hj, h1, h2⟩
 ·
  obtain ⟨j, hj, e⟩ := List.getElem_of_mem hg
  exact absurd (by rw [e]) (h1 j (Nat.zero_le _) hj)
 ·
  have e := hA.inj (List.getElem_mem hj) hg h1
  exact ⟨j, hj, by rw [rd_nat84 hj, e], by rw [List.getElem?_eq_getElem hj, e], h2⟩
theorem prt_fnd {L : List S84} {id p : Int} (h : prt L id = some p) : ∃ g, fnd L id = some g ∧ g.f1 = p := by
 unfold prt at h
 cases hf : fnd L id with
 | none => rw [hf] at h; cases h
 | some g => rw [hf] at h; cases h; exact ⟨g, rfl, rfl⟩
theorem depth_l {L : List S84} (hA : Asc L) (hL : L.length < 1000000) (ro la : Int) : ∀ (c : List Int) (id : Int) (n : Nat), Ch (prt L) c id → n + c.length < 1000000 → Ev (fun k => zaj.l0 k id (n : Int) ro la L) ((n + c.length : Nat) : Int)
 | [], id, n, h, _ => by
  have h0 : id < 0 := h
  exact Ev.step (fun _ => zaj.l0.eq_2 ..) (Ev.neg_ (by omega) (Ev.const _))
 | x :: c, id, n, h, hn => by
  obtain ⟨rfl, h0, p, hp, h1⟩ := h
  obtain ⟨g, hf, rfl⟩ := prt_fnd hp
  obtain ⟨j, hj, hr, _, hev⟩ := at_some hA hL hf ro la
  rw [List.length_cons] at hn ⊢
  refine Ev.step (fun _ => zaj.l0.eq_2 ..) (Ev.pos_ (by omega) (Ev.bind hev (Ev.pos_ (by omega) (Ev.pos_ (by omega) ?_))))
  rw [hr, wadd1 n (by omega)]
  have := depth_l hA hL ro la c g.f1 (n + 1) h1 (by omega)
  rw [show n + 1 + c.length = n + (c.length + 1) by omega] at this
  exact this
theorem depth_f {room : Nat} {last : Int} {L : List S84} (hG : GoodF room last L) {g : S84} (hg : g ∈ L) (ro la : Int) : Ev (fun k => zaj.f k ro la L g.f0) ((way L g.f0).length : Nat) := by
 have hl : L.length ≤ 64 := Nat.le_trans hG.2.1 hG.1
 obtain ⟨hc, hw⟩ := hG.way hg
 have := depth_l hG.2.2.2.2.1 (by omega) ro la _ _ 0 hc (by omega)
 rw [Nat.zero_add] at this
 exact this
theorem root_l {L : List S84} (hA : Asc L) (hL : L.length < 1000000) (ro la : Int) : ∀ (c : List Int) (id : Int), Ch (prt L) c id → 0 ≤ id → Ev (fun k => zai.l0 k id ro la L) (c.getLast?.getD 0)
 | [], id, h, h0 => by
  have : id < 0 := h
  omega
 | x :: c, id, h, h0 => by
  obtain ⟨rfl, _, p, hp, h1⟩ := h
  obtain ⟨g, hf, rfl⟩ := prt_fnd hp
  obtain ⟨j, hj, hr, _, hev⟩ := at_some hA hL hf ro la
  refine Ev.step (fun _ => zai.l0.eq_2 ..) (Ev.bind hev (Ev.pos_ (by omega) (Ev.pos_ (by omega) ?_)))
  rw [hr]
  cases c with
  | nil =>
   have h2 : g.f1 < 0 := h1
   exact Ev.neg_ (by omega) (Ev.const _)
  | cons y c =>
   have h2 : 0 ≤ g.f1 := h1.2.1
   refine Ev.pos_ (by omega) (Ev.bind hev (Ev.pos_ (by omega) (Ev.pos_ (by omega) ?_)))
   rw [hr, List.getLast?_cons_cons]
   exact root_l hA hL ro la (y :: c) g.f1 h1 h2
theorem root_f {room : Nat} {last : Int} {L : List S84} (hG : GoodF room last L) {g : S84} (hg : g ∈ L) (ro la : Int) : Ev (fun k => zai.f k ro la L g.f0) (rootG L g.f0) := by
 have hl : L.length ≤ 64 := Nat.le_trans hG.2.1 hG.1
 exact root_l hG.2.2.2.2.1 (by omega) ro la _ _ (hG.way hg).1 (by have := (hG.2.2.2.2.2 g hg).1; omega)
theorem below_l {L : List S84} (hA : Asc L) (hL : L.length < 1000000) (ro la top : Int) : ∀ (c : List Int) (id : Int), Ch (prt L) c id → Ev (fun k => zaq.l0 k id top ro la L) (decide (top ∈ c))
 | [], id, h => by
  have h0 : id < 0 := h
  refine Ev.step (fun _ => zaq.l0.eq_2 ..) (Ev.neg_ (by omega) ?_)
  rw [decide_eq_false (by simp)]
  exact Ev.const _
 | x :: c, id, h => by
  obtain ⟨rfl, h0, p, hp, h1⟩ := h
  obtain ⟨g, hf, rfl⟩ := prt_fnd hp
  obtain ⟨j, hj, hr, _, hev⟩ := at_some hA hL hf ro la
  refine Ev.step (fun _ => zaq.l0.eq_2 ..) (Ev.pos_ (by omega) ?_)
  by_cases e : x = top
  ·
   refine Ev.pos_ e ?_
   rw [decide_eq_true (by simp [e])]
   exact Ev.const _
  ·
   refine Ev.neg_ e (Ev.bind hev (Ev.pos_ (by omega) (Ev.pos_ (by omega) ?_)))
   rw [hr, show decide (top ∈ x :: c) = decide (top ∈ c) from decide_eq_decide.2 ⟨fun h => by
    rcases List.mem_cons.1 h with h | h
    ·
     exact absurd h.symm e
    ·
     exact h, fun h => List.mem_cons_of_mem _ h⟩]
   exact below_l hA hL ro la top c g.f1 h1
theorem below_f {room : Nat} {last : Int} {L : List S84} (hG : GoodF room last L) {g : S84} (hg : g ∈ L) (ro la top : Int) : Ev (fun k => zaq.f k ro la L g.f0 top) (decide (top ∈ way L g.f0)) := by
 have hl : L.length ≤ 64 := Nat.le_trans hG.2.1 hG.1
 exact below_l hG.2.2.2.2.1 (by omega) ro la top _ _ (hG.way hg).1
theorem children_l {L : List S84} (hL : L.length < 1000000) (ro la id : Int) : ∀ (q i : Nat) (out : List Int), i + q = L.length → out.length ≤ i →
  Ev (fun k => zas.l0 k id out (L.length : Int) (i : Int) ro la L) (out ++ ((L.drop i).filter fun y => y.f1 == id && decide (0 < id)).map (·.f0))
 | 0, i, out, hi, ho => by
  rw [List.drop_of_length_le (by omega)]
  refine Ev.step (fun _ => zas.l0.eq_2 ..) (Ev.neg_ (by omega) ?_)
  simp only [List.filter_nil, List.map_nil, List.append_nil]
  exact Ev.const _
 | q + 1, i, out, hi, ho => by
  have hil : i < L.length := by omega
  rw [List.drop_eq_getElem_cons hil, List.filter_cons]
  refine Ev.step (fun _ => zas.l0.eq_2 ..) (Ev.pos_ (by omega) (Ev.pos_ (by omega) (Ev.pos_ (by omega) ?_)))
  rw [rd_nat84 hil, wadd1 i (by omega)]
  by_cases e : L[i].f1 = id
  ·
   refine Ev.pos_ e ?_
   by_cases e2 : 0 < id
   ·
    refine Ev.pos_ e2 (Ev.pos_ (by omega) ?_)
    rw [if_pos (by simp [e, e2]), List.map_cons]
    have := children_l hL ro la id q (i + 1) (out ++ [L[i].f0]) (by omega) (by rw [List.length_append, List.length_singleton]; omega)
    rw [List.append_assoc, List.singleton_append] at this
    exact this
   ·
    refine Ev.neg_ e2 ?_
    rw [if_neg (by simp [e2])]
    exact children_l hL ro la id q (i + 1) out (by omega) (by omega)
  ·
   refine Ev.neg_ e ?_
   rw [if_neg (by simp [e])]
   exact children_l hL ro la id q (i + 1) out (by omega) (by omega)
theorem children_f {room : Nat} {last : Int} {L : List S84} (hG : GoodF room last L) {id : Int} (h0 : 0 < id) (ro la : Int) : Ev (fun k => zas.f k ro la L id) (kidsF L id) := by
 have hl : L.length ≤ 64 := Nat.le_trans hG.2.1 hG.1
 have := children_l (L := L) (by omega) ro la id L.length 0 [] (by omega) (Nat.zero_le _)
 rw [List.nil_append, List.drop_zero] at this
 have e : (L.filter fun y => y.f1 == id && decide (0 < id)) = L.filter fun y => decide (0 ≤ y.f1) && y.f1 == id := by
  refine List.filter_congr fun y _ => ?_
  by_cases e : y.f1 = id
  ·
   simp [e, h0, Int.le_of_lt h0]
  ·
   have e3 : (y.f1 == id) = false := beq_eq_false_iff_ne.mpr e
   rw [e3]
   simp
 rw [e] at this
 exact this
theorem kidsF_kid {L : List S84} {id : Int} (h0 : 0 < id) : ((kidsF L id).length : Int) = kid L id := by
 unfold kidsF kid
 rw [List.length_map]
 congr 2
 refine List.filter_congr fun y _ => ?_
 by_cases e : y.f1 = id
 ·
  simp [e, Int.le_of_lt h0]
 ·
  have e3 : (y.f1 == id) = false := beq_eq_false_iff_ne.mpr e
  rw [e3]
  simp
theorem fan_f {room : Nat} {last : Int} {L : List S84} (hG : GoodF room last L) {g : S84} (hg : g ∈ L) (ro la : Int) : Ev (fun k => zaw.f k ro la L g.f0) (kid L g.f0 + g.f3) := by
 have hl : L.length ≤ 64 := Nat.le_trans hG.2.1 hG.1
 obtain ⟨g1, _, _, _, _, g6, g7, g8⟩ := hG.2.2.2.2.2 g hg
 obtain ⟨j, hj, hr, _, hev⟩ := at_some hG.2.2.2.2.1 (by omega) (fnd_mem hG.2.2.2.2.1 hg) ro la
 have hk := zba L g.f0
 refine Ev.bind (children_f hG (by omega) ro la) (Ev.bind hev (Ev.pos_ (by omega) (Ev.pos_ (by omega) ?_)))
 rw [hr, kidsF_kid (by omega), w64s (by omega) (by omega)]
 exact Ev.const _
theorem active_l {room : Nat} {last : Int} {L : List S84} (hG : GoodF room last L) {g : S84} (hg : g ∈ L) (ro la : Int) : ∀ (q i : Nat) (n : Int), i + q = L.length → (0 ≤ n ∧ n ≤ 32 * (i : Int)) →
  Ev (fun k => zak.l0 k g.f0 n (L.length : Int) (i : Int) ro la L) (n + ((L.drop i).map fun y => if g.f0 ∈ way L y.f0 then y.f4 else 0).sum)
 | 0, i, n, hi, hn => by
  rw [List.drop_of_length_le (by omega)]
  refine Ev.step (fun _ => zak.l0.eq_2 ..) (Ev.neg_ (by omega) ?_)
  simp only [List.map_nil, List.sum_nil, Int.add_zero]
  exact Ev.const _
 | q + 1, i, n, hi, hn => by
  have hl : L.length ≤ 64 := Nat.le_trans hG.2.1 hG.1
  have hil : i < L.length := by omega
  have hm : L[i] ∈ L := List.getElem_mem hil
  obtain ⟨_, _, _, _, _, g6, g7, g8⟩ := hG.2.2.2.2.2 _ hm
  have hk := zba L L[i].f0
  obtain ⟨j, hj, _, _, hev⟩ := at_some hG.2.2.2.2.1 (by omega) (fnd_mem hG.2.2.2.2.1 hg) ro la
  rw [List.drop_eq_getElem_cons hil, List.map_cons, List.sum_cons]
  have hbf := below_f hG hm ro la g.f0
  refine Ev.step (fun _ => zak.l0.eq_2 ..) (Ev.pos_ (by omega) (Ev.bind hev (Ev.pos_ (by omega) (Ev.pos_ (by omega) (Ev.pos_ (by omega) ?_)))))
  rw [rd_nat84 hil, wadd1 i (by omega)]
  refine Ev.bind hbf ?_
  by_cases e : g.f0 ∈ way L L[i].f0
  ·
   refine Ev.pos_ (decide_eq_true e) ?_
   rw [if_pos e, w64s (by omega) (by omega), ← Int.add_assoc]
   exact active_l hG hg ro la q (i + 1) (n + L[i].f4) (by omega) (by push_cast; omega)
  ·
   refine Ev.neg_ (by rw [decide_eq_false e]; decide) ?_
   rw [if_neg e, Int.zero_add]
   exact active_l hG hg ro la q (i + 1) n (by omega) (by push_cast; omega)
theorem active_f {room : Nat} {last : Int} {L : List S84} (hG : GoodF room last L) {g : S84} (hg : g ∈ L) (ro la : Int) : Ev (fun k => zak.f k ro la L g.f0) (act L g.f0) := by
 have := active_l hG hg ro la L.length 0 0 (by omega) (by omega)
 rw [List.drop_zero, Int.zero_add] at this
 exact this
theorem more_f {room : Nat} {last : Int} {L : List S84} (hG : GoodF room last L) (ro p wt : Int) : zax.f ro last L p wt = some (ro, last + 1, L ++ [⟨last + 1, p, wt, 0, 0⟩], last + 1) := by
 have hl : L.length ≤ 64 := Nat.le_trans hG.2.1 hG.1
 obtain ⟨_, _, h0, h1, _⟩ := hG
 unfold zax.f
 rw [w64s (x := last + 1) (by omega) (by omega)]
 simp only [Option.bind_some, List.nil_append, List.length_nil, Nat.zero_add, List.length_singleton]
 rw [if_pos (by omega), if_pos (by omega)]
theorem setp_f {L : List S84} (hL : L.length < 1000000) (ro la : Int) {j : Nat} (hj : j < L.length) (a b c d e : Int) : za9.f ro la L (j : Int) a b c d e = some (ro, la, L.set j ⟨a, b, c, d, e⟩) := by
 unfold za9.f
 simp only [Option.bind_some, List.nil_append, List.length_nil, Nat.zero_add, Int.toNat_natCast]
 rw [if_pos (by omega), if_pos (by omega), if_pos (by omega)]
theorem set_setG {L : List S84} (hA : Asc L) {j : Nat} {g : S84} (hj : L[j]? = some g) (h : S84 → S84) : L.set j (h g) = setG L g.f0 h := by
 obtain ⟨hjl, hjg⟩ := List.getElem?_eq_some_iff.1 hj
 unfold setG
 refine List.ext_getElem (by simp) fun i h1 h2 => ?_
 rw [List.getElem_set, List.getElem_map]
 have hil : i < L.length := by simpa using h1
 by_cases e : j = i
 ·
  subst e
  rw [if_pos rfl, hjg, if_pos rfl]
 ·
  rw [if_neg e, if_neg]
  intro e2
  have := hA
  unfold Asc at this
  rw [List.pairwise_iff_getElem] at this
  subst hjg
  rcases Nat.lt_or_gt_of_ne e with h | h
  ·
   have := this j i hjl hil h
   omega
  ·
   have := this i j hil hjl h
   omega
theorem ref_AddRoot {room : Nat} {last : Int} {L : List S84} (hG : GoodF room last L) : zbh.f (room : Int) last L = some ((room : Int), (rootF room last L).1, (rootF room last L).2.1, (rootF room last L).2.2.1, (rootF room last L).2.2.2) := by
 unfold zbh.f rootF
 by_cases h : L.length = room
 ·
  rw [if_pos (by omega), if_pos h]
 ·
  rw [if_neg (by omega), if_neg h, more_f hG]
  rfl
theorem ref_Add {room : Nat} {last : Int} {L : List S84} (hG : GoodF room last L) (p wt : Int) : Ev (fun k => za2.f k (room : Int) last L p wt) ((room : Int), (addF room last L p wt).1, (addF room last L p wt).2.1, (addF room last L p wt).2.2.1, (addF room last L p wt).2.2.2) := by
 have hl : L.length ≤ 64 := Nat.le_trans hG.2.1 hG.1
 cases hf : fnd L p with
 | none =>
  rw [addF_none hf]
  exact Ev.bind (at_none (by omega) hf _ _) (Ev.pos_ (by omega) (Ev.const _))
 | some g =>
  rw [addF_some hf]
  obtain ⟨j, hj, hr, hjg, hev⟩ := at_some hG.2.2.2.2.1 (by omega) hf (room : Int) last
  obtain ⟨hg, rfl⟩ := za5 hf
  refine Ev.bind hev (Ev.neg_ (by omega) ?_)
  by_cases hw : wt < 1 ∨ 10000 < wt
  ·
   rw [if_pos hw]
   by_cases h1 : wt < 1
   ·
    exact Ev.pos_ h1 (Ev.step (fun _ => za2.j0.eq_2 ..) (Ev.pos_ rfl (Ev.const _)))
   ·
    exact Ev.neg_ h1 (Ev.step (fun _ => za2.j0.eq_2 ..) (Ev.pos_ (decide_eq_true (by omega)) (Ev.const _)))
  ·
   rw [if_neg hw]
   refine Ev.neg_ (by omega) (Ev.step (fun _ => za2.j0.eq_2 ..) (Ev.neg_ (by rw [decide_eq_false (by omega)]; decide) (Ev.bind (depth_f hG hg _ _) ?_)))
   by_cases hd : (way L g.f0).length = 8
   ·
    rw [if_pos hd]
    exact Ev.pos_ (by omega) (Ev.const _)
   ·
    rw [if_neg hd]
    refine Ev.neg_ (by omega) (Ev.bind (fan_f hG hg _ _) ?_)
    by_cases hk : kid L g.f0 + g.f3 = 32
    ·
     refine Ev.pos_ hk ?_
     rw [if_pos (show kid L g.f0 + g.f3 = 32 ∨ L.length = room from .inl hk)]
     exact Ev.const _
    ·
     refine Ev.neg_ hk ?_
     by_cases hlr : L.length = room
     ·
      refine Ev.pos_ (by omega) ?_
      rw [if_pos (show kid L g.f0 + g.f3 = 32 ∨ L.length = room from .inr hlr)]
      exact Ev.const _
     ·
      refine Ev.neg_ (by omega) ?_
      rw [if_neg (show ¬ (kid L g.f0 + g.f3 = 32 ∨ L.length = room) from fun hh => hh.elim hk hlr)]
      rw [more_f hG]
      exact Ev.const _
theorem ref_Drop {room : Nat} {last : Int} {L : List S84} (hG : GoodF room last L) (id : Int) : Ev (fun k => za4.f k (room : Int) last L id) ((room : Int), last, (drpF L id).1, (drpF L id).2) := by
 have hl : L.length ≤ 64 := Nat.le_trans hG.2.1 hG.1
 cases hf : fnd L id with
 | none =>
  rw [drpF_none hf]
  exact Ev.bind (at_none (by omega) hf _ _) (Ev.pos_ (by omega) (Ev.const _))
 | some g =>
  rw [drpF_some hf]
  obtain ⟨j, hj, hr, hjg, hev⟩ := at_some hG.2.2.2.2.1 (by omega) hf (room : Int) last
  obtain ⟨hg, rfl⟩ := za5 hf
  refine Ev.bind hev (Ev.neg_ (by omega) (Ev.pos_ (by omega) (Ev.pos_ (by omega) ?_)))
  rw [hr]
  by_cases h0 : g.f1 < 0
  ·
   rw [if_pos h0]
   exact Ev.pos_ h0 (Ev.const _)
  ·
   rw [if_neg h0]
   refine Ev.neg_ h0 (Ev.bind (fan_f hG hg _ _) ?_)
   by_cases hk : kid L g.f0 + g.f3 > 0
   ·
    refine Ev.pos_ hk ?_
    rw [if_pos hk]
    exact Ev.const _
   ·
    refine Ev.neg_ hk ?_
    rw [if_neg hk]
    have e : ([] : List S84) ++ L.take j ++ L.drop (j + 1) = delG L g.f0 := by
     obtain ⟨hjl, hjg2⟩ := List.getElem?_eq_some_iff.1 hjg
     have hA := hG.2.2.2.2.1
     have hA2 := hA
     rw [List.nil_append]
     have h1 : L = L.take j ++ g :: L.drop (j + 1) := by rw [← hjg2, ← List.drop_eq_getElem_cons hjl, List.take_append_drop]
     unfold Asc at hA
     rw [h1, List.pairwise_append] at hA
     obtain ⟨_, p2, p3⟩ := hA
     have p4 := (List.pairwise_cons.1 p2).1
     have e1 : delG (L.take j) g.f0 = L.take j := List.filter_eq_self.2 fun y hy => by
      have := p3 y hy g List.mem_cons_self
      simp
      omega
     have e2 : delG (L.drop (j + 1)) g.f0 = L.drop (j + 1) := List.filter_eq_self.2 fun y hy => by
      have := p4 y hy
      simp
      omega
     have e3 : delG L g.f0 = delG (L.take j) g.f0 ++ delG (L.drop (j + 1)) g.f0 := by
      unfold delG
      conv => lhs; rw [h1]
      rw [List.filter_append, List.filter_cons, if_neg (by simp)]
     rw [e3, e1, e2]
    refine Ev.bind (Ev.const _) (Ev.pos_ (by omega) (Ev.bind (Ev.const _) (Ev.pos_ (by rw [List.length_nil, List.length_take]; omega) (Ev.bind (Ev.const _) ?_))))
    rw [wadd1 j (by omega)]
    refine Ev.pos_ (by omega) (Ev.pos_ (by omega) (Ev.bind (Ev.const _) (Ev.pos_ (by rw [List.length_append, List.length_nil, List.length_take, List.length_drop]; omega) ?_)))
    rw [Int.toNat_natCast, Int.toNat_natCast, e]
    exact Ev.const _
def RefF (w : World) (P : Nat → Prop) (v : Value) (room : Nat) (last : Int) (L : List S84) : Prop := ∃ A c, v = .agg #[.int .i64 (room : Int), .int .i64 last, .slice A L.length c] ∧ Kd.V k84 84 w 0 P (.slice A L.length c) L
theorem RefF.below {w w' : World} {P : Nat → Prop} {v : Value} {room : Nat} {last : Int} {L : List S84} (h : RefF w P v room last L) (hb : Below w.heap.size w w') : RefF w' P v room last L := by
 obtain ⟨A, c, e, h⟩ := h
 exact ⟨A, c, e, Kd.za1 h hb⟩
theorem RefF.mono {w : World} {P P' : Nat → Prop} {v : Value} {room : Nat} {last : Int} {L : List S84} (h : RefF w P v room last L) (hp : ∀ k, P k → P' k) : RefF w P' v room last L := by
 obtain ⟨A, c, e, h⟩ := h
 exact ⟨A, c, e, Kd.zbk h hp⟩
theorem RefF.step {w w' : World} {P : Nat → Prop} {v : Value} {room : Nat} {last : Int} {L : List S84} (h : RefF w P v room last L) (ho : ∀ k, P k → k < w.heap.size → w'.heap[k]? = w.heap[k]?) : RefF w' P v room last L := by
 obtain ⟨A, c, e, h⟩ := h
 exact ⟨A, c, e, Kd.V_step h ho⟩
theorem call_AddRoot {w : World} {P : Nat → Prop} {v : Value} {room : Nat} {last : Int} {L : List S84} (h : RefF w P v room last L) (hG : GoodF room last L) :
  Calls Try.prog 32 #[v] w fun e w' => ∃ v', e = .returned (.tuple #[v', .int .i64 (rootF room last L).2.2.1, .int .i64 (rootF room last L).2.2.2]) ∧ RefF w' (fun k => P k ∨ w.heap.size ≤ k) v' room (rootF room last L).1 (rootF room last L).2.1 ∧ Below w.heap.size w w' := by
 obtain ⟨A, c, rfl, hv⟩ := h
 refine (zbh.calls (room : Int) last P A c L _ _ _ _ _ w hv (ref_AddRoot hG)).mono ?_
 rintro e w' ⟨u, rfl, hu, hb⟩
 obtain ⟨A', c', rfl⟩ := Kd.V_slice hu
 exact ⟨_, rfl, ⟨A', c', rfl, hu⟩, hb⟩
theorem call_Add {w : World} {P : Nat → Prop} {v : Value} {room : Nat} {last : Int} {L : List S84} (h : RefF w P v room last L) (hG : GoodF room last L) (p wt : Int) :
  Calls Try.prog 33 #[v, .int .i64 p, .int .i64 wt] w fun e w' => ∃ v', e = .returned (.tuple #[v', .int .i64 (addF room last L p wt).2.2.1, .int .i64 (addF room last L p wt).2.2.2]) ∧ RefF w' (fun k => P k ∨ w.heap.size ≤ k) v' room (addF room last L p wt).1 (addF room last L p wt).2.1 ∧ Below w.heap.size w w' := by
 obtain ⟨A, c, rfl, hv⟩ := h
 obtain ⟨k, hk⟩ := (ref_Add hG p wt).get
 refine (za2.calls k (room : Int) last P A c L p wt _ _ _ _ _ w hv hk).mono ?_
 rintro e w' ⟨u, rfl, hu, hb⟩
 obtain ⟨A', c', rfl⟩ := Kd.V_slice hu
 exact ⟨_, rfl, ⟨A', c', rfl, hu⟩, hb⟩
theorem call_Drop {w : World} {P : Nat → Prop} {v : Value} {room : Nat} {last : Int} {L : List S84} (h : RefF w P v room last L) (hG : GoodF room last L) (id : Int) :
  Calls Try.prog 35 #[v, .int .i64 id] w fun e w' => ∃ v', e = .returned (.tuple #[v', .int .i64 (drpF L id).2]) ∧ RefF w' (fun k => P k ∨ w.heap.size ≤ k) v' room last (drpF L id).1 ∧ Below w.heap.size w w' := by
 obtain ⟨A, c, rfl, hv⟩ := h
 obtain ⟨k, hk⟩ := (ref_Drop hG id).get
 refine (za4.calls k (room : Int) last P A c L id _ _ _ _ w hv hk).mono ?_
 rintro e w' ⟨u, rfl, hu, hb⟩
 obtain ⟨A', c', rfl⟩ := Kd.V_slice hu
 exact ⟨_, rfl, ⟨A', c', rfl, hu⟩, hb⟩
theorem put3 {w : World} {b : Nat} {t : TypeId} {x0 x1 x2 : Value} (y0 y1 y2 : Value) (h : w.heap[b]? = some (.cells #[x0, x1, x2] t (0, 0))) : (((w.setCell ⟨b, 0, none⟩ y0).setCell ⟨b, 1, none⟩ y1).setCell ⟨b, 2, none⟩ y2).heap[b]? = some (.cells #[y0, y1, y2] t (0, 0)) := by
 have h0 : (w.setCell ⟨b, 0, none⟩ y0).heap[b]? = some (.cells #[y0, x1, x2] t (0, 0)) := zau h 0 y0 rfl
 have h1 : ((w.setCell ⟨b, 0, none⟩ y0).setCell ⟨b, 1, none⟩ y1).heap[b]? = some (.cells #[y0, y1, x2] t (0, 0)) := zau h0 1 y1 rfl
 exact zau h1 2 y2 rfl
theorem zbm {w w5 : World} {P Q : Nat → Prop} {room : Nat} {last : Int} {A' : Option Addr} {c' : Nat} {L' : List S84} {x0 x1 x2 : Value} (hB : Below w.heap.size w w5) (hY : w5.heap[w.heap.size + 1]? = some (.cells #[x0, x1, x2] 44 (0, 0)))
  (hV : Kd.V k84 84 w5 0 Q (.slice A' L'.length c') L') (hQ : ∀ k, Q k → (P k ∨ w.heap.size ≤ k) ∧ k ≠ w.heap.size + 1) :
  (((w5.setCell ⟨w.heap.size + 1, 0, none⟩ (.int .i64 (room : Int))).setCell ⟨w.heap.size + 1, 1, none⟩ (.int .i64 last)).setCell ⟨w.heap.size + 1, 2, none⟩ (.slice A' L'.length c')).heap[w.heap.size + 1]? = some (.cells #[.int .i64 (room : Int), .int .i64 last, .slice A' L'.length c'] 44 (0, 0)) ∧
  RefF (((w5.setCell ⟨w.heap.size + 1, 0, none⟩ (.int .i64 (room : Int))).setCell ⟨w.heap.size + 1, 1, none⟩ (.int .i64 last)).setCell ⟨w.heap.size + 1, 2, none⟩ (.slice A' L'.length c')) (fun k => P k ∨ w.heap.size ≤ k) (.agg #[.int .i64 (room : Int), .int .i64 last, .slice A' L'.length c']) room last L' ∧
  Below w.heap.size w (((w5.setCell ⟨w.heap.size + 1, 0, none⟩ (.int .i64 (room : Int))).setCell ⟨w.heap.size + 1, 1, none⟩ (.int .i64 last)).setCell ⟨w.heap.size + 1, 2, none⟩ (.slice A' L'.length c')) :=
 ⟨put3 _ _ _ hY, ⟨A', c', rfl, Kd.zbk (Kd.V_far (Kd.V_far (Kd.V_far hV (fun k hk => (hQ k hk).2) _) (fun k hk => (hQ k hk).2) _) (fun k hk => (hQ k hk).2) _) fun k hk => (hQ k hk).1⟩,
  ((hB.setCell (p := ⟨w.heap.size + 1, 0, none⟩) (Nat.le_succ _) _).setCell (p := ⟨w.heap.size + 1, 1, none⟩) (Nat.le_succ _) _).setCell (p := ⟨w.heap.size + 1, 2, none⟩) (Nat.le_succ _) _⟩
theorem call_Weight {w : World} {P : Nat → Prop} {v : Value} {room : Nat} {last : Int} {L : List S84} (h : RefF w P v room last L) (hG : GoodF room last L) (id wt : Int) :
  Calls Try.prog 38 #[v, .int .i64 id, .int .i64 wt] w fun e w' => ∃ v', e = .returned (.tuple #[v', .int .i64 (wgtF L id wt).2]) ∧ RefF w' (fun k => P k ∨ w.heap.size ≤ k) v' room last (wgtF L id wt).1 ∧ Below w.heap.size w w' := by
 obtain ⟨A, c, rfl, hv⟩ := h
 obtain ⟨_, hc, hC⟩ := Kd.zay hv
 have hl : L.length ≤ 64 := Nat.le_trans hG.2.1 hG.1
 have HV := Aside0.mk hv
 have HC := Aside0.mk hC
 have Hc := Aside0.mk hc
 have HG := Aside0.mk hG
 clear hv hC hc hG
 cases hf : fnd L id with
 | none =>
  have HA := Aside0.mk (wgtF_none (wt := wt) hf)
  obtain ⟨ka, hka⟩ := (at_none (L := L) (by omega) hf (room : Int) last).get
  have HK := Aside0.mk hka
  clear hka hf
  go_enter Try.func38, Try.ntmps38
  go_wp2_with fail
  have hx := zac (za6 w (.cells #[.int .i64 (room : Int), .int .i64 last, .slice A L.length c] 44)) (.cells #[.int .i64 0, .int .i64 0, .slice none 0 0] 44)
  have hy := za6 (w.alloc (.cells #[.int .i64 (room : Int), .int .i64 last, .slice A L.length c] 44)) (.cells #[.int .i64 0, .int .i64 0, .slice none 0 0] 44)
  have hB2 := zad (zad (Below.refl _ w) (.cells #[.int .i64 (room : Int), .int .i64 last, .slice A L.length c] 44)) (.cells #[.int .i64 0, .int .i64 0, .slice none 0 0] 44)
  rw [show (w.alloc (.cells #[.int .i64 (room : Int), .int .i64 last, .slice A L.length c] 44)).heap.size = w.heap.size + 1 by simp] at hy
  generalize (w.alloc (.cells #[.int .i64 (room : Int), .int .i64 last, .slice A L.length c] 44)).alloc (.cells #[.int .i64 0, .int .i64 0, .slice none 0 0] 44) = W2 at hx hy hB2 ⊢
  go_at_call 55
  refine (zae.calls ka (room : Int) last A c L _ _ W2 (Kd.za0 HC.out hB2) Hc.out HK.out).mono ?_
  rintro e w3 ⟨rfl, hb3⟩
  have hx3 := (hb3.block _ (zar hx)).trans hx
  have hy3 := (hb3.block _ (zar hy)).trans hy
  have HB3 := Aside0.mk (zab hB2 hb3)
  have x0 : w3.cell? ⟨w.heap.size, 0, none⟩ = some (.int .i64 (room : Int)) := (za hx3 0).trans rfl
  have x1 : w3.cell? ⟨w.heap.size, 1, none⟩ = some (.int .i64 last) := (za hx3 1).trans rfl
  have x2 : w3.cell? ⟨w.heap.size, 2, none⟩ = some (.slice A L.length c) := (za hx3 2).trans rfl
  have y0 : w3.cell? ⟨w.heap.size + 1, 0, none⟩ = some (.int .i64 0) := (za hy3 0).trans rfl
  have y1 : w3.cell? ⟨w.heap.size + 1, 1, none⟩ = some (.int .i64 0) := (za hy3 1).trans rfl
  have y2 : w3.cell? ⟨w.heap.size + 1, 2, none⟩ = some (.slice none 0 0) := (za hy3 2).trans rfl
  have z0 := zaa hy3 0
  have z1 := zaa hy3 1
  have z2 := zaa hy3 2
  have HX3 := Aside0.mk hx3
  have HY3 := Aside0.mk hy3
  have HV3 := Aside0.mk (Kd.za1 (Kd.V_bound HV.out) HB3.out)
  clear hx hy hB2 hb3 hx3 hy3
  go_wp2_with fail
  obtain ⟨r1, r2, r3⟩ := zbm (room := room) (last := last) (P := P) HB3.out HY3.out HV3.out (fun k hk => ⟨.inl hk.1, by omega⟩)
  rw [HA.out]
  exact bodyPost_ret (zav rfl _ _ (w.heap.size + 1) 44 #[.int .i64 (room : Int), .int .i64 last,  .slice A L.length c] (0, 0) _ rfl r1 Try.underlying44 rfl (by kernel_rfl)) rfl ⟨_, rfl, r2, r3⟩
 | some g =>
  have HS := Aside0.mk (wgtF_some (wt := wt) hf)
  obtain ⟨j, hj, hr, hjg, hev⟩ := at_some HG.out.2.2.2.2.1 (by omega) hf (room : Int) last
  obtain ⟨hg, rfl⟩ := za5 hf
  obtain ⟨ka, hka⟩ := hev.get
  have HK := Aside0.mk hka
  have HM := Aside0.mk hg
  have HR := Aside0.mk hr
  have HJG := Aside0.mk hjg
  have hj1 : (j : Int) < (L.length : Int) := by omega
  have hj0 : decide ((j : Int) < 0) = false := decide_eq_false (by omega)
  have hj2 : 0 ≤ (j : Int) ∧ (j : Int) < (L.length : Int) := by omega
  clear hka hf hg hr hjg hev
  go_enter Try.func38, Try.ntmps38
  go_wp2_with fail
  have hx := zac (za6 w (.cells #[.int .i64 (room : Int), .int .i64 last, .slice A L.length c] 44)) (.cells #[.int .i64 0, .int .i64 0, .slice none 0 0] 44)
  have hy := za6 (w.alloc (.cells #[.int .i64 (room : Int), .int .i64 last, .slice A L.length c] 44)) (.cells #[.int .i64 0, .int .i64 0, .slice none 0 0] 44)
  have hB2 := zad (zad (Below.refl _ w) (.cells #[.int .i64 (room : Int), .int .i64 last, .slice A L.length c] 44)) (.cells #[.int .i64 0, .int .i64 0, .slice none 0 0] 44)
  rw [show (w.alloc (.cells #[.int .i64 (room : Int), .int .i64 last, .slice A L.length c] 44)).heap.size = w.heap.size + 1 by simp] at hy
  generalize (w.alloc (.cells #[.int .i64 (room : Int), .int .i64 last, .slice A L.length c] 44)).alloc (.cells #[.int .i64 0, .int .i64 0, .slice none 0 0] 44) = W2 at hx hy hB2 ⊢
  go_at_call 55
  refine (zae.calls ka (room : Int) last A c L _ _ W2 (Kd.za0 HC.out hB2) Hc.out HK.out).mono ?_
  rintro e w3 ⟨rfl, hb3⟩
  have hx3 := (hb3.block _ (zar hx)).trans hx
  have hy3 := (hb3.block _ (zar hy)).trans hy
  have HB3 := Aside0.mk (zab hB2 hb3)
  have x0 : w3.cell? ⟨w.heap.size, 0, none⟩ = some (.int .i64 (room : Int)) := (za hx3 0).trans rfl
  have x1 : w3.cell? ⟨w.heap.size, 1, none⟩ = some (.int .i64 last) := (za hx3 1).trans rfl
  have x2 : w3.cell? ⟨w.heap.size, 2, none⟩ = some (.slice A L.length c) := (za hx3 2).trans rfl
  have y0 : w3.cell? ⟨w.heap.size + 1, 0, none⟩ = some (.int .i64 0) := (za hy3 0).trans rfl
  have y1 : w3.cell? ⟨w.heap.size + 1, 1, none⟩ = some (.int .i64 0) := (za hy3 1).trans rfl
  have y2 : w3.cell? ⟨w.heap.size + 1, 2, none⟩ = some (.slice none 0 0) := (za hy3 2).trans rfl
  have z0 := zaa hy3 0
  have z1 := zaa hy3 1
  have z2 := zaa hy3 2
  have HX3 := Aside0.mk hx3
  have HY3 := Aside0.mk hy3
  have HV3 := Aside0.mk (Kd.za1 (Kd.V_bound HV.out) HB3.out)
  clear hx hy hB2 hb3 hx3 hy3
  obtain ⟨ad, e1, q0, q1, q2, q3, q4⟩ := at_T84 HC.out (j : Int) (by omega) hj1
  subst e1
  rw [HR.out, Int.toNat_natCast] at q0 q1 q2 q3 q4
  replace q0 := (HB3.out.cell (World.block_lt_of_cell? w _ q0)).trans q0
  replace q1 := (HB3.out.cell (World.block_lt_of_cell? w _ q1)).trans q1
  replace q2 := (HB3.out.cell (World.block_lt_of_cell? w _ q2)).trans q2
  replace q3 := (HB3.out.cell (World.block_lt_of_cell? w _ q3)).trans q3
  replace q4 := (HB3.out.cell (World.block_lt_of_cell? w _ q4)).trans q4
  by_cases h0 : g.f1 < 0
  ·
   have HA := Aside0.mk (HS.out.trans (if_pos h0))
   have d0 : decide (g.f1 < 0) = true := decide_eq_true h0
   go_wp2_with fail
   obtain ⟨r1, r2, r3⟩ := zbm (room := room) (last := last) (P := P) HB3.out HY3.out HV3.out (fun k hk => ⟨.inl hk.1, by omega⟩)
   rw [HA.out]
   exact bodyPost_ret (zav rfl _ _ (w.heap.size + 1) 44 #[.int .i64 (room : Int), .int .i64 last,  .slice (some ad) L.length c] (0, 0) _ rfl r1 Try.underlying44 rfl (by kernel_rfl)) rfl ⟨_, rfl, r2, r3⟩
  ·
   have HS1 := Aside0.mk (HS.out.trans (if_neg h0))
   have d0 : decide (g.f1 < 0) = false := decide_eq_false h0
   by_cases h1 : wt < 1
   ·
    have HA := Aside0.mk (HS1.out.trans (if_pos (.inl h1)))
    have d1 : decide (wt < 1) = true := decide_eq_true h1
    go_wp2_with fail
    obtain ⟨r1, r2, r3⟩ := zbm (room := room) (last := last) (P := P) HB3.out HY3.out HV3.out (fun k hk => ⟨.inl hk.1, by omega⟩)
    rw [HA.out]
    exact bodyPost_ret (zav rfl _ _ (w.heap.size + 1) 44 #[.int .i64 (room : Int), .int .i64 last,  .slice (some ad) L.length c] (0, 0) _ rfl r1 Try.underlying44 rfl (by kernel_rfl)) rfl ⟨_, rfl, r2, r3⟩
   ·
    have d1 : decide (wt < 1) = false := decide_eq_false h1
    by_cases h2 : wt > 10000
    ·
     have HA := Aside0.mk (HS1.out.trans (if_pos (.inr h2)))
     have d2 : decide (wt > 10000) = true := decide_eq_true h2
     go_wp2_with fail
     obtain ⟨r1, r2, r3⟩ := zbm (room := room) (last := last) (P := P) HB3.out HY3.out HV3.out (fun k hk => ⟨.inl hk.1, by omega⟩)
     rw [HA.out]
     exact bodyPost_ret (zav rfl _ _ (w.heap.size + 1) 44 #[.int .i64 (room : Int), .int .i64 last,  .slice (some ad) L.length c] (0, 0) _ rfl r1 Try.underlying44 rfl (by kernel_rfl)) rfl ⟨_, rfl, r2, r3⟩
    ·
     have HA := Aside0.mk (HS1.out.trans (if_neg (by omega)))
     have d2 : decide (wt > 10000) = false := decide_eq_false h2
     have hset := setp_f (by omega) (room : Int) last hj g.f0 g.f1 wt g.f3 g.f4
     rw [set_setG HG.out.2.2.2.2.1 HJG.out (fun g => ⟨g.f0, g.f1, wt, g.f3, g.f4⟩)] at hset
     have HSet := Aside0.mk hset
     have u0 : (w3.alloc (.cells #[.int .i64 g.f0, .int .i64 g.f1, .int .i64 wt, .int .i64 g.f3, .int .i64 g.f4] 84)).cell? ⟨w.heap.size, 0, none⟩ = some (Value.int .i64 (room : Int)) := (za (zac HX3.out (.cells #[.int .i64 g.f0, .int .i64 g.f1, .int .i64 wt, .int .i64 g.f3, .int .i64 g.f4] 84)) 0).trans rfl
     have u1 : (w3.alloc (.cells #[.int .i64 g.f0, .int .i64 g.f1, .int .i64 wt, .int .i64 g.f3, .int .i64 g.f4] 84)).cell? ⟨w.heap.size, 1, none⟩ = some (Value.int .i64 last) := (za (zac HX3.out (.cells #[.int .i64 g.f0, .int .i64 g.f1, .int .i64 wt, .int .i64 g.f3, .int .i64 g.f4] 84)) 1).trans rfl
     have u2 : (w3.alloc (.cells #[.int .i64 g.f0, .int .i64 g.f1, .int .i64 wt, .int .i64 g.f3, .int .i64 g.f4] 84)).cell? ⟨w.heap.size, 2, none⟩ = some (Value.slice (some ad) L.length c) := (za (zac HX3.out (.cells #[.int .i64 g.f0, .int .i64 g.f1, .int .i64 wt, .int .i64 g.f3, .int .i64 g.f4] 84)) 2).trans rfl
     have HB4 := Aside0.mk (zad HB3.out (.cells #[.int .i64 g.f0, .int .i64 g.f1, .int .i64 wt, .int .i64 g.f3, .int .i64 g.f4] 84))
     have HY4 := Aside0.mk (zac HY3.out (.cells #[.int .i64 g.f0, .int .i64 g.f1, .int .i64 wt, .int .i64 g.f3, .int .i64 g.f4] 84))
     clear hset y0 y1 y2 z0 z1 z2
     go_wp2_with fail
     go_at_call 59
     refine (za9.calls (room : Int) last (some ad) c L (j : Int) g.f0 g.f1 wt g.f3 g.f4 (room : Int) last _ _ (Kd.za0 HC.out HB4.out) Hc.out HSet.out).mono ?_
     rintro e w5 ⟨u9, rfl, hu, hb5⟩
     obtain ⟨A', c', rfl⟩ := Kd.zbv hu
     have hV5 : Kd.V k84 84 w5 0 (fun k => w3.heap.size ≤ k) (.slice A' _ c') _ := Kd.R_V (Kd.zbn (Kd.zcd hu) (fun k hk => by have := hk.2.1; simp at this; omega))
     have hy5 := (hb5.block _ (zar HY4.out)).trans HY4.out
     have HB5 := Aside0.mk (zab HB4.out hb5)
     have y0 : w5.cell? ⟨w.heap.size + 1, 0, none⟩ = some (.int .i64 0) := (za hy5 0).trans rfl
     have y1 : w5.cell? ⟨w.heap.size + 1, 1, none⟩ = some (.int .i64 0) := (za hy5 1).trans rfl
     have y2 : w5.cell? ⟨w.heap.size + 1, 2, none⟩ = some (.slice none 0 0) := (za hy5 2).trans rfl
     have z0 := zaa hy5 0
     have z1 := zaa hy5 1
     have z2 := zaa hy5 2
     have HY5 := Aside0.mk hy5
     have HV5 := Aside0.mk hV5
     have hsz3 := HB3.out.size
     have hsy := zar HY3.out
     clear hu hb5 hy5 hV5
     go_wp2_with fail
     obtain ⟨r1, r2, r3⟩ := zbm (room := room) (last := last) (P := P) HB5.out HY5.out HV5.out (fun k hk => ⟨.inr (by omega), by omega⟩)
     rw [HA.out]
     exact bodyPost_ret (zav rfl _ _ (w.heap.size + 1) 44 #[.int .i64 (room : Int), .int .i64 last, .slice A' _ c'] (0, 0) _ rfl r1 Try.underlying44 rfl (by kernel_rfl)) rfl ⟨_, rfl, r2, r3⟩
theorem call_Count {w : World} {P : Nat → Prop} {v : Value} {room : Nat} {last : Int} {L : List S84} (h : RefF w P v room last L) (hG : GoodF room last L) (id dm da : Int) (hm : -1 ≤ dm ∧ dm ≤ 1) (hda : -1 ≤ da ∧ da ≤ 1) :
  Calls Try.prog 39 #[v, .int .i64 id, .int .i64 dm, .int .i64 da] w fun e w' => ∃ v', e = .returned (.tuple #[v', .int .i64 (cntF L id dm da).2]) ∧ RefF w' (fun k => P k ∨ w.heap.size ≤ k) v' room last (cntF L id dm da).1 ∧ Below w.heap.size w w' := by
 obtain ⟨A, c, rfl, hv⟩ := h
 obtain ⟨_, hc, hC⟩ := Kd.zay hv
 have hl : L.length ≤ 64 := Nat.le_trans hG.2.1 hG.1
 have HV := Aside0.mk hv
 have HC := Aside0.mk hC
 have Hc := Aside0.mk hc
 have HG := Aside0.mk hG
 clear hv hC hc hG
 cases hf : fnd L id with
 | none =>
  have HA := Aside0.mk (cntF_none (dm := dm) (da := da) hf)
  obtain ⟨ka, hka⟩ := (at_none (L := L) (by omega) hf (room : Int) last).get
  have HK := Aside0.mk hka
  clear hka hf
  go_enter Try.func39, Try.ntmps39
  go_wp2_with fail
  have hx := zac (za6 w (.cells #[.int .i64 (room : Int), .int .i64 last, .slice A L.length c] 44)) (.cells #[.int .i64 0, .int .i64 0, .slice none 0 0] 44)
  have hy := za6 (w.alloc (.cells #[.int .i64 (room : Int), .int .i64 last, .slice A L.length c] 44)) (.cells #[.int .i64 0, .int .i64 0, .slice none 0 0] 44)
  have hB2 := zad (zad (Below.refl _ w) (.cells #[.int .i64 (room : Int), .int .i64 last, .slice A L.length c] 44)) (.cells #[.int .i64 0, .int .i64 0, .slice none 0 0] 44)
  rw [show (w.alloc (.cells #[.int .i64 (room : Int), .int .i64 last, .slice A L.length c] 44)).heap.size = w.heap.size + 1 by simp] at hy
  generalize (w.alloc (.cells #[.int .i64 (room : Int), .int .i64 last, .slice A L.length c] 44)).alloc (.cells #[.int .i64 0, .int .i64 0, .slice none 0 0] 44) = W2 at hx hy hB2 ⊢
  go_at_call 55
  refine (zae.calls ka (room : Int) last A c L _ _ W2 (Kd.za0 HC.out hB2) Hc.out HK.out).mono ?_
  rintro e w3 ⟨rfl, hb3⟩
  have hx3 := (hb3.block _ (zar hx)).trans hx
  have hy3 := (hb3.block _ (zar hy)).trans hy
  have HB3 := Aside0.mk (zab hB2 hb3)
  have x0 : w3.cell? ⟨w.heap.size, 0, none⟩ = some (.int .i64 (room : Int)) := (za hx3 0).trans rfl
  have x1 : w3.cell? ⟨w.heap.size, 1, none⟩ = some (.int .i64 last) := (za hx3 1).trans rfl
  have x2 : w3.cell? ⟨w.heap.size, 2, none⟩ = some (.slice A L.length c) := (za hx3 2).trans rfl
  have y0 : w3.cell? ⟨w.heap.size + 1, 0, none⟩ = some (.int .i64 0) := (za hy3 0).trans rfl
  have y1 : w3.cell? ⟨w.heap.size + 1, 1, none⟩ = some (.int .i64 0) := (za hy3 1).trans rfl
  have y2 : w3.cell? ⟨w.heap.size + 1, 2, none⟩ = some (.slice none 0 0) := (za hy3 2).trans rfl
  have z0 := zaa hy3 0
  have z1 := zaa hy3 1
  have z2 := zaa hy3 2
  have HX3 := Aside0.mk hx3
  have HY3 := Aside0.mk hy3
  have HV3 := Aside0.mk (Kd.za1 (Kd.V_bound HV.out) HB3.out)
  clear hx hy hB2 hb3 hx3 hy3
  go_wp2_with fail
  obtain ⟨r1, r2, r3⟩ := zbm (room := room) (last := last) (P := P) HB3.out HY3.out HV3.out (fun k hk => ⟨.inl hk.1, by omega⟩)
  rw [HA.out]
  exact bodyPost_ret (zav rfl _ _ (w.heap.size + 1) 44 #[.int .i64 (room : Int), .int .i64 last,  .slice A L.length c] (0, 0) _ rfl r1 Try.underlying44 rfl (by kernel_rfl)) rfl ⟨_, rfl, r2, r3⟩
 | some g =>
  have HS := Aside0.mk (cntF_some (dm := dm) (da := da) hf)
  obtain ⟨j, hj, hr, hjg, hev⟩ := at_some HG.out.2.2.2.2.1 (by omega) hf (room : Int) last
  obtain ⟨hg, rfl⟩ := za5 hf
  obtain ⟨ka, hka⟩ := hev.get
  obtain ⟨g1, g2, g3, _, g5, g6, g7, g8⟩ := HG.out.2.2.2.2.2 g hg
  have hk0 := zba L g.f0
  have HK := Aside0.mk hka
  have HM := Aside0.mk hg
  have HR := Aside0.mk hr
  have HJG := Aside0.mk hjg
  have hj1 : (j : Int) < (L.length : Int) := by omega
  have hj0 : decide ((j : Int) < 0) = false := decide_eq_false (by omega)
  have hj2 : 0 ≤ (j : Int) ∧ (j : Int) < (L.length : Int) := by omega
  clear hka hf hg hr hjg hev
  go_enter Try.func39, Try.ntmps39
  go_wp2_with fail
  have hx := zac (za6 w (.cells #[.int .i64 (room : Int), .int .i64 last, .slice A L.length c] 44)) (.cells #[.int .i64 0, .int .i64 0, .slice none 0 0] 44)
  have hy := za6 (w.alloc (.cells #[.int .i64 (room : Int), .int .i64 last, .slice A L.length c] 44)) (.cells #[.int .i64 0, .int .i64 0, .slice none 0 0] 44)
  have hB2 := zad (zad (Below.refl _ w) (.cells #[.int .i64 (room : Int), .int .i64 last, .slice A L.length c] 44)) (.cells #[.int .i64 0, .int .i64 0, .slice none 0 0] 44)
  rw [show (w.alloc (.cells #[.int .i64 (room : Int), .int .i64 last, .slice A L.length c] 44)).heap.size = w.heap.size + 1 by simp] at hy
  generalize (w.alloc (.cells #[.int .i64 (room : Int), .int .i64 last, .slice A L.length c] 44)).alloc (.cells #[.int .i64 0, .int .i64 0, .slice none 0 0] 44) = W2 at hx hy hB2 ⊢
  go_at_call 55
  refine (zae.calls ka (room : Int) last A c L _ _ W2 (Kd.za0 HC.out hB2) Hc.out HK.out).mono ?_
  rintro e w3 ⟨rfl, hb3⟩
  have hx3 := (hb3.block _ (zar hx)).trans hx
  have hy3 := (hb3.block _ (zar hy)).trans hy
  have HB3 := Aside0.mk (zab hB2 hb3)
  have x0 : w3.cell? ⟨w.heap.size, 0, none⟩ = some (.int .i64 (room : Int)) := (za hx3 0).trans rfl
  have x1 : w3.cell? ⟨w.heap.size, 1, none⟩ = some (.int .i64 last) := (za hx3 1).trans rfl
  have x2 : w3.cell? ⟨w.heap.size, 2, none⟩ = some (.slice A L.length c) := (za hx3 2).trans rfl
  have y0 : w3.cell? ⟨w.heap.size + 1, 0, none⟩ = some (.int .i64 0) := (za hy3 0).trans rfl
  have y1 : w3.cell? ⟨w.heap.size + 1, 1, none⟩ = some (.int .i64 0) := (za hy3 1).trans rfl
  have y2 : w3.cell? ⟨w.heap.size + 1, 2, none⟩ = some (.slice none 0 0) := (za hy3 2).trans rfl
  have z0 := zaa hy3 0
  have z1 := zaa hy3 1
  have z2 := zaa hy3 2
  have HX3 := Aside0.mk hx3
  have HY3 := Aside0.mk hy3
  have HV3 := Aside0.mk (Kd.za1 (Kd.V_bound HV.out) HB3.out)
  clear hx hy hB2 hb3 hx3 hy3
  obtain ⟨ad, e1, q0, q1, q2, q3, q4⟩ := at_T84 HC.out (j : Int) (by omega) hj1
  subst e1
  rw [HR.out, Int.toNat_natCast] at q0 q1 q2 q3 q4
  replace q0 := (HB3.out.cell (World.block_lt_of_cell? w _ q0)).trans q0
  replace q1 := (HB3.out.cell (World.block_lt_of_cell? w _ q1)).trans q1
  replace q2 := (HB3.out.cell (World.block_lt_of_cell? w _ q2)).trans q2
  replace q3 := (HB3.out.cell (World.block_lt_of_cell? w _ q3)).trans q3
  replace q4 := (HB3.out.cell (World.block_lt_of_cell? w _ q4)).trans q4
  by_cases hd : dm > 0
  ·
   have d0 : decide (dm > 0) = true := decide_eq_true hd
   obtain ⟨kf, hkf⟩ := (fan_f HG.out HM.out (room : Int) last).get
   have HKF := Aside0.mk hkf
   have HQ : Aside0 (∀ w' : World, Below w3.heap.size w3 w' → w'.cell? (ad.add (j * 5)) = some (.int .i64 g.f0) ∧ w'.cell? ⟨(ad.add (j * 5)).block, (ad.add (j * 5)).off + 1, none⟩ = some (.int .i64 g.f1) ∧ w'.cell? ⟨(ad.add (j * 5)).block, (ad.add (j * 5)).off + 2, none⟩ = some (.int .i64 g.f2) ∧ w'.cell? ⟨(ad.add (j * 5)).block, (ad.add (j * 5)).off + 3, none⟩ = some (.int .i64 g.f3) ∧ w'.cell? ⟨(ad.add (j * 5)).block, (ad.add (j * 5)).off + 4, none⟩ = some (.int .i64 g.f4)) := ⟨fun w' hb => ⟨(hb.cell (World.block_lt_of_cell? w3 _ q0)).trans q0, (hb.cell (World.block_lt_of_cell? w3 _ q1)).trans q1, (hb.cell (World.block_lt_of_cell? w3 _ q2)).trans q2, (hb.cell (World.block_lt_of_cell? w3 _ q3)).trans q3, (hb.cell (World.block_lt_of_cell? w3 _ q4)).trans q4⟩⟩
   clear hkf
   go_wp2_with fail
   refine (zaw.calls kf (room : Int) last (some ad) c L g.f0 _ _ (Kd.za0 HC.out HB3.out) Hc.out HKF.out).mono ?_
   rintro e w4 ⟨rfl, hb4⟩
   have hx4 := (hb4.block _ (zar HX3.out)).trans HX3.out
   have hy4 := (hb4.block _ (zar HY3.out)).trans HY3.out
   obtain ⟨q0, q1, q2, q3, q4⟩ := HQ.out w4 hb4
   have HB4 := Aside0.mk (zab HB3.out hb4)
   have HX4 := Aside0.mk hx4
   have HY4 := Aside0.mk hy4
   have HV4 := Aside0.mk (Kd.za1 HV3.out hb4)
   have x0 : w4.cell? ⟨w.heap.size, 0, none⟩ = some (.int .i64 (room : Int)) := (za hx4 0).trans rfl
   have x1 : w4.cell? ⟨w.heap.size, 1, none⟩ = some (.int .i64 last) := (za hx4 1).trans rfl
   have x2 : w4.cell? ⟨w.heap.size, 2, none⟩ = some (.slice (some ad) L.length c) := (za hx4 2).trans rfl
   have y0 : w4.cell? ⟨w.heap.size + 1, 0, none⟩ = some (.int .i64 0) := (za hy4 0).trans rfl
   have y1 : w4.cell? ⟨w.heap.size + 1, 1, none⟩ = some (.int .i64 0) := (za hy4 1).trans rfl
   have y2 : w4.cell? ⟨w.heap.size + 1, 2, none⟩ = some (.slice none 0 0) := (za hy4 2).trans rfl
   have z0 := zaa hy4 0
   have z1 := zaa hy4 1
   have z2 := zaa hy4 2
   clear hb4 hx4 hy4
   by_cases hfan : kid L g.f0 + g.f3 = 32
   ·
    have HA := Aside0.mk (HS.out.trans (if_pos ⟨hd, hfan⟩))
    have d1 : (kid L g.f0 + g.f3 == 32) = true := beq_iff_eq.mpr hfan
    clear hfan
    go_wp2_with fail
    obtain ⟨r1, r2, r3⟩ := zbm (room := room) (last := last) (P := P) HB4.out HY4.out HV4.out (fun k hk => ⟨.inl hk.1, by omega⟩)
    rw [HA.out]
    exact bodyPost_ret (zav rfl _ _ (w.heap.size + 1) 44 #[.int .i64 (room : Int), .int .i64 last, .slice (some ad) L.length c] (0, 0) _ rfl r1 Try.underlying44 rfl (by kernel_rfl)) rfl ⟨_, rfl, r2, r3⟩
   ·
    have HS2 := Aside0.mk (HS.out.trans (if_neg (fun hh => hfan hh.2)))
    have d1 : (kid L g.f0 + g.f3 == 32) = false := beq_eq_false_iff_ne.mpr hfan
    clear hfan
    have u0 : (w4.alloc (.cells #[.int .i64 g.f0, .int .i64 g.f1, .int .i64 g.f2, .int .i64 (g.f3 + dm), .int .i64 (g.f4 + da)] 84)).cell? ⟨w.heap.size, 0, none⟩ = some (Value.int .i64 (room : Int)) := (za (zac HX4.out (.cells #[.int .i64 g.f0, .int .i64 g.f1, .int .i64 g.f2, .int .i64 (g.f3 + dm), .int .i64 (g.f4 + da)] 84)) 0).trans rfl
    have u1 : (w4.alloc (.cells #[.int .i64 g.f0, .int .i64 g.f1, .int .i64 g.f2, .int .i64 (g.f3 + dm), .int .i64 (g.f4 + da)] 84)).cell? ⟨w.heap.size, 1, none⟩ = some (Value.int .i64 last) := (za (zac HX4.out (.cells #[.int .i64 g.f0, .int .i64 g.f1, .int .i64 g.f2, .int .i64 (g.f3 + dm), .int .i64 (g.f4 + da)] 84)) 1).trans rfl
    have u2 : (w4.alloc (.cells #[.int .i64 g.f0, .int .i64 g.f1, .int .i64 g.f2, .int .i64 (g.f3 + dm), .int .i64 (g.f4 + da)] 84)).cell? ⟨w.heap.size, 2, none⟩ = some (Value.slice (some ad) L.length c) := (za (zac HX4.out (.cells #[.int .i64 g.f0, .int .i64 g.f1, .int .i64 g.f2, .int .i64 (g.f3 + dm), .int .i64 (g.f4 + da)] 84)) 2).trans rfl
    have v0 : (w4.alloc (.cells #[.int .i64 g.f0, .int .i64 g.f1, .int .i64 g.f2, .int .i64 (g.f3 + dm), .int .i64 (g.f4 + da)] 84)).cell? ⟨w.heap.size + 1, 0, none⟩ = some (Value.int .i64 0) := (za (zac HY4.out (.cells #[.int .i64 g.f0, .int .i64 g.f1, .int .i64 g.f2, .int .i64 (g.f3 + dm), .int .i64 (g.f4 + da)] 84)) 0).trans rfl
    have v1 : (w4.alloc (.cells #[.int .i64 g.f0, .int .i64 g.f1, .int .i64 g.f2, .int .i64 (g.f3 + dm), .int .i64 (g.f4 + da)] 84)).cell? ⟨w.heap.size + 1, 1, none⟩ = some (Value.int .i64 0) := (za (zac HY4.out (.cells #[.int .i64 g.f0, .int .i64 g.f1, .int .i64 g.f2, .int .i64 (g.f3 + dm), .int .i64 (g.f4 + da)] 84)) 1).trans rfl
    have v2 : (w4.alloc (.cells #[.int .i64 g.f0, .int .i64 g.f1, .int .i64 g.f2, .int .i64 (g.f3 + dm), .int .i64 (g.f4 + da)] 84)).cell? ⟨w.heap.size + 1, 2, none⟩ = some (.slice none 0 0) := (za (zac HY4.out (.cells #[.int .i64 g.f0, .int .i64 g.f1, .int .i64 g.f2, .int .i64 (g.f3 + dm), .int .i64 (g.f4 + da)] 84)) 2).trans rfl
    have t0 := zaa (zac HY4.out (.cells #[.int .i64 g.f0, .int .i64 g.f1, .int .i64 g.f2, .int .i64 (g.f3 + dm), .int .i64 (g.f4 + da)] 84)) 0
    have t1 := zaa (zac HY4.out (.cells #[.int .i64 g.f0, .int .i64 g.f1, .int .i64 g.f2, .int .i64 (g.f3 + dm), .int .i64 (g.f4 + da)] 84)) 1
    have t2 := zaa (zac HY4.out (.cells #[.int .i64 g.f0, .int .i64 g.f1, .int .i64 g.f2, .int .i64 (g.f3 + dm), .int .i64 (g.f4 + da)] 84)) 2
    have HBn := Aside0.mk (zad HB4.out (.cells #[.int .i64 g.f0, .int .i64 g.f1, .int .i64 g.f2, .int .i64 (g.f3 + dm), .int .i64 (g.f4 + da)] 84))
    have HYn := Aside0.mk (zac HY4.out (.cells #[.int .i64 g.f0, .int .i64 g.f1, .int .i64 g.f2, .int .i64 (g.f3 + dm), .int .i64 (g.f4 + da)] 84))
    have HVn := Aside0.mk (Kd.zbs HV4.out (.cells #[.int .i64 g.f0, .int .i64 g.f1, .int .i64 g.f2, .int .i64 (g.f3 + dm), .int .i64 (g.f4 + da)] 84))
    have wl3 : wrap64 (g.f3 + dm) = g.f3 + dm := w64s (by omega) (by omega)
    have wl4 : wrap64 (g.f4 + da) = g.f4 + da := w64s (by omega) (by omega)
    by_cases hneg : g.f4 + da < 0
    ·
     have HA := Aside0.mk (HS2.out.trans (if_pos (.inl hneg)))
     have d5 : decide (g.f4 + da < 0) = true := decide_eq_true hneg
     go_wp2_with fail
     obtain ⟨r1, r2, r3⟩ := zbm (room := room) (last := last) (P := P) HBn.out HYn.out HVn.out (fun k hk => ⟨.inl hk.1, by omega⟩)
     rw [HA.out]
     exact bodyPost_ret (zav rfl _ _ (w.heap.size + 1) 44 #[.int .i64 (room : Int), .int .i64 last, .slice (some ad) L.length c] (0, 0) _ rfl r1 Try.underlying44 rfl (by kernel_rfl)) rfl ⟨_, rfl, r2, r3⟩
    ·
     have d5 : decide (g.f4 + da < 0) = false := decide_eq_false hneg
     by_cases hov : g.f4 + da > g.f3 + dm
     ·
      have HA := Aside0.mk (HS2.out.trans (if_pos (.inr hov)))
      have d6 : decide (g.f4 + da > g.f3 + dm) = true := decide_eq_true hov
      clear hov hneg
      go_wp2_with fail
      obtain ⟨r1, r2, r3⟩ := zbm (room := room) (last := last) (P := P) HBn.out HYn.out HVn.out (fun k hk => ⟨.inl hk.1, by omega⟩)
      rw [HA.out]
      exact bodyPost_ret (zav rfl _ _ (w.heap.size + 1) 44 #[.int .i64 (room : Int), .int .i64 last, .slice (some ad) L.length c] (0, 0) _ rfl r1 Try.underlying44 rfl (by kernel_rfl)) rfl ⟨_, rfl, r2, r3⟩
     ·
      have HA := Aside0.mk (HS2.out.trans (if_neg (fun hh => hh.elim hneg hov)))
      have d6 : decide (g.f4 + da > g.f3 + dm) = false := decide_eq_false hov
      clear hov hneg
      have hset := setp_f (by omega) (room : Int) last hj g.f0 g.f1 g.f2 (g.f3 + dm) (g.f4 + da)
      rw [set_setG HG.out.2.2.2.2.1 HJG.out (fun g => ⟨g.f0, g.f1, g.f2, g.f3 + dm, g.f4 + da⟩)] at hset
      have HSet := Aside0.mk hset
      clear hset v0 v1 v2 t0 t1 t2
      go_wp2_with fail
      go_at_call 59
      refine (za9.calls (room : Int) last (some ad) c L (j : Int) g.f0 g.f1 g.f2 (g.f3 + dm) (g.f4 + da) (room : Int) last _ _ (Kd.za0 HC.out HBn.out) Hc.out HSet.out).mono ?_
      rintro e w5 ⟨u9, rfl, hu, hb5⟩
      obtain ⟨A', c', rfl⟩ := Kd.zbv hu
      have hV5 : Kd.V k84 84 w5 0 (fun k => w4.heap.size ≤ k) (.slice A' _ c') _ := Kd.R_V (Kd.zbn (Kd.zcd hu) (fun k hk => by have := hk.2.1; simp at this; omega))
      have hy5 := (hb5.block _ (zar HYn.out)).trans HYn.out
      have HB5 := Aside0.mk (zab HBn.out hb5)
      have y0 : w5.cell? ⟨w.heap.size + 1, 0, none⟩ = some (.int .i64 0) := (za hy5 0).trans rfl
      have y1 : w5.cell? ⟨w.heap.size + 1, 1, none⟩ = some (.int .i64 0) := (za hy5 1).trans rfl
      have y2 : w5.cell? ⟨w.heap.size + 1, 2, none⟩ = some (.slice none 0 0) := (za hy5 2).trans rfl
      have z0 := zaa hy5 0
      have z1 := zaa hy5 1
      have z2 := zaa hy5 2
      have HY5 := Aside0.mk hy5
      have HV5 := Aside0.mk hV5
      have hsz3 := HB4.out.size
      have hsy := zar HY4.out
      clear hu hb5 hy5 hV5
      go_wp2_with fail
      obtain ⟨r1, r2, r3⟩ := zbm (room := room) (last := last) (P := P) HB5.out HY5.out HV5.out (fun k hk => ⟨.inr (by omega), by omega⟩)
      rw [HA.out]
      exact bodyPost_ret (zav rfl _ _ (w.heap.size + 1) 44 #[.int .i64 (room : Int), .int .i64 last, .slice A' _ c'] (0, 0) _ rfl r1 Try.underlying44 rfl (by kernel_rfl)) rfl ⟨_, rfl, r2, r3⟩
  ·
   have d0 : decide (dm > 0) = false := decide_eq_false hd
   have HS2 := Aside0.mk (HS.out.trans (if_neg (fun hh => hd hh.1)))
   have u0 : (w3.alloc (.cells #[.int .i64 g.f0, .int .i64 g.f1, .int .i64 g.f2, .int .i64 (g.f3 + dm), .int .i64 (g.f4 + da)] 84)).cell? ⟨w.heap.size, 0, none⟩ = some (Value.int .i64 (room : Int)) := (za (zac HX3.out (.cells #[.int .i64 g.f0, .int .i64 g.f1, .int .i64 g.f2, .int .i64 (g.f3 + dm), .int .i64 (g.f4 + da)] 84)) 0).trans rfl
   have u1 : (w3.alloc (.cells #[.int .i64 g.f0, .int .i64 g.f1, .int .i64 g.f2, .int .i64 (g.f3 + dm), .int .i64 (g.f4 + da)] 84)).cell? ⟨w.heap.size, 1, none⟩ = some (Value.int .i64 last) := (za (zac HX3.out (.cells #[.int .i64 g.f0, .int .i64 g.f1, .int .i64 g.f2, .int .i64 (g.f3 + dm), .int .i64 (g.f4 + da)] 84)) 1).trans rfl
   have u2 : (w3.alloc (.cells #[.int .i64 g.f0, .int .i64 g.f1, .int .i64 g.f2, .int .i64 (g.f3 + dm), .int .i64 (g.f4 + da)] 84)).cell? ⟨w.heap.size, 2, none⟩ = some (Value.slice (some ad) L.length c) := (za (zac HX3.out (.cells #[.int .i64 g.f0, .int .i64 g.f1, .int .i64 g.f2, .int .i64 (g.f3 + dm), .int .i64 (g.f4 + da)] 84)) 2).trans rfl
   have v0 : (w3.alloc (.cells #[.int .i64 g.f0, .int .i64 g.f1, .int .i64 g.f2, .int .i64 (g.f3 + dm), .int .i64 (g.f4 + da)] 84)).cell? ⟨w.heap.size + 1, 0, none⟩ = some (Value.int .i64 0) := (za (zac HY3.out (.cells #[.int .i64 g.f0, .int .i64 g.f1, .int .i64 g.f2, .int .i64 (g.f3 + dm), .int .i64 (g.f4 + da)] 84)) 0).trans rfl
   have v1 : (w3.alloc (.cells #[.int .i64 g.f0, .int .i64 g.f1, .int .i64 g.f2, .int .i64 (g.f3 + dm), .int .i64 (g.f4 + da)] 84)).cell? ⟨w.heap.size + 1, 1, none⟩ = some (Value.int .i64 0) := (za (zac HY3.out (.cells #[.int .i64 g.f0, .int .i64 g.f1, .int .i64 g.f2, .int .i64 (g.f3 + dm), .int .i64 (g.f4 + da)] 84)) 1).trans rfl
   have v2 : (w3.alloc (.cells #[.int .i64 g.f0, .int .i64 g.f1, .int .i64 g.f2, .int .i64 (g.f3 + dm), .int .i64 (g.f4 + da)] 84)).cell? ⟨w.heap.size + 1, 2, none⟩ = some (.slice none 0 0) := (za (zac HY3.out (.cells #[.int .i64 g.f0, .int .i64 g.f1, .int .i64 g.f2, .int .i64 (g.f3 + dm), .int .i64 (g.f4 + da)] 84)) 2).trans rfl
   have t0 := zaa (zac HY3.out (.cells #[.int .i64 g.f0, .int .i64 g.f1, .int .i64 g.f2, .int .i64 (g.f3 + dm), .int .i64 (g.f4 + da)] 84)) 0
   have t1 := zaa (zac HY3.out (.cells #[.int .i64 g.f0, .int .i64 g.f1, .int .i64 g.f2, .int .i64 (g.f3 + dm), .int .i64 (g.f4 + da)] 84)) 1
   have t2 := zaa (zac HY3.out (.cells #[.int .i64 g.f0, .int .i64 g.f1, .int .i64 g.f2, .int .i64 (g.f3 + dm), .int .i64 (g.f4 + da)] 84)) 2
   have HBn := Aside0.mk (zad HB3.out (.cells #[.int .i64 g.f0, .int .i64 g.f1, .int .i64 g.f2, .int .i64 (g.f3 + dm), .int .i64 (g.f4 + da)] 84))
   have HYn := Aside0.mk (zac HY3.out (.cells #[.int .i64 g.f0, .int .i64 g.f1, .int .i64 g.f2, .int .i64 (g.f3 + dm), .int .i64 (g.f4 + da)] 84))
   have HVn := Aside0.mk (Kd.zbs HV3.out (.cells #[.int .i64 g.f0, .int .i64 g.f1, .int .i64 g.f2, .int .i64 (g.f3 + dm), .int .i64 (g.f4 + da)] 84))
   have wl3 : wrap64 (g.f3 + dm) = g.f3 + dm := w64s (by omega) (by omega)
   have wl4 : wrap64 (g.f4 + da) = g.f4 + da := w64s (by omega) (by omega)
   by_cases hneg : g.f4 + da < 0
   ·
    have HA := Aside0.mk (HS2.out.trans (if_pos (.inl hneg)))
    have d5 : decide (g.f4 + da < 0) = true := decide_eq_true hneg
    go_wp2_with fail
    obtain ⟨r1, r2, r3⟩ := zbm (room := room) (last := last) (P := P) HBn.out HYn.out HVn.out (fun k hk => ⟨.inl hk.1, by omega⟩)
    rw [HA.out]
    exact bodyPost_ret (zav rfl _ _ (w.heap.size + 1) 44 #[.int .i64 (room : Int), .int .i64 last, .slice (some ad) L.length c] (0, 0) _ rfl r1 Try.underlying44 rfl (by kernel_rfl)) rfl ⟨_, rfl, r2, r3⟩
   ·
    have d5 : decide (g.f4 + da < 0) = false := decide_eq_false hneg
    by_cases hov : g.f4 + da > g.f3 + dm
    ·
     have HA := Aside0.mk (HS2.out.trans (if_pos (.inr hov)))
     have d6 : decide (g.f4 + da > g.f3 + dm) = true := decide_eq_true hov
     clear hov hneg
     go_wp2_with fail
     obtain ⟨r1, r2, r3⟩ := zbm (room := room) (last := last) (P := P) HBn.out HYn.out HVn.out (fun k hk => ⟨.inl hk.1, by omega⟩)
     rw [HA.out]
     exact bodyPost_ret (zav rfl _ _ (w.heap.size + 1) 44 #[.int .i64 (room : Int), .int .i64 last, .slice (some ad) L.length c] (0, 0) _ rfl r1 Try.underlying44 rfl (by kernel_rfl)) rfl ⟨_, rfl, r2, r3⟩
    ·
     have HA := Aside0.mk (HS2.out.trans (if_neg (fun hh => hh.elim hneg hov)))
     have d6 : decide (g.f4 + da > g.f3 + dm) = false := decide_eq_false hov
     clear hov hneg
     have hset := setp_f (by omega) (room : Int) last hj g.f0 g.f1 g.f2 (g.f3 + dm) (g.f4 + da)
     rw [set_setG HG.out.2.2.2.2.1 HJG.out (fun g => ⟨g.f0, g.f1, g.f2, g.f3 + dm, g.f4 + da⟩)] at hset
     have HSet := Aside0.mk hset
     clear hset v0 v1 v2 t0 t1 t2
     go_wp2_with fail
     go_at_call 59
     refine (za9.calls (room : Int) last (some ad) c L (j : Int) g.f0 g.f1 g.f2 (g.f3 + dm) (g.f4 + da) (room : Int) last _ _ (Kd.za0 HC.out HBn.out) Hc.out HSet.out).mono ?_
     rintro e w5 ⟨u9, rfl, hu, hb5⟩
     obtain ⟨A', c', rfl⟩ := Kd.zbv hu
     have hV5 : Kd.V k84 84 w5 0 (fun k => w3.heap.size ≤ k) (.slice A' _ c') _ := Kd.R_V (Kd.zbn (Kd.zcd hu) (fun k hk => by have := hk.2.1; simp at this; omega))
     have hy5 := (hb5.block _ (zar HYn.out)).trans HYn.out
     have HB5 := Aside0.mk (zab HBn.out hb5)
     have y0 : w5.cell? ⟨w.heap.size + 1, 0, none⟩ = some (.int .i64 0) := (za hy5 0).trans rfl
     have y1 : w5.cell? ⟨w.heap.size + 1, 1, none⟩ = some (.int .i64 0) := (za hy5 1).trans rfl
     have y2 : w5.cell? ⟨w.heap.size + 1, 2, none⟩ = some (.slice none 0 0) := (za hy5 2).trans rfl
     have z0 := zaa hy5 0
     have z1 := zaa hy5 1
     have z2 := zaa hy5 2
     have HY5 := Aside0.mk hy5
     have HV5 := Aside0.mk hV5
     have hsz3 := HB3.out.size
     have hsy := zar HY3.out
     clear hu hb5 hy5 hV5
     go_wp2_with fail
     obtain ⟨r1, r2, r3⟩ := zbm (room := room) (last := last) (P := P) HB5.out HY5.out HV5.out (fun k hk => ⟨.inr (by omega), by omega⟩)
     rw [HA.out]
     exact bodyPost_ret (zav rfl _ _ (w.heap.size + 1) 44 #[.int .i64 (room : Int), .int .i64 last, .slice A' _ c'] (0, 0) _ rfl r1 Try.underlying44 rfl (by kernel_rfl)) rfl ⟨_, rfl, r2, r3⟩
end Go.Proofs.Ytlmjdchcgfpngaa.P
end
