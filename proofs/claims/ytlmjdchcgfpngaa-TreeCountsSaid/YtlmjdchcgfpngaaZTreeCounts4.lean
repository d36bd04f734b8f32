-- Written by a program of this session (wip/tools/shake.py) out of its own texts and of the kit's printed ones; not trusted: Lean checks it.
import Derived.Test.YtlmjdchcgfpngaaZTreeCounts3
set_option maxHeartbeats 8000000
set_option maxRecDepth 100000
set_option linter.unusedVariables false
set_option linter.unusedSimpArgs false
section
namespace Go.Proofs.Ytlmjdchcgfpngaa.P
open Go.RowKit Go.Proofs.YtlmjdchcgfpngaaW.PrintWords Go.Proofs.YtlmjdchcgfpngaaW.PrintLast Go.Proofs.YtlmjdchcgfpngaaW.PrintMore
attribute [local go_sem] zbq zbo max_two min_two zbh zbi zbp zbn
theorem join_ok {w : World} {fb tb ts m : Nat} {nb : Int → Nat} {n room : Nat} {last : Int} {L : List S84} (h : FAt w fb tb ts m nb n room last L) (hG : GoodF room last L) {id : Int} (wf : (Lit.int .i64 id).wf = true) :
  Calls Try.prog 15 #[.pointer (some ⟨fb, 0, none⟩), .int .i64 id] w fun e w' => e = .returned (.int .i64 (cntF L id 1 0).2) ∧ FAt w' fb tb ts m nb n room last (cntF L id 1 0).1 ∧ Wr (FS fb tb ts m nb L) w w' := by
 obtain ⟨f0, f1⟩ := h.facts
 obtain ⟨l1, l2⟩ := h.look2 wf
 have H := Aside0.mk h
 have HG := Aside0.mk hG
 cases hf : fnd L id with
 | none =>
  have l3 := l2 hf
  rw [cntF_none hf]
  clear l1 l2 h hG hf
  go_enter Try.func15, Try.ntmps15
  go_wp2_with fail
  go_ret
  exact ⟨rfl, H.out, Wr.refl _ _⟩
 | some g =>
  have l3 := l1 g hf
  rw [cntF_some hf]
  obtain ⟨hg, rfl⟩ := za2 hf
  have hn := h.2.2.2 g hg
  have HN := Aside0.mk hn
  have HM := Aside0.mk hg
  obtain ⟨g1, g2, g3, _, g5, g6, g7, g8⟩ := hG.2.2.2.2.2 g hg
  have k0 := za9 L g.f0
  have c3 : w.cell? ⟨nb g.f0, 3, none⟩ = some (.int .i64 g.f3) := (za hn 3).trans rfl
  have c4 : w.cell? ⟨nb g.f0, 4, none⟩ = some (.int .i64 g.f4) := (za hn 4).trans rfl
  have z3 := zaa hn 3
  have z4 := zaa hn 4
  clear l1 l2 h hG hf hn hg
  by_cases hfull : kid L g.f0 + g.f3 = 32
  ·
   have d1 : (kid L g.f0 + g.f3 == 32) = true := beq_iff_eq.mpr hfull
   rw [if_pos ⟨by omega, hfull⟩]
   go_enter Try.func15, Try.ntmps15
   go_wp2_with fail
   refine (fan_ok HN.out (by omega)).mono ?_
   rintro e w1 ⟨rfl, hb1⟩
   have HB := Aside0.mk hb1
   clear hb1
   go_wp2_with fail
   go_ret
   exact ⟨rfl, H.out.keep HB.out, Wr.of_below HB.out⟩
  ·
   have d1 : (kid L g.f0 + g.f3 == 32) = false := beq_eq_false_iff_ne.mpr hfull
   rw [if_neg (fun hh => hfull hh.2), if_neg (by omega)]
   go_enter Try.func15, Try.ntmps15
   go_wp2_with fail
   refine (fan_ok HN.out (by omega)).mono ?_
   rintro e w1 ⟨rfl, hb1⟩
   have HB := Aside0.mk hb1
   have HN1 := Aside0.mk ((hb1.block _ (zao HN.out)).trans HN.out)
   have c3 : w1.cell? ⟨nb g.f0, 3, none⟩ = some (.int .i64 g.f3) := (za HN1.out 3).trans rfl
   have z3 := zaa HN1.out 3
   have wl : wrap64 (g.f3 + 1) = g.f3 + 1 := w64s (by omega) (by omega)
   clear hb1
   go_wp2_with fail
   go_ret
   refine ⟨rfl, ?_, (Wr.of_below HB.out).set (.inl (.inr (.inr (.inr (.inr ⟨g, HM.out, rfl⟩))))) _⟩
   refine (H.out.keep HB.out).setN HG.out.2.2.2.2.1 HM.out (fun _ => rfl) (fun _ => rfl) (by simp) ?_ fun k hk => Below.heap_setCell _ _ _ _ hk
   dsimp only
   rw [Int.add_zero]
   exact zar HN1.out 3 _ rfl
theorem leave_ok {w : World} {fb tb ts m : Nat} {nb : Int → Nat} {n room : Nat} {last : Int} {L : List S84} (h : FAt w fb tb ts m nb n room last L) (hG : GoodF room last L) {id : Int} (wf : (Lit.int .i64 id).wf = true) :
  Calls Try.prog 40 #[.pointer (some ⟨fb, 0, none⟩), .int .i64 id] w fun e w' => e = .returned (.int .i64 (cntF L id (-1) 0).2) ∧ FAt w' fb tb ts m nb n room last (cntF L id (-1) 0).1 ∧ Wr (FS fb tb ts m nb L) w w' := by
 obtain ⟨f0, f1⟩ := h.facts
 obtain ⟨l1, l2⟩ := h.look2 wf
 have H := Aside0.mk h
 have HG := Aside0.mk hG
 cases hf : fnd L id with
 | none =>
  have l3 := l2 hf
  rw [cntF_none hf]
  clear l1 l2 h hG hf
  go_enter Try.func40, Try.ntmps40
  go_wp2_with fail
  go_ret
  exact ⟨rfl, H.out, Wr.refl _ _⟩
 | some g =>
  have l3 := l1 g hf
  rw [cntF_some hf]
  obtain ⟨hg, rfl⟩ := za2 hf
  have hn := h.2.2.2 g hg
  have HN := Aside0.mk hn
  have HM := Aside0.mk hg
  obtain ⟨g1, g2, g3, _, g5, g6, g7, g8⟩ := hG.2.2.2.2.2 g hg
  have k0 := za9 L g.f0
  have c3 : w.cell? ⟨nb g.f0, 3, none⟩ = some (.int .i64 g.f3) := (za hn 3).trans rfl
  have c4 : w.cell? ⟨nb g.f0, 4, none⟩ = some (.int .i64 g.f4) := (za hn 4).trans rfl
  have z3 := zaa hn 3
  have z4 := zaa hn 4
  clear l1 l2 h hG hf hn hg
  rw [if_neg (by omega)]
  by_cases hs : g.f3 = g.f4
  ·
   have d1 : (g.f3 == g.f4) = true := beq_iff_eq.mpr hs
   rw [if_pos (by omega)]
   clear hs
   go_enter Try.func40, Try.ntmps40
   go_wp2_with fail
   go_quiet (fail)
   go_wp2
   go_ret
   exact ⟨rfl, H.out, Wr.of_below (zb (Below.refl _ _) _)⟩
  ·
   have d1 : (g.f3 == g.f4) = false := beq_eq_false_iff_ne.mpr hs
   rw [if_neg (by omega)]
   have wl : wrap64 (g.f3 - 1) = g.f3 - 1 := w64s (by omega) (by omega)
   go_enter Try.func40, Try.ntmps40
   go_wp2_with fail
   go_quiet (fail)
   go_wp2
   go_ret
   have HQ : FAt (w.drewN nq) fb tb ts m nb n room last L := H.out
   refine ⟨rfl, ?_, (Wr.of_below (zb (Below.refl _ _) _)).set (.inl (.inr (.inr (.inr (.inr ⟨g, HM.out, rfl⟩))))) _⟩
   refine HQ.setN HG.out.2.2.2.2.1 HM.out (fun _ => rfl) (fun _ => rfl) (by simp) ?_ fun k hk => Below.heap_setCell _ _ _ _ hk
   dsimp only
   rw [Int.add_zero]
   exact zar (w := w.drewN nq) HN.out 3 _ rfl
theorem count_nodes {w w1 : World} {fb tb ts m : Nat} {nb : Int → Nat} {n room : Nat} {last : Int} {L : List S84} (h : FAt w fb tb ts m nb n room last L) (hG : GoodF room last L) {c : List Int} {id : Int} (hc : Ch (prt L) c id) {more : Int} (hm : -10000 ≤ more ∧ more ≤ 10000)
  (hp : PathAt w1 (c.map nb)) (a1 : S84 → Value) (a2 a3 a4 a6 : S84 → Int) (hn : ∀ y ∈ L, w1.heap[nb y.f0]? = some (nodeV y.f0 (a1 y) (a2 y) (a3 y) (a4 y) (act L y.f0) (a6 y))) :
  Calls Try.prog 30 #[pOf nb id, .int .i64 more] w1 fun e w' => e = .returned (.tuple #[]) ∧ (∀ y ∈ L, w'.heap[nb y.f0]? = some (nodeV y.f0 (a1 y) (a2 y) (a3 y) (a4 y) (act L y.f0 + if y.f0 ∈ c then more else 0) (a6 y))) ∧ Wr (fun k => ∃ y ∈ L, k = nb y.f0) w1 w' := by
 have hl : c.length ≤ 1000 := by
  by_cases h0 : id < 0
  ·
   cases c with
   | nil => simp
   | cons x c =>
    obtain ⟨_, h1, _⟩ := hc
    omega
  ·
   obtain ⟨c', rfl⟩ := hc.head (by omega)
   obtain ⟨g, hg, e⟩ := way_mem hc List.mem_cons_self
   have := (hG.way hg).2
   rw [e, way_eq hc] at this
   omega
 rw [← (h.path hG.2.2.2.2.1 hc).2]
 refine (count_ok hp (by rw [List.length_map]; exact hl) (way_nodup h hc) fun b hb => ?_).mono ?_
 ·
  obtain ⟨x, hx, rfl⟩ := List.mem_map.1 hb
  obtain ⟨y, hy, rfl⟩ := way_mem hc hx
  have := act_bounds hG y.f0
  exact ⟨_, _, _, _, _, _, _, hn y hy, by omega, by omega⟩
 ·
  rintro e w' ⟨rfl, hu, hw⟩
  refine ⟨rfl, fun y hy => ?_, hw.mono fun k hk => ?_⟩
  ·
   by_cases hyc : y.f0 ∈ c
   ·
    rw [if_pos hyc]
    exact hu _ ((mem_way h hc hy).2 hyc) _ _ _ _ _ _ _ (hn y hy)
   ·
    rw [if_neg hyc, Int.add_zero, ← hn y hy]
    exact hw.2 _ (zao (hn y hy)) fun hm => hyc ((mem_way h hc hy).1 hm)
  ·
   obtain ⟨x, hx, rfl⟩ := List.mem_map.1 hk
   obtain ⟨y, hy, rfl⟩ := way_mem hc hx
   exact ⟨y, hy, rfl⟩
theorem awake_nodes {w w1 w2 : World} {fb tb ts m : Nat} {nb : Int → Nat} {n room : Nat} {last : Int} {L : List S84} (h : FAt w fb tb ts m nb n room last L) (hG : GoodF room last L) {g : S84} (hg : g ∈ L) {da : Int}
  (h1 : Wr (FS fb tb ts m nb L) w w1) (he : ∀ k, k = fb ∨ k = tb ∨ k = ts ∨ k = m → w1.heap[k]? = w.heap[k]?)
  (hn : ∀ y ∈ L, w2.heap[nb y.f0]? = some (nodeV y.f0 (pOf nb y.f1) y.f2 y.f3 (if y.f0 = g.f0 then y.f4 + da else y.f4) (act L y.f0 + if y.f0 ∈ way L g.f0 then da else 0) (kid L y.f0))) (h2 : Wr (fun k => ∃ y ∈ L, k = nb y.f0) w1 w2) :
  FAt w2 fb tb ts m nb n room last (setG L g.f0 (fun g => ⟨g.f0, g.f1, g.f2, g.f3 + 0, g.f4 + da⟩)) ∧ Wr (FS fb tb ts m nb L) w w2 := by
 refine ⟨h.rebuild (fnd_setG_some fun _ => rfl) (setG_ids fun _ => rfl) (fun k hk => ?_) (fun y hy => ?_), h1.trans h2 fun k hk => .inl (.inr (.inr (.inr (.inr hk))))⟩
 ·
  have hk' : FS fb tb ts m nb L k := by rcases hk with hk | hk | hk | hk; exact .inl hk; exact .inr (.inl hk); exact .inr (.inr (.inl hk)); exact .inr (.inr (.inr (.inl hk)))
  rw [h2.2 k (Nat.lt_of_lt_of_le (h.lt hk') h1.size) (fun ⟨y, hy, e⟩ => by
   obtain ⟨a1, a2, a3, a4⟩ := h.apart hy
   rw [← e] at a1 a2 a3 a4
   rcases hk with hk | hk | hk | hk
   ·
    exact a1 hk
   ·
    exact a2 hk
   ·
    exact a3 hk
   ·
    exact a4 hk)]
  exact he k hk
 ·
  obtain ⟨z, hz, rfl⟩ := mem_setG hy
  unfold NodeAt
  rw [setG_f0 (h := fun g => ⟨g.f0, g.f1, g.f2, g.f3 + 0, g.f4 + da⟩) fun _ => rfl, act_setG (h := fun g => ⟨g.f0, g.f1, g.f2, g.f3 + 0, g.f4 + da⟩) (fun _ => rfl) (fun _ => rfl) hG.2.2.2.2.1 hg, kid_setG (h := fun g => ⟨g.f0, g.f1, g.f2, g.f3 + 0, g.f4 + da⟩) fun _ => rfl, hn z hz]
  have e1 : (g.f4 + da - g.f4) = da := by omega
  dsimp only
  rw [e1]
  split
  ·
   rw [Int.add_zero]
  ·
   rfl
theorem wake_ok {w : World} {fb tb ts m : Nat} {nb : Int → Nat} {n room : Nat} {last : Int} {L : List S84} (h : FAt w fb tb ts m nb n room last L) (hG : GoodF room last L) {id : Int} (wf : (Lit.int .i64 id).wf = true) :
  Calls Try.prog 41 #[.pointer (some ⟨fb, 0, none⟩), .int .i64 id] w fun e w' => e = .returned (.int .i64 (cntF L id 0 1).2) ∧ FAt w' fb tb ts m nb n room last (cntF L id 0 1).1 ∧ Wr (FS fb tb ts m nb L) w w' := by
 obtain ⟨f0, f1⟩ := h.facts
 obtain ⟨l1, l2⟩ := h.look2 wf
 have H := Aside0.mk h
 have HG := Aside0.mk hG
 cases hf : fnd L id with
 | none =>
  have l3 := l2 hf
  rw [cntF_none hf]
  clear l1 l2 h hG hf
  go_enter Try.func41, Try.ntmps41
  go_wp2_with fail
  go_ret
  exact ⟨rfl, H.out, Wr.refl _ _⟩
 | some g =>
  have l3 := l1 g hf
  rw [cntF_some hf]
  obtain ⟨hg, rfl⟩ := za2 hf
  have hn := h.2.2.2 g hg
  have HN := Aside0.mk hn
  have HM := Aside0.mk hg
  obtain ⟨g1, g2, g3, _, g5, g6, g7, g8⟩ := hG.2.2.2.2.2 g hg
  have k0 := za9 L g.f0
  have c3 : w.cell? ⟨nb g.f0, 3, none⟩ = some (.int .i64 g.f3) := (za hn 3).trans rfl
  have c4 : w.cell? ⟨nb g.f0, 4, none⟩ = some (.int .i64 g.f4) := (za hn 4).trans rfl
  have z3 := zaa hn 3
  have z4 := zaa hn 4
  clear l1 l2 h hG hf hn hg
  rw [if_neg (by omega)]
  by_cases hs : g.f3 = g.f4
  ·
   have d1 : (g.f3 == g.f4) = true := beq_iff_eq.mpr hs
   rw [if_pos (by omega)]
   clear hs
   go_enter Try.func41, Try.ntmps41
   go_wp2_with fail
   go_quiet (fail)
   go_wp2_with fail
   go_ret
   exact ⟨rfl, H.out, Wr.of_below (zb (Below.refl _ _) _)⟩
  ·
   have d1 : (g.f3 == g.f4) = false := beq_eq_false_iff_ne.mpr hs
   rw [if_neg (by omega)]
   have wl : wrap64 (g.f4 + 1) = g.f4 + 1 := w64s (by omega) (by omega)
   go_enter Try.func41, Try.ntmps41
   go_wp2_with fail
   go_quiet (fail)
   go_wp2_with fail
   have HQ : FAt (w.drewN nq) fb tb ts m nb n room last L := H.out
   have hput := zar (w := (w.drewN nq)) HN.out 4 (.int .i64 (g.f4 + 1)) rfl
   have hw1 : Wr (FS fb tb ts m nb L) w ((w.drewN nq).setCell ⟨nb g.f0, 4, none⟩ (.int .i64 (g.f4 + 1))) := (Wr.of_below (zb (Below.refl _ _) _)).set (.inl (.inr (.inr (.inr (.inr ⟨g, HM.out, rfl⟩))))) _
   have hfar : ∀ k, k ≠ nb g.f0 → ((w.drewN nq).setCell ⟨nb g.f0, 4, none⟩ (.int .i64 (g.f4 + 1))).heap[k]? = w.heap[k]? := fun k hk => Below.heap_setCell _ _ _ _ hk
   generalize (w.drewN nq).setCell ⟨nb g.f0, 4, none⟩ (.int .i64 (g.f4 + 1)) = W1 at hput hw1 hfar ⊢
   obtain ⟨hc, hcl⟩ := HG.out.way HM.out
   obtain ⟨hp, he0⟩ := HQ.path HG.out.2.2.2.2.1 hc
   have hp1 : PathAt W1 ((way L g.f0).map nb) := PathAt.far hp HN.out hput hfar
   have hpo : pOf nb g.f0 = .pointer (some ⟨nb g.f0, 0, none⟩) := by
    unfold pOf
    rw [if_neg (by omega)]
   have hcn := count_nodes (w1 := W1) H.out HG.out hc (more := 1) (by omega) hp1 (fun y => pOf nb y.f1) (fun y => y.f2) (fun y => y.f3) (fun y => if y.f0 = g.f0 then y.f4 + 1 else y.f4) (fun y => kid L y.f0) (fun y hy => by
    by_cases e : y.f0 = g.f0
    ·
     obtain rfl := HG.out.2.2.2.2.1.inj hy HM.out e
     rw [if_pos rfl]
     exact hput
    ·
     rw [if_neg e, hfar _ (fun e2 => e (H.out.inj hy HM.out e2))]
     exact H.out.2.2.2 y hy)
   rw [hpo] at hcn
   have HC := Aside0.mk hcn
   have HW1 := Aside0.mk hw1
   have HF := Aside0.mk hfar
   clear hput hw1 hfar hc hcl hp he0 hp1 hpo hcn
   go_wp2_with fail
   refine HC.out.mono ?_
   rintro e w2 ⟨rfl, hn2, hw2⟩
   have HX := Aside0.mk (awake_nodes H.out HG.out HM.out HW1.out (fun k hk => HF.out k (by
    obtain ⟨a1, a2, a3, a4⟩ := H.out.apart HM.out
    rcases hk with rfl | rfl | rfl | rfl
    ·
     exact a1.symm
    ·
     exact a2.symm
    ·
     exact a3.symm
    ·
     exact a4.symm)) hn2 hw2)
   clear hn2 hw2
   go_wp2_with fail
   go_ret
   exact ⟨rfl, HX.out.1, HX.out.2⟩
theorem sleep_ok {w : World} {fb tb ts m : Nat} {nb : Int → Nat} {n room : Nat} {last : Int} {L : List S84} (h : FAt w fb tb ts m nb n room last L) (hG : GoodF room last L) {id : Int} (wf : (Lit.int .i64 id).wf = true) :
  Calls Try.prog 42 #[.pointer (some ⟨fb, 0, none⟩), .int .i64 id] w fun e w' => e = .returned (.int .i64 (cntF L id 0 (-1)).2) ∧ FAt w' fb tb ts m nb n room last (cntF L id 0 (-1)).1 ∧ Wr (FS fb tb ts m nb L) w w' := by
 obtain ⟨f0, f1⟩ := h.facts
 obtain ⟨l1, l2⟩ := h.look2 wf
 have H := Aside0.mk h
 have HG := Aside0.mk hG
 cases hf : fnd L id with
 | none =>
  have l3 := l2 hf
  rw [cntF_none hf]
  clear l1 l2 h hG hf
  go_enter Try.func42, Try.ntmps42
  go_wp2_with fail
  go_ret
  exact ⟨rfl, H.out, Wr.refl _ _⟩
 | some g =>
  have l3 := l1 g hf
  rw [cntF_some hf]
  obtain ⟨hg, rfl⟩ := za2 hf
  have hn := h.2.2.2 g hg
  have HN := Aside0.mk hn
  have HM := Aside0.mk hg
  obtain ⟨g1, g2, g3, _, g5, g6, g7, g8⟩ := hG.2.2.2.2.2 g hg
  have k0 := za9 L g.f0
  have c3 : w.cell? ⟨nb g.f0, 3, none⟩ = some (.int .i64 g.f3) := (za hn 3).trans rfl
  have c4 : w.cell? ⟨nb g.f0, 4, none⟩ = some (.int .i64 g.f4) := (za hn 4).trans rfl
  have z3 := zaa hn 3
  have z4 := zaa hn 4
  clear l1 l2 h hG hf hn hg
  rw [if_neg (by omega)]
  by_cases hs : g.f4 = 0
  ·
   have d1 : (g.f4 == 0) = true := beq_iff_eq.mpr hs
   rw [if_pos (by omega)]
   clear hs
   go_enter Try.func42, Try.ntmps42
   go_wp2_with fail
   go_ret
   exact ⟨rfl, H.out, Wr.of_below (Below.refl _ _)⟩
  ·
   have d1 : (g.f4 == 0) = false := beq_eq_false_iff_ne.mpr hs
   rw [if_neg (by omega)]
   have wl : wrap64 (g.f4 - 1) = g.f4 - 1 := w64s (by omega) (by omega)
   go_enter Try.func42, Try.ntmps42
   go_wp2_with fail
   have HQ : FAt w fb tb ts m nb n room last L := H.out
   have hput := zar (w := w) HN.out 4 (.int .i64 (g.f4 - 1)) rfl
   have hw1 : Wr (FS fb tb ts m nb L) w (w.setCell ⟨nb g.f0, 4, none⟩ (.int .i64 (g.f4 - 1))) := (Wr.of_below (Below.refl _ _)).set (.inl (.inr (.inr (.inr (.inr ⟨g, HM.out, rfl⟩))))) _
   have hfar : ∀ k, k ≠ nb g.f0 → (w.setCell ⟨nb g.f0, 4, none⟩ (.int .i64 (g.f4 - 1))).heap[k]? = w.heap[k]? := fun k hk => Below.heap_setCell _ _ _ _ hk
   generalize w.setCell ⟨nb g.f0, 4, none⟩ (.int .i64 (g.f4 - 1)) = W1 at hput hw1 hfar ⊢
   obtain ⟨hc, hcl⟩ := HG.out.way HM.out
   obtain ⟨hp, he0⟩ := HQ.path HG.out.2.2.2.2.1 hc
   have hp1 : PathAt W1 ((way L g.f0).map nb) := PathAt.far hp HN.out hput hfar
   have hpo : pOf nb g.f0 = .pointer (some ⟨nb g.f0, 0, none⟩) := by
    unfold pOf
    rw [if_neg (by omega)]
   have hcn := count_nodes (w1 := W1) H.out HG.out hc (more := (-1)) (by omega) hp1 (fun y => pOf nb y.f1) (fun y => y.f2) (fun y => y.f3) (fun y => if y.f0 = g.f0 then y.f4 + (-1) else y.f4) (fun y => kid L y.f0) (fun y hy => by
    by_cases e : y.f0 = g.f0
    ·
     obtain rfl := HG.out.2.2.2.2.1.inj hy HM.out e
     rw [if_pos rfl]
     exact hput
    ·
     rw [if_neg e, hfar _ (fun e2 => e (H.out.inj hy HM.out e2))]
     exact H.out.2.2.2 y hy)
   rw [hpo] at hcn
   have HC := Aside0.mk hcn
   have HW1 := Aside0.mk hw1
   have HF := Aside0.mk hfar
   clear hput hw1 hfar hc hcl hp he0 hp1 hpo hcn
   go_wp2_with fail
   refine HC.out.mono ?_
   rintro e w2 ⟨rfl, hn2, hw2⟩
   have HX := Aside0.mk (awake_nodes H.out HG.out HM.out HW1.out (fun k hk => HF.out k (by
    obtain ⟨a1, a2, a3, a4⟩ := H.out.apart HM.out
    rcases hk with rfl | rfl | rfl | rfl
    ·
     exact a1.symm
    ·
     exact a2.symm
    ·
     exact a3.symm
    ·
     exact a4.symm)) hn2 hw2)
   clear hn2 hw2
   go_wp2_with fail
   go_ret
   exact ⟨rfl, HX.out.1, HX.out.2⟩
theorem right_ok (x : Int) (w : World) : Calls Try.prog 24 #[.int .i64 x] w fun e w' => e = .returned (.bool (decide (1 ≤ x ∧ x ≤ 10000))) ∧ w' = w := by
 by_cases h1 : x < 1
 ·
  have d1 : decide (x ≥ 1) = false := decide_eq_false (by omega)
  go_enter Try.func24, Try.ntmps24
  go_wp2_with fail
  go_ret
  refine ⟨?_, rfl⟩
  try rw [decide_eq_false (show ¬ (1 ≤ x ∧ x ≤ 10000) by omega)]
  rfl
 ·
  have d1 : decide (x ≥ 1) = true := decide_eq_true (by omega)
  by_cases h2 : x ≤ 10000
  ·
   have d2 : decide (x ≤ 10000) = true := decide_eq_true h2
   go_enter Try.func24, Try.ntmps24
   go_wp2_with fail
   go_ret
   refine ⟨?_, rfl⟩
   try rw [decide_eq_true (show (1 ≤ x ∧ x ≤ 10000) by omega)]
   rfl
  ·
   have d2 : decide (x ≤ 10000) = false := decide_eq_false h2
   go_enter Try.func24, Try.ntmps24
   go_wp2_with fail
   go_ret
   refine ⟨?_, rfl⟩
   try rw [decide_eq_false (show ¬ (1 ≤ x ∧ x ≤ 10000) by omega)]
   rfl
def wgtF (L : List S84) (id wt : Int) : List S84 × Int :=
 match fnd L id with
 | none => (L, 4)
 | some g => if g.f1 < 0 then (L, 15) else if wt < 1 ∨ 10000 < wt then (L, 13) else (setG L id (fun g => ⟨g.f0, g.f1, wt, g.f3, g.f4⟩), 0)
theorem wgtF_none {L : List S84} {id wt : Int} (h : fnd L id = none) : wgtF L id wt = (L, 4) := by
 unfold wgtF
 rw [h]
theorem wgtF_some {L : List S84} {id wt : Int} {g : S84} (h : fnd L id = some g) : wgtF L id wt = if g.f1 < 0 then (L, 15) else if wt < 1 ∨ 10000 < wt then (L, 13) else (setG L id (fun g => ⟨g.f0, g.f1, wt, g.f3, g.f4⟩), 0) := by
 unfold wgtF
 rw [h]
theorem wgtF_good {room : Nat} {last : Int} {L : List S84} (hG : GoodF room last L) (id wt : Int) : GoodF room last (wgtF L id wt).1 := by
 cases hf : fnd L id with
 | none =>
  rw [wgtF_none hf]
  exact hG
 | some g =>
  rw [wgtF_some hf]
  obtain ⟨hg, rfl⟩ := za2 hf
  obtain ⟨g1, g2, g3, g4, g5, g6, g7, g8⟩ := hG.2.2.2.2.2 g hg
  split
  ·
   exact hG
  ·
   split
   ·
    exact hG
   ·
    exact hG.setG hg (fun _ => rfl) (fun _ => rfl) (by dsimp only; omega) g6 g7 g8
theorem weight_ok {w : World} {fb tb ts m : Nat} {nb : Int → Nat} {n room : Nat} {last : Int} {L : List S84} (h : FAt w fb tb ts m nb n room last L) (hG : GoodF room last L) {id : Int} (wt : Int) (wf : (Lit.int .i64 id).wf = true) :
  Calls Try.prog 37 #[.pointer (some ⟨fb, 0, none⟩), .int .i64 id, .int .i64 wt] w fun e w' => e = .returned (.int .i64 (wgtF L id wt).2) ∧ FAt w' fb tb ts m nb n room last (wgtF L id wt).1 ∧ Wr (FS fb tb ts m nb L) w w' := by
 obtain ⟨f0, f1⟩ := h.facts
 obtain ⟨l1, l2⟩ := h.look2 wf
 have H := Aside0.mk h
 have HG := Aside0.mk hG
 cases hf : fnd L id with
 | none =>
  have l3 := l2 hf
  rw [wgtF_none hf]
  clear l1 l2 h hG hf
  go_enter Try.func37, Try.ntmps37
  go_wp2_with fail
  go_ret
  exact ⟨rfl, H.out, Wr.refl _ _⟩
 | some g =>
  have l3 := l1 g hf
  rw [wgtF_some hf]
  obtain ⟨hg, rfl⟩ := za2 hf
  have hn := h.2.2.2 g hg
  have HN := Aside0.mk hn
  have HM := Aside0.mk hg
  have c1 : w.cell? ⟨nb g.f0, 1, none⟩ = some (pOf nb g.f1) := (za hn 1).trans rfl
  have c2 : w.cell? ⟨nb g.f0, 2, none⟩ = some (.int .i64 g.f2) := (za hn 2).trans rfl
  have z2 := zaa hn 2
  clear l1 l2 h hG hf hn hg
  by_cases h0 : g.f1 < 0
  ·
   rw [if_pos h0]
   rw [show pOf nb g.f1 = .pointer none by unfold pOf; rw [if_pos h0]] at c1
   go_enter Try.func37, Try.ntmps37
   go_wp2_with fail
   go_ret
   exact ⟨rfl, H.out, Wr.refl _ _⟩
  ·
   rw [if_neg h0]
   rw [show pOf nb g.f1 = .pointer (some ⟨nb g.f1, 0, none⟩) by unfold pOf; rw [if_neg h0]] at c1
   by_cases hw : 1 ≤ wt ∧ wt ≤ 10000
   ·
    rw [if_neg (by omega)]
    have d1 : decide (1 ≤ wt ∧ wt ≤ 10000) = true := decide_eq_true hw
    go_enter Try.func37, Try.ntmps37
    go_wp2_with fail
    go_at_call 24
    refine (right_ok wt w).mono ?_
    rw [d1]
    rintro e w1 ⟨rfl, rfl⟩
    go_wp2_with fail
    go_ret
    refine ⟨rfl, ?_, (Wr.refl _ _).set (.inl (.inr (.inr (.inr (.inr ⟨g, HM.out, rfl⟩))))) _⟩
    refine H.out.setN (hh := fun g => ⟨g.f0, g.f1, wt, g.f3, g.f4⟩) HG.out.2.2.2.2.1 HM.out (fun _ => rfl) (fun _ => rfl) rfl ?_ fun k hk => Below.heap_setCell _ _ _ _ hk
    exact zar HN.out 2 _ rfl
   ·
    rw [if_pos (by omega)]
    have d1 : decide (1 ≤ wt ∧ wt ≤ 10000) = false := decide_eq_false hw
    go_enter Try.func37, Try.ntmps37
    go_wp2_with fail
    go_at_call 24
    refine (right_ok wt w).mono ?_
    rw [d1]
    rintro e w1 ⟨rfl, rfl⟩
    go_wp2_with fail
    go_ret
    exact ⟨rfl, H.out, Wr.refl _ _⟩
theorem pOf_pos {nb : Int → Nat} {id : Int} (h : 0 ≤ id) : pOf nb id = .pointer (some ⟨nb id, 0, none⟩) := by
 unfold pOf
 rw [if_neg (by omega)]
theorem below_nodes {w : World} {fb tb ts m : Nat} {nb : Int → Nat} {n room : Nat} {last : Int} {L : List S84} (h : FAt w fb tb ts m nb n room last L) (hG : GoodF room last L) {g t : S84} (hg : g ∈ L) (ht : t ∈ L) :
  Calls Try.prog 28 #[.pointer (some ⟨nb g.f0, 0, none⟩), .pointer (some ⟨nb t.f0, 0, none⟩)] w fun e w' => e = .returned (.bool (decide (t.f0 ∈ way L g.f0))) ∧ Below w.heap.size w w' := by
 obtain ⟨hc, hl⟩ := hG.way hg
 obtain ⟨hp, he⟩ := h.path hG.2.2.2.2.1 hc
 have h0 := (hG.2.2.2.2.2 g hg).1
 rw [pOf_pos (by omega)] at he
 have := below_ok hp (by rw [List.length_map]; omega) (h.live ht)
 rw [he] at this
 refine this.mono ?_
 rintro e w' ⟨rfl, hb⟩
 refine ⟨?_, hb⟩
 congr 2
 exact decide_eq_decide.2 (mem_way h hc ht)
theorem path_node {w : World} {fb tb ts m : Nat} {nb : Int → Nat} {n room : Nat} {last : Int} {L : List S84} (h : FAt w fb tb ts m nb n room last L) (hG : GoodF room last L) {g : S84} (hg : g ∈ L) :
  Calls Try.prog 25 #[.pointer (some ⟨nb g.f0, 0, none⟩)] w fun e w' => ∃ A c, e = .returned (.slice A (way L g.f0).length c) ∧ Below w.heap.size w w' := by
 obtain ⟨hc, hl⟩ := hG.way hg
 obtain ⟨hp, he⟩ := h.path hG.2.2.2.2.1 hc
 have h0 := (hG.2.2.2.2.2 g hg).1
 rw [pOf_pos (by omega)] at he
 have := path_ok hp (by rw [List.length_map]; omega)
 rw [he] at this
 refine this.mono ?_
 rintro e w' ⟨v, rfl, hr, hb⟩
 obtain ⟨A, c, rfl, _, _⟩ := kp_V hr
 exact ⟨A, c, by rw [List.length_map], hb⟩
noncomputable def rootG (L : List S84) (id : Int) : Int := (way L id).getLast?.getD 0
theorem rootG_mem {room : Nat} {last : Int} {L : List S84} (hG : GoodF room last L) {g : S84} (hg : g ∈ L) : (way L g.f0).getLast? = some (rootG L g.f0) ∧ ∃ r ∈ L, r.f0 = rootG L g.f0 := by
 obtain ⟨hc, hl⟩ := hG.way hg
 have h0 := (hG.2.2.2.2.2 g hg).1
 obtain ⟨c', e⟩ := hc.head (by omega)
 have h1 : (way L g.f0).getLast? = some (rootG L g.f0) := by
  unfold rootG
  rw [e]
  cases h : (g.f0 :: c').getLast? with
  | none => simp at h
  | some x => rfl
 exact ⟨h1, way_mem hc (List.mem_of_getLast? h1)⟩
theorem root_node {w : World} {fb tb ts m : Nat} {nb : Int → Nat} {n room : Nat} {last : Int} {L : List S84} (h : FAt w fb tb ts m nb n room last L) (hG : GoodF room last L) {g : S84} (hg : g ∈ L) :
  Calls Try.prog 27 #[.pointer (some ⟨nb g.f0, 0, none⟩)] w fun e w' => e = .returned (.pointer (some ⟨nb (rootG L g.f0), 0, none⟩)) ∧ Below w.heap.size w w' := by
 obtain ⟨hc, hl⟩ := hG.way hg
 obtain ⟨hp, he⟩ := h.path hG.2.2.2.2.1 hc
 have h0 := (hG.2.2.2.2.2 g hg).1
 rw [pOf_pos (by omega)] at he
 have := root_ok (b := nb (rootG L g.f0)) hp (by rw [List.length_map]; omega) (by rw [List.getLast?_map, (rootG_mem hG hg).1]; rfl)
 rw [he] at this
 exact this
theorem forest_Below_ok {w : World} {fb tb ts m : Nat} {nb : Int → Nat} {n room : Nat} {last : Int} {L : List S84} (h : FAt w fb tb ts m nb n room last L) (hG : GoodF room last L) {g t : Int} (wf : (Lit.int .i64 g).wf = true) (wf2 : (Lit.int .i64 t).wf = true) :
  Calls Try.prog 14 #[.pointer (some ⟨fb, 0, none⟩), .int .i64 g, .int .i64 t] w fun e w' => e = .returned (.bool ((fnd L g).isSome && (fnd L t).isSome && decide (t ∈ way L g))) ∧ Below w.heap.size w w' := by
 obtain ⟨f0, f1⟩ := h.facts
 obtain ⟨l1, l2⟩ := h.look2 wf
 obtain ⟨k1, k2⟩ := h.look2 wf2
 have H := Aside0.mk h
 have HG := Aside0.mk hG
 cases hf : fnd L g with
 | none =>
  have l3 := l2 hf
  cases ht : fnd L t with
  | none =>
   have k3 := k2 ht
   clear l1 l2 k1 k2 h hG hf ht
   go_enter Try.func14, Try.ntmps14
   go_wp2_with fail
   go_ret
   exact ⟨rfl, Below.refl _ _⟩
  | some y =>
   have k3 := k1 _ ht
   clear l1 l2 k1 k2 h hG hf ht
   go_enter Try.func14, Try.ntmps14
   go_wp2_with fail
   go_ret
   exact ⟨rfl, Below.refl _ _⟩
 | some x =>
  have l3 := l1 _ hf
  cases ht : fnd L t with
  | none =>
   have k3 := k2 ht
   clear l1 l2 k1 k2 h hG hf ht
   go_enter Try.func14, Try.ntmps14
   go_wp2_with fail
   go_ret
   exact ⟨rfl, Below.refl _ _⟩
  | some y =>
   have k3 := k1 _ ht
   obtain ⟨hx, rfl⟩ := za2 hf
   obtain ⟨hy, rfl⟩ := za2 ht
   have HX := Aside0.mk hx
   have HY := Aside0.mk hy
   clear l1 l2 k1 k2 h hG hf ht hx hy
   go_enter Try.func14, Try.ntmps14
   go_wp2_with fail
   refine (below_nodes H.out HG.out HX.out HY.out).mono ?_
   rintro e w1 ⟨rfl, hb⟩
   have HB := Aside0.mk hb
   clear hb
   go_wp2_with fail
   go_ret
   exact ⟨by simp, HB.out⟩
end Go.Proofs.Ytlmjdchcgfpngaa.P
end
section
namespace Go.Proofs.Ytlmjdchcgfpngaa.P
open Go.RowKit Go.Proofs.YtlmjdchcgfpngaaW.PrintWords Go.Proofs.YtlmjdchcgfpngaaW.PrintLast Go.Proofs.YtlmjdchcgfpngaaW.PrintMore
attribute [local go_sem] zbq zbo max_two min_two zbh zbi zbp zbn
section
open Go.Sort
theorem below_grew {B : Nat} {w0 w : World} (h : Below B w0 w) (hB : B ≤ w.heap.size) (os : Array Obj) : Below B w0 (grow w os) :=
 ⟨h.os, h.tape, h.output, by rw [size_grow]; have := h.size; omega, fun k hk => by rw [heap_grow_old w os (by omega)]; exact h.block k hk⟩
end
def RowC (w : World) (g : Nat) (l : List Int) : Prop := g < w.heap.size ∧ ∀ i, i < l.length → w.cell? ⟨g, i, none⟩ = some (.int .i64 (l.getD i 0)) ∧ w.frozen? ⟨g, i, none⟩ = false
section
open Go.Sort
theorem RowC.holds {w : World} {g : Nat} {l : List Int} (h : RowC w g l) : Holds (Value.int .i64) w g 0 l.toArray := by
 intro j hj
 have hj' : j < l.length := by simpa using hj
 obtain ⟨h1, h2⟩ := h.2 j hj'
 rw [Nat.zero_add]
 refine ⟨?_, h2⟩
 rw [h1]
 simp [hj']
end
section
open Go.Sort
theorem RowC.of_holds {w : World} {g : Nat} {l : List Int} (hg : g < w.heap.size) (h : Holds (Value.int .i64) w g 0 l.toArray) : RowC w g l := by
 refine ⟨hg, fun i hi => ?_⟩
 obtain ⟨h1, h2⟩ := h i (by simpa using hi)
 rw [Nat.zero_add] at h1 h2
 refine ⟨?_, h2⟩
 rw [h1]
 simp [hi]
end
def IntsAt (w : World) (v : Value) (l : List Int) : Prop := ∃ A c, v = .slice A l.length c ∧ l.length ≤ c ∧ Kd.C (Kd.int .i64) w A l.length l
theorem IntsAt.of_row {w : World} {g c : Nat} {l : List Int} (h : RowC w g l) (hl : l.length < 1000000) (hc : l.length ≤ c) : IntsAt w (.slice (some ⟨g, 0, none⟩) l.length c) l := by
 refine ⟨_, _, rfl, hc, rfl, by omega, fun _ => ⟨_, rfl, fun j p hj => ⟨[.int .i64 p], rfl, rfl, fun i u hu => ?_⟩⟩⟩
 match i, hu with
 | 0, hu =>
  have e : (Addr.add ⟨g, 0, none⟩ (j * (Kd.int .i64).sz + 0)) = ⟨g, j, none⟩ := by
   show (Addr.add ⟨g, 0, none⟩ (j * 1 + 0)) = _
   rw [Nat.mul_one, Nat.add_zero, add_plain]
  obtain ⟨hjl, hjp⟩ := List.getElem?_eq_some_iff.1 hj
  rw [e, (h.2 j hjl).1]
  have : l.getD j 0 = p := by simp [hjl, hjp]
  rw [this]
  simpa using hu
theorem IntsAt.below {w w' : World} {v : Value} {l : List Int} (h : IntsAt w v l) (hb : Below w.heap.size w w') : IntsAt w' v l := by
 obtain ⟨A, c, e, hc, hr⟩ := h
 exact ⟨A, c, e, hc, Kd.za3 hr hb⟩
theorem IntsAt.nil (w : World) (A : Option Addr) (c : Nat) : IntsAt w (.slice A 0 c) [] := ⟨A, c, rfl, Nat.zero_le _, rfl, by simp, fun h => absurd h (by simp)⟩
section
open Go.Sort
theorem Sort_own {w : World} {base : Nat} {ok : Nat → Prop} {v : Value} {l : List Int} (h : Kd.R (Kd.int .i64) 3 w base ok v l) (hl : l.length < 1000000) :
  Calls Try.prog 31 #[v] w fun e w' => e = .returned (.tuple #[]) ∧ IntsAt w' v (l.mergeSort fun x y => decide (x ≤ y)) ∧ Below base w w' := by
 have ho := Kd.own_of_R h
 obtain ⟨_, ⟨rfl, h1⟩ | ⟨g, cap, cur, rfl, hg, hh, hn, hmx, hsz, ht⟩⟩ := ho
 ·
  obtain rfl : l = [] := List.eq_nil_of_length_eq_zero h1
  refine (Try.slices_Sort_int_none none 0 w).mono ?_
  rintro e w' ⟨rfl, rfl⟩
  exact ⟨rfl, by simpa using IntsAt.nil w' none 0, Below.refl _ _⟩
 ·
  rw [Nat.mul_one] at ht
  have hr : RowC w g l := by
   refine ⟨zao hh, fun i hi => ⟨?_, zaa hh i⟩⟩
   rw [za hh i]
   have := congrArg (fun z => z[i]?) ht
   simp only [List.getElem?_take_of_lt hi] at this
   rw [← Array.getElem?_toList, this]
   simp [hi, encs]
  refine (Try.slices_Sort_int g 0 cap l w hr.holds hr.1 (by omega)).mono ?_
  rintro e w3 ⟨rfl, n, os, rfl⟩
  have hlen : (l.mergeSort fun x y => decide (x ≤ y)).length = l.length := List.length_mergeSort _
  have hr3 : RowC (grow (putRow (Value.int .i64) (Sort.ahead w n) g 0 (l.mergeSort fun x y => decide (x ≤ y)).toArray) os) g (l.mergeSort fun x y => decide (x ≤ y)) := by
   have hb3 : g < (putRow (Value.int .i64) (Sort.ahead w n) g 0 (l.mergeSort fun x y => decide (x ≤ y)).toArray).heap.size := by
    rw [size_putRow]
    exact hr.1
   refine RowC.of_holds (by rw [size_grow]; omega) (holds_grow _ _ _ _ _ _ hb3 (holds_putRow _ _ _ _ l.toArray _ ?_ (by simp [hlen])))
   exact hr.holds
  have hB3 : Below base w (grow (putRow (Value.int .i64) (Sort.ahead w n) g 0 (l.mergeSort fun x y => decide (x ≤ y)).toArray) os) := by
   have h1 := Lib.below_putRow (enc := Value.int .i64) (q := n) (d := (l.mergeSort fun x y => decide (x ≤ y)).toArray) (Below.refl base w) hg
   exact below_grew h1 (by rw [size_putRow]; show base ≤ w.heap.size; have := hr.1; omega) os
  refine ⟨rfl, ?_, hB3⟩
  have := IntsAt.of_row (c := cap) hr3 (by omega) (by omega)
  rw [hlen] at this
  exact this
end
theorem sort_perm {l l' : List Int} (h : l.Perm l') (hs : l'.Pairwise (· < ·)) : l.mergeSort (fun x y => decide (x ≤ y)) = l' := by
 have tr : ∀ a b c : Int, decide (a ≤ b) = true → decide (b ≤ c) = true → decide (a ≤ c) = true := fun a b c h1 h2 => by simp only [decide_eq_true_eq] at *; omega
 have tot : ∀ a b : Int, (decide (a ≤ b) || decide (b ≤ a)) = true := fun a b => by simp only [Bool.or_eq_true, decide_eq_true_eq]; omega
 refine List.Perm.eq_of_pairwise (le := fun a b => decide (a ≤ b) = true) (fun a b _ _ h1 h2 => ?_) (List.pairwise_mergeSort tr tot l) (hs.imp fun {a b} h => decide_eq_true (by omega)) ((List.mergeSort_perm l _).trans h)
 simp only [decide_eq_true_eq] at h1 h2
 omega
theorem iter_ne {α : Type} {mk : α → Value} {w : World} {b r n cnt base : Nat} {g : Int → Option α} {left : Int → Bool} {ok : Nat → Prop} {v : Value} {l : List Int} (h : RangeAt Try.prog 3 mk w b r n g left cnt) (hk : Kd.R (Kd.int .i64) 3 w base ok v l) : some r ≠ v.ownBlock := by
 intro e
 obtain ⟨inner, ho⟩ := Kd.R_own hk
 obtain ⟨cells, hc⟩ := own_typed ho r e.symm
 obtain ⟨D, l, ⟨es, clock, since, seen, c0, _, _, _, _, hr, _⟩, _⟩ := h
 rw [hr] at hc
 cases hc
theorem RangeAt.grown {α : Type} {P : Program} {kt : TypeId} {mk : α → Value} {w w' : World} {b r n cnt : Nat} {g : Int → Option α} {left : Int → Bool} {row : Option Nat} (h : RangeAt P kt mk w b r n g left cnt) (hg : w.grownBy w' row) (h1 : some b ≠ row) (h2 : some r ≠ row) : RangeAt P kt mk w' b r n g left cnt := by
 obtain ⟨D, l, h, hd⟩ := h
 exact ⟨D, l, h.kept hg h1 h2, hd⟩
theorem RangeAt.ext {α : Type} {P : Program} {kt : TypeId} {mk : α → Value} {w : World} {b r n cnt : Nat} {g g' : Int → Option α} {left : Int → Bool} (h : RangeAt P kt mk w b r n g left cnt) (e : ∀ k, g' k = g k) : RangeAt P kt mk w b r n g' left cnt := by
 rw [show g' = g from funext e]
 exact h
end Go.Proofs.Ytlmjdchcgfpngaa.P
end
section
namespace Go.Proofs.Ytlmjdchcgfpngaa.P
open Go.RowKit Go.Proofs.YtlmjdchcgfpngaaW.PrintWords Go.Proofs.YtlmjdchcgfpngaaW.PrintLast Go.Proofs.YtlmjdchcgfpngaaW.PrintMore
attribute [local go_sem] zbq zbo max_two min_two zbh zbi zbp zbn
theorem put7 {w : World} {b : Nat} {t : TypeId} {x0 x1 x2 x3 x4 x5 x6 y0 y1 y2 y3 y4 y5 y6 : Value} (h : w.heap[b]? = some (.cells #[x0, x1, x2, x3, x4, x5, x6] t (0, 0))) : (((((((w.setCell ⟨b, 0, none⟩ y0).setCell ⟨b, 1, none⟩ y1).setCell ⟨b, 2, none⟩ y2).setCell ⟨b, 3, none⟩ y3).setCell ⟨b, 4, none⟩ y4).setCell ⟨b, 5, none⟩ y5).setCell ⟨b, 6, none⟩ y6).heap[b]? = some (.cells #[y0, y1, y2, y3, y4, y5, y6] t (0, 0)) := by
 have h0 : (w.setCell ⟨b, 0, none⟩ y0).heap[b]? = some (.cells #[y0, x1, x2, x3, x4, x5, x6] t (0, 0)) := zar h 0 y0 rfl
 have h1 : ((w.setCell ⟨b, 0, none⟩ y0).setCell ⟨b, 1, none⟩ y1).heap[b]? = some (.cells #[y0, y1, x2, x3, x4, x5, x6] t (0, 0)) := zar h0 1 y1 rfl
 have h2 : (((w.setCell ⟨b, 0, none⟩ y0).setCell ⟨b, 1, none⟩ y1).setCell ⟨b, 2, none⟩ y2).heap[b]? = some (.cells #[y0, y1, y2, x3, x4, x5, x6] t (0, 0)) := zar h1 2 y2 rfl
 have h3 : ((((w.setCell ⟨b, 0, none⟩ y0).setCell ⟨b, 1, none⟩ y1).setCell ⟨b, 2, none⟩ y2).setCell ⟨b, 3, none⟩ y3).heap[b]? = some (.cells #[y0, y1, y2, y3, x4, x5, x6] t (0, 0)) := zar h2 3 y3 rfl
 have h4 : (((((w.setCell ⟨b, 0, none⟩ y0).setCell ⟨b, 1, none⟩ y1).setCell ⟨b, 2, none⟩ y2).setCell ⟨b, 3, none⟩ y3).setCell ⟨b, 4, none⟩ y4).heap[b]? = some (.cells #[y0, y1, y2, y3, y4, x5, x6] t (0, 0)) := zar h3 4 y4 rfl
 have h5 : ((((((w.setCell ⟨b, 0, none⟩ y0).setCell ⟨b, 1, none⟩ y1).setCell ⟨b, 2, none⟩ y2).setCell ⟨b, 3, none⟩ y3).setCell ⟨b, 4, none⟩ y4).setCell ⟨b, 5, none⟩ y5).heap[b]? = some (.cells #[y0, y1, y2, y3, y4, y5, x6] t (0, 0)) := zar h4 5 y5 rfl
 have h6 : (((((((w.setCell ⟨b, 0, none⟩ y0).setCell ⟨b, 1, none⟩ y1).setCell ⟨b, 2, none⟩ y2).setCell ⟨b, 3, none⟩ y3).setCell ⟨b, 4, none⟩ y4).setCell ⟨b, 5, none⟩ y5).setCell ⟨b, 6, none⟩ y6).heap[b]? = some (.cells #[y0, y1, y2, y3, y4, y5, y6] t (0, 0)) := zar h5 6 y6 rfl
 exact h6
theorem below7 {w0 w : World} {b B : Nat} {y0 y1 y2 y3 y4 y5 y6 : Value} (h : Below B w0 w) (hb : B ≤ b) : Below B w0 (((((((w.setCell ⟨b, 0, none⟩ y0).setCell ⟨b, 1, none⟩ y1).setCell ⟨b, 2, none⟩ y2).setCell ⟨b, 3, none⟩ y3).setCell ⟨b, 4, none⟩ y4).setCell ⟨b, 5, none⟩ y5).setCell ⟨b, 6, none⟩ y6) := by
 have h0 := h.setCell (p := ⟨b, 0, none⟩) hb y0
 have h1 := h0.setCell (p := ⟨b, 1, none⟩) hb y1
 have h2 := h1.setCell (p := ⟨b, 2, none⟩) hb y2
 have h3 := h2.setCell (p := ⟨b, 3, none⟩) hb y3
 have h4 := h3.setCell (p := ⟨b, 4, none⟩) hb y4
 have h5 := h4.setCell (p := ⟨b, 5, none⟩) hb y5
 have h6 := h5.setCell (p := ⟨b, 6, none⟩) hb y6
 exact h6
theorem put7_all {w0 w : World} {b B : Nat} {t : TypeId} {x0 x1 x2 x3 x4 x5 x6 : Value} (y0 y1 y2 y3 y4 y5 y6 : Value) (h : w.heap[b]? = some (.cells #[x0, x1, x2, x3, x4, x5, x6] t (0, 0))) (hB : Below B w0 w) (hb : B ≤ b) : ∃ W, (((((((w.setCell ⟨b, 0, none⟩ y0).setCell ⟨b, 1, none⟩ y1).setCell ⟨b, 2, none⟩ y2).setCell ⟨b, 3, none⟩ y3).setCell ⟨b, 4, none⟩ y4).setCell ⟨b, 5, none⟩ y5).setCell ⟨b, 6, none⟩ y6) = W ∧ W.heap[b]? = some (.cells #[y0, y1, y2, y3, y4, y5, y6] t (0, 0)) ∧ Below B w0 W ∧ B ≤ b :=
 ⟨_, rfl, put7 h, below7 hB hb, hb⟩
theorem alloc_all {w0 w : World} (cs : Array Value) (t : TypeId) (hB : Below w0.heap.size w0 w) : ∃ W, w.alloc (.cells cs t) = W ∧ W.heap[w.heap.size]? = some (.cells cs t (0, 0)) ∧ Below w0.heap.size w0 W ∧ w0.heap.size ≤ w.heap.size :=
 ⟨_, rfl, za5 w _, zaf hB _, hB.size⟩
noncomputable def grpV (L : List S84) (id : Int) : Value :=
 match fnd L id with
 | none => .agg #[.int .i64 0, .int .i64 0, .int .i64 0, .int .i64 0, .int .i64 0, .int .i64 0, .int .i64 0]
 | some g => .agg #[.int .i64 g.f0, .int .i64 g.f1, .int .i64 g.f2, .int .i64 ((way L id).length : Nat), .int .i64 (rootG L id), .int .i64 g.f3, .int .i64 g.f4]
def grpE (L : List S84) (id : Int) : Int := if (fnd L id).isSome then 0 else 4
theorem group_ok {w : World} {fb tb ts m : Nat} {nb : Int → Nat} {n room : Nat} {last : Int} {L : List S84} (h : FAt w fb tb ts m nb n room last L) (hG : GoodF room last L) {id : Int} (wf : (Lit.int .i64 id).wf = true) :
  Calls Try.prog 13 #[.pointer (some ⟨fb, 0, none⟩), .int .i64 id] w fun e w' => e = .returned (.tuple #[grpV L id, .int .i64 (grpE L id)]) ∧ Below w.heap.size w w' := by
 have H := Aside0.mk h
 have HG := Aside0.mk hG
 have hal := zaf (Below.refl _ w) (.cells #[.int .i64 0, .int .i64 0, .int .i64 0, .int .i64 0, .int .i64 0, .int .i64 0, .int .i64 0] 32)
 have hx := za5 w (.cells #[.int .i64 0, .int .i64 0, .int .i64 0, .int .i64 0, .int .i64 0, .int .i64 0, .int .i64 0] 32)
 have h1 := h.keep hal
 obtain ⟨f0, f1⟩ := h1.facts
 obtain ⟨l1, l2⟩ := h1.look2 wf
 have HAL := Aside0.mk hal
 have HX := Aside0.mk hx
 have y0 := (za hx 0).trans rfl
 have y1 := (za hx 1).trans rfl
 have y2 := (za hx 2).trans rfl
 have y3 := (za hx 3).trans rfl
 have y4 := (za hx 4).trans rfl
 have y5 := (za hx 5).trans rfl
 have y6 := (za hx 6).trans rfl
 have z0 := zaa hx 0
 have z1 := zaa hx 1
 have z2 := zaa hx 2
 have z3 := zaa hx 3
 have z4 := zaa hx 4
 have z5 := zaa hx 5
 have z6 := zaa hx 6
 cases hf : fnd L id with
 | none =>
  have l3 := l2 hf
  rw [show grpV L id = .agg #[.int .i64 0, .int .i64 0, .int .i64 0, .int .i64 0, .int .i64 0, .int .i64 0, .int .i64 0] by unfold grpV; rw [hf], show grpE L id = 4 by unfold grpE; rw [hf]; rfl]
  clear l1 l2 h h1 hG hf hal hx
  go_enter Try.func13, Try.ntmps13
  go_wp2_with fail
  refine bodyPost_ret (zat rfl _ _ w.heap.size 32 #[.int .i64 0, .int .i64 0, .int .i64 0, .int .i64 0, .int .i64 0, .int .i64 0, .int .i64 0] (0, 0) _ rfl HX.out Try.underlying32 rfl (by kernel_rfl)) rfl ?_
  exact ⟨rfl, HAL.out⟩
 | some g =>
  have l3 := l1 g hf
  rw [show grpV L id = .agg #[.int .i64 g.f0, .int .i64 g.f1, .int .i64 g.f2, .int .i64 ((way L id).length : Nat), .int .i64 (rootG L id), .int .i64 g.f3, .int .i64 g.f4] by unfold grpV; rw [hf], show grpE L id = 0 by unfold grpE; rw [hf]; rfl]
  obtain ⟨hg, rfl⟩ := za2 hf
  have H1 := Aside0.mk h1
  have HM := Aside0.mk hg
  clear l1 l2 h h1 hG hf hal hx hg
  go_enter Try.func13, Try.ntmps13
  go_wp2_with fail
  clear f0 f1 l3 y0 y1 y2 y3 y4 y5 y6 z0 z1 z2 z3 z4 z5 z6
  generalize w.alloc (.cells #[.int .i64 0, .int .i64 0, .int .i64 0, .int .i64 0, .int .i64 0, .int .i64 0, .int .i64 0] 32) = W1 at H1 HX HAL ⊢
  have hG := HG.out
  have hg := HM.out
  have h1 := H1.out
  obtain ⟨r, hr, hre⟩ := (rootG_mem hG hg).2
  have HSK : Aside0 (∀ W, Below W1.heap.size W1 W → W.cell? ⟨nb g.f0, 2, none⟩ = some (.int .i64 g.f2) ∧ W.cell? ⟨nb g.f0, 3, none⟩ = some (.int .i64 g.f3) ∧ W.cell? ⟨nb g.f0, 4, none⟩ = some (.int .i64 g.f4) ∧ W.cell? ⟨nb (rootG L g.f0), 0, none⟩ = some (.int .i64 (rootG L g.f0))) := ⟨fun W hW => by
   have q := (h1.keep hW).2.2.2
   have q1 := q g hg
   have q2 := q r hr
   rw [NodeAt, hre] at q2
   exact ⟨(za q1 2).trans rfl, (za q1 3).trans rfl, (za q1 4).trans rfl, (za q2 0).trans rfl⟩⟩
  have HP : Aside0 (∀ W, Below W1.heap.size W1 W → Calls Try.prog 25 #[.pointer (some ⟨nb g.f0, 0, none⟩)] W fun e w' => ∃ A c, e = .returned (.slice A (way L g.f0).length c) ∧ Below W1.heap.size W1 w' ∧ Below W.heap.size W w') := ⟨fun W hW => (path_node (H1.out.keep hW) HG.out HM.out).mono fun e w' ⟨A, c, he, hb⟩ => ⟨A, c, he, zab hW hb, hb⟩⟩
  have HR : Aside0 (∀ W, Below W1.heap.size W1 W → Calls Try.prog 27 #[.pointer (some ⟨nb g.f0, 0, none⟩)] W fun e w' => e = .returned (.pointer (some ⟨nb (rootG L g.f0), 0, none⟩)) ∧ Below W1.heap.size W1 w' ∧ Below W.heap.size W w') := ⟨fun W hW => (root_node (H1.out.keep hW) HG.out HM.out).mono fun e w' ⟨he, hb⟩ => ⟨he, zab hW hb, hb⟩⟩
  have hpar := (hG.2.2.2.2.2 g hg).2.2.1
  generalize hrg : rootG L g.f0 = rg at HSK HR
  generalize hwy : way L g.f0 = wy at HP
  have HRG := Aside0.mk hrg
  have HWY := Aside0.mk hwy
  clear hrg hwy
  obtain ⟨c2, c3, c4, c5⟩ := HSK.out W1 (Below.refl _ _)
  clear hG hg h1 hr hre
  go_region_held3 (fun W => W.cell? ⟨nb g.f0, 2, none⟩ = some (.int .i64 g.f2) ∧ W.cell? ⟨nb g.f0, 3, none⟩ = some (.int .i64 g.f3) ∧ W.cell? ⟨nb g.f0, 4, none⟩ = some (.int .i64 g.f4) ∧ W.cell? ⟨nb rg, 0, none⟩ = some (.int .i64 rg)) (((with_reducible refine HSK.out _ ?_); (repeat (refine Below.setCell ?_ (by first | exact HBa.out.size | exact HBb.out.size | exact Nat.le_refl _) _)); (first | (with_reducible exact HBa.out) | (with_reducible exact HBb.out) | (with_reducible exact zaf HBa.out _) | (with_reducible exact zaf HBb.out _) | (with_reducible exact (Below.refl _ W1).drew) | (with_reducible exact zaf (Below.refl _ W1).drew _) | (with_reducible exact (zaf (Below.refl _ W1) _).drew)))) (first | (go_at_call 25; refine (HP.out _ ?_).mono ?_; (first | (with_reducible exact HBa.out) | (with_reducible exact HBb.out) | (with_reducible exact zaf HBa.out _) | (with_reducible exact zaf HBb.out _) | (with_reducible exact (Below.refl _ W1).drew) | (with_reducible exact zaf (Below.refl _ W1).drew _) | (with_reducible exact (zaf (Below.refl _ W1) _).drew)); rintro e wa ⟨Ap, cp, rfl, hb, hc⟩; have HBa := Aside0.mk hb; clear hb; (first | (have hbx := (hc.block _ (zao HBX.out)).trans HBX.out; have HBX := Aside0.mk hbx; have yb0 := (za hbx 0).trans rfl; have yb1 := (za hbx 1).trans rfl; have yb2 := (za hbx 2).trans rfl; have yb3 := (za hbx 3).trans rfl; have yb4 := (za hbx 4).trans rfl; have yb5 := (za hbx 5).trans rfl; have yb6 := (za hbx 6).trans rfl; have zb0 := zaa hbx 0; have zb1 := zaa hbx 1; have zb2 := zaa hbx 2; have zb3 := zaa hbx 3; have zb4 := zaa hbx 4; have zb5 := zaa hbx 5; have zb6 := zaa hbx 6; clear hbx hc) | (have hbx := (hc.block _ (zao (za5 _ (.cells #[.int .i64 0, .int .i64 0, .int .i64 0, .int .i64 0, .int .i64 0, .int .i64 0, .int .i64 0] 32)))).trans (za5 _ (.cells #[.int .i64 0, .int .i64 0, .int .i64 0, .int .i64 0, .int .i64 0, .int .i64 0, .int .i64 0] 32)); have HBX := Aside0.mk hbx; have yb0 := (za hbx 0).trans rfl; have yb1 := (za hbx 1).trans rfl; have yb2 := (za hbx 2).trans rfl; have yb3 := (za hbx 3).trans rfl; have yb4 := (za hbx 4).trans rfl; have yb5 := (za hbx 5).trans rfl; have yb6 := (za hbx 6).trans rfl; have zb0 := zaa hbx 0; have zb1 := zaa hbx 1; have zb2 := zaa hbx 2; have zb3 := zaa hbx 3; have zb4 := zaa hbx 4; have zb5 := zaa hbx 5; have zb6 := zaa hbx 6; clear hbx hc) | (have hbx := (hc.block _ (zao (zal (za5 _ (.cells #[.int .i64 0, .int .i64 0, .int .i64 0, .int .i64 0, .int .i64 0, .int .i64 0, .int .i64 0] 32))))).trans (zal (za5 _ (.cells #[.int .i64 0, .int .i64 0, .int .i64 0, .int .i64 0, .int .i64 0, .int .i64 0, .int .i64 0] 32))); have HBX := Aside0.mk hbx; have yb0 := (za hbx 0).trans rfl; have yb1 := (za hbx 1).trans rfl; have yb2 := (za hbx 2).trans rfl; have yb3 := (za hbx 3).trans rfl; have yb4 := (za hbx 4).trans rfl; have yb5 := (za hbx 5).trans rfl; have yb6 := (za hbx 6).trans rfl; have zb0 := zaa hbx 0; have zb1 := zaa hbx 1; have zb2 := zaa hbx 2; have zb3 := zaa hbx 3; have zb4 := zaa hbx 4; have zb5 := zaa hbx 5; have zb6 := zaa hbx 6; clear hbx hc) | clear hc)) | (go_at_call 27; refine (HR.out _ ?_).mono ?_; (first | (with_reducible exact HBa.out) | (with_reducible exact HBb.out) | (with_reducible exact zaf HBa.out _) | (with_reducible exact zaf HBb.out _) | (with_reducible exact (Below.refl _ W1).drew) | (with_reducible exact zaf (Below.refl _ W1).drew _) | (with_reducible exact (zaf (Below.refl _ W1) _).drew)); rintro e wb ⟨rfl, hb, hc⟩; have HBb := Aside0.mk hb; clear hb; (first | (have hbx := (hc.block _ (zao HBX.out)).trans HBX.out; have HBX := Aside0.mk hbx; have yb0 := (za hbx 0).trans rfl; have yb1 := (za hbx 1).trans rfl; have yb2 := (za hbx 2).trans rfl; have yb3 := (za hbx 3).trans rfl; have yb4 := (za hbx 4).trans rfl; have yb5 := (za hbx 5).trans rfl; have yb6 := (za hbx 6).trans rfl; have zb0 := zaa hbx 0; have zb1 := zaa hbx 1; have zb2 := zaa hbx 2; have zb3 := zaa hbx 3; have zb4 := zaa hbx 4; have zb5 := zaa hbx 5; have zb6 := zaa hbx 6; clear hbx hc) | (have hbx := (hc.block _ (zao (za5 _ (.cells #[.int .i64 0, .int .i64 0, .int .i64 0, .int .i64 0, .int .i64 0, .int .i64 0, .int .i64 0] 32)))).trans (za5 _ (.cells #[.int .i64 0, .int .i64 0, .int .i64 0, .int .i64 0, .int .i64 0, .int .i64 0, .int .i64 0] 32)); have HBX := Aside0.mk hbx; have yb0 := (za hbx 0).trans rfl; have yb1 := (za hbx 1).trans rfl; have yb2 := (za hbx 2).trans rfl; have yb3 := (za hbx 3).trans rfl; have yb4 := (za hbx 4).trans rfl; have yb5 := (za hbx 5).trans rfl; have yb6 := (za hbx 6).trans rfl; have zb0 := zaa hbx 0; have zb1 := zaa hbx 1; have zb2 := zaa hbx 2; have zb3 := zaa hbx 3; have zb4 := zaa hbx 4; have zb5 := zaa hbx 5; have zb6 := zaa hbx 6; clear hbx hc) | (have hbx := (hc.block _ (zao (zal (za5 _ (.cells #[.int .i64 0, .int .i64 0, .int .i64 0, .int .i64 0, .int .i64 0, .int .i64 0, .int .i64 0] 32))))).trans (zal (za5 _ (.cells #[.int .i64 0, .int .i64 0, .int .i64 0, .int .i64 0, .int .i64 0, .int .i64 0, .int .i64 0] 32))); have HBX := Aside0.mk hbx; have yb0 := (za hbx 0).trans rfl; have yb1 := (za hbx 1).trans rfl; have yb2 := (za hbx 2).trans rfl; have yb3 := (za hbx 3).trans rfl; have yb4 := (za hbx 4).trans rfl; have yb5 := (za hbx 5).trans rfl; have yb6 := (za hbx 6).trans rfl; have zb0 := zaa hbx 0; have zb1 := zaa hbx 1; have zb2 := zaa hbx 2; have zb3 := zaa hbx 3; have zb4 := zaa hbx 4; have zb5 := zaa hbx 5; have zb6 := zaa hbx 6; clear hbx hc) | clear hc)))
  all_goals
   first | (obtain ⟨Wf, hWf, hbf, hBf, hle⟩ := put7_all (.int .i64 g.f0) (.int .i64 (-1)) (.int .i64 g.f2) (.int .i64 (wy.length : Nat)) (.int .i64 rg) (.int .i64 g.f3) (.int .i64 g.f4) HBX.out HBb.out (by first | exact HBa.out.size | exact HBb.out.size | exact Nat.le_refl _); rw [hWf]) | (obtain ⟨Wf, hWf, hbf, hBf, hle⟩ := put7_all (.int .i64 g.f0) (.int .i64 (-1)) (.int .i64 g.f2) (.int .i64 (wy.length : Nat)) (.int .i64 rg) (.int .i64 g.f3) (.int .i64 g.f4) HBX.out HBa.out (by first | exact HBa.out.size | exact HBb.out.size | exact Nat.le_refl _); rw [hWf]) | (obtain ⟨Wf, hWf, hbf, hBf, hle⟩ := alloc_all #[.int .i64 g.f0, .int .i64 (-1), .int .i64 g.f2, .int .i64 (wy.length : Nat), .int .i64 rg, .int .i64 g.f3, .int .i64 g.f4] 32 HBb.out; rw [hWf]) | (obtain ⟨Wf, hWf, hbf, hBf, hle⟩ := alloc_all #[.int .i64 g.f0, .int .i64 (-1), .int .i64 g.f2, .int .i64 (wy.length : Nat), .int .i64 rg, .int .i64 g.f3, .int .i64 g.f4] 32 HBa.out; rw [hWf])
  all_goals
   have HBF := Aside0.mk hBf
   have HWX := Aside0.mk hbf
   clear hWf hBf hbf c2 c3 c4 c5
   try clear yb0 zb0 yb1 zb1 yb2 zb2 yb3 zb3 yb4 zb4 yb5 zb5 yb6 zb6
   have hr0 := (HBF.out.block _ (zao HX.out)).trans HX.out
   have HR0 := Aside0.mk hr0
   have hx0 := HWX.out
   have hlx := Nat.lt_of_lt_of_le (zao HX.out) hle
   have hne1 := Nat.ne_of_gt hlx
   have hne2 := Nat.ne_of_lt hlx
   have HLX := Aside0.mk hlx
   clear hlx hle
   have u0 := (za hx0 0).trans rfl
   have u1 := (za hx0 1).trans rfl
   have u2 := (za hx0 2).trans rfl
   have u3 := (za hx0 3).trans rfl
   have u4 := (za hx0 4).trans rfl
   have u5 := (za hx0 5).trans rfl
   have u6 := (za hx0 6).trans rfl
   have q1 := zaa hx0 1
   have r0 := (za hr0 0).trans rfl
   have r1 := (za hr0 1).trans rfl
   have r2 := (za hr0 2).trans rfl
   have r3 := (za hr0 3).trans rfl
   have r4 := (za hr0 4).trans rfl
   have r5 := (za hr0 5).trans rfl
   have r6 := (za hr0 6).trans rfl
   have s0 := zaa hr0 0
   have s1 := zaa hr0 1
   have s2 := zaa hr0 2
   have s3 := zaa hr0 3
   have s4 := zaa hr0 4
   have s5 := zaa hr0 5
   have s6 := zaa hr0 6
   have hnf := (H1.out.keep HBF.out).2.2.2 g HM.out
   have n1 : Wf.cell? ⟨nb g.f0, 1, none⟩ = some (pOf nb g.f1) := (za hnf 1).trans rfl
   clear hx0 hr0 hnf
   by_cases hroot : g.f1 < 0
   ·
    rw [show pOf nb g.f1 = .pointer none by unfold pOf; rw [if_pos hroot]] at n1
    have he1 : g.f1 = -1 := by omega
    have HE1 := Aside0.mk he1
    clear he1
    go_wp2_with fail
    refine bodyPost_ret (zat rfl _ _ w.heap.size 32 #[.int .i64 g.f0, .int .i64 (-1), .int .i64 g.f2, .int .i64 (wy.length : Nat), .int .i64 rg, .int .i64 g.f3, .int .i64 g.f4] (0, 0) _ rfl (put7 HR0.out) Try.underlying32 rfl (by kernel_rfl)) rfl ?_
    exact ⟨by rw [HE1.out, HWY.out, HRG.out]; rfl, below7 (HAL.out.trans (HBF.out.mono HAL.out.size)) (Nat.le_refl _)⟩
   ·
    have hpin := par_in HG.out HM.out (by omega)
    obtain ⟨pp, hpp, hpe⟩ := hpin
    have hnp := (H1.out.keep HBF.out).2.2.2 pp hpp
    rw [NodeAt, hpe] at hnp
    have n2 : Wf.cell? ⟨nb g.f1, 0, none⟩ = some (.int .i64 g.f1) := (za hnp 0).trans rfl
    rw [show pOf nb g.f1 = .pointer (some ⟨nb g.f1, 0, none⟩) by unfold pOf; rw [if_neg hroot]] at n1
    clear hpp hpe hnp
    go_wp2_with fail
    have HR1 : Aside0 ((Wf.setCell ⟨_, 1, none⟩ (.int .i64 g.f1)).heap[w.heap.size]? = _) := ⟨(Below.heap_setCell Wf _ _ _ hne2).trans HR0.out⟩
    refine bodyPost_ret (zat rfl _ _ w.heap.size 32 #[.int .i64 g.f0, .int .i64 g.f1, .int .i64 g.f2, .int .i64 (wy.length : Nat), .int .i64 rg, .int .i64 g.f3, .int .i64 g.f4] (0, 0) _ rfl (put7 HR1.out) Try.underlying32 rfl (by kernel_rfl)) rfl ?_
    exact ⟨by rw [HWY.out, HRG.out]; rfl, below7 ((HAL.out.trans (HBF.out.mono HAL.out.size)).setCell (Nat.le_of_lt HLX.out) _) (Nat.le_refl _)⟩
theorem forest_New_ok (m : Nat) (h1 : 1 ≤ m) (h2 : m ≤ 64) (w : World) :
  Calls Try.prog 9 #[.int .i64 (m : Int)] w fun e w' => ∃ fb tb ts mb, e = .returned (.tuple #[.pointer (some ⟨fb, 0, none⟩), .int .i64 0]) ∧ w.heap.size ≤ fb ∧ w.heap.size ≤ tb ∧ w.heap.size ≤ ts ∧ w.heap.size ≤ mb ∧ FAt w' fb tb ts mb (fun _ => 0) 0 m 0 [] ∧ Below w.heap.size w w' := by
 have hmm := @run_makeMap Try.prog
 go_enter Try.func9, Try.ntmps9
 go_wp2_with fail
 go_at_call 22
 refine (tabF_New m h1 h2 w).mono ?_
 rintro e w1 ⟨b, s, rfl, hb, hs, ht, hw⟩
 have HT := Aside0.mk ht
 have HW := Aside0.mk hw
 have hz := hw.size
 clear ht hw
 go_wp2_with fail
 go_ret2
 refine ⟨w1.heap.size + 1, b, s, w1.heap.size, by simp, by omega, hb, hs, hz, ⟨?_, ?_, ?_, fun g hg => by cases hg⟩, zaf (zaf HW.out _) _⟩
 ·
  have := za5 (w1.alloc (.map #[] 0)) (.cells #[.pointer (some ⟨b, 0, none⟩), .map (some w1.heap.size)] 62)
  rw [show (w1.alloc (.map #[] 0)).heap.size = w1.heap.size + 1 by simp] at this
  exact this
 ·
  exact HT.out.blocks ((zaf (zaf (Below.refl _ w1) _) _).block _ HT.out.lt.1) ((zaf (zaf (Below.refl _ w1) _) _).block _ HT.out.lt.2)
 ·
  exact ((MapAt.made Try.prog 3 mkP w1).keep (zaf (Below.refl _ _) _)).ext fun k => rfl
theorem asc_nodup {L : List S84} (h : Asc L) : (L.map (·.f0)).Nodup := (List.pairwise_map.2 h).imp fun {a b} h => Int.ne_of_lt h
theorem put_full {w : World} {fb tb ts m : Nat} {nb : Int → Nat} {n room : Nat} {last : Int} {L : List S84} (h : FAt w fb tb ts m nb n room last L) (hl : L.length = room) (v : Value) (wt : Int) :
  Calls Try.prog 23 #[.pointer (some ⟨fb, 0, none⟩), v, .int .i64 wt] w fun e w' => e = .returned (.tuple #[.int .i64 0, .int .i64 6]) ∧ Below w.heap.size w w' := by
 obtain ⟨f0, f1⟩ := h.facts
 have HT := Aside0.mk h.2.1
 clear h
 go_enter Try.func23, Try.ntmps23
 go_wp2_with fail
 go_at_call 50
 refine (tabF_full HT.out (by rw [List.length_map]; exact hl)).mono ?_
 rintro e w1 ⟨rfl, hd⟩
 have HD := Aside0.mk hd.below
 clear hd
 go_wp2_with fail
 go_ret2
 exact ⟨rfl, HD.out⟩
theorem FAt.more {w w4 : World} {fb tb ts m : Nat} {nb : Int → Nat} {n n' room : Nat} {last : Int} {L : List S84} (h : FAt w fb tb ts m nb n room last L) (hG : GoodF room last L) {p wt : Int} (hp : p = -1 ∨ ∃ g ∈ L, g.f0 = p) {b : Nat} (hb : w.heap.size ≤ b)
  (hfb : w4.heap[fb]? = w.heap[fb]?) (ht : TabF w4 tb ts room (last + 1) (L.map (·.f0) ++ [last + 1])) (hm : MapAt Try.prog 3 mkP w4 m n' (fun j => if j = last + 1 then some b else (fnd L j).map fun _ => nb j))
  (hnew : w4.heap[b]? = some (nodeV (last + 1) (pOf nb p) wt 0 0 0 0)) (hn : ∀ y ∈ L, w4.heap[nb y.f0]? = some (nodeV y.f0 (pOf nb y.f1) y.f2 y.f3 y.f4 (act L y.f0) (kid L y.f0 + if p = y.f0 then 1 else 0))) :
  FAt w4 fb tb ts m (fun i => if i = last + 1 then b else nb i) n' room (last + 1) (L ++ [⟨last + 1, p, wt, 0, 0⟩]) := by
 have hfr : fnd L (last + 1) = none := fnd_fresh hG (by omega)
 have hple : p ≤ last := by
  rcases hp with rfl | ⟨g, hg, rfl⟩
  ·
   have := hG.2.2.1
   omega
  ·
   exact (hG.2.2.2.2.2 g hg).2.1
 have hpo : ∀ q : Int, q ≤ last → pOf (fun i => if i = last + 1 then b else nb i) q = pOf nb q := fun q hq => by
  unfold pOf
  split
  ·
   rfl
  ·
   dsimp only
   rw [if_neg (by omega)]
 refine ⟨hfb.trans h.1, by rw [List.map_append]; exact ht, hm.ext fun k => ?_, fun y hy => ?_⟩
 ·
  rw [fnd_app (a := ⟨last + 1, p, wt, 0, 0⟩) hfr]
  dsimp only
  split
  ·
   rfl
  ·
   rfl
 ·
  rcases List.mem_append.1 hy with hy | hy
  ·
   have hyl := (hG.2.2.2.2.2 y hy).2.1
   have hpl : y.f1 ≤ last := by
    by_cases h0 : 0 ≤ y.f1
    ·
     obtain ⟨z, hz, e⟩ := par_in hG hy h0
     rw [← e]
     exact (hG.2.2.2.2.2 z hz).2.1
    ·
     have := hG.2.2.1
     omega
   unfold NodeAt
   dsimp only
   rw [if_neg (by omega), hpo _ hpl, act_app hG (a := ⟨last + 1, p, wt, 0, 0⟩) hfr rfl, kid_app]
   exact hn y hy
  ·
   obtain rfl := List.mem_singleton.1 hy
   unfold NodeAt
   dsimp only
   rw [if_pos rfl, hpo _ hple, act_app hG (a := ⟨last + 1, p, wt, 0, 0⟩) hfr rfl, kid_app, act_fresh hG (by omega), kid_fresh hG (by omega), if_neg (by dsimp only; omega)]
   exact hnew
theorem put_ok {w : World} {fb tb ts m : Nat} {nb : Int → Nat} {n room : Nat} {last : Int} {L : List S84} (h : FAt w fb tb ts m nb n room last L) (hG : GoodF room last L) (hl : L.length < room) (hnn : n < 1000000) {p : Int} (wt : Int) (hp : p = -1 ∨ ∃ g ∈ L, g.f0 = p) :
  Calls Try.prog 23 #[.pointer (some ⟨fb, 0, none⟩), pOf nb p, .int .i64 wt] w fun e w' => ∃ b, e = .returned (.tuple #[.int .i64 (last + 1), .int .i64 0]) ∧ w.heap.size ≤ b ∧ b < w'.heap.size ∧ FAt w' fb tb ts m (fun i => if i = last + 1 then b else nb i) (n + 1) room (last + 1) (L ++ [⟨last + 1, p, wt, 0, 0⟩]) ∧ Wr (FS fb tb ts m nb L) w w' := by
 obtain ⟨f0, f1⟩ := h.facts
 have H := Aside0.mk h
 have HG := Aside0.mk hG
 have HP := Aside0.mk hp
 obtain ⟨_, _, hl0, hl1, _⟩ := hG
 clear h hp
 go_enter Try.func23, Try.ntmps23
 go_wp2_with fail
 go_at_call 50
 refine (tabF_AddW H.out.2.1 (by rw [List.length_map]; exact hl) (by omega)).mono ?_
 rintro e w1 ⟨i, rfl, ht, hw⟩
 have ha2 := H.out.apart2
 have htne := H.out.2.1.ne
 have hsz := hw.size
 have hfb1 : w1.heap[fb]? = w.heap[fb]? := hw.2 fb (H.out.lt (.inl rfl)) (fun hh => by rcases hh with e | e; exact ha2.1 e; exact ha2.2.1 e)
 have hm1 : w1.heap[m]? = w.heap[m]? := hw.2 m (H.out.lt (.inr (.inr (.inr (.inl rfl))))) (fun hh => by rcases hh with e | e; exact ha2.2.2.2.1 e.symm; exact ha2.2.2.2.2 e.symm)
 have hn1 : ∀ y ∈ L, w1.heap[nb y.f0]? = w.heap[nb y.f0]? := fun y hy => hw.2 _ (H.out.lt (.inr (.inr (.inr (.inr ⟨y, hy, rfl⟩))))) (fun hh => by
  obtain ⟨_, a2, a3, _⟩ := H.out.apart hy
  rcases hh with e | e
  ·
   exact a2 e
  ·
   exact a3 e)
 have hF1 := hfb1.trans H.out.1
 obtain ⟨D, ⟨es, clock, hes, hes'⟩, hD⟩ := H.out.2.2.1
 have hM1 : MapAt Try.prog 3 mkP w1 m n (fun id => (fnd L id).map fun _ => nb id) := ⟨D, ⟨es, clock, hm1.trans hes, hes'⟩, hD⟩
 clear hes hes' hD
 have hx := za5 w1 (.cells #[.int .i64 (last + 1), pOf nb p, .int .i64 wt, .int .i64 0, .int .i64 0, .int .i64 0, .int .i64 0] 71)
 have hal := zaf (Below.refl _ w1) (.cells #[.int .i64 (last + 1), pOf nb p, .int .i64 wt, .int .i64 0, .int .i64 0, .int .i64 0, .int .i64 0] 71)
 have hmx : maxLen = 9223372036854775807 := rfl
 obtain ⟨w3, s1, s2, s3⟩ := (hM1.keep hal).store (t := 60) (e := 64) mkP_inj Try.underlying3 Try.underlying60 (by omega) (k := last + 1) (wf_i64 (by omega) (by omega)) w1.heap.size
 have s1' : (Instr.mapUpdate 60 (.map (some m)) (.int .i64 (last + 1)) (.pointer (some ⟨w1.heap.size, 0, none⟩))).run Try.prog (w1.alloc (.cells #[.int .i64 (last + 1), pOf nb p, .int .i64 wt, .int .i64 0, .int .i64 0, .int .i64 0, .int .i64 0] 71)) = .ok () w3 := s1
 have hml : m < w1.heap.size := Nat.lt_of_lt_of_le (H.out.lt (.inr (.inr (.inr (.inl rfl))))) hsz
 have hblk : ∀ k, k < w1.heap.size → k ≠ m → w3.heap[k]? = w1.heap[k]? := fun k hk hkm => by
  obtain ⟨es, clock, es', clock', hb, rfl⟩ := s3
  rw [ChangeMaps.heap_setBlock_other hb _ hkm]
  exact hal.block k hk
 have hx3 : w3.heap[w1.heap.size]? = some (nodeV (last + 1) (pOf nb p) wt 0 0 0 0) := by
  obtain ⟨es, clock, es', clock', hb, rfl⟩ := s3
  rw [ChangeMaps.heap_setBlock_other hb _ (by omega)]
  exact hx
 have hW3 : Wr (FS fb tb ts m nb L) w w3 := ((hw.mono fun k hk => by rcases hk with rfl | rfl; exact .inr (.inl rfl); exact .inr (.inr (.inl rfl))).step hal).turned s3 (.inl (.inr (.inr (.inr (.inl rfl)))))
 have hsz3 : w1.heap.size < w3.heap.size := zao hx3
 have hf3 := (hblk fb (Nat.lt_of_lt_of_le (H.out.lt (.inl rfl)) hsz) ha2.2.2.1).trans hF1
 have hT3 := ht.blocks (hblk tb (Nat.lt_of_lt_of_le (H.out.lt (.inr (.inl rfl))) hsz) ha2.2.2.2.1) (hblk ts (Nat.lt_of_lt_of_le (H.out.lt (.inr (.inr (.inl rfl)))) hsz) ha2.2.2.2.2)
 have hN3 : ∀ y ∈ L, w3.heap[nb y.f0]? = some (nodeV y.f0 (pOf nb y.f1) y.f2 y.f3 y.f4 (act L y.f0) (kid L y.f0)) := fun y hy =>
  (hblk _ (Nat.lt_of_lt_of_le (H.out.lt (.inr (.inr (.inr (.inr ⟨y, hy, rfl⟩))))) hsz) (H.out.apart hy).2.2.2).trans ((hn1 y hy).trans (H.out.2.2.2 y hy))
 have f2 : w1.cell? ⟨fb, 1, none⟩ = some (.map (some m)) := (za hF1 1).trans rfl
 have f3 : (w1.alloc (.cells #[.int .i64 (last + 1), pOf nb p, .int .i64 wt, .int .i64 0, .int .i64 0, .int .i64 0, .int .i64 0] 71)).cell? ⟨fb, 1, none⟩ = some (.map (some m)) := (za ((hal.block _ (zao hF1)).trans hF1) 1).trans rfl
 have HX3 := Aside0.mk hx3
 have HW3 := Aside0.mk hW3
 have HF3 := Aside0.mk (hblk fb (Nat.lt_of_lt_of_le (H.out.lt (.inl rfl)) hsz) ha2.2.2.1 |>.trans hfb1)
 have HT3 := Aside0.mk hT3
 have HN3 := Aside0.mk hN3
 have HM3 := Aside0.mk s2
 have HSZ := Aside0.mk hsz
 have HS3 := Aside0.mk hsz3
 have HAL := Aside0.mk hal
 clear s1 s2 s3 hblk hx3 hW3 hf3 hT3 hN3 hF1 hM1 hx hal hn1 hm1 hfb1 ht hw ha2 htne hml hmx D
 rcases HP.out with rfl | ⟨q, hq, hqp⟩
 ·
  have hpo : pOf nb (-1) = .pointer none := by rfl
  rw [hpo] at f3 s1' ⊢
  go_wp2_with fail
  go_ret2
  refine ⟨w1.heap.size, rfl, HSZ.out, HS3.out, H.out.more HG.out (.inl rfl) HSZ.out HF3.out HT3.out HM3.out HX3.out (fun y hy => ?_), HW3.out⟩
  rw [if_neg (by have := (HG.out.2.2.2.2.2 y hy).1; omega), Int.add_zero]
  exact HN3.out y hy
 ·
  subst hqp
  have hq1 := HG.out.2.2.2.2.2 q hq
  have hk1 := za9 L q.f0
  have hpo : pOf nb q.f0 = .pointer (some ⟨nb q.f0, 0, none⟩) := pOf_pos (by have := hq1.1; omega)
  have hk2 : kid L q.f0 ≤ 32 := by
   have := hq1.2.2.2.2.2.1
   have := hq1.2.2.2.2.2.2.1
   have := hq1.2.2.2.2.2.2.2
   omega
  have hnq := HN3.out q hq
  have c6 : w3.cell? ⟨nb q.f0, 6, none⟩ = some (.int .i64 (kid L q.f0)) := (za hnq 6).trans rfl
  have z6 := zaa hnq 6
  have wl : wrap64 (kid L q.f0 + 1) = kid L q.f0 + 1 := w64s (by omega) (by omega)
  have HQ := Aside0.mk hq
  have hqlt := H.out.lt (.inr (.inr (.inr (.inr ⟨q, hq, rfl⟩))))
  rw [hpo] at f3 s1' ⊢
  clear hq hq1 hnq hk1 hk2
  go_wp2_with fail
  go_ret2
  have ha := H.out.apart HQ.out
  have ha' := HSZ.out
  refine ⟨w1.heap.size, rfl, HSZ.out, by rw [World.size_setCell]; exact HS3.out, H.out.more HG.out (.inr ⟨q, HQ.out, rfl⟩) HSZ.out ?_ (HT3.out.blocks (Below.heap_setCell _ _ _ _ ha.2.1.symm) (Below.heap_setCell _ _ _ _ ha.2.2.1.symm)) (HM3.out.set ha.2.2.2.symm _) ?_ (fun y hy => ?_), HW3.out.set (.inl (.inr (.inr (.inr (.inr ⟨q, HQ.out, rfl⟩))))) _⟩
  ·
   rw [Below.heap_setCell _ _ _ _ ha.1.symm]
   exact HF3.out
  ·
   rw [Below.heap_setCell _ _ _ _ (show w1.heap.size ≠ nb q.f0 by omega)]
   exact HX3.out
  ·
   by_cases e : q.f0 = y.f0
   ·
    obtain rfl := HG.out.2.2.2.2.1.inj HQ.out hy e
    rw [if_pos rfl]
    exact zar (HN3.out q hy) 6 _ rfl
   ·
    rw [if_neg e, Int.add_zero, Below.heap_setCell _ _ _ _ (fun e2 => e (H.out.inj hy HQ.out e2).symm)]
    exact HN3.out y hy
def rootF (room : Nat) (last : Int) (L : List S84) : Int × List S84 × Int × Int := if L.length = room then (last, L, 0, 6) else (last + 1, L ++ [⟨last + 1, -1, 1, 0, 0⟩], last + 1, 0)
noncomputable def addF (room : Nat) (last : Int) (L : List S84) (p wt : Int) : Int × List S84 × Int × Int :=
 match fnd L p with
 | none => (last, L, 0, 4)
 | some g => if wt < 1 ∨ 10000 < wt then (last, L, 0, 13) else if (way L p).length = 8 then (last, L, 0, 7) else if kid L p + g.f3 = 32 ∨ L.length = room then (last, L, 0, 6) else (last + 1, L ++ [⟨last + 1, p, wt, 0, 0⟩], last + 1, 0)
theorem addF_none {room : Nat} {last : Int} {L : List S84} {p wt : Int} (h : fnd L p = none) : addF room last L p wt = (last, L, 0, 4) := by
 unfold addF
 rw [h]
theorem addF_some {room : Nat} {last : Int} {L : List S84} {p wt : Int} {g : S84} (h : fnd L p = some g) : addF room last L p wt = if wt < 1 ∨ 10000 < wt then (last, L, 0, 13) else if (way L p).length = 8 then (last, L, 0, 7) else if kid L p + g.f3 = 32 ∨ L.length = room then (last, L, 0, 6) else (last + 1, L ++ [⟨last + 1, p, wt, 0, 0⟩], last + 1, 0) := by
 unfold addF
 rw [h]
theorem rootF_good {room : Nat} {last : Int} {L : List S84} (hG : GoodF room last L) (h9 : last < 99999) : GoodF room (rootF room last L).1 (rootF room last L).2.1 ∧ last ≤ (rootF room last L).1 ∧ (rootF room last L).1 ≤ last + 1 := by
 unfold rootF
 have := hG.2.1
 split
 ·
  exact ⟨hG, Int.le_refl _, by dsimp only; omega⟩
 ·
  exact ⟨hG.app (by omega) h9 (by omega) (.inl rfl), by dsimp only; omega, Int.le_refl _⟩
theorem addF_good {room : Nat} {last : Int} {L : List S84} (hG : GoodF room last L) (h9 : last < 99999) (p wt : Int) : GoodF room (addF room last L p wt).1 (addF room last L p wt).2.1 ∧ last ≤ (addF room last L p wt).1 ∧ (addF room last L p wt).1 ≤ last + 1 := by
 have hlr := hG.2.1
 cases hf : fnd L p with
 | none =>
  rw [addF_none hf]
  exact ⟨hG, Int.le_refl _, by dsimp only; omega⟩
 | some g =>
  rw [addF_some hf]
  obtain ⟨hg, rfl⟩ := za2 hf
  have hw := (hG.way hg).2
  obtain ⟨g1, g2, g3, g4, g5, g6, g7, g8⟩ := hG.2.2.2.2.2 g hg
  split
  ·
   exact ⟨hG, Int.le_refl _, by dsimp only; omega⟩
  ·
   split
   ·
    exact ⟨hG, Int.le_refl _, by dsimp only; omega⟩
   ·
    split
    ·
     exact ⟨hG, Int.le_refl _, by dsimp only; omega⟩
    ·
     exact ⟨hG.app (by omega) h9 (by omega) (.inr ⟨g, hg, rfl, by omega, by omega⟩), by dsimp only; omega, Int.le_refl _⟩
theorem FS.more {w : World} {fb tb ts m b : Nat} {nb : Int → Nat} {room : Nat} {last : Int} {L : List S84} (hG : GoodF room last L) (hb : w.heap.size ≤ b) {p wt : Int} {k : Nat} (h : FS fb tb ts m (fun i => if i = last + 1 then b else nb i) (L ++ [⟨last + 1, p, wt, 0, 0⟩]) k) : FS fb tb ts m nb L k ∨ w.heap.size ≤ k := by
 rcases h with h | h | h | h | ⟨g, hg, rfl⟩
 ·
  exact .inl (.inl h)
 ·
  exact .inl (.inr (.inl h))
 ·
  exact .inl (.inr (.inr (.inl h)))
 ·
  exact .inl (.inr (.inr (.inr (.inl h))))
 ·
  rcases List.mem_append.1 hg with hg | hg
  ·
   have := (hG.2.2.2.2.2 g hg).2.1
   dsimp only
   rw [if_neg (by omega)]
   exact .inl (.inr (.inr (.inr (.inr ⟨g, hg, rfl⟩))))
  ·
   obtain rfl := List.mem_singleton.1 hg
   dsimp only
   rw [if_pos rfl]
   exact .inr hb
theorem forest_Root_ok {w : World} {fb tb ts m : Nat} {nb : Int → Nat} {n room : Nat} {last : Int} {L : List S84} (h : FAt w fb tb ts m nb n room last L) (hG : GoodF room last L) (hnn : n < 1000000) :
  Calls Try.prog 10 #[.pointer (some ⟨fb, 0, none⟩)] w fun e w' => ∃ nb', e = .returned (.tuple #[.int .i64 (rootF room last L).2.2.1, .int .i64 (rootF room last L).2.2.2]) ∧ FAt w' fb tb ts m nb' (n + 1) room (rootF room last L).1 (rootF room last L).2.1 ∧ Wr (FS fb tb ts m nb L) w w' ∧ ∀ k, FS fb tb ts m nb' (rootF room last L).2.1 k → FS fb tb ts m nb L k ∨ w.heap.size ≤ k := by
 have H := Aside0.mk h
 have HG := Aside0.mk hG
 have hlr := hG.2.1
 clear h hG
 unfold rootF
 by_cases hl : L.length = room
 ·
  rw [if_pos hl]
  go_enter Try.func10, Try.ntmps10
  go_wp2_with fail
  go_at_call 23
  refine (put_full H.out hl _ _).mono ?_
  rintro e w1 ⟨rfl, hb⟩
  have HB := Aside0.mk hb
  clear hb
  go_wp2_with fail
  go_ret2
  exact ⟨nb, rfl, (H.out.keep HB.out).mono (Nat.le_succ _), Wr.of_below HB.out, fun k hk => .inl hk⟩
 ·
  rw [if_neg hl]
  go_enter Try.func10, Try.ntmps10
  go_wp2_with fail
  go_at_call 23
  refine (put_ok H.out HG.out (by omega) hnn (p := -1) 1 (.inl rfl)).mono ?_
  rintro e w1 ⟨b, rfl, hb, _, hF, hW⟩
  have HF := Aside0.mk hF
  have HW := Aside0.mk hW
  clear hF hW
  go_wp2_with fail
  go_ret2
  exact ⟨_, rfl, HF.out, HW.out, fun k hk => FS.more HG.out hb hk⟩
theorem forest_Add_ok {w : World} {fb tb ts m : Nat} {nb : Int → Nat} {n room : Nat} {last : Int} {L : List S84} (h : FAt w fb tb ts m nb n room last L) (hG : GoodF room last L) (hnn : n < 1000000) {p : Int} (wt : Int) (wf : (Lit.int .i64 p).wf = true) :
  Calls Try.prog 11 #[.pointer (some ⟨fb, 0, none⟩), .int .i64 p, .int .i64 wt] w fun e w' => ∃ nb', e = .returned (.tuple #[.int .i64 (addF room last L p wt).2.2.1, .int .i64 (addF room last L p wt).2.2.2]) ∧ FAt w' fb tb ts m nb' (n + 1) room (addF room last L p wt).1 (addF room last L p wt).2.1 ∧ Wr (FS fb tb ts m nb L) w w' ∧ ∀ k, FS fb tb ts m nb' (addF room last L p wt).2.1 k → FS fb tb ts m nb L k ∨ w.heap.size ≤ k := by
 obtain ⟨f0, f1⟩ := h.facts
 obtain ⟨l1, l2⟩ := h.look2 wf
 have H := Aside0.mk h
 have HG := Aside0.mk hG
 have hlr := hG.2.1
 cases hf : fnd L p with
 | none =>
  have l3 := l2 hf
  rw [addF_none hf]
  clear l1 l2 h hG hf
  go_enter Try.func11, Try.ntmps11
  go_wp2_with fail
  go_ret2
  exact ⟨nb, rfl, H.out.mono (Nat.le_succ _), Wr.refl _ _, fun k hk => .inl hk⟩
 | some g =>
  have l3 := l1 g hf
  have hS := addF_some (room := room) (last := last) (wt := wt) hf
  obtain ⟨hg, rfl⟩ := za2 hf
  have HM := Aside0.mk hg
  obtain ⟨g1, g2, g3, _, g5, g6, g7, g8⟩ := hG.2.2.2.2.2 g hg
  have k0 := za9 L g.f0
  have hway := (hG.way hg).2
  clear l1 l2 h hG hf hg
  by_cases hw : 1 ≤ wt ∧ wt ≤ 10000
  ·
   rw [if_neg (by omega)] at hS
   have HS := Aside0.mk hS
   clear hS
   have d1 : decide (1 ≤ wt ∧ wt ≤ 10000) = true := decide_eq_true hw
   go_enter Try.func11, Try.ntmps11
   go_wp2_with fail
   go_at_call 24
   refine (right_ok wt w).mono ?_
   rw [d1]
   rintro e w1 ⟨rfl, rfl⟩
   go_wp2_with fail
   go_at_call 25
   refine (path_node H.out HG.out HM.out).mono ?_
   rintro e w2 ⟨A2, c2, rfl, hb2⟩
   have HB2 := Aside0.mk hb2
   have HN2 := Aside0.mk ((H.out.keep hb2).2.2.2 g HM.out)
   clear hb2
   by_cases hd : (way L g.f0).length = 8
   ·
    have d2 : (((way L g.f0).length : Int) == 8) = true := by simp [hd]
    have HA := Aside0.mk (HS.out.trans (if_pos hd))
    generalize (way L g.f0).length = wl at d2 ⊢
    go_wp2_with fail
    go_ret2
    rw [HA.out]
    exact ⟨nb, rfl, (H.out.keep HB2.out).mono (Nat.le_succ _), Wr.of_below HB2.out, fun k hk => .inl hk⟩
   ·
    have d2 : (((way L g.f0).length : Int) == 8) = false := beq_eq_false_iff_ne.mpr (by omega)
    have HT := Aside0.mk (HS.out.trans (if_neg hd))
    generalize (way L g.f0).length = wl at d2 ⊢
    go_wp2_with fail
    go_at_call 26
    refine (fan_ok HN2.out (by omega)).mono ?_
    rintro e w3 ⟨rfl, hb3⟩
    have HB3 := Aside0.mk (zab HB2.out hb3)
    clear hb3
    by_cases hfan : kid L g.f0 + g.f3 = 32
    ·
     have d3 : (kid L g.f0 + g.f3 == 32) = true := beq_iff_eq.mpr hfan
     have HA := Aside0.mk (HT.out.trans (if_pos (.inl hfan)))
     clear hfan
     go_wp2_with fail
     go_ret2
     rw [HA.out]
     exact ⟨nb, rfl, (H.out.keep HB3.out).mono (Nat.le_succ _), Wr.of_below HB3.out, fun k hk => .inl hk⟩
    ·
     have d3 : (kid L g.f0 + g.f3 == 32) = false := beq_eq_false_iff_ne.mpr hfan
     have hpo : pOf nb g.f0 = .pointer (some ⟨nb g.f0, 0, none⟩) := pOf_pos (by omega)
     by_cases hl : L.length = room
     ·
      have HA := Aside0.mk (HT.out.trans (if_pos (.inr hl)))
      go_wp2_with fail
      go_at_call 23
      refine (put_full (H.out.keep HB3.out) hl _ _).mono ?_
      rintro e w4 ⟨rfl, hb4⟩
      have HB4 := Aside0.mk (zab HB3.out hb4)
      clear hb4
      go_wp2_with fail
      go_ret2
      rw [HA.out]
      exact ⟨nb, rfl, (H.out.keep HB4.out).mono (Nat.le_succ _), Wr.of_below HB4.out, fun k hk => .inl hk⟩
     ·
      have HA := Aside0.mk (HT.out.trans (if_neg (fun hh => hh.elim hfan hl)))
      go_wp2_with fail
      go_at_call 23
      have hput := put_ok (H.out.keep HB3.out) HG.out (by omega) hnn (p := g.f0) wt (.inr ⟨g, HM.out, rfl⟩)
      rw [hpo] at hput
      refine hput.mono ?_
      rintro e w4 ⟨b, rfl, hb, _, hF, hW⟩
      have HF := Aside0.mk hF
      have HW := Aside0.mk ((Wr.of_below (S := FS fb tb ts m nb L) HB3.out).trans hW fun k hk => .inl hk)
      have HBB := Aside0.mk (Nat.le_trans HB3.out.size hb)
      clear hF hW hb hput
      go_wp2_with fail
      go_ret2
      rw [HA.out]
      exact ⟨_, rfl, HF.out, HW.out, fun k hk => FS.more HG.out HBB.out hk⟩
  ·
   rw [if_pos (by omega)] at hS
   have HA := Aside0.mk hS
   clear hS
   have d1 : decide (1 ≤ wt ∧ wt ≤ 10000) = false := decide_eq_false hw
   go_enter Try.func11, Try.ntmps11
   go_wp2_with fail
   go_at_call 24
   refine (right_ok wt w).mono ?_
   rw [d1]
   rintro e w1 ⟨rfl, rfl⟩
   go_wp2_with fail
   go_ret2
   rw [HA.out]
   exact ⟨nb, rfl, H.out.mono (Nat.le_succ _), Wr.refl _ _, fun k hk => .inl hk⟩
def HighP (L : List S84) (t : Int) (seen : S84 → Prop) (r : Int) : Prop :=
 0 ≤ r ∧ r ≤ 9 ∧ (∀ y ∈ L, seen y → t ∈ way L y.f0 → ((way L y.f0).length : Int) - (way L t).length + 1 ≤ r) ∧ (r = 0 ∨ ∃ y ∈ L, t ∈ way L y.f0 ∧ r = ((way L y.f0).length : Int) - (way L t).length + 1)
theorem high_ok {w : World} {fb tb ts m : Nat} {nb : Int → Nat} {n room : Nat} {last : Int} {L : List S84} (h : FAt w fb tb ts m nb n room last L) (hG : GoodF room last L) {t : S84} (ht : t ∈ L) :
  Calls Try.prog 29 #[.pointer (some ⟨fb, 0, none⟩), .pointer (some ⟨nb t.f0, 0, none⟩)] w fun e w' => ∃ r : Int, e = .returned (.int .i64 r) ∧ HighP L t.f0 (fun _ => True) r ∧ Below w.heap.size w w' := by
 obtain ⟨f0, f1⟩ := h.facts
 obtain ⟨w2, cnt, s1, s2, s3, s4⟩ := h.2.2.1.range (t := 60) (e := 64) Try.underlying3 Try.underlying60
 have H := Aside0.mk h
 have HG := Aside0.mk hG
 have HM := Aside0.mk ht
 have S2 := Aside0.mk s2
 have S3 := Aside0.mk s3
 have hwt := (hG.way ht).2
 clear h hG ht s2 s3
 go_enter Try.func29, Try.ntmps29
 go_wp2_with fail
 clear s1 f0 f1
 go_loopg [5] cnt (fun gk v5 w' => ∃ (left : Int → Bool) (r : Int), v5 = .int .i64 r ∧ Aside0 (RangeAt Try.prog 3 mkP w' m w.heap.size n (fun id => (fnd L id).map fun _ => nb id) left gk) ∧ Aside0 (Below w.heap.size w w') ∧ Aside0 (HighP L t.f0 (fun y => left y.f0 = false) r))
 case atStart =>
  refine ⟨_, 0, rfl, S2, S3, ⟨Int.le_refl _, by decide, fun y hy hl => ?_, .inl rfl⟩⟩
  have hl' : ((fnd L y.f0).map fun _ => nb y.f0).isSome = false := hl
  rw [fnd_mem HG.out.2.2.2.2.1 hy] at hl'
  cases hl'
 case round =>
  obtain ⟨left, r, rfl, HR, HB, HP⟩ := hrel
  rcases HR.out.next Try.underlying3 0 with ⟨h0, hl, hrun⟩ | ⟨k, a, w4, cnt', wf, hlk, hg, hrun, hr4, hlt4, hbl, hen, hgr⟩
  ·
   have HL := Aside0.mk hl
   clear hl
   go_wp2_with fail
   go_ret
   exact ⟨r, rfl, ⟨HP.out.1, HP.out.2.1, fun y hy _ => HP.out.2.2.1 y hy (HL.out _), HP.out.2.2.2⟩, HB.out⟩
  ·
   have hrun' : (Instr.next (.pointer (some ⟨w.heap.size, 0, none⟩)) false 0).run Try.prog wr = .ok (.tuple #[.bool true, .int .i64 k, .pointer (some ⟨a, 0, none⟩)]) w4 := hrun
   have hen' : (Instr.entry (.pointer (some ⟨w.heap.size, 0, none⟩))).run Try.prog w4 = .ok (.tuple #[.int .i64 k, .pointer (some ⟨a, 0, none⟩)]) w4 := hen
   obtain ⟨y, hyk, rfl⟩ : ∃ y, fnd L k = some y ∧ a = nb k := by
    cases hf : fnd L k with
    | none => rw [hf] at hg; cases hg
    | some y => rw [hf] at hg; cases hg; exact ⟨y, rfl, rfl⟩
   obtain ⟨hy, rfl⟩ := za2 hyk
   have HB4 := Aside0.mk (HB.out.trans (hbl _ (Nat.le_refl _)))
   have HR4 := Aside0.mk hr4
   have HY := Aside0.mk hy
   have HLK := Aside0.mk hlk
   have hwy := (HG.out.way hy).2
   have hr9 := HP.out.1
   have hr10 := HP.out.2.1
   clear hrun hen hg hbl hr4 hgr hyk hy hlk
   have HST : Aside0 (∀ r', (t.f0 ∈ way L y.f0 → r' = if r < ((way L y.f0).length : Int) - (way L t.f0).length + 1 then ((way L y.f0).length : Int) - (way L t.f0).length + 1 else r) → (t.f0 ∉ way L y.f0 → r' = r) → HighP L t.f0 (fun x => (left x.f0 && !(x.f0 == y.f0)) = false) r') := ⟨fun r' h1 h2 => by
    obtain ⟨p1, p2, p3, p4⟩ := HP.out
    by_cases hm : t.f0 ∈ way L y.f0
    ·
     have e := h1 hm
     refine ⟨?_, ?_, fun x hx hs hmx => ?_, ?_⟩
     ·
      rw [e]; split <;> omega
     ·
      rw [e]; split <;> omega
     ·
      by_cases ex : x.f0 = y.f0
      ·
       rw [ex, e]
       split <;> omega
      ·
       have := p3 x hx (by simpa [ex] using hs) hmx
       rw [e]
       split <;> omega
     ·
      rw [e]
      split
      ·
       exact .inr ⟨y, HY.out, hm, rfl⟩
      ·
       exact p4
    ·
     have e := h2 hm
     rw [e]
     refine ⟨p1, p2, fun x hx hs hmx => ?_, p4⟩
     by_cases ex : x.f0 = y.f0
     ·
      rw [ex] at hmx
      exact absurd hmx hm
     ·
      exact p3 x hx (by simpa [ex] using hs) hmx⟩
   go_wp2_with fail
   go_at_call 28
   refine (below_nodes (H.out.keep HB4.out) HG.out HY.out HM.out).mono ?_
   by_cases hm : t.f0 ∈ way L y.f0
   ·
    rw [decide_eq_true hm]
    rintro e w5 ⟨rfl, hb5⟩
    have HB5 := Aside0.mk (zab HB4.out hb5)
    have HR5 := Aside0.mk (HR4.out.keep hb5)
    have HMM := Aside0.mk hm
    clear hb5 hm
    go_wp2_with fail
    refine (path_node (H.out.keep HB5.out) HG.out HY.out).mono ?_
    rintro e w6 ⟨A6, c6, rfl, hb6⟩
    have HB6 := Aside0.mk (zab HB5.out hb6)
    have HR6 := Aside0.mk (HR5.out.keep hb6)
    clear hb6
    go_wp2_with fail
    refine (path_node (H.out.keep HB6.out) HG.out HM.out).mono ?_
    rintro e w7 ⟨A7, c7, rfl, hb7⟩
    have HB7 := Aside0.mk (zab HB6.out hb7)
    have HR7 := Aside0.mk (HR6.out.keep hb7)
    clear hb7
    generalize hly : (way L y.f0).length = ly at hwy HST
    generalize hlt : (way L t.f0).length = lt at hwt HST
    have wl1 : wrap64 ((ly : Int) - (lt : Int)) = (ly : Int) - (lt : Int) := w64s (by omega) (by omega)
    have wl2 : wrap64 ((ly : Int) - (lt : Int) + 1) = (ly : Int) - (lt : Int) + 1 := w64s (by omega) (by omega)
    go_wp2_with fail
    all_goals
     go_roundg cnt'
     case measure => exact hlt4
     case rel => exact ⟨_, _, rfl, HR7, HB7, ⟨HST.out _ (fun _ => by clear wl1 wl2; split <;> omega) (fun hh => absurd HMM.out hh)⟩⟩
   ·
    rw [decide_eq_false hm]
    rintro e w5 ⟨rfl, hb5⟩
    have HB5 := Aside0.mk (zab HB4.out hb5)
    have HR5 := Aside0.mk (HR4.out.keep hb5)
    have HST2 := Aside0.mk (HST.out r (fun h => absurd h hm) fun _ => rfl)
    clear hb5 hm
    go_wp2_with fail
    go_roundg cnt'
    case measure => exact hlt4
    case rel => exact ⟨_, r, rfl, HR5, HB5, HST2⟩
noncomputable def movF (L : List S84) (id p : Int) : List S84 × Int :=
 open Classical in
 match fnd L id, fnd L p with
 | some g, some q => if g.f1 < 0 then (L, 15) else if rootG L id ≠ rootG L p then (L, 5) else if id ∈ way L p then (L, 12) else
   if ∃ y ∈ L, id ∈ way L y.f0 ∧ 8 < ((way L y.f0).length : Int) - (way L id).length + (way L p).length + 1 then (L, 7) else if g.f1 ≠ p ∧ kid L p + q.f3 = 32 then (L, 6) else (movG L id p, 0)
 | _, _ => (L, 4)
theorem movF_none {L : List S84} {id p : Int} (h : fnd L id = none ∨ fnd L p = none) : movF L id p = (L, 4) := by
 unfold movF
 rcases h with h | h
 ·
  rw [h]
 ·
  rw [h]
  cases fnd L id <;> rfl
theorem movF_some {L : List S84} {id p : Int} {g q : S84} (h : fnd L id = some g) (h2 : fnd L p = some q) : movF L id p = open Classical in if g.f1 < 0 then (L, 15) else if rootG L id ≠ rootG L p then (L, 5) else if id ∈ way L p then (L, 12) else
   if ∃ y ∈ L, id ∈ way L y.f0 ∧ 8 < ((way L y.f0).length : Int) - (way L id).length + (way L p).length + 1 then (L, 7) else if g.f1 ≠ p ∧ kid L p + q.f3 = 32 then (L, 6) else (movG L id p, 0) := by
 unfold movF
 rw [h, h2]
theorem movG_same {L : List S84} (hA : Asc L) {g : S84} (hg : g ∈ L) {p : Int} (h : g.f1 = p) : movG L g.f0 p = L := by
 unfold movG setG
 have : (L.map fun y => if y.f0 = g.f0 then ({ y with f1 := p } : S84) else y) = L.map id := by
  refine List.map_congr_left fun y hy => ?_
  split
  ·
   rename_i e
   obtain rfl := hA.inj hy hg e
   rw [← h]
   rfl
  ·
   rfl
 rw [this, List.map_id]
theorem movF_good {room : Nat} {last : Int} {L : List S84} (hG : GoodF room last L) (id p : Int) : GoodF room last (movF L id p).1 := by
 cases hf : fnd L id with
 | none =>
  rw [movF_none (.inl hf)]
  exact hG
 | some g =>
  cases hq : fnd L p with
  | none =>
   rw [movF_none (.inr hq)]
   exact hG
  | some q =>
   rw [movF_some hf hq]
   obtain ⟨hg, rfl⟩ := za2 hf
   obtain ⟨hq', rfl⟩ := za2 hq
   split
   ·
    exact hG
   ·
    rename_i h0
    split
    ·
     exact hG
    ·
     split
     ·
      exact hG
     ·
      rename_i h2
      split
      ·
       exact hG
      ·
       rename_i h3
       split
       ·
        exact hG
       ·
        rename_i h4
        refine hG.mov hg hq' (by omega) h2 (fun y hy hm => ?_) (fun hne => ?_)
        ·
         rcases Int.lt_or_le 8 (((way L y.f0).length : Int) - (way L g.f0).length + (way L q.f0).length + 1) with h | h
         ·
          exact absurd ⟨y, hy, hm, h⟩ h3
         ·
          exact h
        ·
         have := (hG.2.2.2.2.2 q hq').2.2.2.2.2.2.2
         rcases Int.lt_or_le (kid L q.f0 + q.f3) 32 with h | h
         ·
          exact h
         ·
          exact absurd ⟨hne, by omega⟩ h4
theorem count_any {w w1 : World} {fb tb ts m : Nat} {nb : Int → Nat} {n room : Nat} {last : Int} {L : List S84} (h : FAt w fb tb ts m nb n room last L) (hG : GoodF room last L) {c : List Int} {id : Int} (hc : Ch (prt L) c id) {more : Int}
  (hp : PathAt w1 (c.map nb)) (a1 : S84 → Value) (a2 a3 a4 a5 a6 : S84 → Int) (hm : ∀ y ∈ L, -1000000 < a5 y + more ∧ a5 y + more < 1000000) (hn : ∀ y ∈ L, w1.heap[nb y.f0]? = some (nodeV y.f0 (a1 y) (a2 y) (a3 y) (a4 y) (a5 y) (a6 y))) :
  Calls Try.prog 30 #[pOf nb id, .int .i64 more] w1 fun e w' => e = .returned (.tuple #[]) ∧ (∀ y ∈ L, w'.heap[nb y.f0]? = some (nodeV y.f0 (a1 y) (a2 y) (a3 y) (a4 y) (a5 y + if y.f0 ∈ c then more else 0) (a6 y))) ∧ Wr (fun k => ∃ y ∈ L, k = nb y.f0) w1 w' := by
 have hl : c.length ≤ 1000 := by
  by_cases h0 : id < 0
  ·
   cases c with
   | nil => simp
   | cons x c =>
    obtain ⟨_, h1, _⟩ := hc
    omega
  ·
   obtain ⟨c', rfl⟩ := hc.head (by omega)
   obtain ⟨g, hg, e⟩ := way_mem hc List.mem_cons_self
   have := (hG.way hg).2
   rw [e, way_eq hc] at this
   omega
 rw [← (h.path hG.2.2.2.2.1 hc).2]
 refine (count_ok hp (by rw [List.length_map]; exact hl) (way_nodup h hc) fun b hb => ?_).mono ?_
 ·
  obtain ⟨x, hx, rfl⟩ := List.mem_map.1 hb
  obtain ⟨y, hy, rfl⟩ := way_mem hc hx
  exact ⟨_, _, _, _, _, _, _, hn y hy, hm y hy⟩
 ·
  rintro e w' ⟨rfl, hu, hw⟩
  refine ⟨rfl, fun y hy => ?_, hw.mono fun k hk => ?_⟩
  ·
   by_cases hyc : y.f0 ∈ c
   ·
    rw [if_pos hyc]
    exact hu _ ((mem_way h hc hy).2 hyc) _ _ _ _ _ _ _ (hn y hy)
   ·
    rw [if_neg hyc, Int.add_zero, ← hn y hy]
    exact hw.2 _ (zao (hn y hy)) fun hm => hyc ((mem_way h hc hy).1 hm)
  ·
   obtain ⟨x, hx, rfl⟩ := List.mem_map.1 hk
   obtain ⟨y, hy, rfl⟩ := way_mem hc hx
   exact ⟨y, hy, rfl⟩
theorem nodes_set6 {w w1 : World} {fb tb ts m : Nat} {nb : Int → Nat} {n room : Nat} {last : Int} {L : List S84} (h : FAt w fb tb ts m nb n room last L) {a1 : S84 → Value} {a5 a6 : S84 → Int} (hn : ∀ y ∈ L, w1.heap[nb y.f0]? = some (nodeV y.f0 (a1 y) y.f2 y.f3 y.f4 (a5 y) (a6 y))) {g : S84} (hg : g ∈ L) (v : Int) :
  ∀ y ∈ L, (w1.setCell ⟨nb g.f0, 6, none⟩ (.int .i64 v)).heap[nb y.f0]? = some (nodeV y.f0 (a1 y) y.f2 y.f3 y.f4 (a5 y) (if y.f0 = g.f0 then v else a6 y)) := fun y hy => by
 by_cases e : y.f0 = g.f0
 ·
  rw [if_pos e]
  have := hn y hy
  rw [e] at this ⊢
  exact zar this 6 _ rfl
 ·
  rw [if_neg e, Below.heap_setCell _ _ _ _ (fun e2 => e (h.inj hy hg e2))]
  exact hn y hy
theorem nodes_set1 {w w1 : World} {fb tb ts m : Nat} {nb : Int → Nat} {n room : Nat} {last : Int} {L : List S84} (h : FAt w fb tb ts m nb n room last L) {a1 : S84 → Value} {a5 a6 : S84 → Int} (hn : ∀ y ∈ L, w1.heap[nb y.f0]? = some (nodeV y.f0 (a1 y) y.f2 y.f3 y.f4 (a5 y) (a6 y))) {g : S84} (hg : g ∈ L) (v : Value) :
  ∀ y ∈ L, (w1.setCell ⟨nb g.f0, 1, none⟩ v).heap[nb y.f0]? = some (nodeV y.f0 (if y.f0 = g.f0 then v else a1 y) y.f2 y.f3 y.f4 (a5 y) (a6 y)) := fun y hy => by
 by_cases e : y.f0 = g.f0
 ·
  rw [if_pos e]
  have := hn y hy
  rw [e] at this ⊢
  exact zar this 1 _ rfl
 ·
  rw [if_neg e, Below.heap_setCell _ _ _ _ (fun e2 => e (h.inj hy hg e2))]
  exact hn y hy
theorem path_nodes {w1 : World} {nb : Int → Nat} {L : List S84} {a1 : S84 → Value} {a5 a6 : S84 → Int} (hn : ∀ y ∈ L, w1.heap[nb y.f0]? = some (nodeV y.f0 (a1 y) y.f2 y.f3 y.f4 (a5 y) (a6 y))) : ∀ {c : List Int} {id : Int}, Ch (prt L) c id → (∀ y ∈ L, y.f0 ∈ c → a1 y = pOf nb y.f1) → PathAt w1 (c.map nb) ∧ ptrO (c.map nb).head? = pOf nb id
 | [], id, hc, _ => by
  have h0 : id < 0 := hc
  refine ⟨trivial, ?_⟩
  unfold pOf
  rw [if_pos h0]
  rfl
 | x :: c, id, hc, ha => by
  obtain ⟨rfl, h0, p, hp, h1⟩ := hc
  obtain ⟨g, hg, rfl, rfl⟩ := prt_some hp
  obtain ⟨i1, i2⟩ := path_nodes hn h1 fun y hy hm => ha y hy (List.mem_cons_of_mem _ hm)
  have h4 := hn g hg
  rw [ha g hg List.mem_cons_self] at h4
  refine ⟨⟨⟨.int .i64 g.f0, .int .i64 g.f2, .int .i64 g.f3, .int .i64 g.f4, .int .i64 (a5 g), .int .i64 (a6 g), by rw [i2]; exact h4⟩, i1⟩, ?_⟩
  unfold pOf
  rw [if_neg (by omega)]
  rfl
theorem FAt.moved {w w5 : World} {fb tb ts m : Nat} {nb : Int → Nat} {n room : Nat} {last : Int} {L : List S84} (h : FAt w fb tb ts m nb n room last L) (hG : GoodF room last L) {g q : S84} (hg : g ∈ L) (hq : q ∈ L) (h0 : 0 ≤ g.f1) (hnl : g.f0 ∉ way L q.f0)
  (he : ∀ k, k = fb ∨ k = tb ∨ k = ts ∨ k = m → w5.heap[k]? = w.heap[k]?)
  (hn : ∀ y ∈ L, w5.heap[nb y.f0]? = some (nodeV y.f0 (if y.f0 = g.f0 then pOf nb q.f0 else pOf nb y.f1) y.f2 y.f3 y.f4 (act L y.f0 + (if y.f0 ∈ way L g.f1 then -act L g.f0 else 0) + if y.f0 ∈ way L q.f0 then act L g.f0 else 0) (kid L y.f0 - (if y.f0 = g.f1 then 1 else 0) + if y.f0 = q.f0 then 1 else 0))) :
  FAt w5 fb tb ts m nb n room last (movG L g.f0 q.f0) := by
 refine h.rebuild (fnd_setG_some fun _ => rfl) (setG_ids fun _ => rfl) he fun z hz => ?_
 obtain ⟨y, hy, rfl⟩ := mem_setG hz
 unfold NodeAt
 rw [setG_f0 (h := fun g => { g with f1 := q.f0 }) fun _ => rfl, act_mov hG hg hq h0 hnl, kid_mov hG.2.2.2.2.1 hg, hn y hy]
 have e1 : act L y.f0 + (if y.f0 ∈ way L g.f1 then -act L g.f0 else 0) + (if y.f0 ∈ way L q.f0 then act L g.f0 else 0) = act L y.f0 + (if y.f0 ∈ way L q.f0 then act L g.f0 else 0) - if y.f0 ∈ way L g.f1 then act L g.f0 else 0 := by
  split <;> split <;> omega
 have e2 : kid L y.f0 - (if y.f0 = g.f1 then 1 else 0) + (if y.f0 = q.f0 then 1 else 0) = kid L y.f0 + (if q.f0 = y.f0 then 1 else 0) - if g.f1 = y.f0 then 1 else 0 := by
  by_cases a : y.f0 = g.f1 <;> by_cases b : y.f0 = q.f0 <;> simp [a, b, eq_comm] <;> omega
 rw [e1, e2]
 by_cases e : y.f0 = g.f0
 ·
  rw [if_pos e, if_pos e]
 ·
  rw [if_neg e, if_neg e]
theorem bound_aux {a b : Int} (h1 : 0 ≤ a ∧ a ≤ 2048) (h2 : 0 ≤ b ∧ b ≤ 2048) (c : Prop) [Decidable c] : -1000000 < (a + if c then -b else 0) + b ∧ (a + if c then -b else 0) + b < 1000000 := by
 split <;> omega
theorem forest_Move_ok {w : World} {fb tb ts m : Nat} {nb : Int → Nat} {n room : Nat} {last : Int} {L : List S84} (h : FAt w fb tb ts m nb n room last L) (hG : GoodF room last L) {id p : Int} (wf : (Lit.int .i64 id).wf = true) (wf2 : (Lit.int .i64 p).wf = true) :
  Calls Try.prog 12 #[.pointer (some ⟨fb, 0, none⟩), .int .i64 id, .int .i64 p] w fun e w' => e = .returned (.int .i64 (movF L id p).2) ∧ FAt w' fb tb ts m nb n room last (movF L id p).1 ∧ Wr (FS fb tb ts m nb L) w w' := by
 obtain ⟨f0, f1⟩ := h.facts
 obtain ⟨l1, l2⟩ := h.look2 wf
 obtain ⟨k1, k2⟩ := h.look2 wf2
 have H := Aside0.mk h
 have HG := Aside0.mk hG
 cases hf : fnd L id with
 | none =>
  have l3 := l2 hf
  rw [movF_none (.inl hf)]
  cases ht : fnd L p with
  | none =>
   have k3 := k2 ht
   clear l1 l2 k1 k2 h hG hf ht
   go_enter Try.func12, Try.ntmps12
   go_wp2_with fail
   go_ret
   exact ⟨rfl, H.out, Wr.refl _ _⟩
  | some y =>
   have k3 := k1 _ ht
   clear l1 l2 k1 k2 h hG hf ht
   go_enter Try.func12, Try.ntmps12
   go_wp2_with fail
   go_ret
   exact ⟨rfl, H.out, Wr.refl _ _⟩
 | some g =>
  have l3 := l1 _ hf
  cases ht : fnd L p with
  | none =>
   have k3 := k2 ht
   rw [movF_none (.inr ht)]
   clear l1 l2 k1 k2 h hG hf ht
   go_enter Try.func12, Try.ntmps12
   go_wp2_with fail
   go_ret
   exact ⟨rfl, H.out, Wr.refl _ _⟩
  | some q =>
   have k3 := k1 _ ht
   have HS := Aside0.mk (movF_some hf ht)
   obtain ⟨hg, rfl⟩ := za2 hf
   obtain ⟨hq, rfl⟩ := za2 ht
   have HM := Aside0.mk hg
   have HQ := Aside0.mk hq
   have hn := h.2.2.2 g hg
   have c1 : w.cell? ⟨nb g.f0, 1, none⟩ = some (pOf nb g.f1) := (za hn 1).trans rfl
   clear l1 l2 k1 k2 h hG hf ht hg hq hn
   by_cases h0 : g.f1 < 0
   ·
    have HA := Aside0.mk (HS.out.trans (if_pos h0))
    rw [show pOf nb g.f1 = .pointer none by unfold pOf; rw [if_pos h0]] at c1
    go_enter Try.func12, Try.ntmps12
    go_wp2_with fail
    go_ret
    rw [HA.out]
    exact ⟨rfl, H.out, Wr.refl _ _⟩
   ·
    have HS1 := Aside0.mk (HS.out.trans (if_neg h0))
    rw [show pOf nb g.f1 = .pointer (some ⟨nb g.f1, 0, none⟩) by unfold pOf; rw [if_neg h0]] at c1
    go_enter Try.func12, Try.ntmps12
    go_wp2_with fail
    go_at_call 27
    refine (root_node H.out HG.out HM.out).mono ?_
    rintro e w1 ⟨rfl, hb1⟩
    have HB1 := Aside0.mk hb1
    clear hb1
    go_wp2_with fail
    go_at_call 27
    refine (root_node (H.out.keep HB1.out) HG.out HQ.out).mono ?_
    rintro e w2 ⟨rfl, hb2⟩
    have HB2 := Aside0.mk (zab HB1.out hb2)
    clear hb2
    have hne : (binOp .neq 64 (.pointer (some ⟨nb (rootG L g.f0), 0, none⟩)) (.pointer (some ⟨nb (rootG L q.f0), 0, none⟩))).run Try.prog w2 = .ok (.bool (!decide (rootG L g.f0 = rootG L q.f0))) w2 := by
     obtain ⟨r1, hr1, e1⟩ := (rootG_mem HG.out HM.out).2
     obtain ⟨r2, hr2, e2⟩ := (rootG_mem HG.out HQ.out).2
     have H2 := H.out.keep HB2.out
     rw [← e1, ← e2, ptr_neq (H2.live hr1) (H2.live hr2)]
     congr 3
     exact decide_eq_decide.2 ⟨fun e => H2.inj hr1 hr2 e, fun e => by rw [e]⟩
    by_cases hro : rootG L g.f0 = rootG L q.f0
    ·
     have HS2 := Aside0.mk (HS1.out.trans (if_neg (fun hh => hh hro)))
     rw [decide_eq_true hro] at hne
     clear hro
     have hne' : (binOp .neq 64 (.pointer (some ⟨nb (rootG L g.f0), 0, none⟩)) (.pointer (some ⟨nb (rootG L q.f0), 0, none⟩))).run Try.prog w2 = .ok (.bool false) w2 := hne
     clear hne
     generalize rootG L g.f0 = rg at hne' ⊢
     generalize rootG L q.f0 = rq at hne' ⊢
     go_wp2_with fail
     clear hne'
     go_at_call 28
     refine (below_nodes (H.out.keep HB2.out) HG.out HQ.out HM.out).mono ?_
     by_cases hbe : g.f0 ∈ way L q.f0
     ·
      have HA := Aside0.mk (HS2.out.trans (if_pos hbe))
      rw [decide_eq_true hbe]
      rintro e w3 ⟨rfl, hb3⟩
      have HB3 := Aside0.mk (zab HB2.out hb3)
      clear hb3 hbe
      go_wp2_with fail
      go_ret
      rw [HA.out]
      exact ⟨rfl, H.out.keep HB3.out, Wr.of_below HB3.out⟩
     ·
      have HS3 := Aside0.mk (HS2.out.trans (if_neg hbe))
      rw [decide_eq_false hbe]
      rintro e w3 ⟨rfl, hb3⟩
      have HB3 := Aside0.mk (zab HB2.out hb3)
      have HNL := Aside0.mk hbe
      clear hb3 hbe
      go_wp2_with fail
      go_at_call 25
      refine (path_node (H.out.keep HB3.out) HG.out HQ.out).mono ?_
      rintro e w4 ⟨A4, c4, rfl, hb4⟩
      have HB4 := Aside0.mk (zab HB3.out hb4)
      clear hb4
      have hwq := (HG.out.way HQ.out).2
      generalize hlq : (way L q.f0).length = lq at hwq
      have HLQ := Aside0.mk hlq
      clear hlq
      go_wp2_with fail
      go_at_call 29
      refine (high_ok (H.out.keep HB4.out) HG.out HM.out).mono ?_
      rintro e w5 ⟨r, rfl, hr, hb5⟩
      have HB5 := Aside0.mk (zab HB4.out hb5)
      have hr0 := hr.1
      have hr1 := hr.2.1
      have HR := Aside0.mk hr
      clear hb5 hr
      have wl : wrap64 ((lq : Int) + r) = (lq : Int) + r := w64s (by omega) (by omega)
      by_cases hde : (lq : Int) + r > 8
      ·
       have d1 : decide ((lq : Int) + r > 8) = true := decide_eq_true hde
       have HA := Aside0.mk (HS3.out.trans (if_pos (by
        rcases HR.out.2.2.2 with e | ⟨y, hy, hm, e⟩
        ·
         omega
        ·
         exact ⟨y, hy, hm, by rw [HLQ.out]; omega⟩)))
       go_wp2_with fail
       go_ret
       rw [HA.out]
       exact ⟨rfl, H.out.keep HB5.out, Wr.of_below HB5.out⟩
      ·
       have d1 : decide ((lq : Int) + r > 8) = false := decide_eq_false hde
       have HS4 := Aside0.mk (HS3.out.trans (if_neg (by
        rintro ⟨y, hy, hm, e⟩
        have := HR.out.2.2.1 y hy trivial hm
        rw [HLQ.out] at e
        omega)))
       have hn5 := (H.out.keep HB5.out).2.2.2 g HM.out
       have c1 : w5.cell? ⟨nb g.f0, 1, none⟩ = some (.pointer (some ⟨nb g.f1, 0, none⟩)) := (za hn5 1).trans (by unfold pOf; rw [if_neg (show ¬ g.f1 < 0 by omega)]; rfl)
       have heq : (binOp .eql 64 (.pointer (some ⟨nb g.f1, 0, none⟩)) (.pointer (some ⟨nb q.f0, 0, none⟩))).run Try.prog w5 = .ok (.bool (decide (g.f1 = q.f0))) w5 := by
        obtain ⟨pp, hpp, e1⟩ := par_in HG.out HM.out (by omega)
        have H5 := H.out.keep HB5.out
        rw [← e1, ptr_eql (H5.live hpp) (H5.live HQ.out)]
        congr 2
        exact decide_eq_decide.2 ⟨fun e => H5.inj hpp HQ.out e, fun e => by rw [e]⟩
       clear hn5 hr0 hr1 hwq
       by_cases hsame : g.f1 = q.f0
       ·
        have HA := Aside0.mk (HS4.out.trans ((if_neg (fun hh => hh.1 hsame)).trans (by rw [movG_same HG.out.2.2.2.2.1 HM.out hsame])))
        rw [decide_eq_true hsame] at heq
        clear hsame
        generalize nb g.f1 = ng at c1 heq
        go_wp2_with fail
        go_ret
        rw [HA.out]
        exact ⟨rfl, H.out.keep HB5.out, Wr.of_below HB5.out⟩
       ·
        rw [decide_eq_false hsame] at heq
        have HSM := Aside0.mk hsame
        clear hsame
        go_wp2_with fail
        clear heq
        go_at_call 26
        have hq1 := HG.out.2.2.2.2.2 q HQ.out
        have kq := za9 L q.f0
        obtain ⟨_, _, _, _, _, q6, q7, q8⟩ := hq1
        refine (fan_ok ((H.out.keep HB5.out).2.2.2 q HQ.out) (by omega)).mono ?_
        rintro e w6 ⟨rfl, hb6⟩
        have HB6 := Aside0.mk (zab HB5.out hb6)
        clear hb6
        by_cases hfan : kid L q.f0 + q.f3 = 32
        ·
         have d3 : (kid L q.f0 + q.f3 == 32) = true := beq_iff_eq.mpr hfan
         have HA := Aside0.mk (HS4.out.trans (if_pos ⟨HSM.out, hfan⟩))
         clear hfan
         go_wp2_with fail
         go_ret
         rw [HA.out]
         exact ⟨rfl, H.out.keep HB6.out, Wr.of_below HB6.out⟩
        ·
         have d3 : (kid L q.f0 + q.f3 == 32) = false := beq_eq_false_iff_ne.mpr hfan
         have HA := Aside0.mk (HS4.out.trans (if_neg (fun hh => hfan hh.2)))
         obtain ⟨pp, hpp, e1⟩ := par_in HG.out HM.out (by omega)
         have H6 := H.out.keep HB6.out
         have hn6 := H6.2.2.2 g HM.out
         have c1 : w6.cell? ⟨nb g.f0, 1, none⟩ = some (.pointer (some ⟨nb g.f1, 0, none⟩)) := (za hn6 1).trans (by unfold pOf; rw [if_neg (show ¬ g.f1 < 0 by omega)]; rfl)
         have c5 : w6.cell? ⟨nb g.f0, 5, none⟩ = some (.int .i64 (act L g.f0)) := (za hn6 5).trans rfl
         have hA := act_bounds HG.out g.f0
         have wn : wrap64 (-(act L g.f0)) = -(act L g.f0) := w64s (by omega) (by omega)
         have wn' : IntKind.i64.wrap (-(act L g.f0)) = -(act L g.f0) := by rw [IntKind.wrap_i64]; omega
         have hcp : Ch (prt L) (way L g.f1) g.f1 := by
          rw [← e1]
          exact (HG.out.way hpp).1
         have hgn : g.f0 ∉ way L g.f1 := by
          have hcg := (HG.out.way HM.out).1
          obtain ⟨c2, hc2⟩ := hcg.head (by have := (HG.out.2.2.2.2.2 g HM.out).1; omega)
          have hnd := hcg.nodup
          rw [hc2] at hcg hnd
          obtain ⟨_, _, x, hx, h1⟩ := hcg
          rw [prt_mem HG.out.2.2.2.2.1 HM.out] at hx
          cases hx
          rw [way_eq h1]
          exact (List.nodup_cons.1 hnd).1
         have hC := count_any (w1 := w6.drew) H6 HG.out hcp (more := -act L g.f0) ((H6.path HG.out.2.2.2.2.1 hcp).1.blocks (w' := w6.drew) fun _ _ => rfl) (fun y => pOf nb y.f1) (fun y => y.f2) (fun y => y.f3) (fun y => y.f4) (fun y => act L y.f0) (fun y => kid L y.f0) (fun y hy => by have := act_bounds HG.out y.f0; omega) H6.2.2.2
         rw [pOf_pos (by omega)] at hC
         have HC := Aside0.mk hC
         have HPP := Aside0.mk hpp
         have HE1 := Aside0.mk e1
         have HGN := Aside0.mk hgn
         clear hC hpp e1 hn6 H6 hcp hgn
         have hkp := za9 L g.f1
         have hkp2 := kid_le L g.f1
         have hLl : L.length ≤ 64 := Nat.le_trans HG.out.2.1 HG.out.1
         have wk : wrap64 (kid L g.f1 - 1) = kid L g.f1 - 1 := w64s (by omega) (by omega)
         have wk2 : wrap64 (kid L q.f0 + 1) = kid L q.f0 + 1 := w64s (by omega) (by omega)
         have hne1 : nb q.f0 ≠ nb g.f1 := fun e => HSM.out (by rw [← HE1.out] at e ⊢; exact (H.out.inj HQ.out HPP.out e).symm)
         have hne2 : nb g.f1 ≠ nb q.f0 := fun e => hne1 e.symm
         have HFX : Aside0 (∀ W : World, (∀ y ∈ L, W.heap[nb y.f0]? = some (nodeV y.f0 (pOf nb y.f1) y.f2 y.f3 y.f4 (act L y.f0 + if y.f0 ∈ way L g.f1 then -act L g.f0 else 0) (kid L y.f0))) →
           W.cell? ⟨nb g.f0, 1, none⟩ = some (.pointer (some ⟨nb g.f1, 0, none⟩)) ∧ W.cell? ⟨nb g.f0, 5, none⟩ = some (.int .i64 (act L g.f0)) ∧ W.frozen? ⟨nb g.f0, 1, none⟩ = false ∧ W.cell? ⟨nb g.f1, 6, none⟩ = some (.int .i64 (kid L g.f1)) ∧ W.frozen? ⟨nb g.f1, 6, none⟩ = false ∧ W.cell? ⟨nb q.f0, 6, none⟩ = some (.int .i64 (kid L q.f0)) ∧ W.frozen? ⟨nb q.f0, 6, none⟩ = false) := ⟨fun W hW => by
          have g7 := hW g HM.out
          rw [if_neg HGN.out, Int.add_zero] at g7
          have p7 := hW pp HPP.out
          rw [HE1.out] at p7
          have q7' := hW q HQ.out
          exact ⟨(za g7 1).trans (by unfold pOf; rw [if_neg (show ¬ g.f1 < 0 by omega)]; rfl), (za g7 5).trans rfl, zaa g7 1, (za p7 6).trans rfl, zaa p7 6, (za q7' 6).trans rfl, zaa q7' 6⟩⟩
         go_wp2_with fail
         go_region_held3 (fun W => W.cell? ⟨nb g.f0, 1, none⟩ = some (.pointer (some ⟨nb g.f1, 0, none⟩)) ∧ W.cell? ⟨nb g.f0, 5, none⟩ = some (.int .i64 (act L g.f0))) (first | exact ⟨d10, d5⟩ | exact ⟨c1, c5⟩) (first | (go_at_call 30; refine HC.out.mono ?_; rintro e w7 ⟨rfl, hn7, hw7⟩; obtain ⟨d10, d5, zz1, d6, zz6, d7, zz7⟩ := HFX.out w7 hn7; have HN7 := Aside0.mk hn7; have HW7 := Aside0.mk hw7; clear hn7 hw7))
         obtain ⟨W10, hW10⟩ : ∃ W10, ((w7.setCell ⟨nb g.f1, 6, none⟩ (.int .i64 (kid L g.f1 - 1))).setCell ⟨nb g.f0, 1, none⟩ (.pointer (some ⟨nb q.f0, 0, none⟩))).setCell ⟨nb q.f0, 6, none⟩ (.int .i64 (kid L q.f0 + 1)) = W10 := ⟨_, rfl⟩
         have hn10 : ∀ y ∈ L, W10.heap[nb y.f0]? = some (nodeV y.f0 (if y.f0 = g.f0 then .pointer (some ⟨nb q.f0, 0, none⟩) else pOf nb y.f1) y.f2 y.f3 y.f4 (act L y.f0 + if y.f0 ∈ way L g.f1 then -act L g.f0 else 0) (if y.f0 = q.f0 then kid L q.f0 + 1 else if y.f0 = g.f1 then kid L g.f1 - 1 else kid L y.f0)) := by
          rw [← hW10]
          have s1 := nodes_set6 H.out HN7.out HPP.out (kid L g.f1 - 1)
          rw [HE1.out] at s1
          have s2 := nodes_set1 H.out s1 HM.out (.pointer (some ⟨nb q.f0, 0, none⟩))
          exact nodes_set6 H.out s2 HQ.out (kid L q.f0 + 1)
         have hw10 : Wr (FS fb tb ts m nb L) w W10 := by
          rw [← hW10]
          have h1 : Wr (FS fb tb ts m nb L) w w7 := (Wr.of_below (S := FS fb tb ts m nb L) HB6.out).drew.trans HW7.out fun k hk => .inl (.inr (.inr (.inr (.inr hk))))
          exact ((h1.set (.inl (.inr (.inr (.inr (.inr ⟨pp, HPP.out, by rw [HE1.out]⟩))))) _).set (.inl (.inr (.inr (.inr (.inr ⟨g, HM.out, rfl⟩))))) _).set (.inl (.inr (.inr (.inr (.inr ⟨q, HQ.out, rfl⟩))))) _
         have he10 : ∀ k, k = fb ∨ k = tb ∨ k = ts ∨ k = m → W10.heap[k]? = w.heap[k]? := fun k hk => by
          have hk' : FS fb tb ts m nb L k := by rcases hk with hk | hk | hk | hk; exact .inl hk; exact .inr (.inl hk); exact .inr (.inr (.inl hk)); exact .inr (.inr (.inr (.inl hk)))
          have hno : ∀ y ∈ L, k ≠ nb y.f0 := fun y hy e => by
           obtain ⟨a1, a2, a3, a4⟩ := H.out.apart hy
           rw [← e] at a1 a2 a3 a4
           rcases hk with hk | hk | hk | hk
           ·
            exact a1 hk
           ·
            exact a2 hk
           ·
            exact a3 hk
           ·
            exact a4 hk
          have h6 := HB6.out.block k (H.out.lt hk')
          rw [← hW10, Below.heap_setCell _ _ _ _ (hno q HQ.out), Below.heap_setCell _ _ _ _ (hno g HM.out), Below.heap_setCell _ _ _ _ (by rw [← HE1.out]; exact hno pp HPP.out), ← h6]
          exact HW7.out.2 k (Nat.lt_of_lt_of_le (H.out.lt hk') HB6.out.size) (fun ⟨y, hy, e⟩ => hno y hy e)
         have hcq := (HG.out.way HQ.out).1
         have hp10 := path_nodes hn10 hcq (fun y hy hm => by
          rw [if_neg]
          intro e
          rw [e] at hm
          exact HNL.out hm)
         have hC2 := count_any (w1 := W10) H.out HG.out hcq (more := act L g.f0) hp10.1 (fun y => if y.f0 = g.f0 then .pointer (some ⟨nb q.f0, 0, none⟩) else pOf nb y.f1) (fun y => y.f2) (fun y => y.f3) (fun y => y.f4) (fun y => act L y.f0 + if y.f0 ∈ way L g.f1 then -act L g.f0 else 0) (fun y => if y.f0 = q.f0 then kid L q.f0 + 1 else if y.f0 = g.f1 then kid L g.f1 - 1 else kid L y.f0) (fun y hy => bound_aux (act_bounds HG.out y.f0) (act_bounds HG.out g.f0) _) hn10
         rw [pOf_pos (by have := (HG.out.2.2.2.2.2 q HQ.out).1; omega)] at hC2
         have e10 := hn10 g HM.out
         rw [if_neg HGN.out, Int.add_zero] at e10
         have e5 : W10.cell? ⟨nb g.f0, 5, none⟩ = some (.int .i64 (act L g.f0)) := (za e10 5).trans rfl
         clear e10
         have HC2 := Aside0.mk hC2
         have HW10 := Aside0.mk hw10
         have HE10 := Aside0.mk he10
         clear hC2 hw10 he10 hn10 hcq hp10
         go_wp2_with fail
         try rw [hW10]
         refine HC2.out.mono ?_
         rintro e w11 ⟨rfl, hn11, hw11⟩
         have HN11 := Aside0.mk hn11
         have HW11 := Aside0.mk hw11
         clear hn11 hw11
         go_wp2_with fail
         go_ret
         rw [HA.out]
         refine ⟨rfl, H.out.moved HG.out HM.out HQ.out (by omega) HNL.out (fun k hk => ?_) (fun y hy => ?_), HW10.out.trans HW11.out fun k hk => .inl (.inr (.inr (.inr (.inr hk))))⟩
         ·
          have hk' : FS fb tb ts m nb L k := by rcases hk with hk | hk | hk | hk; exact .inl hk; exact .inr (.inl hk); exact .inr (.inr (.inl hk)); exact .inr (.inr (.inr (.inl hk)))
          rw [← HE10.out k hk]
          exact HW11.out.2 k (Nat.lt_of_lt_of_le (H.out.lt hk') HW10.out.size) (fun ⟨y, hy, e⟩ => by
           obtain ⟨a1, a2, a3, a4⟩ := H.out.apart hy
           rw [← e] at a1 a2 a3 a4
           rcases hk with hk | hk | hk | hk
           ·
            exact a1 hk
           ·
            exact a2 hk
           ·
            exact a3 hk
           ·
            exact a4 hk)
         ·
          have h1 := HN11.out y hy
          rw [h1]
          have ep : pOf nb q.f0 = .pointer (some ⟨nb q.f0, 0, none⟩) := pOf_pos (by have := (HG.out.2.2.2.2.2 q HQ.out).1; omega)
          have ek : (if y.f0 = q.f0 then kid L q.f0 + 1 else if y.f0 = g.f1 then kid L g.f1 - 1 else kid L y.f0) = kid L y.f0 - (if y.f0 = g.f1 then 1 else 0) + if y.f0 = q.f0 then 1 else 0 := by
           by_cases e2 : y.f0 = q.f0
           ·
            rw [if_pos e2, if_pos e2, if_neg (fun e3 => HSM.out (by rw [← e3, e2])), e2]
            omega
           ·
            rw [if_neg e2, if_neg e2]
            by_cases e3 : y.f0 = g.f1
            ·
             rw [if_pos e3, if_pos e3, e3]
             omega
            ·
             rw [if_neg e3, if_neg e3]
             omega
          rw [ek, ep]
    ·
     have HA := Aside0.mk (HS1.out.trans (if_pos hro))
     rw [decide_eq_false hro] at hne
     clear hro
     have hne' : (binOp .neq 64 (.pointer (some ⟨nb (rootG L g.f0), 0, none⟩)) (.pointer (some ⟨nb (rootG L q.f0), 0, none⟩))).run Try.prog w2 = .ok (.bool true) w2 := hne
     clear hne
     generalize rootG L g.f0 = rg at hne' ⊢
     generalize rootG L q.f0 = rq at hne' ⊢
     go_wp2_with fail
     go_ret
     rw [HA.out]
     exact ⟨rfl, H.out.keep HB2.out, Wr.of_below HB2.out⟩
theorem info3t : (Try.prog.info? 3).map (fun i => (i.zero, i.size, i.bytes)) = some (some (.int .i64 0), 1, 8) := by kernel_rfl
def kidsF (L : List S84) (g : Int) : List Int := (L.filter fun y => decide (0 ≤ y.f1) && y.f1 == g).map (·.f0)
theorem kidsF_rise {L : List S84} (hA : Asc L) (g : Int) : (kidsF L g).Pairwise (· < ·) := List.pairwise_map.2 ((hA.filter _).imp fun {a b} h => h)
theorem kidsF_mem {L : List S84} {g k : Int} : k ∈ kidsF L g ↔ ∃ y ∈ L, y.f0 = k ∧ 0 ≤ y.f1 ∧ y.f1 = g := by
 unfold kidsF
 rw [List.mem_map]
 constructor
 ·
  rintro ⟨y, hy, rfl⟩
  obtain ⟨h1, h2⟩ := List.mem_filter.1 hy
  simp at h2
  exact ⟨y, h1, rfl, h2.1, h2.2⟩
 ·
  rintro ⟨y, h1, rfl, h2, h3⟩
  exact ⟨y, List.mem_filter.2 ⟨h1, by simp [h3 ▸ h2, h3]⟩, rfl⟩
theorem children_ok {w : World} {fb tb ts m : Nat} {nb : Int → Nat} {n room : Nat} {last : Int} {L : List S84} (h : FAt w fb tb ts m nb n room last L) (hG : GoodF room last L) (hnn : n < 1000000) (g : Int) :
  Calls Try.prog 16 #[.pointer (some ⟨fb, 0, none⟩), .int .i64 g] w fun e w' => ∃ v, e = .returned v ∧ IntsAt w' v (kidsF L g) ∧ Below w.heap.size w w' := by
 obtain ⟨f0, f1⟩ := h.facts
 obtain ⟨w2, cnt, s1, s2, s3, s4⟩ := h.2.2.1.range (t := 60) (e := 64) Try.underlying3 Try.underlying60
 have hml := h.lt (.inr (.inr (.inr (.inl rfl))))
 have H := Aside0.mk h
 have HG := Aside0.mk hG
 have S2 := Aside0.mk s2
 have S3 := Aside0.mk s3
 clear h hG s2 s3
 go_enter Try.func16, Try.ntmps16
 go_wp2_with fail
 clear s1 f0 f1
 go_loopg [5] cnt (fun gk v5 w' => ∃ (left : Int → Bool) (l1 : List Int), Aside0 (Kd.R (Kd.int .i64) 3 w' w.heap.size (fun k => w.heap.size ≤ k) v5 l1) ∧ Aside0 (RangeAt Try.prog 3 mkP w' m w.heap.size n (fun id => (fnd L id).map fun _ => nb id) left gk) ∧ Aside0 (Below w.heap.size w w') ∧ Aside0 (l1.Nodup ∧ ∀ k, k ∈ l1 ↔ left k = false ∧ ∃ y ∈ L, y.f0 = k ∧ 0 ≤ y.f1 ∧ y.f1 = g) ∧ l1.length + gk ≤ cnt)
 case atStart =>
  refine ⟨_, [], ⟨Kd.R_nil _ _ _ _ _⟩, S2, S3, ⟨List.nodup_nil, fun k => ⟨fun h => (by cases h), fun h => ?_⟩⟩, by simp⟩
  obtain ⟨h1, y, hy, rfl, _⟩ := h
  have h1' : ((fnd L y.f0).map fun _ => nb y.f0).isSome = false := h1
  rw [fnd_mem HG.out.2.2.2.2.1 hy] at h1'
  cases h1'
 case round =>
  obtain ⟨left, l1, HO, HR, HB, HL, hl1⟩ := hrel
  rcases HR.out.next Try.underlying3 0 with ⟨h0, hl, hrun⟩ | ⟨k, a, w4, cnt', wf, hlk, hg, hrun, hr4, hlt4, hbl, hen, hgr⟩
  ·
   have hp : l1.Perm (kidsF L g) := by
    refine (List.perm_ext_iff_of_nodup HL.out.1 ((kidsF_rise HG.out.2.2.2.2.1 g).imp fun {a b} h => Int.ne_of_lt h)).2 fun k => ?_
    rw [HL.out.2 k, hl k, kidsF_mem]
    simp
   have HPM := Aside0.mk hp
   clear hl hp
   go_wp2_with fail
   go_at_call 31
   refine (Sort_own HO.out (by omega)).mono ?_
   rw [sort_perm HPM.out (kidsF_rise HG.out.2.2.2.2.1 g)]
   rintro e w5 ⟨rfl, hi5, hb5⟩
   have HI := Aside0.mk hi5
   have HB5 := Aside0.mk (HB.out.trans hb5)
   clear hi5 hb5
   go_wp2_with fail
   go_ret
   exact ⟨_, rfl, HI.out, HB5.out⟩
  ·
   have hrun' : (Instr.next (.pointer (some ⟨w.heap.size, 0, none⟩)) false 0).run Try.prog wr = .ok (.tuple #[.bool true, .int .i64 k, .pointer (some ⟨a, 0, none⟩)]) w4 := hrun
   have hen' : (Instr.entry (.pointer (some ⟨w.heap.size, 0, none⟩))).run Try.prog w4 = .ok (.tuple #[.int .i64 k, .pointer (some ⟨a, 0, none⟩)]) w4 := hen
   obtain ⟨y, hyk, rfl⟩ : ∃ y, fnd L k = some y ∧ a = nb k := by
    cases hf : fnd L k with
    | none => rw [hf] at hg; cases hg
    | some y => rw [hf] at hg; cases hg; exact ⟨y, rfl, rfl⟩
   obtain ⟨hy, rfl⟩ := za2 hyk
   have hb4 := HB.out.trans (hbl _ (Nat.le_refl _))
   have HB4 := Aside0.mk hb4
   have HR4 := Aside0.mk hr4
   have HY := Aside0.mk hy
   have HLK := Aside0.mk hlk
   have hO4 : Kd.R (Kd.int .i64) 3 w4 w.heap.size (fun k => w.heap.size ≤ k) u5 l1 := by
    have hne := iter_ne HR.out HO.out
    have h1 := Kd.R_flat (ok' := fun k => w.heap.size ≤ k ∧ k ≠ w.heap.size) (fun h => h) HO.out (fun k hk hok => ⟨hok, fun e => hne (by rw [← e]; exact hk.symm)⟩)
    exact Kd.zbf (Kd.R_grown h1 hgr (fun k hk e => hk.2 (by cases e; rfl))) (fun k hk => hk.1)
   have HO4 := Aside0.mk hO4
   have hsz4 := hb4.size
   have hn4 := (H.out.keep hb4).2.2.2 y hy
   have c1 : w4.cell? ⟨nb y.f0, 1, none⟩ = some (pOf nb y.f1) := (za hn4 1).trans rfl
   have hpin : 0 ≤ y.f1 → w4.cell? ⟨nb y.f1, 0, none⟩ = some (.int .i64 y.f1) := fun h0 => by
    obtain ⟨pp, hpp, e⟩ := par_in HG.out hy h0
    have := (H.out.keep hb4).2.2.2 pp hpp
    rw [NodeAt, e] at this
    exact (za this 0).trans rfl
   clear hrun hen hg hbl hr4 hgr hyk hy hlk hO4 hb4 hn4
   have HNO : Aside0 (¬ (0 ≤ y.f1 ∧ y.f1 = g) → ∀ k, k ∈ l1 ↔ (left k && !(k == y.f0)) = false ∧ ∃ y ∈ L, y.f0 = k ∧ 0 ≤ y.f1 ∧ y.f1 = g) := ⟨fun hno k => by
    rw [HL.out.2 k]
    by_cases e : k = y.f0
    ·
     subst e
     constructor
     ·
      rintro ⟨h, _⟩
      rw [HLK.out] at h
      cases h
     ·
      rintro ⟨_, z, hz, e1, h1, h2⟩
      obtain rfl := HG.out.2.2.2.2.1.inj hz HY.out e1
      exact absurd ⟨h1, h2⟩ hno
    ·
     simp [e]⟩
   by_cases h0 : y.f1 < 0
   ·
    rw [show pOf nb y.f1 = .pointer none by unfold pOf; rw [if_pos h0]] at c1
    have HNO2 := Aside0.mk (HNO.out (by omega))
    go_wp2_with fail
    go_roundg cnt'
    case measure => exact hlt4
    case rel => exact ⟨_, l1, HO4, HR4, HB4, ⟨HL.out.1, HNO2.out⟩, by omega⟩
   ·
    rw [show pOf nb y.f1 = .pointer (some ⟨nb y.f1, 0, none⟩) by unfold pOf; rw [if_neg h0]] at c1
    have c0 := hpin (by omega)
    clear hpin
    by_cases hyg : y.f1 = g
    ·
     have d1 : (y.f1 == g) = true := beq_iff_eq.mpr hyg
     have HYG := Aside0.mk hyg
     have hll : (l1.length + 1) * 8 ≤ 140737488355328 := by omega
     have HLL := Aside0.mk hll
     have hown := HO4.out.1
     have HOWN := Aside0.mk hown
     clear hyg hll hown
     go_wp2_with (first | ((with_reducible refine gate_builtin (b := .append) (xs := #[.tmp 34, .tmp 36]) rfl ?_); at_builtin; refine Kd.R_append (Kd.int .i64) (w0 := w) w.heap.size rfl (.tmp 34) (.tmp 36) 38 3 (.int .i64 0) 8 rfl Try.underlying38 info3t rfl (by decide) (by omega) u5 l1 y.f0 [.int .i64 y.f0] (fun k_ => w.heap.size ≤ k_) (fun _ => False) rfl (by first | rfl | simp [Act.eval]) rfl (fun _ hk => hk.elim) (fun k_ hk => Nat.le_trans hsz4 hk) HO4.out HB4.out hsz4 HLL.out ?_; intro v9 w9 ho9 hb9 hg9 hat9; have HO9 := Aside0.mk ho9; have HB9 := Aside0.mk hb9; have HG9 := Aside0.mk hg9; clear ho9 hb9 hg9 hat9))
     go_roundg cnt'
     case measure => exact hlt4
     case rel =>
      refine ⟨_, l1 ++ [y.f0], HO9, ⟨HR4.out.grown HG9.out (fun e => by have := HOWN.out m e.symm; omega) (iter_ne HR4.out HO4.out)⟩, HB9, ⟨?_, fun k => ?_⟩, by rw [List.length_append, List.length_singleton]; omega⟩
      ·
       refine List.nodup_append.2 ⟨HL.out.1, by simp, fun x hx z hz => ?_⟩
       simp only [List.mem_singleton] at hz
       subst hz
       intro e
       subst e
       have := ((HL.out.2 y.f0).1 hx).1
       rw [HLK.out] at this
       cases this
      ·
       rw [List.mem_append, HL.out.2 k, List.mem_singleton]
       by_cases e : k = y.f0
       ·
        subst e
        constructor
        ·
         intro _
         exact ⟨by simp, y, HY.out, rfl, by omega, HYG.out⟩
        ·
         intro _
         exact .inr rfl
       ·
        simp [e]
    ·
     have d1 : (y.f1 == g) = false := beq_eq_false_iff_ne.mpr hyg
     have HNO2 := Aside0.mk (HNO.out (fun hh => hyg hh.2))
     clear hyg
     go_wp2_with fail
     go_roundg cnt'
     case measure => exact hlt4
     case rel => exact ⟨_, l1, HO4, HR4, HB4, ⟨HL.out.1, HNO2.out⟩, by omega⟩
def ForB (B : Nat) (w : World) (fb n room : Nat) (last : Int) (L : List S84) : Prop := ∃ tb ts m nb, FAt w fb tb ts m nb n room last L ∧ (∀ k, FS fb tb ts m nb L k → B ≤ k) ∧ B ≤ w.heap.size
section
variable {B : Nat} {w w' : World} {fb n room : Nat} {last : Int} {L : List S84}
theorem ForB.keep (h : ForB B w fb n room last L) (hb : Below w.heap.size w w') : ForB B w' fb n room last L := by
 obtain ⟨tb, ts, m, nb, h1, h2, h3⟩ := h
 exact ⟨tb, ts, m, nb, h1.keep hb, h2, Nat.le_trans h3 hb.size⟩
theorem ForB.up {n' : Nat} (h : ForB B w fb n room last L) (hn : n ≤ n') : ForB B w fb n' room last L := by
 obtain ⟨tb, ts, m, nb, h1, h2, h3⟩ := h
 exact ⟨tb, ts, m, nb, h1.mono hn, h2, h3⟩
theorem forB_New (m : Nat) (h1 : 1 ≤ m) (h2 : m ≤ 64) (w : World) :
  Calls Try.prog 9 #[.int .i64 (m : Int)] w fun e w' => ∃ fb, e = .returned (.tuple #[.pointer (some ⟨fb, 0, none⟩), .int .i64 0]) ∧ ForB w.heap.size w' fb 0 m 0 [] ∧ Below w.heap.size w w' := by
 refine (forest_New_ok m h1 h2 w).mono ?_
 rintro e w' ⟨fb, tb, ts, mb, rfl, b1, b2, b3, b4, hF, hb⟩
 refine ⟨fb, rfl, ⟨tb, ts, mb, _, hF, fun k hk => ?_, hb.size⟩, hb⟩
 rcases hk with rfl | rfl | rfl | rfl | ⟨g, hg, _⟩
 ·
  exact b1
 ·
  exact b2
 ·
  exact b3
 ·
  exact b4
 ·
  cases hg
theorem forB_Root (h : ForB B w fb n room last L) (hG : GoodF room last L) (hnn : n < 1000000) :
  Calls Try.prog 10 #[.pointer (some ⟨fb, 0, none⟩)] w fun e w' => e = .returned (.tuple #[.int .i64 (rootF room last L).2.2.1, .int .i64 (rootF room last L).2.2.2]) ∧ ForB B w' fb (n + 1) room (rootF room last L).1 (rootF room last L).2.1 ∧ Below B w w' := by
 obtain ⟨tb, ts, m, nb, h1, h2, h3⟩ := h
 refine (forest_Root_ok h1 hG hnn).mono ?_
 rintro e w' ⟨nb', rfl, hF, hW, hS⟩
 exact ⟨rfl, ⟨tb, ts, m, nb', hF, fun k hk => (hS k hk).elim (h2 k) fun h => Nat.le_trans h3 h, Nat.le_trans h3 hW.size⟩, hW.below h3 h2⟩
theorem forB_Add (h : ForB B w fb n room last L) (hG : GoodF room last L) (hnn : n < 1000000) {p : Int} (wt : Int) (wf : (Lit.int .i64 p).wf = true) :
  Calls Try.prog 11 #[.pointer (some ⟨fb, 0, none⟩), .int .i64 p, .int .i64 wt] w fun e w' => e = .returned (.tuple #[.int .i64 (addF room last L p wt).2.2.1, .int .i64 (addF room last L p wt).2.2.2]) ∧ ForB B w' fb (n + 1) room (addF room last L p wt).1 (addF room last L p wt).2.1 ∧ Below B w w' := by
 obtain ⟨tb, ts, m, nb, h1, h2, h3⟩ := h
 refine (forest_Add_ok h1 hG hnn wt wf).mono ?_
 rintro e w' ⟨nb', rfl, hF, hW, hS⟩
 exact ⟨rfl, ⟨tb, ts, m, nb', hF, fun k hk => (hS k hk).elim (h2 k) fun h => Nat.le_trans h3 h, Nat.le_trans h3 hW.size⟩, hW.below h3 h2⟩
theorem FS.same {fb tb ts m : Nat} {nb : Int → Nat} {L L' : List S84} (h : L'.map (·.f0) = L.map (·.f0)) {k : Nat} (hk : FS fb tb ts m nb L' k) : FS fb tb ts m nb L k := by
 rcases hk with hk | hk | hk | hk | ⟨g, hg, rfl⟩
 ·
  exact .inl hk
 ·
  exact .inr (.inl hk)
 ·
  exact .inr (.inr (.inl hk))
 ·
  exact .inr (.inr (.inr (.inl hk)))
 ·
  have h1 : g.f0 ∈ L.map (·.f0) := by
   rw [← h]
   exact List.mem_map.2 ⟨g, hg, rfl⟩
  obtain ⟨y, hy, e⟩ := List.mem_map.1 h1
  exact .inr (.inr (.inr (.inr ⟨y, hy, by rw [e]⟩)))
theorem cntF_ids (L : List S84) (id dm da : Int) : (cntF L id dm da).1.map (·.f0) = L.map (·.f0) := by
 unfold cntF
 cases fnd L id with
 | none => rfl
 | some g =>
  dsimp only
  split
  ·
   rfl
  ·
   split
   ·
    rfl
   ·
    exact setG_ids fun _ => rfl
theorem wgtF_ids (L : List S84) (id wt : Int) : (wgtF L id wt).1.map (·.f0) = L.map (·.f0) := by
 unfold wgtF
 cases fnd L id with
 | none => rfl
 | some g =>
  dsimp only
  split
  ·
   rfl
  ·
   split
   ·
    rfl
   ·
    exact setG_ids fun _ => rfl
theorem movF_ids (L : List S84) (id p : Int) : (movF L id p).1.map (·.f0) = L.map (·.f0) := by
 cases hf : fnd L id with
 | none => rw [movF_none (.inl hf)]
 | some g =>
  cases hq : fnd L p with
  | none => rw [movF_none (.inr hq)]
  | some q =>
   rw [movF_some hf hq]
   split
   ·
    rfl
   ·
    split
    ·
     rfl
    ·
     split
     ·
      rfl
     ·
      split
      ·
       rfl
      ·
       split
       ·
        rfl
       ·
        exact setG_ids fun _ => rfl
theorem ForB.same {tb ts m : Nat} {nb : Int → Nat} {L' : List S84} (h2 : ∀ k, FS fb tb ts m nb L k → B ≤ k) (h3 : B ≤ w.heap.size) (hid : L'.map (·.f0) = L.map (·.f0)) (hF : FAt w' fb tb ts m nb n room last L') (hW : Wr (FS fb tb ts m nb L) w w') : ForB B w' fb n room last L' ∧ Below B w w' :=
 ⟨⟨tb, ts, m, nb, hF, fun k hk => h2 k (hk.same hid), Nat.le_trans h3 hW.size⟩, hW.below h3 h2⟩
theorem forB_Move (h : ForB B w fb n room last L) (hG : GoodF room last L) {id p : Int} (wf : (Lit.int .i64 id).wf = true) (wf2 : (Lit.int .i64 p).wf = true) :
  Calls Try.prog 12 #[.pointer (some ⟨fb, 0, none⟩), .int .i64 id, .int .i64 p] w fun e w' => e = .returned (.int .i64 (movF L id p).2) ∧ ForB B w' fb n room last (movF L id p).1 ∧ Below B w w' := by
 obtain ⟨tb, ts, m, nb, h1, h2, h3⟩ := h
 refine (forest_Move_ok h1 hG wf wf2).mono ?_
 rintro e w' ⟨rfl, hF, hW⟩
 exact ⟨rfl, ForB.same h2 h3 (movF_ids _ _ _) hF hW⟩
theorem forB_Group (h : ForB B w fb n room last L) (hG : GoodF room last L) {id : Int} (wf : (Lit.int .i64 id).wf = true) :
  Calls Try.prog 13 #[.pointer (some ⟨fb, 0, none⟩), .int .i64 id] w fun e w' => e = .returned (.tuple #[grpV L id, .int .i64 (grpE L id)]) ∧ Below w.heap.size w w' := by
 obtain ⟨tb, ts, m, nb, h1, h2, h3⟩ := h
 exact group_ok h1 hG wf
theorem forB_Below (h : ForB B w fb n room last L) (hG : GoodF room last L) {g t : Int} (wf : (Lit.int .i64 g).wf = true) (wf2 : (Lit.int .i64 t).wf = true) :
  Calls Try.prog 14 #[.pointer (some ⟨fb, 0, none⟩), .int .i64 g, .int .i64 t] w fun e w' => e = .returned (.bool ((fnd L g).isSome && (fnd L t).isSome && decide (t ∈ way L g))) ∧ Below w.heap.size w w' := by
 obtain ⟨tb, ts, m, nb, h1, h2, h3⟩ := h
 exact forest_Below_ok h1 hG wf wf2
theorem forB_Children (h : ForB B w fb n room last L) (hG : GoodF room last L) (hnn : n < 1000000) (g : Int) :
  Calls Try.prog 16 #[.pointer (some ⟨fb, 0, none⟩), .int .i64 g] w fun e w' => ∃ v, e = .returned v ∧ IntsAt w' v (kidsF L g) ∧ Below w.heap.size w w' := by
 obtain ⟨tb, ts, m, nb, h1, h2, h3⟩ := h
 exact children_ok h1 hG hnn g
theorem forB_Active (h : ForB B w fb n room last L) (hG : GoodF room last L) {id : Int} (wf : (Lit.int .i64 id).wf = true) :
  Calls Try.prog 21 #[.pointer (some ⟨fb, 0, none⟩), .int .i64 id] w fun e w' => e = .returned (.int .i64 (if (fnd L id).isSome then act L id else 0)) ∧ Below w.heap.size w w' := by
 obtain ⟨tb, ts, m, nb, h1, h2, h3⟩ := h
 exact active_ok h1 hG wf
end
theorem good_nil (room : Nat) (h : room ≤ 64) : GoodF room 0 [] := ⟨h, Nat.zero_le _, Int.le_refl _, by decide, List.Pairwise.nil, fun g hg => by cases hg⟩
theorem awake08_ok (w : World) : Calls Try.prog 8 #[] w fun e w' => e = .returned (.bool true) ∧ Below w.heap.size w w' := by
 have hG1 : GoodF 5 1 [⟨1, -1, 1, 0, 0⟩] := (good_nil 5 (by decide)).app (by decide) (by decide) (by decide) (.inl rfl)
 have w1 : way [⟨1, -1, 1, 0, 0⟩] 1 = [1] := way_eq ⟨rfl, by decide, -1, rfl, (show (-1 : Int) < 0 by decide)⟩
 have hG2 : GoodF 5 2 [⟨1, -1, 1, 0, 0⟩, ⟨2, 1, 5, 0, 0⟩] := hG1.app (p := 1) (wt := 5) (by decide) (by decide) (by decide) (.inr ⟨⟨1, -1, 1, 0, 0⟩, by simp, rfl, by rw [w1]; decide, by decide⟩)
 have w2 : way [⟨1, -1, 1, 0, 0⟩, ⟨2, 1, 5, 0, 0⟩] 2 = [2, 1] := way_eq ⟨rfl, by decide, 1, rfl, rfl, by decide, -1, rfl, (show (-1 : Int) < 0 by decide)⟩
 have hG3 : GoodF 5 3 [⟨1, -1, 1, 0, 0⟩, ⟨2, 1, 5, 0, 0⟩, ⟨3, 2, 7, 0, 0⟩] := hG2.app (p := 2) (wt := 7) (by decide) (by decide) (by decide) (.inr ⟨⟨2, 1, 5, 0, 0⟩, by simp, rfl, by rw [w2]; decide, by decide⟩)
 have v2 : way [⟨1, -1, 1, 0, 0⟩, ⟨2, 1, 5, 0, 0⟩, ⟨3, 2, 7, 0, 0⟩] 2 = [2, 1] := way_eq ⟨rfl, by decide, 1, rfl, rfl, by decide, -1, rfl, (show (-1 : Int) < 0 by decide)⟩
 have v3 : way [⟨1, -1, 1, 0, 0⟩, ⟨2, 1, 5, 0, 0⟩, ⟨3, 2, 7, 0, 0⟩] 3 = [3, 2, 1] := way_eq ⟨rfl, by decide, 2, rfl, rfl, by decide, 1, rfl, rfl, by decide, -1, rfl, (show (-1 : Int) < 0 by decide)⟩
 have r0 : rootF 5 0 [] = (1, [⟨1, -1, 1, 0, 0⟩], 1, 0) := by rfl
 have r1 : addF 5 1 [⟨1, -1, 1, 0, 0⟩] 1 5 = (2, [⟨1, -1, 1, 0, 0⟩, ⟨2, 1, 5, 0, 0⟩], 2, 0) := by
  rw [addF_some (g := ⟨1, -1, 1, 0, 0⟩) rfl, if_neg (by decide), w1, if_neg (by decide), if_neg (by decide)]
  rfl
 have r2 : addF 5 2 [⟨1, -1, 1, 0, 0⟩, ⟨2, 1, 5, 0, 0⟩] 2 7 = (3, [⟨1, -1, 1, 0, 0⟩, ⟨2, 1, 5, 0, 0⟩, ⟨3, 2, 7, 0, 0⟩], 3, 0) := by
  rw [addF_some (g := ⟨2, 1, 5, 0, 0⟩) rfl, if_neg (by decide), w2, if_neg (by decide), if_neg (by decide)]
  rfl
 have r3 : movF [⟨1, -1, 1, 0, 0⟩, ⟨2, 1, 5, 0, 0⟩, ⟨3, 2, 7, 0, 0⟩] 2 3 = ([⟨1, -1, 1, 0, 0⟩, ⟨2, 1, 5, 0, 0⟩, ⟨3, 2, 7, 0, 0⟩], 12) := by
  rw [movF_some (g := ⟨2, 1, 5, 0, 0⟩) (q := ⟨3, 2, 7, 0, 0⟩) rfl rfl, if_neg (by decide), if_neg (by unfold rootG; rw [v2, v3]; decide), v3, if_pos (by decide)]
 have R0 := Aside0.mk r0
 have R1 := Aside0.mk r1
 have R2 := Aside0.mk r2
 have R3 := Aside0.mk r3
 have V3 := Aside0.mk v3
 have G1 := Aside0.mk hG1
 have G2 := Aside0.mk hG2
 have G3 := Aside0.mk hG3
 clear r0 r1 r2 r3 v2 v3 w1 w2 hG1 hG2 hG3
 go_enter Try.func8, Try.ntmps8
 go_wp2_with fail
 go_at_call 9
 refine (forB_New 5 (by decide) (by decide) w).mono ?_
 rintro e w1 ⟨fb, rfl, hF1, hb1⟩
 have HF1 := Aside0.mk hF1
 have HB1 := Aside0.mk hb1
 clear hF1 hb1
 go_wp2_with fail
 have c1 := forB_Root HF1.out (good_nil 5 (by decide)) (by decide)
 rw [R0.out] at c1
 refine c1.mono ?_
 rintro e w2 ⟨rfl, hF2, hb2⟩
 have HF2 := Aside0.mk hF2
 have HB2 := Aside0.mk (HB1.out.trans hb2)
 clear hF2 hb2 c1
 go_wp2_with fail
 have c2 := forB_Add HF2.out G1.out (by decide) (p := 1) 5 (by decide)
 rw [R1.out] at c2
 refine c2.mono ?_
 rintro e w3 ⟨rfl, hF3, hb3⟩
 have HF3 := Aside0.mk hF3
 have HB3 := Aside0.mk (HB2.out.trans hb3)
 clear hF3 hb3 c2
 go_wp2_with fail
 have c3 := forB_Add HF3.out G2.out (by decide) (p := 2) 7 (by decide)
 rw [R2.out] at c3
 refine c3.mono ?_
 rintro e w4 ⟨rfl, hF4, hb4⟩
 have HF4 := Aside0.mk hF4
 have HB4 := Aside0.mk (HB3.out.trans hb4)
 clear hF4 hb4 c3
 go_wp2_with fail
 have c4 := forB_Move HF4.out G3.out (id := 2) (p := 3) (by decide) (by decide)
 rw [R3.out] at c4
 refine c4.mono ?_
 rintro e w5 ⟨rfl, hF5, hb5⟩
 have HF5 := Aside0.mk hF5
 have HB5 := Aside0.mk (HB4.out.trans hb5)
 clear hF5 hb5 c4
 go_wp2_with fail
 have c5 := forB_Below HF5.out G3.out (g := 3) (t := 1) (by decide) (by decide)
 rw [V3.out] at c5
 refine c5.mono ?_
 rintro e w6 ⟨rfl, hb6⟩
 have HB6 := Aside0.mk (zab HB5.out hb6)
 clear hb6 c5
 go_wp2_with fail
 go_ret
 exact ⟨by rfl, HB6.out⟩
def drpF (L : List S84) (id : Int) : List S84 × Int :=
 match fnd L id with
 | none => (L, 4)
 | some g => if g.f1 < 0 then (L, 15) else if kid L id + g.f3 > 0 then (L, 11) else (delG L id, 0)
theorem drpF_none {L : List S84} {id : Int} (h : fnd L id = none) : drpF L id = (L, 4) := by
 unfold drpF
 rw [h]
theorem drpF_some {L : List S84} {id : Int} {g : S84} (h : fnd L id = some g) : drpF L id = if g.f1 < 0 then (L, 15) else if kid L id + g.f3 > 0 then (L, 11) else (delG L id, 0) := by
 unfold drpF
 rw [h]
theorem drpF_good {room : Nat} {last : Int} {L : List S84} (hG : GoodF room last L) (id : Int) : GoodF room last (drpF L id).1 := by
 cases hf : fnd L id with
 | none =>
  rw [drpF_none hf]
  exact hG
 | some g =>
  rw [drpF_some hf]
  obtain ⟨hg, rfl⟩ := za2 hf
  have hk := za9 L g.f0
  obtain ⟨_, _, _, _, _, g6, g7, _⟩ := hG.2.2.2.2.2 g hg
  split
  ·
   exact hG
  ·
   split
   ·
    exact hG
   ·
    exact hG.del hg (by omega)
theorem drpF_ids (L : List S84) (id : Int) : ∀ y ∈ (drpF L id).1, y ∈ L := by
 unfold drpF
 cases fnd L id with
 | none => exact fun y hy => hy
 | some g =>
  dsimp only
  split
  ·
   exact fun y hy => hy
  ·
   split
   ·
    exact fun y hy => hy
   ·
    exact fun y hy => (mem_del.1 hy).1
theorem forest_Drop_ok {w : World} {fb tb ts m : Nat} {nb : Int → Nat} {n room : Nat} {last : Int} {L : List S84} (h : FAt w fb tb ts m nb n room last L) (hG : GoodF room last L) {id : Int} (wf : (Lit.int .i64 id).wf = true) :
  Calls Try.prog 34 #[.pointer (some ⟨fb, 0, none⟩), .int .i64 id] w fun e w' => e = .returned (.int .i64 (drpF L id).2) ∧ FAt w' fb tb ts m nb n room last (drpF L id).1 ∧ Wr (FS fb tb ts m nb L) w w' := by
 obtain ⟨f0, f1⟩ := h.facts
 obtain ⟨l1, l2⟩ := h.look2 wf
 have H := Aside0.mk h
 have HG := Aside0.mk hG
 cases hf : fnd L id with
 | none =>
  have l3 := l2 hf
  rw [drpF_none hf]
  clear l1 l2 h hG hf
  go_enter Try.func34, Try.ntmps34
  go_wp2_with fail
  go_ret
  exact ⟨rfl, H.out, Wr.refl _ _⟩
 | some g =>
  have l3 := l1 g hf
  have HS := Aside0.mk (drpF_some hf)
  obtain ⟨hg, rfl⟩ := za2 hf
  have hn := h.2.2.2 g hg
  have HN := Aside0.mk hn
  have HM := Aside0.mk hg
  have c1 : w.cell? ⟨nb g.f0, 1, none⟩ = some (pOf nb g.f1) := (za hn 1).trans rfl
  obtain ⟨g1, g2, g3, _, g5, g6, g7, g8⟩ := hG.2.2.2.2.2 g hg
  have k0 := za9 L g.f0
  clear l1 l2 h hG hf hn hg
  by_cases h0 : g.f1 < 0
  ·
   have HA := Aside0.mk (HS.out.trans (if_pos h0))
   rw [show pOf nb g.f1 = .pointer none by unfold pOf; rw [if_pos h0]] at c1
   go_enter Try.func34, Try.ntmps34
   go_wp2_with fail
   go_ret
   rw [HA.out]
   exact ⟨rfl, H.out, Wr.refl _ _⟩
  ·
   have HS1 := Aside0.mk (HS.out.trans (if_neg h0))
   rw [show pOf nb g.f1 = .pointer (some ⟨nb g.f1, 0, none⟩) by unfold pOf; rw [if_neg h0]] at c1
   by_cases hfan : kid L g.f0 + g.f3 > 0
   ·
    have HA := Aside0.mk (HS1.out.trans (if_pos hfan))
    have d1 : decide (kid L g.f0 + g.f3 > 0) = true := decide_eq_true hfan
    go_enter Try.func34, Try.ntmps34
    go_wp2_with fail
    go_at_call 26
    refine (fan_ok HN.out (by omega)).mono ?_
    rintro e w1 ⟨rfl, hb1⟩
    have HB := Aside0.mk hb1
    clear hb1
    go_wp2_with fail
    go_ret
    rw [HA.out]
    exact ⟨rfl, H.out.keep HB.out, Wr.of_below HB.out⟩
   ·
    have HA := Aside0.mk (HS1.out.trans (if_neg hfan))
    have d1 : decide (kid L g.f0 + g.f3 > 0) = false := decide_eq_false hfan
    have hk0 : kid L g.f0 = 0 := by omega
    have hf4 : g.f4 = 0 := by omega
    go_enter Try.func34, Try.ntmps34
    go_wp2_with fail
    go_at_call 26
    refine (fan_ok HN.out (by omega)).mono ?_
    rintro e w1 ⟨rfl, hb1⟩
    have HB := Aside0.mk hb1
    have h1 := H.out.keep hb1
    obtain ⟨pp, hpp, e1⟩ := par_in HG.out HM.out (by omega)
    have p1 := h1.2.2.2 pp hpp
    rw [NodeAt, e1] at p1
    have c1 : w1.cell? ⟨nb g.f0, 1, none⟩ = some (.pointer (some ⟨nb g.f1, 0, none⟩)) := (za (h1.2.2.2 g HM.out) 1).trans (by unfold pOf; rw [if_neg (show ¬ g.f1 < 0 by omega)]; rfl)
    have c6 : w1.cell? ⟨nb g.f1, 6, none⟩ = some (.int .i64 (kid L g.f1)) := (za p1 6).trans rfl
    have z6 := zaa p1 6
    have hkp := za9 L g.f1
    have hkp2 := kid_le L g.f1
    have hLl : L.length ≤ 64 := Nat.le_trans HG.out.2.1 HG.out.1
    have wk : wrap64 (kid L g.f1 - 1) = kid L g.f1 - 1 := w64s (by omega) (by omega)
    have ha := h1.apart hpp
    rw [e1] at ha
    have HPP := Aside0.mk hpp
    have HE1 := Aside0.mk e1
    have hn2 := nodes_set6 h1 h1.2.2.2 hpp (kid L g.f1 - 1)
    rw [e1] at hn2
    have hF2 : (w1.setCell ⟨nb g.f1, 6, none⟩ (.int .i64 (kid L g.f1 - 1))).heap[fb]? = _ := (Below.heap_setCell w1 _ _ _ ha.1.symm).trans h1.1
    have hT2 : TabF (w1.setCell ⟨nb g.f1, 6, none⟩ (.int .i64 (kid L g.f1 - 1))) tb ts room last (L.map (·.f0)) := h1.2.1.blocks (Below.heap_setCell _ _ _ _ ha.2.1.symm) (Below.heap_setCell _ _ _ _ ha.2.2.1.symm)
    have hM2 := h1.2.2.1.set (a := ⟨nb g.f1, 6, none⟩) ha.2.2.2.symm (.int .i64 (kid L g.f1 - 1))
    have hW2 : Wr (FS fb tb ts m nb L) w (w1.setCell ⟨nb g.f1, 6, none⟩ (.int .i64 (kid L g.f1 - 1))) := (Wr.of_below HB.out).set (.inl (.inr (.inr (.inr (.inr ⟨pp, hpp, by rw [e1]⟩))))) _
    obtain ⟨w3, s1, s2, s3⟩ := hM2.drop (t := 60) (e := 64) Try.underlying3 Try.underlying60 wf 0
    have f2 : w1.cell? ⟨fb, 1, none⟩ = some (.map (some m)) := h1.facts.2
    have f3 : (w1.setCell ⟨nb g.f1, 6, none⟩ (.int .i64 (kid L g.f1 - 1))).cell? ⟨fb, 1, none⟩ = some (.map (some m)) := (za hF2 1).trans rfl
    have hblk : ∀ k, k ≠ m → w3.heap[k]? = (w1.setCell ⟨nb g.f1, 6, none⟩ (.int .i64 (kid L g.f1 - 1))).heap[k]? := fun k hk => by
     obtain ⟨es, clock, es', clock', hb, rfl⟩ := s3
     exact ChangeMaps.heap_setBlock_other hb _ hk
    have ha2 := h1.apart2
    have hF3 := (hblk fb ha2.2.2.1).trans hF2
    have f4 : w3.cell? ⟨fb, 0, none⟩ = some (.pointer (some ⟨tb, 0, none⟩)) := (za hF3 0).trans rfl
    have HF3 := Aside0.mk hF3
    have HT3 := Aside0.mk (hT2.blocks (hblk tb ha2.2.2.2.1) (hblk ts ha2.2.2.2.2))
    have HN3 : Aside0 (∀ y ∈ L, w3.heap[nb y.f0]? = some (nodeV y.f0 (pOf nb y.f1) y.f2 y.f3 y.f4 (act L y.f0) (if y.f0 = g.f1 then kid L g.f1 - 1 else kid L y.f0))) := ⟨fun y hy => (hblk _ (h1.apart hy).2.2.2).trans (hn2 y hy)⟩
    have HM3 := Aside0.mk s2
    have HW3 := Aside0.mk (hW2.turned s3 (.inl (.inr (.inr (.inr (.inl rfl))))))
    have HA2 := Aside0.mk ha2
    have H1 := Aside0.mk h1
    clear hblk hF3 hF2 hT2 hM2 hW2 hn2 s2 s3 ha ha2 h1 hb1 p1 hpp e1
    go_wp2_with fail
    go_at_call 57
    refine (tabF_DropW HT3.out (asc_nodup HG.out.2.2.2.2.1) (List.mem_map.2 ⟨g, HM.out, rfl⟩) (by omega)).mono ?_
    rintro e w4 ⟨rfl, hT4, hW4⟩
    have HT4 := Aside0.mk hT4
    have HW4 := Aside0.mk hW4
    clear hT4 hW4
    go_wp2_with fail
    go_ret
    rw [HA.out]
    have hsz := HW3.out.size
    have hkeep : ∀ k, FS fb tb ts m nb L k → k ≠ tb → k ≠ ts → w4.heap[k]? = w3.heap[k]? := fun k hk h1 h2 => HW4.out.2 k (Nat.lt_of_lt_of_le (H.out.lt hk) hsz) (fun hh => hh.elim h1 h2)
    refine ⟨rfl, ⟨(hkeep fb (.inl rfl) HA2.out.1 HA2.out.2.1).trans HF3.out, ?_, ?_, fun y hy => ?_⟩, HW3.out.trans HW4.out fun k hk => .inl (by rcases hk with rfl | rfl; exact .inr (.inl rfl); exact .inr (.inr (.inl rfl)))⟩
    ·
     dsimp only
     rw [del_ids]
     exact HT4.out
    ·
     obtain ⟨D, ⟨es, clock, m1, m2⟩, m3⟩ := HM3.out
     refine MapAt.ext (g := fun j => if j = g.f0 then none else (fnd L j).map fun _ => nb j) ⟨D, ⟨es, clock, (hkeep m (.inr (.inr (.inr (.inl rfl)))) HA2.out.2.2.2.1.symm HA2.out.2.2.2.2.symm).trans m1, m2⟩, m3⟩ fun k => ?_
     dsimp only
     rw [fnd_del]
     split
     ·
      rfl
     ·
      rfl
    ·
     obtain ⟨hy1, hy2⟩ := mem_del.1 hy
     have hay := H.out.apart hy1
     have h3 := (hkeep _ (.inr (.inr (.inr (.inr ⟨y, hy1, rfl⟩)))) hay.2.1 hay.2.2.1).trans (HN3.out y hy1)
     unfold NodeAt
     dsimp only
     rw [h3, act_del HG.out HM.out hk0 hf4, kid_del HG.out.2.2.2.2.1 HM.out]
     have ek : (if y.f0 = g.f1 then kid L g.f1 - 1 else kid L y.f0) = kid L y.f0 - if g.f1 = y.f0 then 1 else 0 := by
      by_cases e : y.f0 = g.f1
      ·
       rw [if_pos e, if_pos e.symm, e]
      ·
       rw [if_neg e, if_neg (fun e2 => e e2.symm)]
       omega
     rw [ek]
end Go.Proofs.Ytlmjdchcgfpngaa.P
end
section
namespace Go.Proofs
open Go.Shelf
def Try.keysA_ren : Go.Shelf.Ren := ⟨fun | 7 => 49 | 10 => 61 | n => n, fun | 23 => 60 | 26 => 3 | 3 => 64 | 28 => 91 | 0 => 0 | 27 => 90 | 33 => 66 | 4 => 4 | n => n, fun | n => n⟩
theorem Try.keysA : Go.Proofs.SlLaysZI.n7 Try.prog Try.keysA_ren := {
 mixed := by kernel_rfl
 f7 := ⟨Try.f49.name, by decide, Try.func49.trans (congrArg some (by kernel_rfl))⟩
 f10 := ⟨Try.f61.name, by decide, Try.func61.trans (congrArg some (by kernel_rfl))⟩
 t0 := Try.underlying0
 a0 := Try.isAgg0
 z0 := Try.sizeOf0
 v0 := Try.zeroValue0
 t4 := Try.underlying4
 a4 := Try.isAgg4
 z4 := Try.sizeOf4
 v4 := Try.zeroValue4
 t23 := Try.underlying60
 a23 := Try.isAgg60
 z23 := Try.sizeOf60
 v23 := Try.zeroValue60
 t26 := Try.underlying3
 a26 := Try.isAgg3
 z26 := Try.sizeOf3
 v26 := Try.zeroValue3
 t27 := Try.underlying90
 a27 := Try.isAgg90
 z27 := Try.sizeOf90
 v27 := Try.zeroValue90
 t28 := Try.underlying91
 a28 := Try.isAgg91
 z28 := Try.sizeOf91
 v28 := Try.zeroValue91
 t33 := Try.underlying66
 a33 := Try.isAgg66
 z33 := Try.sizeOf66
 v33 := Try.zeroValue66 }
def Try.sortedA_ren : Go.Shelf.Ren := ⟨fun | 6 => 48 | 8 => 60 | 9 => 31 | 11 => 76 | 13 => 53 | 12 => 52 | 23 => 73 | 24 => 74 | 14 => 64 | 15 => 65 | 16 => 66 | 17 => 67 | 18 => 68 | 19 => 69 | 20 => 70 | 21 => 71 | 22 => 72 | 25 => 77 | 26 => 78 | 27 => 79 | 28 => 80 | 29 => 81 | 30 => 82 | 31 => 83 | n => n, fun | 26 => 3 | 28 => 91 | 24 => 38 | 0 => 0 | 3 => 3 | 37 => 100 | 48 => 114 | 50 => 116 | 4 => 4 | 40 => 107 | 39 => 106 | 45 => 111 | 5 => 5 | 9 => 9 | 51 => 119 | 55 => 123 | 57 => 125 | 58 => 126 | 33 => 66 | n => n, fun | n => n⟩
theorem Try.sortedA : Go.Proofs.SlLaysZI.n6 Try.prog Try.sortedA_ren := {
 mixed := by kernel_rfl
 f6 := ⟨Try.f48.name, by decide, Try.func48.trans (congrArg some (by kernel_rfl))⟩
 f8 := ⟨Try.f60.name, by decide, Try.func60.trans (congrArg some (by kernel_rfl))⟩
 f11 := ⟨Try.f76.name, by decide, Try.func76.trans (congrArg some (by kernel_rfl))⟩
 t0 := Try.underlying0
 a0 := Try.isAgg0
 z0 := Try.sizeOf0
 v0 := Try.zeroValue0
 t24 := Try.underlying38
 a24 := Try.isAgg38
 z24 := Try.sizeOf38
 v24 := Try.zeroValue38
 t26 := Try.underlying3
 a26 := Try.isAgg3
 z26 := Try.sizeOf3
 v26 := Try.zeroValue3
 t28 := Try.underlying91
 a28 := Try.isAgg91
 z28 := Try.sizeOf91
 v28 := Try.zeroValue91
 i26 := by kernel_rfl }
end Go.Proofs
end
section
namespace Go.Proofs.Ytlmjdchcgfpngaa.P
open Go.RowKit Go.Proofs.YtlmjdchcgfpngaaW.PrintWords Go.Proofs.YtlmjdchcgfpngaaW.PrintLast Go.Proofs.YtlmjdchcgfpngaaW.PrintMore
attribute [local go_sem] zbq zbo max_two min_two zbh zbi zbp zbn
section
open Go.Maps Go.Sort Go.Shelf
theorem sortsA (m : Nat) : AnyZI.SortsIn Try.prog Try.sortedA_ren Fence.wide m :=
 ⟨fun blk off cap ss W hH hblk hsz => callsIn_wide.2 (Try.slices_Sort_int blk off cap ss W hH hblk hsz),
  fun p cap W => callsIn_wide.2 (Try.slices_Sort_int_none p cap W)⟩
theorem keys_ok (mb : Option Nat) (W : World) : Calls Try.prog 49 #[.map mb] W fun e w' => e = .returned (.func (.func 61) #[] #[.pointer (some ⟨W.heap.size, 0, none⟩)]) ∧ w' = W.alloc (.cells #[.map mb] 60) :=
 (callsIn_wide (n := 5)).1 (AnyZI.keys_in Try.keysA Fence.wide 5 trivial rfl mb W)
theorem sorted_ok {H : Type} (b nn : Nat) (D0 : DataW H) (R : Value → Option (DataW H × List MemPlace)) (w : World) (hown : w.ownsMap Try.prog 3 R b nn D0) (hmax : Maps.size D0 ≤ maxLen) (hbytes : Maps.size D0 * 8 ≤ 140737488355328) :
  Calls Try.prog 48 #[.func (.func 61) #[] #[.pointer (some ⟨w.heap.size, 0, none⟩)]] (w.alloc (.cells #[.map (some b)] 60)) fun e w' => ∃ (v : Value) (ss : List Int), e = .returned v ∧ ss.Perm (intKeys D0) ∧
   w'.ownsRow (w.alloc (.cells #[.map (some b)] 60)).heap.size 3 1 v ss.length ((ss.mergeSort (fun x y => decide (x ≤ y))).map encZ) ∧ (v = .slice none 0 0 ↔ ss = []) ∧ Below (w.alloc (.cells #[.map (some b)] 60)).heap.size (w.alloc (.cells #[.map (some b)] 60)) w' := by
 have hbl := hown.lt
 have hseq : SeqGives Fence.wide 2 Try.prog 61 #[.pointer (some ⟨w.heap.size, 0, none⟩)] encZ (fun ss => ss.Perm (intKeys D0)) (Maps.size D0) (w.alloc (.cells #[.map (some b)] 60)) :=
  AnyZI.keys_gives (ρ := Try.keysA_ren) { Try.keysA with } Fence.wide _ trivial rfl (by omega) w.heap.size b nn D0 _ (by simp) (by simp) (by
   obtain ⟨es, clock, hb, Ft, hs, hD⟩ := hown
   exact ⟨es, clock, (Below.heap_alloc _ _ b hbl).trans hb, Ft, hs, hD⟩)
 have cS := AnyZI.sorted_in Try.sortedA Fence.wide 5 trivial trivial trivial trivial rfl (by omega) (sortsA _) (enters_of Try.func31 (by kernel_rfl) rfl ) 61 #[.pointer (some ⟨w.heap.size, 0, none⟩)] trivial (enters_of Try.func61 (by kernel_rfl) rfl) _ _ hmax hbytes _ hseq
 change CallsIn _ _ Try.prog 48 _ _ _ at cS
 exact (callsIn_wide (n := 5)).1 cS
theorem ids_perm {w : World} {m n : Nat} {nb : Int → Nat} {L : List S84} (hA : Asc L) {D : DataW Nat} (hown : w.ownsMap Try.prog 3 (mkR mkP) m n D) (hd : HoldsM D (fun id => (fnd L id).map fun _ => nb id)) : (L.map (·.f0)).Perm (intKeys D) := by
 refine CollectedI.perm (left := fun _ => false) ⟨?_, fun x => ?_⟩ hown (Maps.int_keyed Try.underlying3) Try.underlying3 (fun _ => rfl)
 ·
  exact (List.pairwise_map.2 hA).imp (fun h e => by omega)
 ·
  rw [hd.has]
  constructor
  ·
   intro hx
   obtain ⟨e, he, rfl⟩ := List.mem_map.1 hx
   exact ⟨by rw [fnd_mem hA he]; rfl, rfl⟩
  ·
   rintro ⟨hx, _⟩
   cases hf : fnd L x with
   | none => rw [hf] at hx; cases hx
   | some y =>
    obtain ⟨h1, h2⟩ := za2 hf
    exact List.mem_map.2 ⟨y, h1, h2⟩
end
theorem row_ints {w : World} {base : Nat} {v : Value} {n : Nat} {l : List Int} (h : w.ownsRow base 3 1 v n (l.map encZ)) : IntsAt w v l := by
 have hl : l.length = n := by have := h.1; simpa using this
 subst hl
 obtain ⟨_, hv⟩ := h
 rcases hv with ⟨rfl, h0⟩ | ⟨g, cap, cur, rfl, hb, hg, hc, hm, hsz, ht⟩
 ·
  obtain rfl : l = [] := List.length_eq_zero_iff.1 h0
  exact IntsAt.nil w none 0
 ·
  refine ⟨_, _, rfl, hc, rfl, by simp [maxLen] at hm; omega, fun _ => ⟨_, rfl, fun j p hj => ⟨[.int .i64 p], rfl, rfl, fun i u hu => ?_⟩⟩⟩
  match i, hu with
  | 0, hu =>
   have e : (Addr.add ⟨g, 0, none⟩ (j * (Kd.int .i64).sz + 0)) = ⟨g, j, none⟩ := by
    show (Addr.add ⟨g, 0, none⟩ (j * 1 + 0)) = _
    rw [Nat.mul_one, Nat.add_zero, add_plain]
   rw [e, za hg]
   have h1 : (cur.toList.take (l.length * 1))[j]? = (l.map encZ)[j]? := by rw [ht]
   obtain ⟨hjl, hjp⟩ := List.getElem?_eq_some_iff.1 hj
   rw [List.getElem?_take, if_pos (by omega), List.getElem?_map, hj] at h1
   rw [← Array.getElem?_toList, h1]
   simpa [encZ] using hu
theorem ids_ok {w : World} {fb tb ts m : Nat} {nb : Int → Nat} {n room : Nat} {last : Int} {L : List S84} (h : FAt w fb tb ts m nb n room last L) (hG : GoodF room last L) :
  Calls Try.prog 20 #[.pointer (some ⟨fb, 0, none⟩)] w fun e w' => ∃ v, e = .returned v ∧ IntsAt w' v (L.map (·.f0)) ∧ Below w.heap.size w w' := by
 obtain ⟨D, hown, hd⟩ := h.2.2.1
 have hA := hG.2.2.2.2.1
 have hL : L.length ≤ 64 := Nat.le_trans hG.2.1 hG.1
 have hp := ids_perm hA hown hd
 have hsz : Maps.size D = L.length := by
  have h1 := hp.length_eq
  rw [List.length_map] at h1
  rw [h1]
  cases D <;> simp [Maps.size, intKeys]
 obtain ⟨f0, f1⟩ := h.facts
 have HP := Aside0.mk hp
 have HS := Aside0.mk (sorted_ok m n D (mkR mkP) w hown (by rw [hsz]; simp [maxLen]; omega) (by rw [hsz]; omega))
 have HI := Aside0.mk hA
 clear hown hd hp hsz h hA hG
 go_enter Try.func20, Try.ntmps20
 go_wp2_with fail
 go_at_call 49
 refine (keys_ok _ _).mono ?_
 rintro e w1 ⟨rfl, rfl⟩
 go_wp2_with fail
 go_at_call 48
 refine HS.out.mono ?_
 rintro e w2 ⟨v, ss, rfl, hss, hrow, _, hb⟩
 rw [sort_perm (hss.trans HP.out.symm) (List.pairwise_map.2 HI.out)] at hrow
 have HR := Aside0.mk (row_ints hrow)
 have HB := Aside0.mk (zab (zaf (Below.refl _ w) _) hb)
 clear hss hrow hb
 go_wp2_with fail
 go_ret
 exact ⟨v, rfl, HR.out, HB.out⟩
theorem forB_Ids {B : Nat} {w : World} {fb n room : Nat} {last : Int} {L : List S84} (h : ForB B w fb n room last L) (hG : GoodF room last L) :
  Calls Try.prog 20 #[.pointer (some ⟨fb, 0, none⟩)] w fun e w' => ∃ v, e = .returned v ∧ IntsAt w' v (L.map (·.f0)) ∧ Below w.heap.size w w' := by
 obtain ⟨tb, ts, m, nb, h1, h2, h3⟩ := h
 exact ids_ok h1 hG
end Go.Proofs.Ytlmjdchcgfpngaa.P
end
