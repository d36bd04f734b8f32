-- Written by a program of this session (wip/tools/shake.py) out of its own texts and of the kit's printed ones; not trusted: Lean checks it.
import Derived.Test.YtlmjdchcgfpngaaZTreeMoves1
set_option maxHeartbeats 8000000
set_option maxRecDepth 100000
set_option linter.unusedVariables false
set_option linter.unusedSimpArgs false
section
namespace Go.Proofs.Ytlmjdchcgfpngaa.P
open Go.RowKit Go.Proofs.YtlmjdchcgfpngaaW.PrintWords Go.Proofs.YtlmjdchcgfpngaaW.PrintLast Go.Proofs.YtlmjdchcgfpngaaW.PrintMore
attribute [local go_sem] zbo zbq zbz zbx zbi zbg zbr zbp
def za2.j0 : Nat → Int → Int → Bool → Int → Int → List (S84) → Option (Int × Int × (List (S84)) × Int × Int)
 | 0, _, _, _, _, _, _ => none
 | k + 1, x1, x2, x17, x265000, x265001, x265002 => if x17 = true then (some (x265000, x265001, x265002, 0, 13)) else ((zaj.f k x265000 x265001 x265002 x1).bind fun t267 => (if t267 = 8 then (some (x265000, x265001, x265002, 0, 7)) else ((zaw.f k x265000 x265001 x265002 x1).bind fun t268 => (if t268 = 32 then (some (x265000, x265001, x265002, 0, 6)) else (if (x265002.length : Int) = x265000 then (some (x265000, x265001, x265002, 0, 6)) else ((zax.f x265000 x265001 x265002 x1 x2).bind fun bt269 => (some (bt269.1, bt269.2.1, bt269.2.2.1, bt269.2.2.2, 0))))))))
def za2.f (k : Nat) (a0_0 : Int) (a0_1 : Int) (l0_2 : List (S84)) (a1 : Int) (a2 : Int) : Option (Int × Int × (List (S84)) × Int × Int) := (zae.f k a0_0 a0_1 l0_2 a1).bind fun t266 => (if t266 < 0 then (some (a0_0, a0_1, l0_2, 0, 4)) else (if a2 < 1 then (za2.j0 k a1 a2 true a0_0 a0_1 l0_2) else (za2.j0 k a1 a2 (decide (a2 > 10000)) a0_0 a0_1 l0_2)))
theorem za2.calls (k : Nat) (a0_0 : Int) (a0_1 : Int) (P0_2_ : Nat → Prop) (A0_2 : Option Addr) (c0_2 : Nat) (l0_2 : List (S84)) (a1 : Int) (a2 : Int) (r1 : Int) (r2 : Int) (r3 : List (S84)) (r4 : Int) (r5 : Int) (w : World) (hs0_2 : Kd.V k84 84 w w.heap.size (fun k_ => P0_2_ k_) (.slice A0_2 l0_2.length c0_2) l0_2) (h : za2.f k a0_0 a0_1 l0_2 a1 a2 = some (r1, r2, r3, r4, r5)) :
  Calls Try.prog 33 #[.agg #[.int .i64 a0_0, .int .i64 a0_1, .slice A0_2 l0_2.length c0_2], .int .i64 a1, .int .i64 a2] w fun e w' => ∃ v2_ : Value, e = .returned (.tuple #[.agg #[.int .i64 r1, .int .i64 r2, v2_], .int .i64 r4, .int .i64 r5]) ∧ Kd.V k84 84 w' w.heap.size (fun k_ => (P0_2_ k_ ∨ w.heap.size ≤ k_)) v2_ r3 ∧ Below w.heap.size w w' := by
 have hu44 := Try.underlying44
 have HO0_2 := zA (show Kd.V k84 84 w w.heap.size (fun k_ => (P0_2_ k_ ∨ w.heap.size ≤ k_)) (.slice A0_2 l0_2.length c0_2) l0_2 from Kd.zbk hs0_2 (fun k_ hk => .inl hk))
 have HB := zA (Below.refl w.heap.size w)
 have H : ((zae.f k a0_0 a0_1 l0_2 a1).bind fun t266 => (if t266 < 0 then (some (a0_0, a0_1, l0_2, 0, 4)) else (if a2 < 1 then (za2.j0 k a1 a2 true a0_0 a0_1 l0_2) else (za2.j0 k a1 a2 (decide (a2 > 10000)) a0_0 a0_1 l0_2)))) = some (r1, r2, r3, r4, r5) := h
 clear h
 replace H := zO H
 obtain ⟨t266, A40, H⟩ := H
 try dsimp only at H
 have A4 := zA A40
 clear A40
 by_cases c5 : t266 < 0
 ·
  rw [if_pos c5] at H
  have c5b0 : decide (t266 < 0) = true := decide_eq_true c5
  clear c5
  simp only [Option.some.injEq, Prod.mk.injEq] at H
  obtain ⟨rfl, rfl, rfl, rfl, rfl⟩ := H
  go_enter Try.func33, Try.ntmps33
  go_wp2_with (first | ((with_reducible refine za7 (N := 3) rfl ?_); (try (refine gate_guard (by rfl) ?_; dsimp only)); refine za3 ?hg (N := 3) ?hd (cs := #[.int .i64 a0_0, .int .i64 a0_1, .slice A0_2 l0_2.length c0_2]) (t := 44) ?hr ?_; (case hd => rfl); (case hg => rfl); (case hr => first | (go_simp; done) | (go_simp; rfl)); intro gb264 hg w6 hbox hb; have n0_ := zA (Kd.za1 (Kd.zbl (zV HO0_2) gb264 (Nat.le_of_eq hg.symm)) hb); have n1_ := zA (zab (zB HB) hb); have n2_ := zA (hbox); have n3_ := zA ((by rw [hg]; exact (zaf (zB HB)) : w.heap.size ≤ gb264)); have n4_ := zA ((by rw [hg]; exact (zaf (zB HB)) : w.heap.size ≤ gb264)); clear HO0_2 HB; have HO0_2 := n0_; have HB := n1_; have BK264 := n2_; have GW264 := n3_; have GE264 := n4_; clear n0_ n1_ n2_ n3_ n4_ hb hbox hg) | ((with_reducible refine za7 (N := 6) rfl ?_); (try (refine gate_guard (by rfl) ?_; dsimp only)); refine za3 ?hg (N := 6) ?hd (cs := #[.int .i64 0, .int .i64 0, .slice none 0 0]) (t := 44) ?hr ?_; (case hd => rfl); (case hg => rfl); (case hr => first | (go_simp; done) | (go_simp; rfl)); intro gb265 hg w7 hbox hb; have n0_ := zA (Kd.za1 (Kd.zbl (zV HO0_2) gb265 (Nat.le_of_eq hg.symm)) hb); have n1_ := zA (zam (g := gb264) (o := .cells #[.int .i64 a0_0, .int .i64 a0_1, .slice A0_2 l0_2.length c0_2] 44 (0, 0)) (zK BK264) hb); have n2_ := zA (zab (zB HB) hb); have n3_ := zA (hbox); have n4_ := zA ((by rw [hg]; exact (zaf (zB HB)) : w.heap.size ≤ gb265)); have n5_ := zA ((by rw [hg]; exact (zaf (zB HB)) : w.heap.size ≤ gb265)); have n6_ := zA ((by rw [hg]; exact Nat.ne_of_lt (zar (g := gb264) (o := .cells #[.int .i64 a0_0, .int .i64 a0_1, .slice A0_2 l0_2.length c0_2] 44 (0, 0)) (zK BK264)) : gb264 ≠ gb265)); have n7_ := zA ((by rw [hg]; exact Nat.ne_of_gt (zar (g := gb264) (o := .cells #[.int .i64 a0_0, .int .i64 a0_1, .slice A0_2 l0_2.length c0_2] 44 (0, 0)) (zK BK264)) : gb265 ≠ gb264)); clear HO0_2 BK264 HB; have HO0_2 := n0_; have BK264 := n1_; have HB := n2_; have BK265 := n3_; have GW265 := n4_; have GE265 := n5_; have NB264_265 := n6_; have NB265_264 := n7_; clear n0_ n1_ n2_ n3_ n4_ n5_ n6_ n7_ hb hbox hg; have hnb8 := NB264_265.out; have hnc8 := NB265_264.out; have hcz9_0 : w7.cell? ⟨gb264, 0, none⟩ = some (.int .i64 a0_0) := (za BK264.out 0).trans rfl; have hcz9_1 : w7.cell? ⟨gb264, 1, none⟩ = some (.int .i64 a0_1) := (za BK264.out 1).trans rfl; have hcz9_2 : w7.cell? ⟨gb264, 2, none⟩ = some (.slice A0_2 l0_2.length c0_2) := (za BK264.out 2).trans rfl; have hfz9_0 := zaa BK264.out 0; have hfz9_1 := zaa BK264.out 1; have hfz9_2 := zaa BK264.out 2) | ((with_reducible refine za8 (f := 55) rfl ?_); refine goesL_ (some 14) rfl rfl Try.func55 (by kernel_rfl) rfl #[.agg #[.int .i64 a0_0, .int .i64 a0_1, .slice A0_2 l0_2.length c0_2], .int .i64 a1] rfl (zE) ?_; (with_reducible refine (zae.calls k a0_0 a0_1 _ _ l0_2 a1 t266 _ ?side1 ?side2 A4.out).mono ?_); (case side1 => exact zJ (Kd.zay HO0_2.out).2.2); (case side2 => exact (Kd.zay HO0_2.out).2.1); rintro e w10 ⟨rfl, hb⟩; refine ⟨_, rfl, ?_⟩; have n0_ := zA (Kd.za1 (zV HO0_2) hb); have n1_ := zA (zam (g := gb264) (o := .cells #[.int .i64 a0_0, .int .i64 a0_1, .slice A0_2 l0_2.length c0_2] 44 (0, 0)) (zK BK264) hb); have n2_ := zA (zam (g := gb265) (o := .cells #[.int .i64 0, .int .i64 0, .slice none 0 0] 44 (0, 0)) (zK BK265) hb); have n3_ := zA (zab (zB HB) hb); clear HO0_2 BK264 BK265 HB; have HO0_2 := n0_; have BK264 := n1_; have BK265 := n2_; have HB := n3_; clear n0_ n1_ n2_ n3_; (try clear hb); (try clear hb2); (try clear hk); (try clear hi); have hcz11_0 : w10.cell? ⟨gb264, 0, none⟩ = some (.int .i64 a0_0) := (za BK264.out 0).trans rfl; have hcz11_1 : w10.cell? ⟨gb264, 1, none⟩ = some (.int .i64 a0_1) := (za BK264.out 1).trans rfl; have hcz11_2 : w10.cell? ⟨gb264, 2, none⟩ = some (.slice A0_2 l0_2.length c0_2) := (za BK264.out 2).trans rfl; have hfz11_0 := zaa BK264.out 0; have hfz11_1 := zaa BK264.out 1; have hfz11_2 := zaa BK264.out 2; have hcz12_0 : w10.cell? ⟨gb265, 0, none⟩ = some (.int .i64 0) := (za BK265.out 0).trans rfl; have hcz12_1 : w10.cell? ⟨gb265, 1, none⟩ = some (.int .i64 0) := (za BK265.out 1).trans rfl; have hcz12_2 : w10.cell? ⟨gb265, 2, none⟩ = some (.slice none 0 0) := (za BK265.out 2).trans rfl; have hfz12_0 := zaa BK265.out 0; have hfz12_1 := zaa BK265.out 1; have hfz12_2 := zaa BK265.out 2))
  refine bodyPost_ret (zbu rfl _ _ gb265 44 #[.int .i64 a0_0, .int .i64 a0_1, .slice A0_2 l0_2.length c0_2] (0, 0) _ rfl (by (with_reducible repeat (first | refine zao ?_ _ | refine zan ?_ | refine zac ?_ _)); refine zau (cs := #[.int .i64 a0_0, .int .i64 a0_1, .slice none 0 0]) ?_ 2 _ rfl; (with_reducible repeat (first | refine zao ?_ _ | refine zan ?_ | refine zac ?_ _)); refine zau (cs := #[.int .i64 a0_0, .int .i64 0, .slice none 0 0]) ?_ 1 _ rfl; (with_reducible repeat (first | refine zao ?_ _ | refine zan ?_ | refine zac ?_ _)); refine zau (cs := #[.int .i64 0, .int .i64 0, .slice none 0 0]) ?_ 0 _ rfl; (with_reducible repeat (first | refine zao ?_ _ | refine zan ?_ | refine zac ?_ _)); exact BK265.out) Try.underlying44 rfl (by kernel_rfl)) rfl ?_
  exact ⟨_, zW, by (with_reducible repeat (first | apply Kd.zbs | apply Kd.zb8 | apply Kd.V_drew)); exact Kd.zbk (Kd.V_far (p := ⟨gb265, 2, none⟩) (Kd.V_far (p := ⟨gb265, 1, none⟩) (Kd.V_far (p := ⟨gb265, 0, none⟩) (Kd.zbk HO0_2.out (fun k_ hk => (⟨hk, hk.2⟩ : _ ∧ k_ ≠ gb265))) (fun _ hk => hk.2) (.int .i64 a0_0)) (fun _ hk => hk.2) (.int .i64 a0_1)) (fun _ hk => hk.2) (.slice A0_2 l0_2.length c0_2)) (fun _ hk => hk.1.1.1), zB HB⟩
 ·
  rw [if_neg c5] at H
  have c5b0 : decide (t266 < 0) = false := decide_eq_false c5
  clear c5
  have HC13 := zA H
  clear H
  go_enter Try.func33, Try.ntmps33
  go_upto_region 3 with (first | ((with_reducible refine za7 (N := 3) rfl ?_); (try (refine gate_guard (by rfl) ?_; dsimp only)); refine za3 ?hg (N := 3) ?hd (cs := #[.int .i64 a0_0, .int .i64 a0_1, .slice A0_2 l0_2.length c0_2]) (t := 44) ?hr ?_; (case hd => rfl); (case hg => rfl); (case hr => first | (go_simp; done) | (go_simp; rfl)); intro gb264 hg w14 hbox hb; have n0_ := zA (Kd.za1 (Kd.zbl (zV HO0_2) gb264 (Nat.le_of_eq hg.symm)) hb); have n1_ := zA (zab (zB HB) hb); have n2_ := zA (hbox); have n3_ := zA ((by rw [hg]; exact (zaf (zB HB)) : w.heap.size ≤ gb264)); have n4_ := zA ((by rw [hg]; exact (zaf (zB HB)) : w.heap.size ≤ gb264)); clear HO0_2 HB; have HO0_2 := n0_; have HB := n1_; have BK264 := n2_; have GW264 := n3_; have GE264 := n4_; clear n0_ n1_ n2_ n3_ n4_ hb hbox hg) | ((with_reducible refine za7 (N := 6) rfl ?_); (try (refine gate_guard (by rfl) ?_; dsimp only)); refine za3 ?hg (N := 6) ?hd (cs := #[.int .i64 0, .int .i64 0, .slice none 0 0]) (t := 44) ?hr ?_; (case hd => rfl); (case hg => rfl); (case hr => first | (go_simp; done) | (go_simp; rfl)); intro gb265 hg w15 hbox hb; have n0_ := zA (Kd.za1 (Kd.zbl (zV HO0_2) gb265 (Nat.le_of_eq hg.symm)) hb); have n1_ := zA (zam (g := gb264) (o := .cells #[.int .i64 a0_0, .int .i64 a0_1, .slice A0_2 l0_2.length c0_2] 44 (0, 0)) (zK BK264) hb); have n2_ := zA (zab (zB HB) hb); have n3_ := zA (hbox); have n4_ := zA ((by rw [hg]; exact (zaf (zB HB)) : w.heap.size ≤ gb265)); have n5_ := zA ((by rw [hg]; exact (zaf (zB HB)) : w.heap.size ≤ gb265)); have n6_ := zA ((by rw [hg]; exact Nat.ne_of_lt (zar (g := gb264) (o := .cells #[.int .i64 a0_0, .int .i64 a0_1, .slice A0_2 l0_2.length c0_2] 44 (0, 0)) (zK BK264)) : gb264 ≠ gb265)); have n7_ := zA ((by rw [hg]; exact Nat.ne_of_gt (zar (g := gb264) (o := .cells #[.int .i64 a0_0, .int .i64 a0_1, .slice A0_2 l0_2.length c0_2] 44 (0, 0)) (zK BK264)) : gb265 ≠ gb264)); clear HO0_2 BK264 HB; have HO0_2 := n0_; have BK264 := n1_; have HB := n2_; have BK265 := n3_; have GW265 := n4_; have GE265 := n5_; have NB264_265 := n6_; have NB265_264 := n7_; clear n0_ n1_ n2_ n3_ n4_ n5_ n6_ n7_ hb hbox hg; have hnb16 := NB264_265.out; have hnc16 := NB265_264.out; have hcz17_0 : w15.cell? ⟨gb264, 0, none⟩ = some (.int .i64 a0_0) := (za BK264.out 0).trans rfl; have hcz17_1 : w15.cell? ⟨gb264, 1, none⟩ = some (.int .i64 a0_1) := (za BK264.out 1).trans rfl; have hcz17_2 : w15.cell? ⟨gb264, 2, none⟩ = some (.slice A0_2 l0_2.length c0_2) := (za BK264.out 2).trans rfl; have hfz17_0 := zaa BK264.out 0; have hfz17_1 := zaa BK264.out 1; have hfz17_2 := zaa BK264.out 2) | ((with_reducible refine za8 (f := 55) rfl ?_); refine goesL_ (some 14) rfl rfl Try.func55 (by kernel_rfl) rfl #[.agg #[.int .i64 a0_0, .int .i64 a0_1, .slice A0_2 l0_2.length c0_2], .int .i64 a1] rfl (zE) ?_; (with_reducible refine (zae.calls k a0_0 a0_1 _ _ l0_2 a1 t266 _ ?side1 ?side2 A4.out).mono ?_); (case side1 => exact zJ (Kd.zay HO0_2.out).2.2); (case side2 => exact (Kd.zay HO0_2.out).2.1); rintro e w18 ⟨rfl, hb⟩; refine ⟨_, rfl, ?_⟩; have n0_ := zA (Kd.za1 (zV HO0_2) hb); have n1_ := zA (zam (g := gb264) (o := .cells #[.int .i64 a0_0, .int .i64 a0_1, .slice A0_2 l0_2.length c0_2] 44 (0, 0)) (zK BK264) hb); have n2_ := zA (zam (g := gb265) (o := .cells #[.int .i64 0, .int .i64 0, .slice none 0 0] 44 (0, 0)) (zK BK265) hb); have n3_ := zA (zab (zB HB) hb); clear HO0_2 BK264 BK265 HB; have HO0_2 := n0_; have BK264 := n1_; have BK265 := n2_; have HB := n3_; clear n0_ n1_ n2_ n3_; (try clear hb); (try clear hb2); (try clear hk); (try clear hi)))
  (try simp only [Act.put, zs1, zs2, zs3])
  go_cut [17] (fun v17 wc => ∃ (kq : Nat) (x17_12 : Bool), v17 = .bool x17_12 ∧ Aside0 (za2.j0 kq a1 a2 x17_12 a0_0 a0_1 l0_2 = some (r1, r2, r3, r4, r5)) ∧ Aside0 (kq ≤ k) ∧ Aside0 (Kd.V k84 84 wc w.heap.size (fun k_ => (P0_2_ k_ ∨ w.heap.size ≤ k_) ∧ k_ ≠ gb264 ∧ k_ ≠ gb265) (.slice A0_2 l0_2.length c0_2) l0_2) ∧ Aside0 (wc.heap[gb264]? = some (.cells #[.int .i64 a0_0, .int .i64 a0_1, (.slice A0_2 l0_2.length c0_2)] 44 (0, 0))) ∧ Aside0 (wc.heap[gb265]? = some (.cells #[.int .i64 0, .int .i64 0, (.slice none 0 0)] 44 (0, 0))) ∧ Aside0 (Below w.heap.size w wc))
  case first =>
   have H := HC13.out
   clear HC13
   by_cases c19 : a2 < 1
   ·
    rw [if_pos c19] at H
    have c19b0 : decide (a2 < 1) = true := decide_eq_true c19
    clear c19
    (first | rw [c19b0] | (simp only [i64_w, i32_w]; rw [c19b0]) | skip)
    have H' := zA H
    clear H
    go_wp2
    go_meet
    case rel => exact ⟨_, (true), (zF), H', ⟨by first | omega | exact Nat.le_refl _⟩, ⟨by (with_reducible repeat (first | apply Kd.zbs | apply Kd.zb8 | apply Kd.V_drew)); exact Kd.zbk HO0_2.out (fun _ hk => ⟨hk.1.1, ⟨hk.1.2, hk.2⟩⟩)⟩, ⟨zK BK264⟩, ⟨zK BK265⟩, ⟨zB HB⟩⟩
   ·
    rw [if_neg c19] at H
    have c19b0 : decide (a2 < 1) = false := decide_eq_false c19
    clear c19
    (first | rw [c19b0] | (simp only [i64_w, i32_w]; rw [c19b0]) | skip)
    have H' := zA H
    clear H
    go_wp2
    go_meet
    case rel => exact ⟨_, (decide (a2 > 10000)), (zF), H', ⟨by first | omega | exact Nat.le_refl _⟩, ⟨by (with_reducible repeat (first | apply Kd.zbs | apply Kd.zb8 | apply Kd.V_drew)); exact Kd.zbk HO0_2.out (fun _ hk => ⟨hk.1.1, ⟨hk.1.2, hk.2⟩⟩)⟩, ⟨zK BK264⟩, ⟨zK BK265⟩, ⟨zB HB⟩⟩
  case rest =>
   clear HC13
   try clear c1
   try clear p2
   try clear c3
   try clear c5
   try clear c5b0
   try clear p6
   try clear c8
   try clear c16
   try clear c19
   try clear c19b0
   try clear hcz11_0
   try clear hcz11_1
   try clear hcz11_2
   try clear hcz12_0
   try clear hcz12_1
   try clear hcz12_2
   try clear hcz17_0
   try clear hcz17_1
   try clear hcz17_2
   try clear hcz9_0
   try clear hcz9_1
   try clear hcz9_2
   try clear hfz11_0
   try clear hfz11_1
   try clear hfz11_2
   try clear hfz12_0
   try clear hfz12_1
   try clear hfz12_2
   try clear hfz17_0
   try clear hfz17_1
   try clear hfz17_2
   try clear hfz9_0
   try clear hfz9_1
   try clear hfz9_2
   obtain ⟨kq, x17_12, rfl, HA, HJ12, HO_265002, BK264, BK265, HB⟩ := hcut
   cases kq with
   | zero => exact absurd HA.out (by simp [za2.j0])
   | succ kj12 =>
    have H := HA.out
    clear HA
    simp only [za2.j0] at H
    by_cases c20 : x17_12 = true
    ·
     subst c20
     rw [if_pos rfl] at H
     simp only [Option.some.injEq, Prod.mk.injEq] at H
     obtain ⟨rfl, rfl, rfl, rfl, rfl⟩ := H
     have hnb21 := NB264_265.out
     have hnc21 := NB265_264.out
     have hcz22_0 : wc.cell? ⟨gb264, 0, none⟩ = some (.int .i64 a0_0) := (za BK264.out 0).trans rfl
     have hcz22_1 : wc.cell? ⟨gb264, 1, none⟩ = some (.int .i64 a0_1) := (za BK264.out 1).trans rfl
     have hcz22_2 : wc.cell? ⟨gb264, 2, none⟩ = some (.slice A0_2 l0_2.length c0_2) := (za BK264.out 2).trans rfl
     have hfz22_0 := zaa BK264.out 0
     have hfz22_1 := zaa BK264.out 1
     have hfz22_2 := zaa BK264.out 2
     have hcz23_0 : wc.cell? ⟨gb265, 0, none⟩ = some (.int .i64 0) := (za BK265.out 0).trans rfl
     have hcz23_1 : wc.cell? ⟨gb265, 1, none⟩ = some (.int .i64 0) := (za BK265.out 1).trans rfl
     have hcz23_2 : wc.cell? ⟨gb265, 2, none⟩ = some (.slice none 0 0) := (za BK265.out 2).trans rfl
     have hfz23_0 := zaa BK265.out 0
     have hfz23_1 := zaa BK265.out 1
     have hfz23_2 := zaa BK265.out 2
     go_wp2
     refine bodyPost_ret (zbu rfl _ _ gb265 44 #[.int .i64 a0_0, .int .i64 a0_1, .slice A0_2 l0_2.length c0_2] (0, 0) _ rfl (by (with_reducible repeat (first | refine zao ?_ _ | refine zan ?_ | refine zac ?_ _)); refine zau (cs := #[.int .i64 a0_0, .int .i64 a0_1, .slice none 0 0]) ?_ 2 _ rfl; (with_reducible repeat (first | refine zao ?_ _ | refine zan ?_ | refine zac ?_ _)); refine zau (cs := #[.int .i64 a0_0, .int .i64 0, .slice none 0 0]) ?_ 1 _ rfl; (with_reducible repeat (first | refine zao ?_ _ | refine zan ?_ | refine zac ?_ _)); refine zau (cs := #[.int .i64 0, .int .i64 0, .slice none 0 0]) ?_ 0 _ rfl; (with_reducible repeat (first | refine zao ?_ _ | refine zan ?_ | refine zac ?_ _)); exact BK265.out) Try.underlying44 rfl (by kernel_rfl)) rfl ?_
     exact ⟨_, zW, by (with_reducible repeat (first | apply Kd.zbs | apply Kd.zb8 | apply Kd.V_drew)); exact Kd.zbk (Kd.V_far (p := ⟨gb265, 2, none⟩) (Kd.V_far (p := ⟨gb265, 1, none⟩) (Kd.V_far (p := ⟨gb265, 0, none⟩) (Kd.zbk HO_265002.out (fun k_ hk => (⟨hk, hk.2.2⟩ : _ ∧ k_ ≠ gb265))) (fun _ hk => hk.2) (.int .i64 a0_0)) (fun _ hk => hk.2) (.int .i64 a0_1)) (fun _ hk => hk.2) (.slice A0_2 l0_2.length c0_2)) (fun _ hk => hk.1.1), zB HB⟩
    ·
     replace c20 := Bool.eq_false_iff.mpr c20
     subst c20
     rw [if_neg (show ¬ (false = true) by decide)] at H
     replace H := zO H
     obtain ⟨t267, A240, H⟩ := H
     try dsimp only at H
     have A24 := zA A240
     clear A240
     by_cases c25 : t267 = 8
     ·
      rw [if_pos c25] at H
      have c25b0 : (t267 == 8) = true := beq_iff_eq.mpr c25
      have c25b1 : (t267 != 8) = false := bne_eq_false_iff_eq.mpr c25
      clear c25
      simp only [Option.some.injEq, Prod.mk.injEq] at H
      obtain ⟨rfl, rfl, rfl, rfl, rfl⟩ := H
      have hnb26 := NB264_265.out
      have hnc26 := NB265_264.out
      have hcz27_0 : wc.cell? ⟨gb264, 0, none⟩ = some (.int .i64 a0_0) := (za BK264.out 0).trans rfl
      have hcz27_1 : wc.cell? ⟨gb264, 1, none⟩ = some (.int .i64 a0_1) := (za BK264.out 1).trans rfl
      have hcz27_2 : wc.cell? ⟨gb264, 2, none⟩ = some (.slice A0_2 l0_2.length c0_2) := (za BK264.out 2).trans rfl
      have hfz27_0 := zaa BK264.out 0
      have hfz27_1 := zaa BK264.out 1
      have hfz27_2 := zaa BK264.out 2
      go_wp2_with (first | ((with_reducible refine za8 (f := 43) rfl ?_); refine goesL_ (some 28) rfl rfl Try.func43 (by kernel_rfl) rfl #[.agg #[.int .i64 a0_0, .int .i64 a0_1, .slice A0_2 l0_2.length c0_2], .int .i64 a1] rfl (zE) ?_; (with_reducible refine (zaj.calls kj12 a0_0 a0_1 _ _ l0_2 a1 t267 _ ?side1 ?side2 A24.out).mono ?_); (case side1 => exact zJ (Kd.zay HO_265002.out).2.2); (case side2 => exact (Kd.zay HO_265002.out).2.1); rintro e w28 ⟨rfl, hb⟩; refine ⟨_, rfl, ?_⟩; have n0_ := zA (Kd.za1 (zV HO_265002) hb); have n1_ := zA (zam (g := gb264) (o := .cells #[.int .i64 a0_0, .int .i64 a0_1, .slice A0_2 l0_2.length c0_2] 44 (0, 0)) (zK BK264) hb); have n2_ := zA (zam (g := gb265) (o := .cells #[.int .i64 0, .int .i64 0, .slice none 0 0] 44 (0, 0)) (zK BK265) hb); have n3_ := zA (zab (zB HB) hb); clear HO_265002 BK264 BK265 HB; have HO_265002 := n0_; have BK264 := n1_; have BK265 := n2_; have HB := n3_; clear n0_ n1_ n2_ n3_; (try clear hb); (try clear hb2); (try clear hk); (try clear hi); have hcz29_0 : w28.cell? ⟨gb264, 0, none⟩ = some (.int .i64 a0_0) := (za BK264.out 0).trans rfl; have hcz29_1 : w28.cell? ⟨gb264, 1, none⟩ = some (.int .i64 a0_1) := (za BK264.out 1).trans rfl; have hcz29_2 : w28.cell? ⟨gb264, 2, none⟩ = some (.slice A0_2 l0_2.length c0_2) := (za BK264.out 2).trans rfl; have hfz29_0 := zaa BK264.out 0; have hfz29_1 := zaa BK264.out 1; have hfz29_2 := zaa BK264.out 2; have hcz30_0 : w28.cell? ⟨gb265, 0, none⟩ = some (.int .i64 0) := (za BK265.out 0).trans rfl; have hcz30_1 : w28.cell? ⟨gb265, 1, none⟩ = some (.int .i64 0) := (za BK265.out 1).trans rfl; have hcz30_2 : w28.cell? ⟨gb265, 2, none⟩ = some (.slice none 0 0) := (za BK265.out 2).trans rfl; have hfz30_0 := zaa BK265.out 0; have hfz30_1 := zaa BK265.out 1; have hfz30_2 := zaa BK265.out 2))
      refine bodyPost_ret (zbu rfl _ _ gb265 44 #[.int .i64 a0_0, .int .i64 a0_1, .slice A0_2 l0_2.length c0_2] (0, 0) _ rfl (by (with_reducible repeat (first | refine zao ?_ _ | refine zan ?_ | refine zac ?_ _)); refine zau (cs := #[.int .i64 a0_0, .int .i64 a0_1, .slice none 0 0]) ?_ 2 _ rfl; (with_reducible repeat (first | refine zao ?_ _ | refine zan ?_ | refine zac ?_ _)); refine zau (cs := #[.int .i64 a0_0, .int .i64 0, .slice none 0 0]) ?_ 1 _ rfl; (with_reducible repeat (first | refine zao ?_ _ | refine zan ?_ | refine zac ?_ _)); refine zau (cs := #[.int .i64 0, .int .i64 0, .slice none 0 0]) ?_ 0 _ rfl; (with_reducible repeat (first | refine zao ?_ _ | refine zan ?_ | refine zac ?_ _)); exact BK265.out) Try.underlying44 rfl (by kernel_rfl)) rfl ?_
      exact ⟨_, zW, by (with_reducible repeat (first | apply Kd.zbs | apply Kd.zb8 | apply Kd.V_drew)); exact Kd.zbk (Kd.V_far (p := ⟨gb265, 2, none⟩) (Kd.V_far (p := ⟨gb265, 1, none⟩) (Kd.V_far (p := ⟨gb265, 0, none⟩) (Kd.zbk HO_265002.out (fun k_ hk => (⟨hk, hk.2.2⟩ : _ ∧ k_ ≠ gb265))) (fun _ hk => hk.2) (.int .i64 a0_0)) (fun _ hk => hk.2) (.int .i64 a0_1)) (fun _ hk => hk.2) (.slice A0_2 l0_2.length c0_2)) (fun _ hk => hk.1.1), zB HB⟩
     ·
      rw [if_neg c25] at H
      have c25b0 : (t267 == 8) = false := beq_eq_false_iff_ne.mpr c25
      have c25b1 : (t267 != 8) = true := bne_iff_ne.mpr c25
      replace H := zO H
      obtain ⟨t268, A310, H⟩ := H
      try dsimp only at H
      have A31 := zA A310
      clear A310
      by_cases c32 : t268 = 32
      ·
       rw [if_pos c32] at H
       have c32b0 : (t268 == 32) = true := beq_iff_eq.mpr c32
       have c32b1 : (t268 != 32) = false := bne_eq_false_iff_eq.mpr c32
       clear c32
       simp only [Option.some.injEq, Prod.mk.injEq] at H
       obtain ⟨rfl, rfl, rfl, rfl, rfl⟩ := H
       have hnb33 := NB264_265.out
       have hnc33 := NB265_264.out
       have hcz34_0 : wc.cell? ⟨gb264, 0, none⟩ = some (.int .i64 a0_0) := (za BK264.out 0).trans rfl
       have hcz34_1 : wc.cell? ⟨gb264, 1, none⟩ = some (.int .i64 a0_1) := (za BK264.out 1).trans rfl
       have hcz34_2 : wc.cell? ⟨gb264, 2, none⟩ = some (.slice A0_2 l0_2.length c0_2) := (za BK264.out 2).trans rfl
       have hfz34_0 := zaa BK264.out 0
       have hfz34_1 := zaa BK264.out 1
       have hfz34_2 := zaa BK264.out 2
       go_wp2_with (first | ((with_reducible refine za8 (f := 43) rfl ?_); refine goesL_ (some 28) rfl rfl Try.func43 (by kernel_rfl) rfl #[.agg #[.int .i64 a0_0, .int .i64 a0_1, .slice A0_2 l0_2.length c0_2], .int .i64 a1] rfl (zE) ?_; (with_reducible refine (zaj.calls kj12 a0_0 a0_1 _ _ l0_2 a1 t267 _ ?side1 ?side2 A24.out).mono ?_); (case side1 => exact zJ (Kd.zay HO_265002.out).2.2); (case side2 => exact (Kd.zay HO_265002.out).2.1); rintro e w35 ⟨rfl, hb⟩; refine ⟨_, rfl, ?_⟩; have n0_ := zA (Kd.za1 (zV HO_265002) hb); have n1_ := zA (zam (g := gb264) (o := .cells #[.int .i64 a0_0, .int .i64 a0_1, .slice A0_2 l0_2.length c0_2] 44 (0, 0)) (zK BK264) hb); have n2_ := zA (zam (g := gb265) (o := .cells #[.int .i64 0, .int .i64 0, .slice none 0 0] 44 (0, 0)) (zK BK265) hb); have n3_ := zA (zab (zB HB) hb); clear HO_265002 BK264 BK265 HB; have HO_265002 := n0_; have BK264 := n1_; have BK265 := n2_; have HB := n3_; clear n0_ n1_ n2_ n3_; (try clear hb); (try clear hb2); (try clear hk); (try clear hi); have hcz36_0 : w35.cell? ⟨gb264, 0, none⟩ = some (.int .i64 a0_0) := (za BK264.out 0).trans rfl; have hcz36_1 : w35.cell? ⟨gb264, 1, none⟩ = some (.int .i64 a0_1) := (za BK264.out 1).trans rfl; have hcz36_2 : w35.cell? ⟨gb264, 2, none⟩ = some (.slice A0_2 l0_2.length c0_2) := (za BK264.out 2).trans rfl; have hfz36_0 := zaa BK264.out 0; have hfz36_1 := zaa BK264.out 1; have hfz36_2 := zaa BK264.out 2) | ((with_reducible refine za8 (f := 56) rfl ?_); refine goesL_ (some 34) rfl rfl Try.func56 (by kernel_rfl) rfl #[.agg #[.int .i64 a0_0, .int .i64 a0_1, .slice A0_2 l0_2.length c0_2], .int .i64 a1] rfl (zE) ?_; (with_reducible refine (zaw.calls kj12 a0_0 a0_1 _ _ l0_2 a1 t268 _ ?side1 ?side2 A31.out).mono ?_); (case side1 => exact zJ (Kd.zay HO_265002.out).2.2); (case side2 => exact (Kd.zay HO_265002.out).2.1); rintro e w37 ⟨rfl, hb⟩; refine ⟨_, rfl, ?_⟩; have n0_ := zA (Kd.za1 (zV HO_265002) hb); have n1_ := zA (zam (g := gb264) (o := .cells #[.int .i64 a0_0, .int .i64 a0_1, .slice A0_2 l0_2.length c0_2] 44 (0, 0)) (zK BK264) hb); have n2_ := zA (zam (g := gb265) (o := .cells #[.int .i64 0, .int .i64 0, .slice none 0 0] 44 (0, 0)) (zK BK265) hb); have n3_ := zA (zab (zB HB) hb); clear HO_265002 BK264 BK265 HB; have HO_265002 := n0_; have BK264 := n1_; have BK265 := n2_; have HB := n3_; clear n0_ n1_ n2_ n3_; (try clear hb); (try clear hb2); (try clear hk); (try clear hi); have hcz38_0 : w37.cell? ⟨gb264, 0, none⟩ = some (.int .i64 a0_0) := (za BK264.out 0).trans rfl; have hcz38_1 : w37.cell? ⟨gb264, 1, none⟩ = some (.int .i64 a0_1) := (za BK264.out 1).trans rfl; have hcz38_2 : w37.cell? ⟨gb264, 2, none⟩ = some (.slice A0_2 l0_2.length c0_2) := (za BK264.out 2).trans rfl; have hfz38_0 := zaa BK264.out 0; have hfz38_1 := zaa BK264.out 1; have hfz38_2 := zaa BK264.out 2; have hcz39_0 : w37.cell? ⟨gb265, 0, none⟩ = some (.int .i64 0) := (za BK265.out 0).trans rfl; have hcz39_1 : w37.cell? ⟨gb265, 1, none⟩ = some (.int .i64 0) := (za BK265.out 1).trans rfl; have hcz39_2 : w37.cell? ⟨gb265, 2, none⟩ = some (.slice none 0 0) := (za BK265.out 2).trans rfl; have hfz39_0 := zaa BK265.out 0; have hfz39_1 := zaa BK265.out 1; have hfz39_2 := zaa BK265.out 2))
       refine bodyPost_ret (zbu rfl _ _ gb265 44 #[.int .i64 a0_0, .int .i64 a0_1, .slice A0_2 l0_2.length c0_2] (0, 0) _ rfl (by (with_reducible repeat (first | refine zao ?_ _ | refine zan ?_ | refine zac ?_ _)); refine zau (cs := #[.int .i64 a0_0, .int .i64 a0_1, .slice none 0 0]) ?_ 2 _ rfl; (with_reducible repeat (first | refine zao ?_ _ | refine zan ?_ | refine zac ?_ _)); refine zau (cs := #[.int .i64 a0_0, .int .i64 0, .slice none 0 0]) ?_ 1 _ rfl; (with_reducible repeat (first | refine zao ?_ _ | refine zan ?_ | refine zac ?_ _)); refine zau (cs := #[.int .i64 0, .int .i64 0, .slice none 0 0]) ?_ 0 _ rfl; (with_reducible repeat (first | refine zao ?_ _ | refine zan ?_ | refine zac ?_ _)); exact BK265.out) Try.underlying44 rfl (by kernel_rfl)) rfl ?_
       exact ⟨_, zW, by (with_reducible repeat (first | apply Kd.zbs | apply Kd.zb8 | apply Kd.V_drew)); exact Kd.zbk (Kd.V_far (p := ⟨gb265, 2, none⟩) (Kd.V_far (p := ⟨gb265, 1, none⟩) (Kd.V_far (p := ⟨gb265, 0, none⟩) (Kd.zbk HO_265002.out (fun k_ hk => (⟨hk, hk.2.2⟩ : _ ∧ k_ ≠ gb265))) (fun _ hk => hk.2) (.int .i64 a0_0)) (fun _ hk => hk.2) (.int .i64 a0_1)) (fun _ hk => hk.2) (.slice A0_2 l0_2.length c0_2)) (fun _ hk => hk.1.1), zB HB⟩
      ·
       rw [if_neg c32] at H
       have c32b0 : (t268 == 32) = false := beq_eq_false_iff_ne.mpr c32
       have c32b1 : (t268 != 32) = true := bne_iff_ne.mpr c32
       by_cases c40 : (l0_2.length : Int) = a0_0
       ·
        rw [if_pos c40] at H
        have c40b0 : ((l0_2.length : Int) == a0_0) = true := beq_iff_eq.mpr c40
        have c40b1 : ((l0_2.length : Int) != a0_0) = false := bne_eq_false_iff_eq.mpr c40
        clear c40
        simp only [Option.some.injEq, Prod.mk.injEq] at H
        obtain ⟨rfl, rfl, rfl, rfl, rfl⟩ := H
        have hnb41 := NB264_265.out
        have hnc41 := NB265_264.out
        have hcz42_0 : wc.cell? ⟨gb264, 0, none⟩ = some (.int .i64 a0_0) := (za BK264.out 0).trans rfl
        have hcz42_1 : wc.cell? ⟨gb264, 1, none⟩ = some (.int .i64 a0_1) := (za BK264.out 1).trans rfl
        have hcz42_2 : wc.cell? ⟨gb264, 2, none⟩ = some (.slice A0_2 l0_2.length c0_2) := (za BK264.out 2).trans rfl
        have hfz42_0 := zaa BK264.out 0
        have hfz42_1 := zaa BK264.out 1
        have hfz42_2 := zaa BK264.out 2
        go_wp2_with (first | ((with_reducible refine za8 (f := 43) rfl ?_); refine goesL_ (some 28) rfl rfl Try.func43 (by kernel_rfl) rfl #[.agg #[.int .i64 a0_0, .int .i64 a0_1, .slice A0_2 l0_2.length c0_2], .int .i64 a1] rfl (zE) ?_; (with_reducible refine (zaj.calls kj12 a0_0 a0_1 _ _ l0_2 a1 t267 _ ?side1 ?side2 A24.out).mono ?_); (case side1 => exact zJ (Kd.zay HO_265002.out).2.2); (case side2 => exact (Kd.zay HO_265002.out).2.1); rintro e w43 ⟨rfl, hb⟩; refine ⟨_, rfl, ?_⟩; have n0_ := zA (Kd.za1 (zV HO_265002) hb); have n1_ := zA (zam (g := gb264) (o := .cells #[.int .i64 a0_0, .int .i64 a0_1, .slice A0_2 l0_2.length c0_2] 44 (0, 0)) (zK BK264) hb); have n2_ := zA (zam (g := gb265) (o := .cells #[.int .i64 0, .int .i64 0, .slice none 0 0] 44 (0, 0)) (zK BK265) hb); have n3_ := zA (zab (zB HB) hb); clear HO_265002 BK264 BK265 HB; have HO_265002 := n0_; have BK264 := n1_; have BK265 := n2_; have HB := n3_; clear n0_ n1_ n2_ n3_; (try clear hb); (try clear hb2); (try clear hk); (try clear hi); have hcz44_0 : w43.cell? ⟨gb264, 0, none⟩ = some (.int .i64 a0_0) := (za BK264.out 0).trans rfl; have hcz44_1 : w43.cell? ⟨gb264, 1, none⟩ = some (.int .i64 a0_1) := (za BK264.out 1).trans rfl; have hcz44_2 : w43.cell? ⟨gb264, 2, none⟩ = some (.slice A0_2 l0_2.length c0_2) := (za BK264.out 2).trans rfl; have hfz44_0 := zaa BK264.out 0; have hfz44_1 := zaa BK264.out 1; have hfz44_2 := zaa BK264.out 2) | ((with_reducible refine za8 (f := 56) rfl ?_); refine goesL_ (some 34) rfl rfl Try.func56 (by kernel_rfl) rfl #[.agg #[.int .i64 a0_0, .int .i64 a0_1, .slice A0_2 l0_2.length c0_2], .int .i64 a1] rfl (zE) ?_; (with_reducible refine (zaw.calls kj12 a0_0 a0_1 _ _ l0_2 a1 t268 _ ?side1 ?side2 A31.out).mono ?_); (case side1 => exact zJ (Kd.zay HO_265002.out).2.2); (case side2 => exact (Kd.zay HO_265002.out).2.1); rintro e w45 ⟨rfl, hb⟩; refine ⟨_, rfl, ?_⟩; have n0_ := zA (Kd.za1 (zV HO_265002) hb); have n1_ := zA (zam (g := gb264) (o := .cells #[.int .i64 a0_0, .int .i64 a0_1, .slice A0_2 l0_2.length c0_2] 44 (0, 0)) (zK BK264) hb); have n2_ := zA (zam (g := gb265) (o := .cells #[.int .i64 0, .int .i64 0, .slice none 0 0] 44 (0, 0)) (zK BK265) hb); have n3_ := zA (zab (zB HB) hb); clear HO_265002 BK264 BK265 HB; have HO_265002 := n0_; have BK264 := n1_; have BK265 := n2_; have HB := n3_; clear n0_ n1_ n2_ n3_; (try clear hb); (try clear hb2); (try clear hk); (try clear hi); have hcz46_0 : w45.cell? ⟨gb264, 0, none⟩ = some (.int .i64 a0_0) := (za BK264.out 0).trans rfl; have hcz46_1 : w45.cell? ⟨gb264, 1, none⟩ = some (.int .i64 a0_1) := (za BK264.out 1).trans rfl; have hcz46_2 : w45.cell? ⟨gb264, 2, none⟩ = some (.slice A0_2 l0_2.length c0_2) := (za BK264.out 2).trans rfl; have hfz46_0 := zaa BK264.out 0; have hfz46_1 := zaa BK264.out 1; have hfz46_2 := zaa BK264.out 2; have hcz47_0 : w45.cell? ⟨gb265, 0, none⟩ = some (.int .i64 0) := (za BK265.out 0).trans rfl; have hcz47_1 : w45.cell? ⟨gb265, 1, none⟩ = some (.int .i64 0) := (za BK265.out 1).trans rfl; have hcz47_2 : w45.cell? ⟨gb265, 2, none⟩ = some (.slice none 0 0) := (za BK265.out 2).trans rfl; have hfz47_0 := zaa BK265.out 0; have hfz47_1 := zaa BK265.out 1; have hfz47_2 := zaa BK265.out 2))
        refine bodyPost_ret (zbu rfl _ _ gb265 44 #[.int .i64 a0_0, .int .i64 a0_1, .slice A0_2 l0_2.length c0_2] (0, 0) _ rfl (by (with_reducible repeat (first | refine zao ?_ _ | refine zan ?_ | refine zac ?_ _)); refine zau (cs := #[.int .i64 a0_0, .int .i64 a0_1, .slice none 0 0]) ?_ 2 _ rfl; (with_reducible repeat (first | refine zao ?_ _ | refine zan ?_ | refine zac ?_ _)); refine zau (cs := #[.int .i64 a0_0, .int .i64 0, .slice none 0 0]) ?_ 1 _ rfl; (with_reducible repeat (first | refine zao ?_ _ | refine zan ?_ | refine zac ?_ _)); refine zau (cs := #[.int .i64 0, .int .i64 0, .slice none 0 0]) ?_ 0 _ rfl; (with_reducible repeat (first | refine zao ?_ _ | refine zan ?_ | refine zac ?_ _)); exact BK265.out) Try.underlying44 rfl (by kernel_rfl)) rfl ?_
        exact ⟨_, zW, by (with_reducible repeat (first | apply Kd.zbs | apply Kd.zb8 | apply Kd.V_drew)); exact Kd.zbk (Kd.V_far (p := ⟨gb265, 2, none⟩) (Kd.V_far (p := ⟨gb265, 1, none⟩) (Kd.V_far (p := ⟨gb265, 0, none⟩) (Kd.zbk HO_265002.out (fun k_ hk => (⟨hk, hk.2.2⟩ : _ ∧ k_ ≠ gb265))) (fun _ hk => hk.2) (.int .i64 a0_0)) (fun _ hk => hk.2) (.int .i64 a0_1)) (fun _ hk => hk.2) (.slice A0_2 l0_2.length c0_2)) (fun _ hk => hk.1.1), zB HB⟩
       ·
        rw [if_neg c40] at H
        have c40b0 : ((l0_2.length : Int) == a0_0) = false := beq_eq_false_iff_ne.mpr c40
        have c40b1 : ((l0_2.length : Int) != a0_0) = true := bne_iff_ne.mpr c40
        replace H := zO H
        obtain ⟨⟨t269, t270, t271, t274⟩, A480, H⟩ := H
        try dsimp only at H
        have A48 := zA A480
        clear A480
        simp only [Option.some.injEq, Prod.mk.injEq] at H
        obtain ⟨rfl, rfl, rfl, rfl, rfl⟩ := H
        have hnb49 := NB264_265.out
        have hnc49 := NB265_264.out
        have hcz50_0 : wc.cell? ⟨gb264, 0, none⟩ = some (.int .i64 a0_0) := (za BK264.out 0).trans rfl
        have hcz50_1 : wc.cell? ⟨gb264, 1, none⟩ = some (.int .i64 a0_1) := (za BK264.out 1).trans rfl
        have hcz50_2 : wc.cell? ⟨gb264, 2, none⟩ = some (.slice A0_2 l0_2.length c0_2) := (za BK264.out 2).trans rfl
        have hfz50_0 := zaa BK264.out 0
        have hfz50_1 := zaa BK264.out 1
        have hfz50_2 := zaa BK264.out 2
        go_wp2_with (first | ((with_reducible refine za8 (f := 43) rfl ?_); refine goesL_ (some 28) rfl rfl Try.func43 (by kernel_rfl) rfl #[.agg #[.int .i64 a0_0, .int .i64 a0_1, .slice A0_2 l0_2.length c0_2], .int .i64 a1] rfl (zE) ?_; (with_reducible refine (zaj.calls kj12 a0_0 a0_1 _ _ l0_2 a1 t267 _ ?side1 ?side2 A24.out).mono ?_); (case side1 => exact zJ (Kd.zay HO_265002.out).2.2); (case side2 => exact (Kd.zay HO_265002.out).2.1); rintro e w51 ⟨rfl, hb⟩; refine ⟨_, rfl, ?_⟩; have n0_ := zA (Kd.za1 (zV HO_265002) hb); have n1_ := zA (zam (g := gb264) (o := .cells #[.int .i64 a0_0, .int .i64 a0_1, .slice A0_2 l0_2.length c0_2] 44 (0, 0)) (zK BK264) hb); have n2_ := zA (zam (g := gb265) (o := .cells #[.int .i64 0, .int .i64 0, .slice none 0 0] 44 (0, 0)) (zK BK265) hb); have n3_ := zA (zab (zB HB) hb); clear HO_265002 BK264 BK265 HB; have HO_265002 := n0_; have BK264 := n1_; have BK265 := n2_; have HB := n3_; clear n0_ n1_ n2_ n3_; (try clear hb); (try clear hb2); (try clear hk); (try clear hi); have hcz52_0 : w51.cell? ⟨gb264, 0, none⟩ = some (.int .i64 a0_0) := (za BK264.out 0).trans rfl; have hcz52_1 : w51.cell? ⟨gb264, 1, none⟩ = some (.int .i64 a0_1) := (za BK264.out 1).trans rfl; have hcz52_2 : w51.cell? ⟨gb264, 2, none⟩ = some (.slice A0_2 l0_2.length c0_2) := (za BK264.out 2).trans rfl; have hfz52_0 := zaa BK264.out 0; have hfz52_1 := zaa BK264.out 1; have hfz52_2 := zaa BK264.out 2) | ((with_reducible refine za8 (f := 56) rfl ?_); refine goesL_ (some 34) rfl rfl Try.func56 (by kernel_rfl) rfl #[.agg #[.int .i64 a0_0, .int .i64 a0_1, .slice A0_2 l0_2.length c0_2], .int .i64 a1] rfl (zE) ?_; (with_reducible refine (zaw.calls kj12 a0_0 a0_1 _ _ l0_2 a1 t268 _ ?side1 ?side2 A31.out).mono ?_); (case side1 => exact zJ (Kd.zay HO_265002.out).2.2); (case side2 => exact (Kd.zay HO_265002.out).2.1); rintro e w53 ⟨rfl, hb⟩; refine ⟨_, rfl, ?_⟩; have n0_ := zA (Kd.za1 (zV HO_265002) hb); have n1_ := zA (zam (g := gb264) (o := .cells #[.int .i64 a0_0, .int .i64 a0_1, .slice A0_2 l0_2.length c0_2] 44 (0, 0)) (zK BK264) hb); have n2_ := zA (zam (g := gb265) (o := .cells #[.int .i64 0, .int .i64 0, .slice none 0 0] 44 (0, 0)) (zK BK265) hb); have n3_ := zA (zab (zB HB) hb); clear HO_265002 BK264 BK265 HB; have HO_265002 := n0_; have BK264 := n1_; have BK265 := n2_; have HB := n3_; clear n0_ n1_ n2_ n3_; (try clear hb); (try clear hb2); (try clear hk); (try clear hi); have hcz54_0 : w53.cell? ⟨gb264, 0, none⟩ = some (.int .i64 a0_0) := (za BK264.out 0).trans rfl; have hcz54_1 : w53.cell? ⟨gb264, 1, none⟩ = some (.int .i64 a0_1) := (za BK264.out 1).trans rfl; have hcz54_2 : w53.cell? ⟨gb264, 2, none⟩ = some (.slice A0_2 l0_2.length c0_2) := (za BK264.out 2).trans rfl; have hfz54_0 := zaa BK264.out 0; have hfz54_1 := zaa BK264.out 1; have hfz54_2 := zaa BK264.out 2) | ((with_reducible refine za8 (f := 54) rfl ?_); refine goesL_ (some 49) rfl rfl Try.func54 (by kernel_rfl) rfl #[.agg #[.int .i64 a0_0, .int .i64 a0_1, .slice A0_2 l0_2.length c0_2], .int .i64 a1, .int .i64 a2] rfl (zE) ?_; (with_reducible refine (zax.calls a0_0 a0_1 _ _ l0_2 a1 a2 t269 t270 t271 t274 _ ?side1 ?side2 A48.out).mono ?_); (case side1 => exact zJ (Kd.zay HO_265002.out).2.2); (case side2 => exact (Kd.zay HO_265002.out).2.1); rintro e w55 ⟨v272, rfl, ho0, hb⟩; refine ⟨_, rfl, ?_⟩; have n0_ := zA (Kd.V_elder' (zV HO_265002) (Kd.R_base ho0) hb); have n1_ := zA (Kd.R_lower (Kd.R_newM (M := fun k_ => (w.heap.size ≤ k_)) ho0 (zaf (zB HB)) (fun k_ h_ => h_)) (zaf (zB HB))); have n2_ := zA (zam (g := gb264) (o := .cells #[.int .i64 a0_0, .int .i64 a0_1, .slice A0_2 l0_2.length c0_2] 44 (0, 0)) (zK BK264) hb); have n3_ := zA (zam (g := gb265) (o := .cells #[.int .i64 0, .int .i64 0, .slice none 0 0] 44 (0, 0)) (zK BK265) hb); have n4_ := zA (zab (zB HB) hb); clear HO_265002 BK264 BK265 HB; have HO_265002 := n0_; have HO273 := n1_; have BK264 := n2_; have BK265 := n3_; have HB := n4_; clear n0_ n1_ n2_ n3_ n4_; (try clear hb); (try clear hb2); (try clear hk); (try clear hi); (try clear ho0)) | ((with_reducible refine za7 (N := 9) rfl ?_); (try (refine gate_guard (by rfl) ?_; dsimp only)); refine za3 ?hg (N := 9) ?hd (cs := #[.int .i64 0, .int .i64 0, .slice none 0 0]) (t := 44) ?hr ?_; (case hd => rfl); (case hg => rfl); (case hr => first | (go_simp; done) | (go_simp; rfl)); intro gb275 hg w56 hbox hb; have n0_ := zA (Kd.za1 (Kd.zbl (zV HO_265002) gb275 (Nat.le_of_eq hg.symm)) hb); have n1_ := zA (Kd.zca (zR HO273) hb); have n2_ := zA (zam (g := gb264) (o := .cells #[.int .i64 a0_0, .int .i64 a0_1, .slice A0_2 l0_2.length c0_2] 44 (0, 0)) (zK BK264) hb); have n3_ := zA (zam (g := gb265) (o := .cells #[.int .i64 0, .int .i64 0, .slice none 0 0] 44 (0, 0)) (zK BK265) hb); have n4_ := zA (zab (zB HB) hb); have n5_ := zA (hbox); have n6_ := zA ((by rw [hg]; exact (zaf (zB HB)) : w.heap.size ≤ gb275)); have n7_ := zA ((by rw [hg]; exact (zaf (zB HB)) : w.heap.size ≤ gb275)); have n8_ := zA ((by rw [hg]; exact Nat.ne_of_lt (zar (g := gb264) (o := .cells #[.int .i64 a0_0, .int .i64 a0_1, .slice A0_2 l0_2.length c0_2] 44 (0, 0)) (zK BK264)) : gb264 ≠ gb275)); have n9_ := zA ((by rw [hg]; exact Nat.ne_of_gt (zar (g := gb264) (o := .cells #[.int .i64 a0_0, .int .i64 a0_1, .slice A0_2 l0_2.length c0_2] 44 (0, 0)) (zK BK264)) : gb275 ≠ gb264)); have n10_ := zA ((by rw [hg]; exact Nat.ne_of_lt (zar (g := gb265) (o := .cells #[.int .i64 0, .int .i64 0, .slice none 0 0] 44 (0, 0)) (zK BK265)) : gb265 ≠ gb275)); have n11_ := zA ((by rw [hg]; exact Nat.ne_of_gt (zar (g := gb265) (o := .cells #[.int .i64 0, .int .i64 0, .slice none 0 0] 44 (0, 0)) (zK BK265)) : gb275 ≠ gb265)); clear HO_265002 HO273 BK264 BK265 HB; have HO_265002 := n0_; have HO273 := n1_; have BK264 := n2_; have BK265 := n3_; have HB := n4_; have BK275 := n5_; have GW275 := n6_; have GE275 := n7_; have NB264_275 := n8_; have NB275_264 := n9_; have NB265_275 := n10_; have NB275_265 := n11_; clear n0_ n1_ n2_ n3_ n4_ n5_ n6_ n7_ n8_ n9_ n10_ n11_ hb hbox hg; have hnb57 := NB275_264.out; have hnc57 := NB264_275.out; have hnb58 := NB275_265.out; have hnc58 := NB265_275.out; have hcz59_0 : w56.cell? ⟨gb275, 0, none⟩ = some (.int .i64 0) := (za BK275.out 0).trans rfl; have hcz59_1 : w56.cell? ⟨gb275, 1, none⟩ = some (.int .i64 0) := (za BK275.out 1).trans rfl; have hcz59_2 : w56.cell? ⟨gb275, 2, none⟩ = some (.slice none 0 0) := (za BK275.out 2).trans rfl; have hfz59_0 := zaa BK275.out 0; have hfz59_1 := zaa BK275.out 1; have hfz59_2 := zaa BK275.out 2; obtain ⟨Ao60, co60, eo60⟩ := Kd.zbv HO273.out; subst eo60; have hcz61_0 : w56.cell? ⟨gb265, 0, none⟩ = some (.int .i64 0) := (za BK265.out 0).trans rfl; have hcz61_1 : w56.cell? ⟨gb265, 1, none⟩ = some (.int .i64 0) := (za BK265.out 1).trans rfl; have hcz61_2 : w56.cell? ⟨gb265, 2, none⟩ = some (.slice none 0 0) := (za BK265.out 2).trans rfl; have hfz61_0 := zaa BK265.out 0; have hfz61_1 := zaa BK265.out 1; have hfz61_2 := zaa BK265.out 2))
        refine bodyPost_ret (zbu rfl _ _ gb265 44 #[.int .i64 t269, .int .i64 t270, .slice Ao60 t271.length co60] (0, 0) _ rfl (by (with_reducible repeat (first | refine zao ?_ _ | refine zan ?_ | refine zac ?_ _)); refine zau (cs := #[.int .i64 t269, .int .i64 t270, .slice none 0 0]) ?_ 2 _ rfl; (with_reducible repeat (first | refine zao ?_ _ | refine zan ?_ | refine zac ?_ _)); refine zau (cs := #[.int .i64 t269, .int .i64 0, .slice none 0 0]) ?_ 1 _ rfl; (with_reducible repeat (first | refine zao ?_ _ | refine zan ?_ | refine zac ?_ _)); refine zau (cs := #[.int .i64 0, .int .i64 0, .slice none 0 0]) ?_ 0 _ rfl; (with_reducible repeat (first | refine zao ?_ _ | refine zan ?_ | refine zac ?_ _)); refine blk_far ?_ NB265_275.out _; (with_reducible repeat (first | refine zao ?_ _ | refine zan ?_ | refine zac ?_ _)); refine blk_far ?_ NB265_275.out _; (with_reducible repeat (first | refine zao ?_ _ | refine zan ?_ | refine zac ?_ _)); refine blk_far ?_ NB265_275.out _; (with_reducible repeat (first | refine zao ?_ _ | refine zan ?_ | refine zac ?_ _)); exact BK265.out) Try.underlying44 rfl (by kernel_rfl)) rfl ?_
        exact ⟨_, zW, Kd.zbk (Kd.R_V (by (with_reducible repeat (first | apply Kd.zcb | apply Kd.zb9 | apply Kd.R_drew)); exact Kd.zbn (Kd.R_far (p := ⟨gb265, 2, none⟩) (Kd.R_far (p := ⟨gb265, 1, none⟩) (Kd.R_far (p := ⟨gb265, 0, none⟩) (Kd.R_far (p := ⟨gb275, 2, none⟩) (Kd.R_far (p := ⟨gb275, 1, none⟩) (Kd.R_far (p := ⟨gb275, 0, none⟩) (Kd.R_types (Kd.R_types HO273.out BK275.out (by decide)) BK265.out (by decide)) (fun _ hk => hk.1.2) (.int .i64 t269)) (fun _ hk => hk.1.2) (.int .i64 t270)) (fun _ hk => hk.1.2) (.slice Ao60 t271.length co60)) (fun _ hk => hk.2) (.int .i64 t269)) (fun _ hk => hk.2) (.int .i64 t270)) (fun _ hk => hk.2) (.slice Ao60 t271.length co60)) (fun _ hk => hk.1.1.1))) (fun k_ hk => by first | exact ⟨(.inr (hk.1)), hk.2⟩ | exact (.inr (hk))), zB HB⟩
def za4.f (k : Nat) (a0_0 : Int) (a0_1 : Int) (l0_2 : List (S84)) (a1 : Int) : Option (Int × Int × (List (S84)) × Int) := (zae.f k a0_0 a0_1 l0_2 a1).bind fun t279 => (if t279 < 0 then (some (a0_0, a0_1, l0_2, 4)) else (if 0 ≤ t279 then (if t279 < (l0_2.length : Int) then (if ((rd_T84 l0_2 t279).f1) < 0 then (some (a0_0, a0_1, l0_2, 15)) else ((zaw.f k a0_0 a0_1 l0_2 a1).bind fun t281 => (if t281 > 0 then (some (a0_0, a0_1, l0_2, 11)) else ((some (([] : List (S84)) : List (S84))).bind fun y282 => (if t279 ≤ (l0_2.length : Int) then ((some (l0_2.take (t279 : Int).toNat : List (S84))).bind fun y285 => (if y282.length + y285.length < 3518437208883 then ((some (y282 ++ y285 : List (S84))).bind fun y290 => (if 0 ≤ (wrap64 (t279 + 1)) then (if (wrap64 (t279 + 1)) ≤ (l0_2.length : Int) then ((some (l0_2.drop ((wrap64 (t279 + 1)) : Int).toNat : List (S84))).bind fun y293 => (if y290.length + y293.length < 3518437208883 then (some (a0_0, a0_1, (y290 ++ y293), 0)) else (none))) else (none)) else (none))) else (none))) else (none)))))) else (none)) else (none)))
def za4.T8 : Bool × List (List Nat × List Nat) := (true, [([], []), ([0], [0]), ([], []), ([2], [2]), ([], []), ([], []), ([5], [5]), ([], []), ([6, 7], [6, 7]), ([4, 8], [4, 8]), ([], []), ([10], [10]), ([], []), ([12], [12]), ([11, 13], [11, 13]), ([9, 14, 9], [9, 14]), ([1, 3, 15], [1, 3, 15]), ([16, 15, 0, 1, 2, 3, 4, 5, 6, 7, 8, 9, 10, 11, 12, 13, 14, 15, 16], [16]), ([17, 0, 1, 2, 3, 4, 5, 6, 7, 8, 9, 10, 11, 12, 13, 14, 15, 16, 17], [])])
def za4.B8 : List Nat := [0, 1, 0, 4, 0, 0, 32, 0, 224, 496, 0, 1024, 0, 4096, 15360, 32752, 65535, 131071, 262143]
theorem za4.tab8 : rtab .any (opsOf Try.f35 8) = za4.T8 := by kernel_rfl
theorem za4.bits8 : waitsOk za4.T8.2 za4.B8 = true := by kernel_rfl
theorem za4.calls (k : Nat) (a0_0 : Int) (a0_1 : Int) (P0_2_ : Nat → Prop) (A0_2 : Option Addr) (c0_2 : Nat) (l0_2 : List (S84)) (a1 : Int) (r1 : Int) (r2 : Int) (r3 : List (S84)) (r4 : Int) (w : World) (hs0_2 : Kd.V k84 84 w w.heap.size (fun k_ => P0_2_ k_) (.slice A0_2 l0_2.length c0_2) l0_2) (h : za4.f k a0_0 a0_1 l0_2 a1 = some (r1, r2, r3, r4)) :
  Calls Try.prog 35 #[.agg #[.int .i64 a0_0, .int .i64 a0_1, .slice A0_2 l0_2.length c0_2], .int .i64 a1] w fun e w' => ∃ v2_ : Value, e = .returned (.tuple #[.agg #[.int .i64 r1, .int .i64 r2, v2_], .int .i64 r4]) ∧ Kd.V k84 84 w' w.heap.size (fun k_ => (P0_2_ k_ ∨ w.heap.size ≤ k_)) v2_ r3 ∧ Below w.heap.size w w' := by
 have hu44 := Try.underlying44
 have HO0_2 := zA (show Kd.V k84 84 w w.heap.size (fun k_ => (P0_2_ k_ ∨ w.heap.size ≤ k_)) (.slice A0_2 l0_2.length c0_2) l0_2 from Kd.zbk hs0_2 (fun k_ hk => .inl hk))
 have HB := zA (Below.refl w.heap.size w)
 have H : ((zae.f k a0_0 a0_1 l0_2 a1).bind fun t279 => (if t279 < 0 then (some (a0_0, a0_1, l0_2, 4)) else (if 0 ≤ t279 then (if t279 < (l0_2.length : Int) then (if ((rd_T84 l0_2 t279).f1) < 0 then (some (a0_0, a0_1, l0_2, 15)) else ((zaw.f k a0_0 a0_1 l0_2 a1).bind fun t281 => (if t281 > 0 then (some (a0_0, a0_1, l0_2, 11)) else ((some (([] : List (S84)) : List (S84))).bind fun y282 => (if t279 ≤ (l0_2.length : Int) then ((some (l0_2.take (t279 : Int).toNat : List (S84))).bind fun y285 => (if y282.length + y285.length < 3518437208883 then ((some (y282 ++ y285 : List (S84))).bind fun y290 => (if 0 ≤ (wrap64 (t279 + 1)) then (if (wrap64 (t279 + 1)) ≤ (l0_2.length : Int) then ((some (l0_2.drop ((wrap64 (t279 + 1)) : Int).toNat : List (S84))).bind fun y293 => (if y290.length + y293.length < 3518437208883 then (some (a0_0, a0_1, (y290 ++ y293), 0)) else (none))) else (none)) else (none))) else (none))) else (none)))))) else (none)) else (none)))) = some (r1, r2, r3, r4) := h
 clear h
 replace H := zO H
 obtain ⟨t279, A30, H⟩ := H
 try dsimp only at H
 have A3 := zA A30
 clear A30
 by_cases c4 : t279 < 0
 ·
  rw [if_pos c4] at H
  have c4b0 : decide (t279 < 0) = true := decide_eq_true c4
  clear c4
  simp only [Option.some.injEq, Prod.mk.injEq] at H
  obtain ⟨rfl, rfl, rfl, rfl⟩ := H
  go_enter Try.func35, Try.ntmps35
  go_wp2_with (first | ((with_reducible refine za7 (N := 2) rfl ?_); refine za3 ?hg (N := 2) ?hd (cs := #[.int .i64 a0_0, .int .i64 a0_1, .slice A0_2 l0_2.length c0_2]) (t := 44) ?hr ?_; (case hd => rfl); (case hg => rfl); (case hr => first | (go_simp; done) | (go_simp; rfl)); intro gb277 hg w5 hbox hb; have n0_ := zA (Kd.za1 (Kd.zbl (zV HO0_2) gb277 (Nat.le_of_eq hg.symm)) hb); have n1_ := zA (zab (zB HB) hb); have n2_ := zA (hbox); have n3_ := zA ((by rw [hg]; exact (zaf (zB HB)) : w.heap.size ≤ gb277)); have n4_ := zA ((by rw [hg]; exact (zaf (zB HB)) : w.heap.size ≤ gb277)); clear HO0_2 HB; have HO0_2 := n0_; have HB := n1_; have BK277 := n2_; have GW277 := n3_; have GE277 := n4_; clear n0_ n1_ n2_ n3_ n4_ hb hbox hg) | ((with_reducible refine za7 (N := 4) rfl ?_); refine za3 ?hg (N := 4) ?hd (cs := #[.int .i64 0, .int .i64 0, .slice none 0 0]) (t := 44) ?hr ?_; (case hd => rfl); (case hg => rfl); (case hr => first | (go_simp; done) | (go_simp; rfl)); intro gb278 hg w6 hbox hb; have n0_ := zA (Kd.za1 (Kd.zbl (zV HO0_2) gb278 (Nat.le_of_eq hg.symm)) hb); have n1_ := zA (zam (g := gb277) (o := .cells #[.int .i64 a0_0, .int .i64 a0_1, .slice A0_2 l0_2.length c0_2] 44 (0, 0)) (zK BK277) hb); have n2_ := zA (zab (zB HB) hb); have n3_ := zA (hbox); have n4_ := zA ((by rw [hg]; exact (zaf (zB HB)) : w.heap.size ≤ gb278)); have n5_ := zA ((by rw [hg]; exact (zaf (zB HB)) : w.heap.size ≤ gb278)); have n6_ := zA ((by rw [hg]; exact Nat.ne_of_lt (zar (g := gb277) (o := .cells #[.int .i64 a0_0, .int .i64 a0_1, .slice A0_2 l0_2.length c0_2] 44 (0, 0)) (zK BK277)) : gb277 ≠ gb278)); have n7_ := zA ((by rw [hg]; exact Nat.ne_of_gt (zar (g := gb277) (o := .cells #[.int .i64 a0_0, .int .i64 a0_1, .slice A0_2 l0_2.length c0_2] 44 (0, 0)) (zK BK277)) : gb278 ≠ gb277)); clear HO0_2 BK277 HB; have HO0_2 := n0_; have BK277 := n1_; have HB := n2_; have BK278 := n3_; have GW278 := n4_; have GE278 := n5_; have NB277_278 := n6_; have NB278_277 := n7_; clear n0_ n1_ n2_ n3_ n4_ n5_ n6_ n7_ hb hbox hg; have hnb7 := NB277_278.out; have hnc7 := NB278_277.out; have hcz8_0 : w6.cell? ⟨gb277, 0, none⟩ = some (.int .i64 a0_0) := (za BK277.out 0).trans rfl; have hcz8_1 : w6.cell? ⟨gb277, 1, none⟩ = some (.int .i64 a0_1) := (za BK277.out 1).trans rfl; have hcz8_2 : w6.cell? ⟨gb277, 2, none⟩ = some (.slice A0_2 l0_2.length c0_2) := (za BK277.out 2).trans rfl; have hfz8_0 := zaa BK277.out 0; have hfz8_1 := zaa BK277.out 1; have hfz8_2 := zaa BK277.out 2) | ((with_reducible refine za8 (f := 55) rfl ?_); refine goesL_ (some 9) rfl rfl Try.func55 (by kernel_rfl) rfl #[.agg #[.int .i64 a0_0, .int .i64 a0_1, .slice A0_2 l0_2.length c0_2], .int .i64 a1] rfl (zE) ?_; (with_reducible refine (zae.calls k a0_0 a0_1 _ _ l0_2 a1 t279 _ ?side1 ?side2 A3.out).mono ?_); (case side1 => exact zJ (Kd.zay HO0_2.out).2.2); (case side2 => exact (Kd.zay HO0_2.out).2.1); rintro e w9 ⟨rfl, hb⟩; refine ⟨_, rfl, ?_⟩; have n0_ := zA (Kd.za1 (zV HO0_2) hb); have n1_ := zA (zam (g := gb277) (o := .cells #[.int .i64 a0_0, .int .i64 a0_1, .slice A0_2 l0_2.length c0_2] 44 (0, 0)) (zK BK277) hb); have n2_ := zA (zam (g := gb278) (o := .cells #[.int .i64 0, .int .i64 0, .slice none 0 0] 44 (0, 0)) (zK BK278) hb); have n3_ := zA (zab (zB HB) hb); clear HO0_2 BK277 BK278 HB; have HO0_2 := n0_; have BK277 := n1_; have BK278 := n2_; have HB := n3_; clear n0_ n1_ n2_ n3_; (try clear hb); (try clear hb2); (try clear hk); (try clear hi); have hcz10_0 : w9.cell? ⟨gb277, 0, none⟩ = some (.int .i64 a0_0) := (za BK277.out 0).trans rfl; have hcz10_1 : w9.cell? ⟨gb277, 1, none⟩ = some (.int .i64 a0_1) := (za BK277.out 1).trans rfl; have hcz10_2 : w9.cell? ⟨gb277, 2, none⟩ = some (.slice A0_2 l0_2.length c0_2) := (za BK277.out 2).trans rfl; have hfz10_0 := zaa BK277.out 0; have hfz10_1 := zaa BK277.out 1; have hfz10_2 := zaa BK277.out 2; have hcz11_0 : w9.cell? ⟨gb278, 0, none⟩ = some (.int .i64 0) := (za BK278.out 0).trans rfl; have hcz11_1 : w9.cell? ⟨gb278, 1, none⟩ = some (.int .i64 0) := (za BK278.out 1).trans rfl; have hcz11_2 : w9.cell? ⟨gb278, 2, none⟩ = some (.slice none 0 0) := (za BK278.out 2).trans rfl; have hfz11_0 := zaa BK278.out 0; have hfz11_1 := zaa BK278.out 1; have hfz11_2 := zaa BK278.out 2))
  refine bodyPost_ret (zav rfl _ _ gb278 44 #[.int .i64 a0_0, .int .i64 a0_1, .slice A0_2 l0_2.length c0_2] (0, 0) _ rfl (by (with_reducible repeat (first | refine zao ?_ _ | refine zan ?_ | refine zac ?_ _)); refine zau (cs := #[.int .i64 a0_0, .int .i64 a0_1, .slice none 0 0]) ?_ 2 _ rfl; (with_reducible repeat (first | refine zao ?_ _ | refine zan ?_ | refine zac ?_ _)); refine zau (cs := #[.int .i64 a0_0, .int .i64 0, .slice none 0 0]) ?_ 1 _ rfl; (with_reducible repeat (first | refine zao ?_ _ | refine zan ?_ | refine zac ?_ _)); refine zau (cs := #[.int .i64 0, .int .i64 0, .slice none 0 0]) ?_ 0 _ rfl; (with_reducible repeat (first | refine zao ?_ _ | refine zan ?_ | refine zac ?_ _)); exact BK278.out) Try.underlying44 rfl (by kernel_rfl)) rfl ?_
  exact ⟨_, zW, by (with_reducible repeat (first | apply Kd.zbs | apply Kd.zb8 | apply Kd.V_drew)); exact Kd.zbk (Kd.V_far (p := ⟨gb278, 2, none⟩) (Kd.V_far (p := ⟨gb278, 1, none⟩) (Kd.V_far (p := ⟨gb278, 0, none⟩) (Kd.zbk HO0_2.out (fun k_ hk => (⟨hk, hk.2⟩ : _ ∧ k_ ≠ gb278))) (fun _ hk => hk.2) (.int .i64 a0_0)) (fun _ hk => hk.2) (.int .i64 a0_1)) (fun _ hk => hk.2) (.slice A0_2 l0_2.length c0_2)) (fun _ hk => hk.1.1.1), zB HB⟩
 ·
  rw [if_neg c4] at H
  have c4b0 : decide (t279 < 0) = false := decide_eq_false c4
  clear c4
  by_cases c12 : 0 ≤ t279
  ·
   rw [if_pos c12] at H
   have c12b0 : decide (0 ≤ t279) = true := decide_eq_true c12
   clear c12
   by_cases c13 : t279 < (l0_2.length : Int)
   ·
    rw [if_pos c13] at H
    have c13b0 : decide (t279 < (l0_2.length : Int)) = true := decide_eq_true c13
    clear c13
    by_cases c14 : ((rd_T84 l0_2 t279).f1) < 0
    ·
     rw [if_pos c14] at H
     have c14b0 : decide (((rd_T84 l0_2 t279).f1) < 0) = true := decide_eq_true c14
     clear c14
     simp only [Option.some.injEq, Prod.mk.injEq] at H
     obtain ⟨rfl, rfl, rfl, rfl⟩ := H
     go_enter Try.func35, Try.ntmps35
     go_wp2_with (first | ((with_reducible refine za7 (N := 2) rfl ?_); refine za3 ?hg (N := 2) ?hd (cs := #[.int .i64 a0_0, .int .i64 a0_1, .slice A0_2 l0_2.length c0_2]) (t := 44) ?hr ?_; (case hd => rfl); (case hg => rfl); (case hr => first | (go_simp; done) | (go_simp; rfl)); intro gb277 hg w15 hbox hb; have n0_ := zA (Kd.za1 (Kd.zbl (zV HO0_2) gb277 (Nat.le_of_eq hg.symm)) hb); have n1_ := zA (zab (zB HB) hb); have n2_ := zA (hbox); have n3_ := zA ((by rw [hg]; exact (zaf (zB HB)) : w.heap.size ≤ gb277)); have n4_ := zA ((by rw [hg]; exact (zaf (zB HB)) : w.heap.size ≤ gb277)); clear HO0_2 HB; have HO0_2 := n0_; have HB := n1_; have BK277 := n2_; have GW277 := n3_; have GE277 := n4_; clear n0_ n1_ n2_ n3_ n4_ hb hbox hg) | ((with_reducible refine za7 (N := 4) rfl ?_); refine za3 ?hg (N := 4) ?hd (cs := #[.int .i64 0, .int .i64 0, .slice none 0 0]) (t := 44) ?hr ?_; (case hd => rfl); (case hg => rfl); (case hr => first | (go_simp; done) | (go_simp; rfl)); intro gb278 hg w16 hbox hb; have n0_ := zA (Kd.za1 (Kd.zbl (zV HO0_2) gb278 (Nat.le_of_eq hg.symm)) hb); have n1_ := zA (zam (g := gb277) (o := .cells #[.int .i64 a0_0, .int .i64 a0_1, .slice A0_2 l0_2.length c0_2] 44 (0, 0)) (zK BK277) hb); have n2_ := zA (zab (zB HB) hb); have n3_ := zA (hbox); have n4_ := zA ((by rw [hg]; exact (zaf (zB HB)) : w.heap.size ≤ gb278)); have n5_ := zA ((by rw [hg]; exact (zaf (zB HB)) : w.heap.size ≤ gb278)); have n6_ := zA ((by rw [hg]; exact Nat.ne_of_lt (zar (g := gb277) (o := .cells #[.int .i64 a0_0, .int .i64 a0_1, .slice A0_2 l0_2.length c0_2] 44 (0, 0)) (zK BK277)) : gb277 ≠ gb278)); have n7_ := zA ((by rw [hg]; exact Nat.ne_of_gt (zar (g := gb277) (o := .cells #[.int .i64 a0_0, .int .i64 a0_1, .slice A0_2 l0_2.length c0_2] 44 (0, 0)) (zK BK277)) : gb278 ≠ gb277)); clear HO0_2 BK277 HB; have HO0_2 := n0_; have BK277 := n1_; have HB := n2_; have BK278 := n3_; have GW278 := n4_; have GE278 := n5_; have NB277_278 := n6_; have NB278_277 := n7_; clear n0_ n1_ n2_ n3_ n4_ n5_ n6_ n7_ hb hbox hg; have hnb17 := NB277_278.out; have hnc17 := NB278_277.out; have hcz18_0 : w16.cell? ⟨gb277, 0, none⟩ = some (.int .i64 a0_0) := (za BK277.out 0).trans rfl; have hcz18_1 : w16.cell? ⟨gb277, 1, none⟩ = some (.int .i64 a0_1) := (za BK277.out 1).trans rfl; have hcz18_2 : w16.cell? ⟨gb277, 2, none⟩ = some (.slice A0_2 l0_2.length c0_2) := (za BK277.out 2).trans rfl; have hfz18_0 := zaa BK277.out 0; have hfz18_1 := zaa BK277.out 1; have hfz18_2 := zaa BK277.out 2) | ((with_reducible refine za8 (f := 55) rfl ?_); refine goesL_ (some 9) rfl rfl Try.func55 (by kernel_rfl) rfl #[.agg #[.int .i64 a0_0, .int .i64 a0_1, .slice A0_2 l0_2.length c0_2], .int .i64 a1] rfl (zE) ?_; (with_reducible refine (zae.calls k a0_0 a0_1 _ _ l0_2 a1 t279 _ ?side1 ?side2 A3.out).mono ?_); (case side1 => exact zJ (Kd.zay HO0_2.out).2.2); (case side2 => exact (Kd.zay HO0_2.out).2.1); rintro e w19 ⟨rfl, hb⟩; refine ⟨_, rfl, ?_⟩; have n0_ := zA (Kd.za1 (zV HO0_2) hb); have n1_ := zA (zam (g := gb277) (o := .cells #[.int .i64 a0_0, .int .i64 a0_1, .slice A0_2 l0_2.length c0_2] 44 (0, 0)) (zK BK277) hb); have n2_ := zA (zam (g := gb278) (o := .cells #[.int .i64 0, .int .i64 0, .slice none 0 0] 44 (0, 0)) (zK BK278) hb); have n3_ := zA (zab (zB HB) hb); clear HO0_2 BK277 BK278 HB; have HO0_2 := n0_; have BK277 := n1_; have BK278 := n2_; have HB := n3_; clear n0_ n1_ n2_ n3_; (try clear hb); (try clear hb2); (try clear hk); (try clear hi); have hcz20_0 : w19.cell? ⟨gb277, 0, none⟩ = some (.int .i64 a0_0) := (za BK277.out 0).trans rfl; have hcz20_1 : w19.cell? ⟨gb277, 1, none⟩ = some (.int .i64 a0_1) := (za BK277.out 1).trans rfl; have hcz20_2 : w19.cell? ⟨gb277, 2, none⟩ = some (.slice A0_2 l0_2.length c0_2) := (za BK277.out 2).trans rfl; have hfz20_0 := zaa BK277.out 0; have hfz20_1 := zaa BK277.out 1; have hfz20_2 := zaa BK277.out 2; have p280 : 0 ≤ (t279 : Int) := of_decide_eq_true (by first | (with_reducible assumption) | assumption); have q280 : t279 < (l0_2.length : Int) := of_decide_eq_true (by first | (with_reducible assumption) | assumption); obtain ⟨ad280, e280, hx280_0, hx280_1, hx280_2, hx280_3, hx280_4⟩ := at_T84 (Kd.zay HO0_2.out).2.2 t279 p280 q280; cases e280; replace p280 := eq_true p280; replace q280 := eq_true q280; have hcz21_0 : w19.cell? ⟨gb278, 0, none⟩ = some (.int .i64 0) := (za BK278.out 0).trans rfl; have hcz21_1 : w19.cell? ⟨gb278, 1, none⟩ = some (.int .i64 0) := (za BK278.out 1).trans rfl; have hcz21_2 : w19.cell? ⟨gb278, 2, none⟩ = some (.slice none 0 0) := (za BK278.out 2).trans rfl; have hfz21_0 := zaa BK278.out 0; have hfz21_1 := zaa BK278.out 1; have hfz21_2 := zaa BK278.out 2))
     refine bodyPost_ret (zav rfl _ _ gb278 44 #[.int .i64 a0_0, .int .i64 a0_1, .slice (some ad280) l0_2.length c0_2] (0, 0) _ rfl (by (with_reducible repeat (first | refine zao ?_ _ | refine zan ?_ | refine zac ?_ _)); refine zau (cs := #[.int .i64 a0_0, .int .i64 a0_1, .slice none 0 0]) ?_ 2 _ rfl; (with_reducible repeat (first | refine zao ?_ _ | refine zan ?_ | refine zac ?_ _)); refine zau (cs := #[.int .i64 a0_0, .int .i64 0, .slice none 0 0]) ?_ 1 _ rfl; (with_reducible repeat (first | refine zao ?_ _ | refine zan ?_ | refine zac ?_ _)); refine zau (cs := #[.int .i64 0, .int .i64 0, .slice none 0 0]) ?_ 0 _ rfl; (with_reducible repeat (first | refine zao ?_ _ | refine zan ?_ | refine zac ?_ _)); exact BK278.out) Try.underlying44 rfl (by kernel_rfl)) rfl ?_
     exact ⟨_, zW, by (with_reducible repeat (first | apply Kd.zbs | apply Kd.zb8 | apply Kd.V_drew)); exact Kd.zbk (Kd.V_far (p := ⟨gb278, 2, none⟩) (Kd.V_far (p := ⟨gb278, 1, none⟩) (Kd.V_far (p := ⟨gb278, 0, none⟩) (Kd.zbk HO0_2.out (fun k_ hk => (⟨hk, hk.2⟩ : _ ∧ k_ ≠ gb278))) (fun _ hk => hk.2) (.int .i64 a0_0)) (fun _ hk => hk.2) (.int .i64 a0_1)) (fun _ hk => hk.2) (.slice (some ad280) l0_2.length c0_2)) (fun _ hk => hk.1.1.1), zB HB⟩
    ·
     rw [if_neg c14] at H
     have c14b0 : decide (((rd_T84 l0_2 t279).f1) < 0) = false := decide_eq_false c14
     clear c14
     replace H := zO H
     obtain ⟨t281, A220, H⟩ := H
     try dsimp only at H
     have A22 := zA A220
     clear A220
     by_cases c23 : t281 > 0
     ·
      rw [if_pos c23] at H
      have c23b0 : decide (0 < t281) = true := decide_eq_true c23
      clear c23
      simp only [Option.some.injEq, Prod.mk.injEq] at H
      obtain ⟨rfl, rfl, rfl, rfl⟩ := H
      go_enter Try.func35, Try.ntmps35
      go_wp2_with (first | ((with_reducible refine za7 (N := 2) rfl ?_); refine za3 ?hg (N := 2) ?hd (cs := #[.int .i64 a0_0, .int .i64 a0_1, .slice A0_2 l0_2.length c0_2]) (t := 44) ?hr ?_; (case hd => rfl); (case hg => rfl); (case hr => first | (go_simp; done) | (go_simp; rfl)); intro gb277 hg w24 hbox hb; have n0_ := zA (Kd.za1 (Kd.zbl (zV HO0_2) gb277 (Nat.le_of_eq hg.symm)) hb); have n1_ := zA (zab (zB HB) hb); have n2_ := zA (hbox); have n3_ := zA ((by rw [hg]; exact (zaf (zB HB)) : w.heap.size ≤ gb277)); have n4_ := zA ((by rw [hg]; exact (zaf (zB HB)) : w.heap.size ≤ gb277)); clear HO0_2 HB; have HO0_2 := n0_; have HB := n1_; have BK277 := n2_; have GW277 := n3_; have GE277 := n4_; clear n0_ n1_ n2_ n3_ n4_ hb hbox hg) | ((with_reducible refine za7 (N := 4) rfl ?_); refine za3 ?hg (N := 4) ?hd (cs := #[.int .i64 0, .int .i64 0, .slice none 0 0]) (t := 44) ?hr ?_; (case hd => rfl); (case hg => rfl); (case hr => first | (go_simp; done) | (go_simp; rfl)); intro gb278 hg w25 hbox hb; have n0_ := zA (Kd.za1 (Kd.zbl (zV HO0_2) gb278 (Nat.le_of_eq hg.symm)) hb); have n1_ := zA (zam (g := gb277) (o := .cells #[.int .i64 a0_0, .int .i64 a0_1, .slice A0_2 l0_2.length c0_2] 44 (0, 0)) (zK BK277) hb); have n2_ := zA (zab (zB HB) hb); have n3_ := zA (hbox); have n4_ := zA ((by rw [hg]; exact (zaf (zB HB)) : w.heap.size ≤ gb278)); have n5_ := zA ((by rw [hg]; exact (zaf (zB HB)) : w.heap.size ≤ gb278)); have n6_ := zA ((by rw [hg]; exact Nat.ne_of_lt (zar (g := gb277) (o := .cells #[.int .i64 a0_0, .int .i64 a0_1, .slice A0_2 l0_2.length c0_2] 44 (0, 0)) (zK BK277)) : gb277 ≠ gb278)); have n7_ := zA ((by rw [hg]; exact Nat.ne_of_gt (zar (g := gb277) (o := .cells #[.int .i64 a0_0, .int .i64 a0_1, .slice A0_2 l0_2.length c0_2] 44 (0, 0)) (zK BK277)) : gb278 ≠ gb277)); clear HO0_2 BK277 HB; have HO0_2 := n0_; have BK277 := n1_; have HB := n2_; have BK278 := n3_; have GW278 := n4_; have GE278 := n5_; have NB277_278 := n6_; have NB278_277 := n7_; clear n0_ n1_ n2_ n3_ n4_ n5_ n6_ n7_ hb hbox hg; have hnb26 := NB277_278.out; have hnc26 := NB278_277.out; have hcz27_0 : w25.cell? ⟨gb277, 0, none⟩ = some (.int .i64 a0_0) := (za BK277.out 0).trans rfl; have hcz27_1 : w25.cell? ⟨gb277, 1, none⟩ = some (.int .i64 a0_1) := (za BK277.out 1).trans rfl; have hcz27_2 : w25.cell? ⟨gb277, 2, none⟩ = some (.slice A0_2 l0_2.length c0_2) := (za BK277.out 2).trans rfl; have hfz27_0 := zaa BK277.out 0; have hfz27_1 := zaa BK277.out 1; have hfz27_2 := zaa BK277.out 2) | ((with_reducible refine za8 (f := 55) rfl ?_); refine goesL_ (some 9) rfl rfl Try.func55 (by kernel_rfl) rfl #[.agg #[.int .i64 a0_0, .int .i64 a0_1, .slice A0_2 l0_2.length c0_2], .int .i64 a1] rfl (zE) ?_; (with_reducible refine (zae.calls k a0_0 a0_1 _ _ l0_2 a1 t279 _ ?side1 ?side2 A3.out).mono ?_); (case side1 => exact zJ (Kd.zay HO0_2.out).2.2); (case side2 => exact (Kd.zay HO0_2.out).2.1); rintro e w28 ⟨rfl, hb⟩; refine ⟨_, rfl, ?_⟩; have n0_ := zA (Kd.za1 (zV HO0_2) hb); have n1_ := zA (zam (g := gb277) (o := .cells #[.int .i64 a0_0, .int .i64 a0_1, .slice A0_2 l0_2.length c0_2] 44 (0, 0)) (zK BK277) hb); have n2_ := zA (zam (g := gb278) (o := .cells #[.int .i64 0, .int .i64 0, .slice none 0 0] 44 (0, 0)) (zK BK278) hb); have n3_ := zA (zab (zB HB) hb); clear HO0_2 BK277 BK278 HB; have HO0_2 := n0_; have BK277 := n1_; have BK278 := n2_; have HB := n3_; clear n0_ n1_ n2_ n3_; (try clear hb); (try clear hb2); (try clear hk); (try clear hi); have hcz29_0 : w28.cell? ⟨gb277, 0, none⟩ = some (.int .i64 a0_0) := (za BK277.out 0).trans rfl; have hcz29_1 : w28.cell? ⟨gb277, 1, none⟩ = some (.int .i64 a0_1) := (za BK277.out 1).trans rfl; have hcz29_2 : w28.cell? ⟨gb277, 2, none⟩ = some (.slice A0_2 l0_2.length c0_2) := (za BK277.out 2).trans rfl; have hfz29_0 := zaa BK277.out 0; have hfz29_1 := zaa BK277.out 1; have hfz29_2 := zaa BK277.out 2; have p280 : 0 ≤ (t279 : Int) := of_decide_eq_true (by first | (with_reducible assumption) | assumption); have q280 : t279 < (l0_2.length : Int) := of_decide_eq_true (by first | (with_reducible assumption) | assumption); obtain ⟨ad280, e280, hx280_0, hx280_1, hx280_2, hx280_3, hx280_4⟩ := at_T84 (Kd.zay HO0_2.out).2.2 t279 p280 q280; cases e280; replace p280 := eq_true p280; replace q280 := eq_true q280) | ((with_reducible refine za8 (f := 56) rfl ?_); refine goesL_ (some 26) rfl rfl Try.func56 (by kernel_rfl) rfl #[.agg #[.int .i64 a0_0, .int .i64 a0_1, .slice (some ad280) l0_2.length c0_2], .int .i64 a1] rfl (zE) ?_; (with_reducible refine (zaw.calls k a0_0 a0_1 _ _ l0_2 a1 t281 _ ?side1 ?side2 A22.out).mono ?_); (case side1 => exact zJ (Kd.zay HO0_2.out).2.2); (case side2 => exact (Kd.zay HO0_2.out).2.1); rintro e w30 ⟨rfl, hb⟩; refine ⟨_, rfl, ?_⟩; have n0_ := zA (Kd.za1 (zV HO0_2) hb); have n1_ := zA (zam (g := gb277) (o := .cells #[.int .i64 a0_0, .int .i64 a0_1, .slice (some ad280) l0_2.length c0_2] 44 (0, 0)) (zK BK277) hb); have n2_ := zA (zam (g := gb278) (o := .cells #[.int .i64 0, .int .i64 0, .slice none 0 0] 44 (0, 0)) (zK BK278) hb); have n3_ := zA (zab (zB HB) hb); clear HO0_2 BK277 BK278 HB; have HO0_2 := n0_; have BK277 := n1_; have BK278 := n2_; have HB := n3_; clear n0_ n1_ n2_ n3_; (try clear hb); (try clear hb2); (try clear hk); (try clear hi); have hcz31_0 : w30.cell? ⟨gb277, 0, none⟩ = some (.int .i64 a0_0) := (za BK277.out 0).trans rfl; have hcz31_1 : w30.cell? ⟨gb277, 1, none⟩ = some (.int .i64 a0_1) := (za BK277.out 1).trans rfl; have hcz31_2 : w30.cell? ⟨gb277, 2, none⟩ = some (.slice (some ad280) l0_2.length c0_2) := (za BK277.out 2).trans rfl; have hfz31_0 := zaa BK277.out 0; have hfz31_1 := zaa BK277.out 1; have hfz31_2 := zaa BK277.out 2; have hcz32_0 : w30.cell? ⟨gb278, 0, none⟩ = some (.int .i64 0) := (za BK278.out 0).trans rfl; have hcz32_1 : w30.cell? ⟨gb278, 1, none⟩ = some (.int .i64 0) := (za BK278.out 1).trans rfl; have hcz32_2 : w30.cell? ⟨gb278, 2, none⟩ = some (.slice none 0 0) := (za BK278.out 2).trans rfl; have hfz32_0 := zaa BK278.out 0; have hfz32_1 := zaa BK278.out 1; have hfz32_2 := zaa BK278.out 2))
      refine bodyPost_ret (zav rfl _ _ gb278 44 #[.int .i64 a0_0, .int .i64 a0_1, .slice (some ad280) l0_2.length c0_2] (0, 0) _ rfl (by (with_reducible repeat (first | refine zao ?_ _ | refine zan ?_ | refine zac ?_ _)); refine zau (cs := #[.int .i64 a0_0, .int .i64 a0_1, .slice none 0 0]) ?_ 2 _ rfl; (with_reducible repeat (first | refine zao ?_ _ | refine zan ?_ | refine zac ?_ _)); refine zau (cs := #[.int .i64 a0_0, .int .i64 0, .slice none 0 0]) ?_ 1 _ rfl; (with_reducible repeat (first | refine zao ?_ _ | refine zan ?_ | refine zac ?_ _)); refine zau (cs := #[.int .i64 0, .int .i64 0, .slice none 0 0]) ?_ 0 _ rfl; (with_reducible repeat (first | refine zao ?_ _ | refine zan ?_ | refine zac ?_ _)); exact BK278.out) Try.underlying44 rfl (by kernel_rfl)) rfl ?_
      exact ⟨_, zW, by (with_reducible repeat (first | apply Kd.zbs | apply Kd.zb8 | apply Kd.V_drew)); exact Kd.zbk (Kd.V_far (p := ⟨gb278, 2, none⟩) (Kd.V_far (p := ⟨gb278, 1, none⟩) (Kd.V_far (p := ⟨gb278, 0, none⟩) (Kd.zbk HO0_2.out (fun k_ hk => (⟨hk, hk.2⟩ : _ ∧ k_ ≠ gb278))) (fun _ hk => hk.2) (.int .i64 a0_0)) (fun _ hk => hk.2) (.int .i64 a0_1)) (fun _ hk => hk.2) (.slice (some ad280) l0_2.length c0_2)) (fun _ hk => hk.1.1.1), zB HB⟩
     ·
      rw [if_neg c23] at H
      have c23b0 : decide (0 < t281) = false := decide_eq_false c23
      clear c23
      obtain ⟨y282, hy282⟩ : ∃ y_ : List (S84), y_ = (([] : List (S84))) := ⟨_, rfl⟩
      replace H : (if t279 ≤ (l0_2.length : Int) then ((some (l0_2.take (t279 : Int).toNat : List (S84))).bind fun y285 => (if y282.length + y285.length < 3518437208883 then ((some (y282 ++ y285 : List (S84))).bind fun y290 => (if 0 ≤ (wrap64 (t279 + 1)) then (if (wrap64 (t279 + 1)) ≤ (l0_2.length : Int) then ((some (l0_2.drop ((wrap64 (t279 + 1)) : Int).toNat : List (S84))).bind fun y293 => (if y290.length + y293.length < 3518437208883 then (some (a0_0, a0_1, (y290 ++ y293), 0)) else (none))) else (none)) else (none))) else (none))) else (none)) = some (r1, r2, r3, r4) := by first | (rw [hy282]; with_reducible exact H) | (have H2_ := (Option.bind_some _ _).symm.trans H; rw [hy282]; with_reducible exact H2_) | (have H2_ := (Option.bind_some _ _).symm.trans H; with_reducible exact H2_) | with_reducible exact H | (rw [hy282]; exact H) | exact H
      have Ny282 := zA hy282
      clear hy282
      have c33b0 := eq_true (of_decide_eq_true (by first | (with_reducible assumption) | assumption) : 0 ≤ t279)
      by_cases c34 : t279 ≤ (l0_2.length : Int)
      ·
       rw [if_pos c34] at H
       have c34b0 := eq_true c34
       have c34b1 : decide (t279 ≤ (l0_2.length : Int)) = true := decide_eq_true c34
       clear c34
       obtain ⟨y285, hy285⟩ : ∃ y_ : List (S84), y_ = (l0_2.take (t279 : Int).toNat) := ⟨_, rfl⟩
       replace H : (if y282.length + y285.length < 3518437208883 then ((some (y282 ++ y285 : List (S84))).bind fun y290 => (if 0 ≤ (wrap64 (t279 + 1)) then (if (wrap64 (t279 + 1)) ≤ (l0_2.length : Int) then ((some (l0_2.drop ((wrap64 (t279 + 1)) : Int).toNat : List (S84))).bind fun y293 => (if y290.length + y293.length < 3518437208883 then (some (a0_0, a0_1, (y290 ++ y293), 0)) else (none))) else (none)) else (none))) else (none)) = some (r1, r2, r3, r4) := by first | (rw [hy285]; with_reducible exact H) | (have H2_ := (Option.bind_some _ _).symm.trans H; rw [hy285]; with_reducible exact H2_) | (have H2_ := (Option.bind_some _ _).symm.trans H; with_reducible exact H2_) | with_reducible exact H | (rw [hy285]; exact H) | exact H
       have Ny285 := zA hy285
       clear hy285
       by_cases c35 : y282.length + y285.length < 3518437208883
       ·
        rw [if_pos c35] at H
        have LMc35 := zA c35
        clear c35
        obtain ⟨y290, hy290⟩ : ∃ y_ : List (S84), y_ = (y282 ++ y285) := ⟨_, rfl⟩
        replace H : (if 0 ≤ (wrap64 (t279 + 1)) then (if (wrap64 (t279 + 1)) ≤ (l0_2.length : Int) then ((some (l0_2.drop ((wrap64 (t279 + 1)) : Int).toNat : List (S84))).bind fun y293 => (if y290.length + y293.length < 3518437208883 then (some (a0_0, a0_1, (y290 ++ y293), 0)) else (none))) else (none)) else (none)) = some (r1, r2, r3, r4) := by first | (rw [hy290]; with_reducible exact H) | (have H2_ := (Option.bind_some _ _).symm.trans H; rw [hy290]; with_reducible exact H2_) | (have H2_ := (Option.bind_some _ _).symm.trans H; with_reducible exact H2_) | with_reducible exact H | (rw [hy290]; exact H) | exact H
        have Ny290 := zA hy290
        clear hy290
        obtain ⟨ji36, hji36⟩ : ∃ j_ : Int, (wrap64 (t279 + 1)) = j_ := ⟨_, rfl⟩
        replace H : (if 0 ≤ (ji36) then (if (ji36) ≤ (l0_2.length : Int) then ((some (l0_2.drop ((ji36) : Int).toNat : List (S84))).bind fun y293 => (if y290.length + y293.length < 3518437208883 then (some (a0_0, a0_1, (y290 ++ y293), 0)) else (none))) else (none)) else (none)) = some (r1, r2, r3, r4) := by first | (rw [hji36] at H; exact H) | (simp only [hji36] at H ⊢; exact H)
        (try rw [hji36] at A3)
        (try rw [hji36] at A22)
        have hji36w : (IntKind.i64.wrap (t279 + 1)) = ji36 := (i64_w _).trans hji36
        by_cases c37 : 0 ≤ (ji36)
        ·
         rw [if_pos c37] at H
         have c37b0 := eq_true c37
         have c37b1 : decide (0 ≤ (ji36)) = true := decide_eq_true c37
         clear c37
         by_cases c38 : (ji36) ≤ (l0_2.length : Int)
         ·
          rw [if_pos c38] at H
          have c38b0 := eq_true c38
          have c38b1 : decide ((ji36) ≤ (l0_2.length : Int)) = true := decide_eq_true c38
          clear c38
          obtain ⟨y293, hy293⟩ : ∃ y_ : List (S84), y_ = (l0_2.drop ((ji36) : Int).toNat) := ⟨_, rfl⟩
          replace H : (if y290.length + y293.length < 3518437208883 then (some (a0_0, a0_1, (y290 ++ y293), 0)) else (none)) = some (r1, r2, r3, r4) := by first | (rw [hy293]; with_reducible exact H) | (have H2_ := (Option.bind_some _ _).symm.trans H; rw [hy293]; with_reducible exact H2_) | (have H2_ := (Option.bind_some _ _).symm.trans H; with_reducible exact H2_) | with_reducible exact H | (rw [hy293]; exact H) | exact H
          have Ny293 := zA hy293
          clear hy293
          by_cases c39 : y290.length + y293.length < 3518437208883
          ·
           rw [if_pos c39] at H
           have LMc39 := zA c39
           clear c39
           obtain ⟨y298, hy298⟩ : ∃ y_ : List (S84), y_ = (y290 ++ y293) := ⟨_, rfl⟩
           replace H : (some (a0_0, a0_1, y298, 0)) = some (r1, r2, r3, r4) := by first | (rw [hy298]; with_reducible exact H) | (have H2_ := (Option.bind_some _ _).symm.trans H; rw [hy298]; with_reducible exact H2_) | (have H2_ := (Option.bind_some _ _).symm.trans H; with_reducible exact H2_) | with_reducible exact H | (rw [hy298]; exact H) | exact H
           have Ny298 := zA hy298
           clear hy298
           simp only [Option.some.injEq, Prod.mk.injEq] at H
           obtain ⟨rfl, rfl, rfl, rfl⟩ := H
           go_enter Try.func35, Try.ntmps35
           try go_wp2_with (first | ((with_reducible refine za7 (N := 2) rfl ?_); refine za3 ?hg (N := 2) ?hd (cs := #[.int .i64 a0_0, .int .i64 a0_1, .slice A0_2 l0_2.length c0_2]) (t := 44) ?hr ?_; (case hd => rfl); (case hg => rfl); (case hr => first | (go_simp; done) | (go_simp; rfl)); intro gb277 hg w40 hbox hb; have n0_ := zA (Kd.za1 (Kd.zbl (zV HO0_2) gb277 (Nat.le_of_eq hg.symm)) hb); have n1_ := zA (zab (zB HB) hb); have n2_ := zA (hbox); have n3_ := zA ((by rw [hg]; exact (zaf (zB HB)) : w.heap.size ≤ gb277)); have n4_ := zA ((by rw [hg]; exact (zaf (zB HB)) : w.heap.size ≤ gb277)); clear HO0_2 HB; have HO0_2 := n0_; have HB := n1_; have BK277 := n2_; have GW277 := n3_; have GE277 := n4_; clear n0_ n1_ n2_ n3_ n4_ hb hbox hg) | ((with_reducible refine za7 (N := 4) rfl ?_); refine za3 ?hg (N := 4) ?hd (cs := #[.int .i64 0, .int .i64 0, .slice none 0 0]) (t := 44) ?hr ?_; (case hd => rfl); (case hg => rfl); (case hr => first | (go_simp; done) | (go_simp; rfl)); intro gb278 hg w41 hbox hb; have n0_ := zA (Kd.za1 (Kd.zbl (zV HO0_2) gb278 (Nat.le_of_eq hg.symm)) hb); have n1_ := zA (zam (g := gb277) (o := .cells #[.int .i64 a0_0, .int .i64 a0_1, .slice A0_2 l0_2.length c0_2] 44 (0, 0)) (zK BK277) hb); have n2_ := zA (zab (zB HB) hb); have n3_ := zA (hbox); have n4_ := zA ((by rw [hg]; exact (zaf (zB HB)) : w.heap.size ≤ gb278)); have n5_ := zA ((by rw [hg]; exact (zaf (zB HB)) : w.heap.size ≤ gb278)); have n6_ := zA ((by rw [hg]; exact Nat.ne_of_lt (zar (g := gb277) (o := .cells #[.int .i64 a0_0, .int .i64 a0_1, .slice A0_2 l0_2.length c0_2] 44 (0, 0)) (zK BK277)) : gb277 ≠ gb278)); have n7_ := zA ((by rw [hg]; exact Nat.ne_of_gt (zar (g := gb277) (o := .cells #[.int .i64 a0_0, .int .i64 a0_1, .slice A0_2 l0_2.length c0_2] 44 (0, 0)) (zK BK277)) : gb278 ≠ gb277)); clear HO0_2 BK277 HB; have HO0_2 := n0_; have BK277 := n1_; have HB := n2_; have BK278 := n3_; have GW278 := n4_; have GE278 := n5_; have NB277_278 := n6_; have NB278_277 := n7_; clear n0_ n1_ n2_ n3_ n4_ n5_ n6_ n7_ hb hbox hg; have hnb42 := NB277_278.out; have hnc42 := NB278_277.out; have hcz43_0 : w41.cell? ⟨gb277, 0, none⟩ = some (.int .i64 a0_0) := (za BK277.out 0).trans rfl; have hcz43_1 : w41.cell? ⟨gb277, 1, none⟩ = some (.int .i64 a0_1) := (za BK277.out 1).trans rfl; have hcz43_2 : w41.cell? ⟨gb277, 2, none⟩ = some (.slice A0_2 l0_2.length c0_2) := (za BK277.out 2).trans rfl; have hfz43_0 := zaa BK277.out 0; have hfz43_1 := zaa BK277.out 1; have hfz43_2 := zaa BK277.out 2) | ((with_reducible refine za8 (f := 55) rfl ?_); refine goesL_ (some 9) rfl rfl Try.func55 (by kernel_rfl) rfl #[.agg #[.int .i64 a0_0, .int .i64 a0_1, .slice A0_2 l0_2.length c0_2], .int .i64 a1] rfl (zE) ?_; (with_reducible refine (zae.calls k a0_0 a0_1 _ _ l0_2 a1 t279 _ ?side1 ?side2 A3.out).mono ?_); (case side1 => exact zJ (Kd.zay HO0_2.out).2.2); (case side2 => exact (Kd.zay HO0_2.out).2.1); rintro e w44 ⟨rfl, hb⟩; refine ⟨_, rfl, ?_⟩; have n0_ := zA (Kd.za1 (zV HO0_2) hb); have n1_ := zA (zam (g := gb277) (o := .cells #[.int .i64 a0_0, .int .i64 a0_1, .slice A0_2 l0_2.length c0_2] 44 (0, 0)) (zK BK277) hb); have n2_ := zA (zam (g := gb278) (o := .cells #[.int .i64 0, .int .i64 0, .slice none 0 0] 44 (0, 0)) (zK BK278) hb); have n3_ := zA (zab (zB HB) hb); clear HO0_2 BK277 BK278 HB; have HO0_2 := n0_; have BK277 := n1_; have BK278 := n2_; have HB := n3_; clear n0_ n1_ n2_ n3_; (try clear hb); (try clear hb2); (try clear hk); (try clear hi); have hcz45_0 : w44.cell? ⟨gb277, 0, none⟩ = some (.int .i64 a0_0) := (za BK277.out 0).trans rfl; have hcz45_1 : w44.cell? ⟨gb277, 1, none⟩ = some (.int .i64 a0_1) := (za BK277.out 1).trans rfl; have hcz45_2 : w44.cell? ⟨gb277, 2, none⟩ = some (.slice A0_2 l0_2.length c0_2) := (za BK277.out 2).trans rfl; have hfz45_0 := zaa BK277.out 0; have hfz45_1 := zaa BK277.out 1; have hfz45_2 := zaa BK277.out 2; have p280 : 0 ≤ (t279 : Int) := of_decide_eq_true (by first | (with_reducible assumption) | assumption); have q280 : t279 < (l0_2.length : Int) := of_decide_eq_true (by first | (with_reducible assumption) | assumption); obtain ⟨ad280, e280, hx280_0, hx280_1, hx280_2, hx280_3, hx280_4⟩ := at_T84 (Kd.zay HO0_2.out).2.2 t279 p280 q280; cases e280; replace p280 := eq_true p280; replace q280 := eq_true q280) | ((with_reducible refine za8 (f := 56) rfl ?_); refine goesL_ (some 26) rfl rfl Try.func56 (by kernel_rfl) rfl #[.agg #[.int .i64 a0_0, .int .i64 a0_1, .slice (some ad280) l0_2.length c0_2], .int .i64 a1] rfl (zE) ?_; (with_reducible refine (zaw.calls k a0_0 a0_1 _ _ l0_2 a1 t281 _ ?side1 ?side2 A22.out).mono ?_); (case side1 => exact zJ (Kd.zay HO0_2.out).2.2); (case side2 => exact (Kd.zay HO0_2.out).2.1); rintro e w46 ⟨rfl, hb⟩; refine ⟨_, rfl, ?_⟩; have n0_ := zA (Kd.za1 (zV HO0_2) hb); have n1_ := zA (zam (g := gb277) (o := .cells #[.int .i64 a0_0, .int .i64 a0_1, .slice (some ad280) l0_2.length c0_2] 44 (0, 0)) (zK BK277) hb); have n2_ := zA (zam (g := gb278) (o := .cells #[.int .i64 0, .int .i64 0, .slice none 0 0] 44 (0, 0)) (zK BK278) hb); have n3_ := zA (zab (zB HB) hb); clear HO0_2 BK277 BK278 HB; have HO0_2 := n0_; have BK277 := n1_; have BK278 := n2_; have HB := n3_; clear n0_ n1_ n2_ n3_; (try clear hb); (try clear hb2); (try clear hk); (try clear hi)))
           have n0_ := zA (Kd.V_drew HO0_2.out)
           have n1_ := zA (zan BK277.out)
           have n2_ := zA (zan BK278.out)
           have n3_ := zA (zbf HB.out)
           clear HO0_2 BK277 BK278 HB
           have HO0_2 := n0_
           have BK277 := n1_
           have BK278 := n2_
           have HB := n3_
           clear n0_ n1_ n2_ n3_
           have q48 : (t279 : Int) ≤ ((l0_2.length : Int) : Int) := of_decide_eq_true (by first | (with_reducible assumption) | assumption)
           obtain ⟨i048, hi048, _, hsz48, _⟩ := info_parts info84
           have hroom48 : l0_2.length ≤ c0_2 := (Kd.zay HO0_2.out).2.1
           have hC48 : Kd.F k84 _ _ (some ad280) l0_2.length l0_2 := (Kd.V_at (base := w.heap.size) HO0_2.out).2.2
           have hcut48 := cut_to (P := Try.prog) 42 84 .i64 Try.underlying42 hi048 (some ad280) l0_2.length c0_2 t279 (of_decide_eq_true (by first | (with_reducible assumption) | assumption)) q48 hroom48
           have hr48 := Kd.F_take (m := (t279 : Int).toNat) hC48 (by omega)
           have hy48 : y285.length = (t279 : Int).toNat := (by rw [Ny285.out, List.length_take]; omega)
           rw [← Ny285.out] at hr48
           rw [← hy48] at hcut48
           have HO289 := zA (show Kd.V k84 84 _ w.heap.size _ (.slice (some ad280) y285.length c0_2) y285 from Kd.V_mk (by omega) hr48)
           have HC289 := zA (show y285.length ≤ c0_2 from by omega)
           clear hr48 hC48 hroom48 hi048 hsz48
           have KY48 := zA hy48
           clear hy48
           replace q48 := eq_true q48
           have q49 : ((ji36) : Int) ≤ ((l0_2.length : Int) : Int) := of_decide_eq_true (by first | (with_reducible assumption) | assumption)
           obtain ⟨i049, hi049, _, hsz49, _⟩ := info_parts info84
           have hroom49 : l0_2.length ≤ c0_2 := (Kd.zay HO0_2.out).2.1
           have hC49 : Kd.F k84 _ _ (some ad280) l0_2.length l0_2 := (Kd.V_at (base := w.heap.size) HO0_2.out).2.2
           have q049 : (0 : Int) ≤ ((ji36) : Int) := of_decide_eq_true (by first | (with_reducible assumption) | assumption)
           have hcut49 := cut_from (P := Try.prog) 42 84 .i64 Try.underlying42 hi049 5 hsz49 (some ad280) l0_2.length c0_2 (ji36) q049 q49
           have hr49 := Kd.F_cut (m := ((ji36) : Int).toNat) (c := c0_2) hC49 (by omega) hroom49
           obtain ⟨A49, hA49⟩ : ∃ A1, A1 = (if c0_2 = ((ji36) : Int).toNat then (some ad280) else ((some ad280) : Option Addr).map (·.add (((ji36) : Int).toNat * 5))) := ⟨_, rfl⟩
           obtain ⟨c49, hc49⟩ : ∃ c1, c1 = c0_2 - ((ji36) : Int).toNat := ⟨_, rfl⟩
           have hy49 : y293.length = l0_2.length - ((ji36) : Int).toNat := (by rw [Ny293.out, List.length_drop] <;> omega)
           rw [show (l0_2).drop ((ji36) : Int).toNat = y293 from Ny293.out.symm] at hr49
           replace hr49 : Kd.F k84 _ _ A49 y293.length y293 := (by rw [hA49]; exact hr49)
           rw [← hy49, ← hA49, ← hc49] at hcut49
           have HO297 := zA (show Kd.V k84 84 _ w.heap.size _ (.slice A49 y293.length c49) y293 from Kd.V_mk (by rw [hy49, hc49]; exact Nat.sub_le_sub_right hroom49 _) hr49)
           have HC297 := zA (show y293.length ≤ c49 from by rw [hy49, hc49]; exact Nat.sub_le_sub_right hroom49 _)
           clear hr49 hC49 hroom49 hi049 hsz49 hc49
           have KY49 := zA hy49
           have KA49 := zA hA49
           clear hy49 hA49
           replace q49 := eq_true q49
           refine start_ (n := 19) (S := fun w' => w'.cell? ⟨gb277, 0, none⟩ = some (.int .i64 a0_0) ∧ w'.cell? ⟨gb277, 1, none⟩ = some (.int .i64 a0_1) ∧ w'.cell? ⟨gb277, 2, none⟩ = some (.slice (some ad280) l0_2.length c0_2)) (ds := []) #[false, false, false, false, false, false, false, false, false, false, false, false, false, false, false, false, false, false, false] (by kernel_rfl) rfl rfl ⟨(za BK277.out 0).trans rfl, (za BK277.out 1).trans rfl, (za BK277.out 2).trans rfl⟩ (fun hHeld => ?_); refine zbj za4.tab8 za4.bits8 (fun HT_ HW_ => ?_)
           generalize w46.drew = w47 at HO0_2 BK277 BK278 HB HO289 HO297 hHeld ⊢
           refine pure_ (i := 0) (N := some 29) (v := ?_) (a' := ?_) #[true, false, false, false, false, false, false, false, false, false, false, false, false, false, false, false, false, false, false] rfl rfl (zah HT_.out (by kernel_rfl)) (fun _ _ _ h => h) (Or.inl ⟨by rfl, ?_⟩) ?_ ?_
           rotate_left
           ·
            intro w'
            go_simp
            with_reducible rfl
           rotate_left
           ·
            simp only [Act.put, zs1, zs2, zs3, i64_w, i32_w]
            rfl
           refine pure_ (i := 2) (N := some 31) (v := ?_) (a' := ?_) #[true, false, true, false, false, false, false, false, false, false, false, false, false, false, false, false, false, false, false] rfl rfl (zah HT_.out (by kernel_rfl)) (fun _ _ _ h => h) (Or.inl ⟨by rfl, ?_⟩) ?_ ?_
           rotate_left
           ·
            intro w'
            go_simp
            with_reducible rfl
           rotate_left
           ·
            simp only [Act.put, zs1, zs2, zs3, i64_w, i32_w]
            rfl
           refine pure_ (i := 5) (N := some 34) (v := ?_) (a' := ?_) #[true, false, true, false, false, true, false, false, false, false, false, false, false, false, false, false, false, false, false] rfl rfl (zah HT_.out (by kernel_rfl)) (fun _ _ _ h => h) (Or.inl ⟨by rfl, ?_⟩) ?_ ?_
           rotate_left
           ·
            intro w'
            go_simp
            with_reducible rfl
           rotate_left
           ·
            simp only [Act.put, zs1, zs2, zs3, i64_w, i32_w]
            rfl
           refine pure_ (i := 7) (N := some 36) (v := ?_) (a' := ?_) #[true, false, true, false, false, true, false, true, false, false, false, false, false, false, false, false, false, false, false] rfl rfl (zah HT_.out (by kernel_rfl)) (fun _ _ _ h => h) (Or.inl ⟨by rfl, ?_⟩) ?_ ?_
           rotate_left
           ·
            intro w'
            go_simp
            with_reducible rfl
           rotate_left
           ·
            simp only [Act.put, zs1, zs2, zs3, i64_w, i32_w]
            rfl
           refine pure_ (i := 10) (N := some 39) (v := ?_) (a' := ?_) #[true, false, true, false, false, true, false, true, false, false, true, false, false, false, false, false, false, false, false] rfl rfl (zah HT_.out (by kernel_rfl)) (fun _ _ _ h => h) (Or.inl ⟨by rfl, ?_⟩) ?_ ?_
           rotate_left
           ·
            intro w'
            go_simp
            with_reducible rfl
           rotate_left
           ·
            simp only [Act.put, zs1, zs2, zs3, i64_w, i32_w]
            rfl
           refine pure_ (i := 12) (N := some 41) (v := ?_) (a' := ?_) #[true, false, true, false, false, true, false, true, false, false, true, false, true, false, false, false, false, false, false] rfl rfl (zah HT_.out (by kernel_rfl)) (fun _ _ _ h => h) (Or.inl ⟨by rfl, ?_⟩) ?_ ?_
           rotate_left
           ·
            intro w'
            go_simp
            with_reducible rfl
           rotate_left
           ·
            simp only [Act.put, zs1, zs2, zs3, i64_w, i32_w]
            rfl
           refine pure_ (i := 13) (N := some 42) (v := ?_) (a' := ?_) #[true, false, true, false, false, true, false, true, false, false, true, false, true, true, false, false, false, false, false] rfl rfl (zah HT_.out (by kernel_rfl)) (fun _ _ _ h => h) (Or.inl ⟨by rfl, ?_⟩) ?_ ?_
           rotate_left
           ·
            intro w'
            go_simp
            with_reducible rfl
           rotate_left
           ·
            simp only [Act.put, zs1, zs2, zs3, i64_w, i32_w]
            rfl
           refine take_ (i := 1) (N := some 30) (v := ?_) (a' := ?_) #[true, true, true, false, false, true, false, true, false, false, true, false, true, true, false, false, false, false, false] rfl rfl (zat HT_.out HW_.out (by kernel_rfl)) (fun _ _ _ h => h) (Or.inl ⟨by rfl, ?_⟩) hHeld ?_ ?_
           rotate_left
           ·
            rintro w' ⟨s0, s1, s2⟩
            go_simp
            with_reducible rfl
           rotate_left
           ·
            simp only [Act.put, zs1, zs2, zs3, i64_w, i32_w]
            rfl
           refine take_ (i := 3) (N := some 32) (v := ?_) (a' := ?_) #[true, true, true, true, false, true, false, true, false, false, true, false, true, true, false, false, false, false, false] rfl rfl (zat HT_.out HW_.out (by kernel_rfl)) (fun _ _ _ h => h) (Or.inl ⟨by rfl, ?_⟩) hHeld ?_ ?_
           rotate_left
           ·
            rintro w' ⟨s0, s1, s2⟩
            go_simp
            with_reducible rfl
           rotate_left
           ·
            simp only [Act.put, zs1, zs2, zs3, i64_w, i32_w]
            rfl
           refine take_ (i := 6) (N := some 35) (v := ?_) (a' := ?_) #[true, true, true, true, false, true, true, true, false, false, true, false, true, true, false, false, false, false, false] rfl rfl (zat HT_.out HW_.out (by kernel_rfl)) (fun _ _ _ h => h) (Or.inl ⟨by rfl, ?_⟩) hHeld ?_ ?_
           rotate_left
           ·
            rintro w' ⟨s0, s1, s2⟩
            go_simp
            with_reducible rfl
           rotate_left
           ·
            simp only [Act.put, zs1, zs2, zs3, i64_w, i32_w]
            rfl
           refine pure_ (i := 8) (N := some 37) (v := ?_) (a' := ?_) #[true, true, true, true, false, true, true, true, true, false, true, false, true, true, false, false, false, false, false] rfl rfl (zah HT_.out (by kernel_rfl)) (fun _ _ _ h => h) (Or.inl ⟨by rfl, ?_⟩) ?_ ?_
           rotate_left
           ·
            intro w'
            go_simp
            with_reducible rfl
           rotate_left
           ·
            simp only [Act.put, zs1, zs2, zs3, i64_w, i32_w]
            rfl
           refine take_ (i := 11) (N := some 40) (v := ?_) (a' := ?_) #[true, true, true, true, false, true, true, true, true, false, true, true, true, true, false, false, false, false, false] rfl rfl (zat HT_.out HW_.out (by kernel_rfl)) (fun _ _ _ h => h) (Or.inl ⟨by rfl, ?_⟩) hHeld ?_ ?_
           rotate_left
           ·
            rintro w' ⟨s0, s1, s2⟩
            go_simp
            with_reducible rfl
           rotate_left
           ·
            simp only [Act.put, zs1, zs2, zs3, i64_w, i32_w]
            rfl
           refine pure_ (i := 14) (N := some 43) (v := ?_) (a' := ?_) #[true, true, true, true, false, true, true, true, true, false, true, true, true, true, true, false, false, false, false] rfl rfl (zah HT_.out (by kernel_rfl)) (fun _ _ _ h => h) (Or.inl ⟨by rfl, ?_⟩) ?_ ?_
           rotate_left
           ·
            intro w'
            go_simp
            with_reducible rfl
           rotate_left
           ·
            simp only [Act.put, zs1, zs2, zs3, i64_w, i32_w]
            rfl
           refine one_ (i := 4) (N := some 33) #[true, true, true, true, true, true, true, true, true, false, true, true, true, true, true, false, false, false, false] rfl rfl (zbb HT_.out (by kernel_rfl)) (by decide) (fun K hK => ?_)
           refine Kd.R_lit_step k84 _ 84 ?hg (N := 33) ?hd (xs := ([] : List (S84))) (inner := []) (ok := fun _ => True) (okp := fun _ => True) ?hr ?hp (fun _ hk => hk) trivial (Below.refl _ _) (Nat.le_refl _) (by simp) ?_; (case hd => rfl); (case hg => rfl); (case hr => first | (go_simp; done) | (go_simp; rfl)); (case hp => exact (Reps.none _ _))
           intro v283 w50 ho51 hb hg_ hnew_
           clear hg_ hnew_
           (first | rw [← Ny282.out] at ho51 | (simp only [Int.reduceToNat] at ho51; rw [← Ny282.out] at ho51))
           have n0_ := zA (Kd.V_elder' (zV HO0_2) (Kd.R_base ho51) hb)
           have n1_ := zA (Kd.V_elder' (zV HO289) (Kd.R_base ho51) hb)
           have n2_ := zA (Kd.V_elder' (zV HO297) (Kd.R_base ho51) hb)
           have n3_ := zA (Kd.R_lower (Kd.R_newM (M := fun k_ => (w.heap.size ≤ k_)) ho51 (zaf (zB HB)) (fun k_ h_ => h_)) (zaf (zB HB)))
           have n4_ := zA (zam (g := gb277) (o := .cells #[.int .i64 a0_0, .int .i64 a0_1, .slice (some ad280) l0_2.length c0_2] 44 (0, 0)) (zK BK277) hb)
           have n5_ := zA (zam (g := gb278) (o := .cells #[.int .i64 0, .int .i64 0, .slice none 0 0] 44 (0, 0)) (zK BK278) hb)
           have n6_ := zA (zab (zB HB) hb)
           clear HO0_2 HO289 HO297 BK277 BK278 HB
           have HO0_2 := n0_
           have HO289 := n1_
           have HO297 := n2_
           have HO284 := n3_
           have BK277 := n4_
           have BK278 := n5_
           have HB := n6_
           clear n0_ n1_ n2_ n3_ n4_ n5_ n6_ hb ho51
           refine hK.out _ _ ⟨(za BK277.out 0).trans rfl, (za BK277.out 1).trans rfl, (za BK277.out 2).trans rfl⟩ (fun hHeld => ?_)
           clear hK K
           refine norm_ (a' := ?_) ?_ ?_
           rotate_left
           ·
            show Act.put _ (some 33) _ = _
            simp only [Act.put, zs1, zs2, zs3, i64_w, i32_w]
            rfl
           refine one_ (i := 9) (N := some 38) #[true, true, true, true, true, true, true, true, true, true, true, true, true, true, true, false, false, false, false] rfl rfl (zbb HT_.out (by kernel_rfl)) (by decide) (fun K hK => ?_)
           refine Kd.zbd k84 (w0 := w) w.heap.size (by rfl) (.tmp 33) (.tmp 37) 42 84 (.agg #[(.int .i64 0), (.int .i64 0), (.int .i64 0), (.int .i64 0), (.int .i64 0)]) 40 rfl Try.underlying42 info84 rfl (by decide) (by omega) v283 y282 y285 _ _ _ (fun k_ => (w.heap.size ≤ k_)) (fun _ => False) rfl rfl ?aO ?aR (fun _ _ h => h) (fun _ h => h.elim) ?aF ?aB ?aS ?aL ?_
           (case aR => exact zJ (Kd.zay HO289.out).2.2)
           (case aB => exact (zB HB))
           (case aF => exact (fun k_ hk => (Nat.le_trans (zaf (zB HB)) hk)))
           (case aO => exact (by (with_reducible repeat (first | apply Kd.zcb | apply Kd.zb9 | apply Kd.R_drew)); exact Kd.zbn HO284.out (fun _ hk => hk.1)))
           (case aS => exact (zaf (zB HB)))
           (case aL => have := LMc35.out; omega)
           intro v291 w52 ho hb hg hat
           rw [← Ny290.out] at ho
           have n0_ := zA (Kd.V_afterv (ok := (fun k_ => (P0_2_ k_ ∨ w.heap.size ≤ k_) ∧ k_ ≠ gb277 ∧ k_ ≠ gb278)) (by (with_reducible repeat (first | apply Kd.zbs | apply Kd.zb8 | apply Kd.V_drew)); exact Kd.zbk HO0_2.out (fun _ hk => ⟨⟨hk.1.1.1, ⟨hk.1.1.2, hk.1.2⟩⟩, hk.2⟩)) hg hat)
           have n1_ := zA (zb (g := gb277) (o := .cells #[.int .i64 a0_0, .int .i64 a0_1, .slice (some ad280) l0_2.length c0_2] 44 (0, 0)) (zK BK277) hg (Kd.R_ne HO284.out BK277.out (by decide)))
           have n2_ := zA (zb (g := gb278) (o := .cells #[.int .i64 0, .int .i64 0, .slice none 0 0] 44 (0, 0)) (zK BK278) hg (Kd.R_ne HO284.out BK278.out (by decide)))
           have n3_ := zA (Kd.V_afterv (ok := (fun k_ => (P0_2_ k_ ∨ w.heap.size ≤ k_) ∧ k_ ≠ gb277 ∧ k_ ≠ gb278)) (by (with_reducible repeat (first | apply Kd.zbs | apply Kd.zb8 | apply Kd.V_drew)); exact Kd.zbk HO289.out (fun _ hk => ⟨⟨hk.1.1.1, ⟨hk.1.1.2, hk.1.2⟩⟩, hk.2⟩)) hg hat)
           have n4_ := zA (Kd.V_afterv (ok := (fun k_ => (P0_2_ k_ ∨ w.heap.size ≤ k_) ∧ k_ ≠ gb277 ∧ k_ ≠ gb278)) (by (with_reducible repeat (first | apply Kd.zbs | apply Kd.zb8 | apply Kd.V_drew)); exact Kd.zbk HO297.out (fun _ hk => ⟨⟨hk.1.1.1, ⟨hk.1.1.2, hk.1.2⟩⟩, hk.2⟩)) hg hat)
           have n5_ := zA (hb)
           have n6_ := zA (ho)
           clear HO0_2 BK277 BK278 HO289 HO297 HB HO284
           have HO0_2 := n0_
           have BK277 := n1_
           have BK278 := n2_
           have HO289 := n3_
           have HO297 := n4_
           have HB := n5_
           have HO292 := n6_
           clear n0_ n1_ n2_ n3_ n4_ n5_ n6_ ho hb hg hat
           refine hK.out _ _ ⟨(za BK277.out 0).trans rfl, (za BK277.out 1).trans rfl, (za BK277.out 2).trans rfl⟩ (fun hHeld => ?_)
           clear hK K
           refine norm_ (a' := ?_) ?_ ?_
           rotate_left
           ·
            show Act.put _ (some 38) _ = _
            simp only [Act.put, zs1, zs2, zs3, i64_w, i32_w]
            rfl
           refine one_ (i := 15) (N := some 44) #[true, true, true, true, true, true, true, true, true, true, true, true, true, true, true, true, false, false, false] rfl rfl (zbb HT_.out (by kernel_rfl)) (by decide) (fun K hK => ?_)
           refine Kd.zbd k84 (w0 := w) w.heap.size (by rfl) (.tmp 38) (.tmp 43) 42 84 (.agg #[(.int .i64 0), (.int .i64 0), (.int .i64 0), (.int .i64 0), (.int .i64 0)]) 40 rfl Try.underlying42 info84 rfl (by decide) (by omega) v291 y290 y293 _ _ _ (fun k_ => (w.heap.size ≤ k_)) (fun _ => False) rfl rfl ?aO ?aR (fun _ _ h => h) (fun _ h => h.elim) ?aF ?aB ?aS ?aL ?_
           (case aR => exact zJ (Kd.zay HO297.out).2.2)
           (case aB => exact (zB HB))
           (case aF => exact (fun k_ hk => (Nat.le_trans (zaf (zB HB)) hk)))
           (case aO => exact (zR HO292))
           (case aS => exact (zaf (zB HB)))
           (case aL => have := LMc39.out; omega)
           intro v299 w53 ho hb hg hat
           rw [← Ny298.out] at ho
           have n0_ := zA (Kd.V_afterv (ok := (fun k_ => (P0_2_ k_ ∨ w.heap.size ≤ k_) ∧ k_ ≠ gb277 ∧ k_ ≠ gb278)) (zV HO0_2) hg hat)
           have n1_ := zA (zb (g := gb277) (o := .cells #[.int .i64 a0_0, .int .i64 a0_1, .slice (some ad280) l0_2.length c0_2] 44 (0, 0)) (zK BK277) hg (Kd.R_ne HO292.out BK277.out (by decide)))
           have n2_ := zA (zb (g := gb278) (o := .cells #[.int .i64 0, .int .i64 0, .slice none 0 0] 44 (0, 0)) (zK BK278) hg (Kd.R_ne HO292.out BK278.out (by decide)))
           have n3_ := zA (Kd.V_afterv (ok := (fun k_ => (P0_2_ k_ ∨ w.heap.size ≤ k_) ∧ k_ ≠ gb277 ∧ k_ ≠ gb278)) (zV HO289) hg hat)
           have n4_ := zA (Kd.V_afterv (ok := (fun k_ => (P0_2_ k_ ∨ w.heap.size ≤ k_) ∧ k_ ≠ gb277 ∧ k_ ≠ gb278)) (zV HO297) hg hat)
           have n5_ := zA (hb)
           have n6_ := zA (ho)
           clear HO0_2 BK277 BK278 HO289 HO297 HB HO292
           have HO0_2 := n0_
           have BK277 := n1_
           have BK278 := n2_
           have HO289 := n3_
           have HO297 := n4_
           have HB := n5_
           have HO300 := n6_
           clear n0_ n1_ n2_ n3_ n4_ n5_ n6_ ho hb hg hat
           obtain ⟨Ao54, co54, eo54⟩ := Kd.zbv HO300.out
           (first | subst eo54 | (injection eo54 with f1_ f2_ f3_; have f4_ := f1_.symm; have f5_ := f3_.symm; clear f1_ f2_ f3_; subst f4_; subst f5_))
           refine hK.out _ _ ⟨(za BK277.out 0).trans rfl, (za BK277.out 1).trans rfl, (za BK277.out 2).trans rfl⟩ (fun hHeld => ?_)
           clear hK K
           refine norm_ (a' := ?_) ?_ ?_
           rotate_left
           ·
            show Act.put _ (some 44) _ = _
            simp only [Act.put, zs1, zs2, zs3, i64_w, i32_w]
            rfl
           refine pure_ (i := 16) (N := some 45) (v := ?_) (a' := ?_) #[true, true, true, true, true, true, true, true, true, true, true, true, true, true, true, true, true, false, false] rfl rfl (zah HT_.out (by kernel_rfl)) (fun _ _ _ h => h) (Or.inl ⟨by rfl, ?_⟩) ?_ ?_
           rotate_left
           ·
            intro w'
            go_simp
            with_reducible rfl
           rotate_left
           ·
            simp only [Act.put, zs1, zs2, zs3, i64_w, i32_w]
            rfl
           refine one_ (i := 17) (N := none) #[true, true, true, true, true, true, true, true, true, true, true, true, true, true, true, true, true, true, false] rfl rfl (zbb HT_.out (by kernel_rfl)) (by decide) (fun K hK => ?_)
           have hs55 : w53.cell? ⟨gb278, 0, none⟩ = some (.int .i64 0) := (za BK278.out 0).trans rfl
           have hfs55 := zaa BK278.out 0
           have hns55_0 := NB277_278.out
           have hms55_0 := NB278_277.out
           have hs56 : w53.cell? ⟨gb278, 1, none⟩ = some (.int .i64 0) := (za BK278.out 1).trans rfl
           have hfs56 := zaa BK278.out 1
           have hns56_0 := NB277_278.out
           have hms56_0 := NB278_277.out
           have hs57 : w53.cell? ⟨gb278, 2, none⟩ = some (.slice none 0 0) := (za BK278.out 2).trans rfl
           have hfs57 := zaa BK278.out 2
           have hns57_0 := NB277_278.out
           have hms57_0 := NB278_277.out
           refine skip_ (w1 := ?_) (by rfl) rfl ?_ ?_
           rotate_left
           ·
            go_simp
            rfl
           refine hK.out _ _ ⟨((cell_far (p := ⟨gb278, _, none⟩) NB277_278.out _).trans (((cell_far (p := ⟨gb278, _, none⟩) NB277_278.out _).trans (((cell_far (p := ⟨gb278, _, none⟩) NB277_278.out _).trans (hHeld.1)))))), ((cell_far (p := ⟨gb278, _, none⟩) NB277_278.out _).trans (((cell_far (p := ⟨gb278, _, none⟩) NB277_278.out _).trans (((cell_far (p := ⟨gb278, _, none⟩) NB277_278.out _).trans (hHeld.2.1)))))), ((cell_far (p := ⟨gb278, _, none⟩) NB277_278.out _).trans (((cell_far (p := ⟨gb278, _, none⟩) NB277_278.out _).trans (((cell_far (p := ⟨gb278, _, none⟩) NB277_278.out _).trans (hHeld.2.2))))))⟩ (fun hHeld => ?_)
           clear hK K
           refine pure_ (i := 18) (N := some 5) (v := ?_) (a' := ?_) #[true, true, true, true, true, true, true, true, true, true, true, true, true, true, true, true, true, true, true] rfl rfl (zah HT_.out (by kernel_rfl)) (fun _ _ _ h => h) (Or.inl ⟨by rfl, ?_⟩) ?_ ?_
           rotate_left
           ·
            intro w'
            go_simp
            with_reducible rfl
           rotate_left
           ·
            simp only [Act.put, zs1, zs2, zs3, i64_w, i32_w]
            rfl
           refine done_ (zby HT_.out (by kernel_rfl)) ?_
           try go_wp2
           refine bodyPost_ret (zav rfl _ _ gb278 44 #[.int .i64 a0_0, .int .i64 a0_1, .slice Ao54 y298.length co54] (0, 0) _ rfl (by (with_reducible repeat (first | refine zao ?_ _ | refine zan ?_ | refine zac ?_ _)); refine zau (cs := #[.int .i64 a0_0, .int .i64 a0_1, .slice none 0 0]) ?_ 2 _ rfl; (with_reducible repeat (first | refine zao ?_ _ | refine zan ?_ | refine zac ?_ _)); refine zau (cs := #[.int .i64 a0_0, .int .i64 0, .slice none 0 0]) ?_ 1 _ rfl; (with_reducible repeat (first | refine zao ?_ _ | refine zan ?_ | refine zac ?_ _)); refine zau (cs := #[.int .i64 0, .int .i64 0, .slice none 0 0]) ?_ 0 _ rfl; (with_reducible repeat (first | refine zao ?_ _ | refine zan ?_ | refine zac ?_ _)); exact BK278.out) Try.underlying44 rfl (by kernel_rfl)) rfl ?_
           exact ⟨_, by first | rfl | (simp [errW_none, errW_some] <;> rfl) | (simp only [← hji36]; first | rfl | (simp [errW_none, errW_some] <;> rfl)) | (simp [*, errW_none, errW_some] <;> rfl), Kd.zbk (Kd.R_V (by (with_reducible repeat (first | apply Kd.zcb | apply Kd.zb9 | apply Kd.R_drew)); exact Kd.zbn (Kd.R_far (p := ⟨gb278, 2, none⟩) (Kd.R_far (p := ⟨gb278, 1, none⟩) (Kd.R_far (p := ⟨gb278, 0, none⟩) (Kd.R_types HO300.out BK278.out (by decide)) (fun _ hk => hk.2) (.int .i64 a0_0)) (fun _ hk => hk.2) (.int .i64 a0_1)) (fun _ hk => hk.2) (.slice Ao54 y298.length co54)) (fun _ hk => hk.1))) (fun k_ hk => by first | exact ⟨(.inr (hk.1)), hk.2⟩ | exact (.inr (hk))), zB HB⟩
          ·
           rw [if_neg c39] at H
           exact absurd H (by simp)
         ·
          rw [if_neg c38] at H
          exact absurd H (by simp)
        ·
         rw [if_neg c37] at H
         exact absurd H (by simp)
       ·
        rw [if_neg c35] at H
        exact absurd H (by simp)
      ·
       rw [if_neg c34] at H
       exact absurd H (by simp)
   ·
    rw [if_neg c13] at H
    exact absurd H (by simp)
  ·
   rw [if_neg c12] at H
   exact absurd H (by simp)
def zai.l0 : Nat → Int → Int → Int → List (S84) → Option (Int)
 | 0, _, _, _, _ => none
 | k + 1, x1, x300000, x300001, x300002 => (zae.f k x300000 x300001 x300002 x1).bind fun t300 => (if 0 ≤ t300 then (if t300 < (x300002.length : Int) then (if ((rd_T84 x300002 t300).f1) ≥ 0 then ((zae.f k x300000 x300001 x300002 x1).bind fun t302 => (if 0 ≤ t302 then (if t302 < (x300002.length : Int) then (zai.l0 k ((rd_T84 x300002 t302).f1) x300000 x300001 x300002) else (none)) else (none))) else (some x1)) else (none)) else (none))
def zai.f (k : Nat) (a0_0 : Int) (a0_1 : Int) (l0_2 : List (S84)) (a1 : Int) : Option (Int) := zai.l0 k a1 a0_0 a0_1 l0_2
def zai.T1 : Bool × List (List Nat × List Nat) := (true, [([], []), ([0], [0]), ([], []), ([], []), ([2, 3], [2, 3]), ([1, 4], [1, 4]), ([5], [5]), ([6], [6]), ([7], [7])])
def zai.B1 : List Nat := [0, 1, 0, 0, 12, 31, 63, 127, 255]
theorem zai.tab1 : rtab .any (opsOf Try.f44 1) = zai.T1 := by kernel_rfl
theorem zai.bits1 : waitsOk zai.T1.2 zai.B1 = true := by kernel_rfl
def zai.T2 : Bool × List (List Nat × List Nat) := (true, [([], []), ([0], [0]), ([], []), ([], []), ([2, 3], [2, 3]), ([1, 4], [1, 4]), ([5], [5]), ([6], [6]), ([7, 4, 0, 1, 2, 3, 4, 5, 6, 7], [3, 7])])
def zai.B2 : List Nat := [0, 1, 0, 0, 12, 31, 63, 127, 255]
theorem zai.tab2 : rtab .any (opsOf Try.f44 2) = zai.T2 := by kernel_rfl
theorem zai.bits2 : waitsOk zai.T2.2 zai.B2 = true := by kernel_rfl
theorem zai.calls (k : Nat) (a0_0 : Int) (a0_1 : Int) (A0_2 : Option Addr) (c0_2 : Nat) (l0_2 : List (S84)) (a1 : Int) (r : Int) (w : World) (hr0_2 : Kd.C k84 w A0_2 l0_2.length l0_2) (hc0_2 : l0_2.length ≤ c0_2) (h : zai.f k a0_0 a0_1 l0_2 a1 = some r) :
  Calls Try.prog 44 #[.agg #[.int .i64 a0_0, .int .i64 a0_1, .slice A0_2 l0_2.length c0_2], .int .i64 a1] w fun e w' => e = .returned (.int .i64 r) ∧ Below w.heap.size w w' := by
 have hu44 := Try.underlying44
 have HR0_2 := zA hr0_2
 have HC0_2 := zA hc0_2
 clear hr0_2 hc0_2
 have HB := zA (Below.refl w.heap.size w)
 have H : (zai.l0 k a1 a0_0 a0_1 l0_2) = some r := h
 clear h
 have H' := zA H
 clear H
 go_enter Try.func44, Try.ntmps44
 go_wp2_with (first | ((with_reducible refine za7 (N := 2) rfl ?_); refine za3 ?hg (N := 2) ?hd (cs := #[.int .i64 a0_0, .int .i64 a0_1, .slice A0_2 l0_2.length c0_2]) (t := 44) ?hr ?_; (case hd => rfl); (case hg => rfl); (case hr => first | (go_simp; done) | (go_simp; rfl)); intro gb299 hg w3 hbox hb; have n0_ := zA (zab (zB HB) hb); have n1_ := zA (hbox); have n2_ := zA ((by rw [hg]; exact (zaf (zB HB)) : w.heap.size ≤ gb299)); have n3_ := zA ((by rw [hg]; exact (zaf (zB HB)) : w.heap.size ≤ gb299)); clear HB; have HB := n0_; have BK299 := n1_; have GW299 := n2_; have GE299 := n3_; clear n0_ n1_ n2_ n3_ hb hbox hg))
 go_loopg [1] k (fun kq v1 w' => ∃ (x1_1 : Int), v1 = .int .i64 x1_1 ∧ Aside0 (zai.l0 kq x1_1 a0_0 a0_1 l0_2 = some r) ∧ Aside0 (kq ≤ k) ∧ Aside0 (w'.heap[gb299]? = some (.cells #[.int .i64 a0_0, .int .i64 a0_1, (.slice A0_2 l0_2.length c0_2)] 44 (0, 0))) ∧ Aside0 (Below w.heap.size w w'))
 case atStart => exact ⟨(a1), (zF), H', ⟨Nat.le_refl _⟩, ⟨zK BK299⟩, ⟨zB HB⟩⟩
 case round =>
  clear H'
  try clear p2
  obtain ⟨x1_1, rfl, HA, HK1, BK299, HB⟩ := hrel
  cases gk with
  | zero => exact absurd HA.out (by simp [zai.l0])
  | succ k1 =>
   have H := HA.out
   clear HA
   simp only [zai.l0] at H
   replace H := zO H
   obtain ⟨t300, A40, H⟩ := H
   try dsimp only at H
   have A4 := zA A40
   clear A40
   by_cases c5 : 0 ≤ t300
   ·
    rw [if_pos c5] at H
    have c5b0 : decide (0 ≤ t300) = true := decide_eq_true c5
    clear c5
    by_cases c6 : t300 < (l0_2.length : Int)
    ·
     rw [if_pos c6] at H
     have c6b0 : decide (t300 < (l0_2.length : Int)) = true := decide_eq_true c6
     clear c6
     by_cases c7 : ((rd_T84 l0_2 t300).f1) ≥ 0
     ·
      rw [if_pos c7] at H
      have c7b0 : decide (0 ≤ ((rd_T84 l0_2 t300).f1)) = true := decide_eq_true c7
      clear c7
      replace H := zO H
      obtain ⟨t302, A80, H⟩ := H
      try dsimp only at H
      have A8 := zA A80
      clear A80
      by_cases c9 : 0 ≤ t302
      ·
       rw [if_pos c9] at H
       have c9b0 : decide (0 ≤ t302) = true := decide_eq_true c9
       clear c9
       by_cases c10 : t302 < (l0_2.length : Int)
       ·
        rw [if_pos c10] at H
        have c10b0 : decide (t302 < (l0_2.length : Int)) = true := decide_eq_true c10
        clear c10
        have H' := zA H
        clear H
        try go_wp2
        have n0_ := zA (zan BK299.out)
        have n1_ := zA (zbf HB.out)
        clear BK299 HB
        have BK299 := n0_
        have HB := n1_
        clear n0_ n1_
        have p301 : 0 ≤ (t300 : Int) := of_decide_eq_true (by first | (with_reducible assumption) | assumption)
        have q301 : t300 < (l0_2.length : Int) := of_decide_eq_true (by first | (with_reducible assumption) | assumption)
        obtain ⟨ad301, e301, hx301_0, hx301_1, hx301_2, hx301_3, hx301_4⟩ := at_T84 HR0_2.out t300 p301 q301
        have hw301_4 := hx301_4
        have hw301_3 := hx301_3
        have hw301_2 := hx301_2
        have hw301_1 := hx301_1
        have hw301_0 := hx301_0
        cases e301
        replace hx301_0 := (HB.out.cell (World.block_lt_of_cell? w _ hx301_0)).trans hx301_0
        replace hx301_1 := (HB.out.cell (World.block_lt_of_cell? w _ hx301_1)).trans hx301_1
        replace hx301_2 := (HB.out.cell (World.block_lt_of_cell? w _ hx301_2)).trans hx301_2
        replace hx301_3 := (HB.out.cell (World.block_lt_of_cell? w _ hx301_3)).trans hx301_3
        replace hx301_4 := (HB.out.cell (World.block_lt_of_cell? w _ hx301_4)).trans hx301_4
        replace p301 := eq_true p301
        replace q301 := eq_true q301
        refine start_ (n := 9) (S := fun w' => w'.cell? ⟨gb299, 0, none⟩ = some (.int .i64 a0_0) ∧ w'.cell? ⟨gb299, 1, none⟩ = some (.int .i64 a0_1) ∧ w'.cell? ⟨gb299, 2, none⟩ = some (.slice (some ad301) l0_2.length c0_2) ∧ w'.cell? (ad301.add ((t300).toNat * 5)) = some (.int .i64 ((rd_T84 l0_2 t300).f0)) ∧ w'.cell? ⟨(ad301.add ((t300).toNat * 5)).block, (ad301.add ((t300).toNat * 5)).off + 1, none⟩ = some (.int .i64 ((rd_T84 l0_2 t300).f1)) ∧ w'.cell? ⟨(ad301.add ((t300).toNat * 5)).block, (ad301.add ((t300).toNat * 5)).off + 2, none⟩ = some (.int .i64 ((rd_T84 l0_2 t300).f2)) ∧ w'.cell? ⟨(ad301.add ((t300).toNat * 5)).block, (ad301.add ((t300).toNat * 5)).off + 3, none⟩ = some (.int .i64 ((rd_T84 l0_2 t300).f3)) ∧ w'.cell? ⟨(ad301.add ((t300).toNat * 5)).block, (ad301.add ((t300).toNat * 5)).off + 4, none⟩ = some (.int .i64 ((rd_T84 l0_2 t300).f4))) (ds := []) #[false, false, false, false, false, false, false, false, false] (by kernel_rfl) rfl rfl ⟨(za BK299.out 0).trans rfl, (za BK299.out 1).trans rfl, (za BK299.out 2).trans rfl, ((HB.out.cell (World.block_lt_of_cell? w _ hw301_0)).trans hw301_0), ((HB.out.cell (World.block_lt_of_cell? w _ hw301_1)).trans hw301_1), ((HB.out.cell (World.block_lt_of_cell? w _ hw301_2)).trans hw301_2), ((HB.out.cell (World.block_lt_of_cell? w _ hw301_3)).trans hw301_3), ((HB.out.cell (World.block_lt_of_cell? w _ hw301_4)).trans hw301_4)⟩ (fun hHeld => ?_); refine zbj zai.tab1 zai.bits1 (fun HT_ HW_ => ?_)
        generalize wr.drew = w11 at BK299 HB hx301_0 hx301_1 hx301_2 hx301_3 hx301_4 hHeld ⊢
        refine pure_ (i := 0) (N := some 5) (v := ?_) (a' := ?_) #[true, false, false, false, false, false, false, false, false] rfl rfl (zah HT_.out (by kernel_rfl)) (fun _ _ _ h => h) (Or.inl ⟨by rfl, ?_⟩) ?_ ?_
        rotate_left
        ·
         intro w'
         go_simp
         with_reducible rfl
        rotate_left
        ·
         simp only [Act.put, zs1, zs2, zs3, i64_w, i32_w]
         rfl
        refine pure_ (i := 3) (N := some 8) (v := ?_) (a' := ?_) #[true, false, false, true, false, false, false, false, false] rfl rfl (zah HT_.out (by kernel_rfl)) (fun _ _ _ h => h) (Or.inl ⟨by rfl, ?_⟩) ?_ ?_
        rotate_left
        ·
         intro w'
         go_simp
         with_reducible rfl
        rotate_left
        ·
         simp only [Act.put, zs1, zs2, zs3, i64_w, i32_w]
         rfl
        refine take_ (i := 1) (N := some 6) (v := ?_) (a' := ?_) #[true, true, false, true, false, false, false, false, false] rfl rfl (zat HT_.out HW_.out (by kernel_rfl)) (fun _ _ _ h => h) (Or.inl ⟨by rfl, ?_⟩) hHeld ?_ ?_
        rotate_left
        ·
         rintro w' ⟨s0, s1, s2, s3, s4, s5, s6, s7⟩
         go_simp
         with_reducible rfl
        rotate_left
        ·
         simp only [Act.put, zs1, zs2, zs3, i64_w, i32_w]
         rfl
        refine take_ (i := 2) (N := some 7) (v := ?_) (a' := ?_) #[true, true, true, true, false, false, false, false, false] rfl rfl (zat HT_.out HW_.out (by kernel_rfl)) (fun _ _ _ h => h) (Or.inl ⟨by rfl, ?_⟩) hHeld ?_ ?_
        rotate_left
        ·
         rintro w' ⟨s0, s1, s2, s3, s4, s5, s6, s7⟩
         go_simp
         with_reducible rfl
        rotate_left
        ·
         simp only [Act.put, zs1, zs2, zs3, i64_w, i32_w]
         rfl
        refine one_ (i := 4) (N := some 9) #[true, true, true, true, true, false, false, false, false] rfl rfl (zbb HT_.out (by kernel_rfl)) (by decide) (fun K hK => ?_)
        refine goes_ Try.func55 (by kernel_rfl) rfl #[.agg #[.int .i64 a0_0, .int .i64 a0_1, .slice (some ad301) l0_2.length c0_2], .int .i64 x1_1] (by rfl) rfl rfl (zE) ?_
        with_reducible refine (zae.calls k1 a0_0 a0_1 _ _ l0_2 x1_1 t300 _ ?side1 ?side2 A4.out).mono ?_
        (case side1 => exact zJ (Kd.za0 HR0_2.out HB.out))
        (case side2 => exact HC0_2.out)
        rintro e w12 ⟨rfl, hb⟩
        refine ⟨_, rfl, ?_⟩
        have n0_ := zA (zam (g := gb299) (o := .cells #[.int .i64 a0_0, .int .i64 a0_1, .slice (some ad301) l0_2.length c0_2] 44 (0, 0)) (zK BK299) hb)
        have n1_ := zA (zab (zB HB) hb)
        clear BK299 HB
        have BK299 := n0_
        have HB := n1_
        clear n0_ n1_
        (try clear hb)
        (try clear hb2)
        (try clear hk)
        (try clear hi)
        refine hK.out _ _ ⟨(za BK299.out 0).trans rfl, (za BK299.out 1).trans rfl, (za BK299.out 2).trans rfl, ((HB.out.cell (World.block_lt_of_cell? w _ hw301_0)).trans hw301_0), ((HB.out.cell (World.block_lt_of_cell? w _ hw301_1)).trans hw301_1), ((HB.out.cell (World.block_lt_of_cell? w _ hw301_2)).trans hw301_2), ((HB.out.cell (World.block_lt_of_cell? w _ hw301_3)).trans hw301_3), ((HB.out.cell (World.block_lt_of_cell? w _ hw301_4)).trans hw301_4)⟩ (fun hHeld => ?_)
        clear hK K
        refine norm_ (a' := ?_) ?_ ?_
        rotate_left
        ·
         show Act.put _ (some 9) _ = _
         simp only [Act.put, zs1, zs2, zs3, i64_w, i32_w]
         rfl
        refine pure_ (i := 5) (N := some 10) (v := ?_) (a' := ?_) #[true, true, true, true, true, true, false, false, false] rfl rfl (zah HT_.out (by kernel_rfl)) (fun _ _ _ h => h) (Or.inl ⟨by rfl, ?_⟩) ?_ ?_
        rotate_left
        ·
         intro w'
         go_simp
         with_reducible rfl
        rotate_left
        ·
         simp only [Act.put, zs1, zs2, zs3, i64_w, i32_w]
         rfl
        refine pure_ (i := 6) (N := some 11) (v := ?_) (a' := ?_) #[true, true, true, true, true, true, true, false, false] rfl rfl (zah HT_.out (by kernel_rfl)) (fun _ _ _ h => h) (Or.inl ⟨by rfl, ?_⟩) ?_ ?_
        rotate_left
        ·
         intro w'
         go_simp
         with_reducible rfl
        rotate_left
        ·
         simp only [Act.put, zs1, zs2, zs3, i64_w, i32_w]
         rfl
        refine take_ (i := 7) (N := some 12) (v := ?_) (a' := ?_) #[true, true, true, true, true, true, true, true, false] rfl rfl (zat HT_.out HW_.out (by kernel_rfl)) (fun _ _ _ h => h) (Or.inl ⟨by rfl, ?_⟩) hHeld ?_ ?_
        rotate_left
        ·
         rintro w' ⟨s0, s1, s2, s3, s4, s5, s6, s7⟩
         go_simp
         with_reducible rfl
        rotate_left
        ·
         simp only [Act.put, zs1, zs2, zs3, i64_w, i32_w]
         rfl
        refine pure_ (i := 8) (N := some 13) (v := ?_) (a' := ?_) #[true, true, true, true, true, true, true, true, true] rfl rfl (zah HT_.out (by kernel_rfl)) (fun _ _ _ h => h) (Or.inl ⟨by rfl, ?_⟩) ?_ ?_
        rotate_left
        ·
         intro w'
         go_simp
         with_reducible rfl
        rotate_left
        ·
         simp only [Act.put, zs1, zs2, zs3, i64_w, i32_w]
         rfl
        refine done_ (zby HT_.out (by kernel_rfl)) ?_
        try go_wp2
        have n0_ := zA (zan BK299.out)
        have n1_ := zA (zbf HB.out)
        clear BK299 HB
        have BK299 := n0_
        have HB := n1_
        clear n0_ n1_
        have p303 : 0 ≤ (t302 : Int) := of_decide_eq_true (by first | (with_reducible assumption) | assumption)
        have q303 : t302 < (l0_2.length : Int) := of_decide_eq_true (by first | (with_reducible assumption) | assumption)
        obtain ⟨ad303, e303, hx303_0, hx303_1, hx303_2, hx303_3, hx303_4⟩ := at_T84 HR0_2.out t302 p303 q303
        have hw303_4 := hx303_4
        have hw303_3 := hx303_3
        have hw303_2 := hx303_2
        have hw303_1 := hx303_1
        have hw303_0 := hx303_0
        obtain rfl : ad301 = ad303 := (by injection e303)
        replace hx303_0 := (HB.out.cell (World.block_lt_of_cell? w _ hx303_0)).trans hx303_0
        replace hx303_1 := (HB.out.cell (World.block_lt_of_cell? w _ hx303_1)).trans hx303_1
        replace hx303_2 := (HB.out.cell (World.block_lt_of_cell? w _ hx303_2)).trans hx303_2
        replace hx303_3 := (HB.out.cell (World.block_lt_of_cell? w _ hx303_3)).trans hx303_3
        replace hx303_4 := (HB.out.cell (World.block_lt_of_cell? w _ hx303_4)).trans hx303_4
        replace p303 := eq_true p303
        replace q303 := eq_true q303
        refine start_ (n := 9) (S := fun w' => w'.cell? ⟨gb299, 0, none⟩ = some (.int .i64 a0_0) ∧ w'.cell? ⟨gb299, 1, none⟩ = some (.int .i64 a0_1) ∧ w'.cell? ⟨gb299, 2, none⟩ = some (.slice (some ad301) l0_2.length c0_2) ∧ w'.cell? (ad301.add ((t302).toNat * 5)) = some (.int .i64 ((rd_T84 l0_2 t302).f0)) ∧ w'.cell? ⟨(ad301.add ((t302).toNat * 5)).block, (ad301.add ((t302).toNat * 5)).off + 1, none⟩ = some (.int .i64 ((rd_T84 l0_2 t302).f1)) ∧ w'.cell? ⟨(ad301.add ((t302).toNat * 5)).block, (ad301.add ((t302).toNat * 5)).off + 2, none⟩ = some (.int .i64 ((rd_T84 l0_2 t302).f2)) ∧ w'.cell? ⟨(ad301.add ((t302).toNat * 5)).block, (ad301.add ((t302).toNat * 5)).off + 3, none⟩ = some (.int .i64 ((rd_T84 l0_2 t302).f3)) ∧ w'.cell? ⟨(ad301.add ((t302).toNat * 5)).block, (ad301.add ((t302).toNat * 5)).off + 4, none⟩ = some (.int .i64 ((rd_T84 l0_2 t302).f4))) (ds := []) #[false, false, false, false, false, false, false, false, false] (by kernel_rfl) rfl rfl ⟨(za BK299.out 0).trans rfl, (za BK299.out 1).trans rfl, (za BK299.out 2).trans rfl, ((HB.out.cell (World.block_lt_of_cell? w _ hw303_0)).trans hw303_0), ((HB.out.cell (World.block_lt_of_cell? w _ hw303_1)).trans hw303_1), ((HB.out.cell (World.block_lt_of_cell? w _ hw303_2)).trans hw303_2), ((HB.out.cell (World.block_lt_of_cell? w _ hw303_3)).trans hw303_3), ((HB.out.cell (World.block_lt_of_cell? w _ hw303_4)).trans hw303_4)⟩ (fun hHeld => ?_); refine zbj zai.tab2 zai.bits2 (fun HT_ HW_ => ?_)
        generalize w12.drew = w13 at BK299 HB hx303_0 hx303_1 hx303_2 hx303_3 hx303_4 hHeld ⊢
        refine pure_ (i := 0) (N := some 14) (v := ?_) (a' := ?_) #[true, false, false, false, false, false, false, false, false] rfl rfl (zah HT_.out (by kernel_rfl)) (fun _ _ _ h => h) (Or.inl ⟨by rfl, ?_⟩) ?_ ?_
        rotate_left
        ·
         intro w'
         go_simp
         with_reducible rfl
        rotate_left
        ·
         simp only [Act.put, zs1, zs2, zs3, i64_w, i32_w]
         rfl
        refine pure_ (i := 3) (N := some 17) (v := ?_) (a' := ?_) #[true, false, false, true, false, false, false, false, false] rfl rfl (zah HT_.out (by kernel_rfl)) (fun _ _ _ h => h) (Or.inl ⟨by rfl, ?_⟩) ?_ ?_
        rotate_left
        ·
         intro w'
         go_simp
         with_reducible rfl
        rotate_left
        ·
         simp only [Act.put, zs1, zs2, zs3, i64_w, i32_w]
         rfl
        refine take_ (i := 1) (N := some 15) (v := ?_) (a' := ?_) #[true, true, false, true, false, false, false, false, false] rfl rfl (zat HT_.out HW_.out (by kernel_rfl)) (fun _ _ _ h => h) (Or.inl ⟨by rfl, ?_⟩) hHeld ?_ ?_
        rotate_left
        ·
         rintro w' ⟨s0, s1, s2, s3, s4, s5, s6, s7⟩
         go_simp
         with_reducible rfl
        rotate_left
        ·
         simp only [Act.put, zs1, zs2, zs3, i64_w, i32_w]
         rfl
        refine take_ (i := 2) (N := some 16) (v := ?_) (a' := ?_) #[true, true, true, true, false, false, false, false, false] rfl rfl (zat HT_.out HW_.out (by kernel_rfl)) (fun _ _ _ h => h) (Or.inl ⟨by rfl, ?_⟩) hHeld ?_ ?_
        rotate_left
        ·
         rintro w' ⟨s0, s1, s2, s3, s4, s5, s6, s7⟩
         go_simp
         with_reducible rfl
        rotate_left
        ·
         simp only [Act.put, zs1, zs2, zs3, i64_w, i32_w]
         rfl
        refine one_ (i := 4) (N := some 18) #[true, true, true, true, true, false, false, false, false] rfl rfl (zbb HT_.out (by kernel_rfl)) (by decide) (fun K hK => ?_)
        refine goes_ Try.func55 (by kernel_rfl) rfl #[.agg #[.int .i64 a0_0, .int .i64 a0_1, .slice (some ad301) l0_2.length c0_2], .int .i64 x1_1] (by rfl) rfl rfl (zE) ?_
        with_reducible refine (zae.calls k1 a0_0 a0_1 _ _ l0_2 x1_1 t302 _ ?side1 ?side2 A8.out).mono ?_
        (case side1 => exact zJ (Kd.za0 HR0_2.out HB.out))
        (case side2 => exact HC0_2.out)
        rintro e w14 ⟨rfl, hb⟩
        refine ⟨_, rfl, ?_⟩
        have n0_ := zA (zam (g := gb299) (o := .cells #[.int .i64 a0_0, .int .i64 a0_1, .slice (some ad301) l0_2.length c0_2] 44 (0, 0)) (zK BK299) hb)
        have n1_ := zA (zab (zB HB) hb)
        clear BK299 HB
        have BK299 := n0_
        have HB := n1_
        clear n0_ n1_
        (try clear hb)
        (try clear hb2)
        (try clear hk)
        (try clear hi)
        refine hK.out _ _ ⟨(za BK299.out 0).trans rfl, (za BK299.out 1).trans rfl, (za BK299.out 2).trans rfl, ((HB.out.cell (World.block_lt_of_cell? w _ hw303_0)).trans hw303_0), ((HB.out.cell (World.block_lt_of_cell? w _ hw303_1)).trans hw303_1), ((HB.out.cell (World.block_lt_of_cell? w _ hw303_2)).trans hw303_2), ((HB.out.cell (World.block_lt_of_cell? w _ hw303_3)).trans hw303_3), ((HB.out.cell (World.block_lt_of_cell? w _ hw303_4)).trans hw303_4)⟩ (fun hHeld => ?_)
        clear hK K
        refine norm_ (a' := ?_) ?_ ?_
        rotate_left
        ·
         show Act.put _ (some 18) _ = _
         simp only [Act.put, zs1, zs2, zs3, i64_w, i32_w]
         rfl
        refine pure_ (i := 5) (N := some 19) (v := ?_) (a' := ?_) #[true, true, true, true, true, true, false, false, false] rfl rfl (zah HT_.out (by kernel_rfl)) (fun _ _ _ h => h) (Or.inl ⟨by rfl, ?_⟩) ?_ ?_
        rotate_left
        ·
         intro w'
         go_simp
         with_reducible rfl
        rotate_left
        ·
         simp only [Act.put, zs1, zs2, zs3, i64_w, i32_w]
         rfl
        refine pure_ (i := 6) (N := some 20) (v := ?_) (a' := ?_) #[true, true, true, true, true, true, true, false, false] rfl rfl (zah HT_.out (by kernel_rfl)) (fun _ _ _ h => h) (Or.inl ⟨by rfl, ?_⟩) ?_ ?_
        rotate_left
        ·
         intro w'
         go_simp
         with_reducible rfl
        rotate_left
        ·
         simp only [Act.put, zs1, zs2, zs3, i64_w, i32_w]
         rfl
        refine take_ (i := 7) (N := some 21) (v := ?_) (a' := ?_) #[true, true, true, true, true, true, true, true, false] rfl rfl (zat HT_.out HW_.out (by kernel_rfl)) (fun _ _ _ h => h) (Or.inl ⟨by rfl, ?_⟩) hHeld ?_ ?_
        rotate_left
        ·
         rintro w' ⟨s0, s1, s2, s3, s4, s5, s6, s7⟩
         go_simp
         with_reducible rfl
        rotate_left
        ·
         simp only [Act.put, zs1, zs2, zs3, i64_w, i32_w]
         rfl
        refine pure_ (i := 8) (N := some 1) (v := ?_) (a' := ?_) #[true, true, true, true, true, true, true, true, true] rfl rfl (zah HT_.out (by kernel_rfl)) (fun _ _ _ h => h) (Or.inl ⟨by rfl, ?_⟩) ?_ ?_
        rotate_left
        ·
         intro w'
         go_simp
         with_reducible rfl
        rotate_left
        ·
         simp only [Act.put, zs1, zs2, zs3, i64_w, i32_w]
         rfl
        refine done_ (zby HT_.out (by kernel_rfl)) ?_
        try go_wp2
        go_roundg k1
        case measure => have := HK1.out; omega
        case rel => exact ⟨((rd_T84 l0_2 t302).f1), (zF), H', ⟨by have := HK1.out; omega⟩, ⟨zK BK299⟩, ⟨zB HB⟩⟩
       ·
        rw [if_neg c10] at H
        exact absurd H (by simp)
      ·
       rw [if_neg c9] at H
       exact absurd H (by simp)
     ·
      rw [if_neg c7] at H
      have c7b0 : decide (0 ≤ ((rd_T84 l0_2 t300).f1)) = false := decide_eq_false c7
      clear c7
      obtain rfl := Option.some.inj H
      try go_wp2
      have n0_ := zA (zan BK299.out)
      have n1_ := zA (zbf HB.out)
      clear BK299 HB
      have BK299 := n0_
      have HB := n1_
      clear n0_ n1_
      have p301 : 0 ≤ (t300 : Int) := of_decide_eq_true (by first | (with_reducible assumption) | assumption)
      have q301 : t300 < (l0_2.length : Int) := of_decide_eq_true (by first | (with_reducible assumption) | assumption)
      obtain ⟨ad301, e301, hx301_0, hx301_1, hx301_2, hx301_3, hx301_4⟩ := at_T84 HR0_2.out t300 p301 q301
      have hw301_4 := hx301_4
      have hw301_3 := hx301_3
      have hw301_2 := hx301_2
      have hw301_1 := hx301_1
      have hw301_0 := hx301_0
      cases e301
      replace hx301_0 := (HB.out.cell (World.block_lt_of_cell? w _ hx301_0)).trans hx301_0
      replace hx301_1 := (HB.out.cell (World.block_lt_of_cell? w _ hx301_1)).trans hx301_1
      replace hx301_2 := (HB.out.cell (World.block_lt_of_cell? w _ hx301_2)).trans hx301_2
      replace hx301_3 := (HB.out.cell (World.block_lt_of_cell? w _ hx301_3)).trans hx301_3
      replace hx301_4 := (HB.out.cell (World.block_lt_of_cell? w _ hx301_4)).trans hx301_4
      replace p301 := eq_true p301
      replace q301 := eq_true q301
      refine start_ (n := 9) (S := fun w' => w'.cell? ⟨gb299, 0, none⟩ = some (.int .i64 a0_0) ∧ w'.cell? ⟨gb299, 1, none⟩ = some (.int .i64 a0_1) ∧ w'.cell? ⟨gb299, 2, none⟩ = some (.slice (some ad301) l0_2.length c0_2) ∧ w'.cell? (ad301.add ((t300).toNat * 5)) = some (.int .i64 ((rd_T84 l0_2 t300).f0)) ∧ w'.cell? ⟨(ad301.add ((t300).toNat * 5)).block, (ad301.add ((t300).toNat * 5)).off + 1, none⟩ = some (.int .i64 ((rd_T84 l0_2 t300).f1)) ∧ w'.cell? ⟨(ad301.add ((t300).toNat * 5)).block, (ad301.add ((t300).toNat * 5)).off + 2, none⟩ = some (.int .i64 ((rd_T84 l0_2 t300).f2)) ∧ w'.cell? ⟨(ad301.add ((t300).toNat * 5)).block, (ad301.add ((t300).toNat * 5)).off + 3, none⟩ = some (.int .i64 ((rd_T84 l0_2 t300).f3)) ∧ w'.cell? ⟨(ad301.add ((t300).toNat * 5)).block, (ad301.add ((t300).toNat * 5)).off + 4, none⟩ = some (.int .i64 ((rd_T84 l0_2 t300).f4))) (ds := []) #[false, false, false, false, false, false, false, false, false] (by kernel_rfl) rfl rfl ⟨(za BK299.out 0).trans rfl, (za BK299.out 1).trans rfl, (za BK299.out 2).trans rfl, ((HB.out.cell (World.block_lt_of_cell? w _ hw301_0)).trans hw301_0), ((HB.out.cell (World.block_lt_of_cell? w _ hw301_1)).trans hw301_1), ((HB.out.cell (World.block_lt_of_cell? w _ hw301_2)).trans hw301_2), ((HB.out.cell (World.block_lt_of_cell? w _ hw301_3)).trans hw301_3), ((HB.out.cell (World.block_lt_of_cell? w _ hw301_4)).trans hw301_4)⟩ (fun hHeld => ?_); refine zbj zai.tab1 zai.bits1 (fun HT_ HW_ => ?_)
      generalize wr.drew = w15 at BK299 HB hx301_0 hx301_1 hx301_2 hx301_3 hx301_4 hHeld ⊢
      refine pure_ (i := 0) (N := some 5) (v := ?_) (a' := ?_) #[true, false, false, false, false, false, false, false, false] rfl rfl (zah HT_.out (by kernel_rfl)) (fun _ _ _ h => h) (Or.inl ⟨by rfl, ?_⟩) ?_ ?_
      rotate_left
      ·
       intro w'
       go_simp
       with_reducible rfl
      rotate_left
      ·
       simp only [Act.put, zs1, zs2, zs3, i64_w, i32_w]
       rfl
      refine pure_ (i := 3) (N := some 8) (v := ?_) (a' := ?_) #[true, false, false, true, false, false, false, false, false] rfl rfl (zah HT_.out (by kernel_rfl)) (fun _ _ _ h => h) (Or.inl ⟨by rfl, ?_⟩) ?_ ?_
      rotate_left
      ·
       intro w'
       go_simp
       with_reducible rfl
      rotate_left
      ·
       simp only [Act.put, zs1, zs2, zs3, i64_w, i32_w]
       rfl
      refine take_ (i := 1) (N := some 6) (v := ?_) (a' := ?_) #[true, true, false, true, false, false, false, false, false] rfl rfl (zat HT_.out HW_.out (by kernel_rfl)) (fun _ _ _ h => h) (Or.inl ⟨by rfl, ?_⟩) hHeld ?_ ?_
      rotate_left
      ·
       rintro w' ⟨s0, s1, s2, s3, s4, s5, s6, s7⟩
       go_simp
       with_reducible rfl
      rotate_left
      ·
       simp only [Act.put, zs1, zs2, zs3, i64_w, i32_w]
       rfl
      refine take_ (i := 2) (N := some 7) (v := ?_) (a' := ?_) #[true, true, true, true, false, false, false, false, false] rfl rfl (zat HT_.out HW_.out (by kernel_rfl)) (fun _ _ _ h => h) (Or.inl ⟨by rfl, ?_⟩) hHeld ?_ ?_
      rotate_left
      ·
       rintro w' ⟨s0, s1, s2, s3, s4, s5, s6, s7⟩
       go_simp
       with_reducible rfl
      rotate_left
      ·
       simp only [Act.put, zs1, zs2, zs3, i64_w, i32_w]
       rfl
      refine one_ (i := 4) (N := some 9) #[true, true, true, true, true, false, false, false, false] rfl rfl (zbb HT_.out (by kernel_rfl)) (by decide) (fun K hK => ?_)
      refine goes_ Try.func55 (by kernel_rfl) rfl #[.agg #[.int .i64 a0_0, .int .i64 a0_1, .slice (some ad301) l0_2.length c0_2], .int .i64 x1_1] (by rfl) rfl rfl (zE) ?_
      with_reducible refine (zae.calls k1 a0_0 a0_1 _ _ l0_2 x1_1 t300 _ ?side1 ?side2 A4.out).mono ?_
      (case side1 => exact zJ (Kd.za0 HR0_2.out HB.out))
      (case side2 => exact HC0_2.out)
      rintro e w16 ⟨rfl, hb⟩
      refine ⟨_, rfl, ?_⟩
      have n0_ := zA (zam (g := gb299) (o := .cells #[.int .i64 a0_0, .int .i64 a0_1, .slice (some ad301) l0_2.length c0_2] 44 (0, 0)) (zK BK299) hb)
      have n1_ := zA (zab (zB HB) hb)
      clear BK299 HB
      have BK299 := n0_
      have HB := n1_
      clear n0_ n1_
      (try clear hb)
      (try clear hb2)
      (try clear hk)
      (try clear hi)
      refine hK.out _ _ ⟨(za BK299.out 0).trans rfl, (za BK299.out 1).trans rfl, (za BK299.out 2).trans rfl, ((HB.out.cell (World.block_lt_of_cell? w _ hw301_0)).trans hw301_0), ((HB.out.cell (World.block_lt_of_cell? w _ hw301_1)).trans hw301_1), ((HB.out.cell (World.block_lt_of_cell? w _ hw301_2)).trans hw301_2), ((HB.out.cell (World.block_lt_of_cell? w _ hw301_3)).trans hw301_3), ((HB.out.cell (World.block_lt_of_cell? w _ hw301_4)).trans hw301_4)⟩ (fun hHeld => ?_)
      clear hK K
      refine norm_ (a' := ?_) ?_ ?_
      rotate_left
      ·
       show Act.put _ (some 9) _ = _
       simp only [Act.put, zs1, zs2, zs3, i64_w, i32_w]
       rfl
      refine pure_ (i := 5) (N := some 10) (v := ?_) (a' := ?_) #[true, true, true, true, true, true, false, false, false] rfl rfl (zah HT_.out (by kernel_rfl)) (fun _ _ _ h => h) (Or.inl ⟨by rfl, ?_⟩) ?_ ?_
      rotate_left
      ·
       intro w'
       go_simp
       with_reducible rfl
      rotate_left
      ·
       simp only [Act.put, zs1, zs2, zs3, i64_w, i32_w]
       rfl
      refine pure_ (i := 6) (N := some 11) (v := ?_) (a' := ?_) #[true, true, true, true, true, true, true, false, false] rfl rfl (zah HT_.out (by kernel_rfl)) (fun _ _ _ h => h) (Or.inl ⟨by rfl, ?_⟩) ?_ ?_
      rotate_left
      ·
       intro w'
       go_simp
       with_reducible rfl
      rotate_left
      ·
       simp only [Act.put, zs1, zs2, zs3, i64_w, i32_w]
       rfl
      refine take_ (i := 7) (N := some 12) (v := ?_) (a' := ?_) #[true, true, true, true, true, true, true, true, false] rfl rfl (zat HT_.out HW_.out (by kernel_rfl)) (fun _ _ _ h => h) (Or.inl ⟨by rfl, ?_⟩) hHeld ?_ ?_
      rotate_left
      ·
       rintro w' ⟨s0, s1, s2, s3, s4, s5, s6, s7⟩
       go_simp
       with_reducible rfl
      rotate_left
      ·
       simp only [Act.put, zs1, zs2, zs3, i64_w, i32_w]
       rfl
      refine pure_ (i := 8) (N := some 13) (v := ?_) (a' := ?_) #[true, true, true, true, true, true, true, true, true] rfl rfl (zah HT_.out (by kernel_rfl)) (fun _ _ _ h => h) (Or.inl ⟨by rfl, ?_⟩) ?_ ?_
      rotate_left
      ·
       intro w'
       go_simp
       with_reducible rfl
      rotate_left
      ·
       simp only [Act.put, zs1, zs2, zs3, i64_w, i32_w]
       rfl
      refine done_ (zby HT_.out (by kernel_rfl)) ?_
      try go_wp2
      go_ret
      exact ⟨zW, zB HB⟩
    ·
     rw [if_neg c6] at H
     exact absurd H (by simp)
   ·
    rw [if_neg c5] at H
    exact absurd H (by simp)
end Go.Proofs.Ytlmjdchcgfpngaa.P
end
