-- Written by a program of this session (wip/tools/shake.py) out of its own texts and of the kit's printed ones; not trusted: Lean checks it.
import Derived.Test.YtfjkamhcabckeaaDoorZRatioBack4
set_option maxHeartbeats 8000000
set_option maxRecDepth 100000
set_option linter.unusedVariables false
set_option linter.unusedSimpArgs false
section
namespace Go.Proofs.YtfjkamhcabckeaaDoor.P
open Go.RowKit Go.Proofs.YtfjkamhcabckeaaDoorW.PrintWords Go.Proofs.YtfjkamhcabckeaaDoorW.PrintLast Go.Proofs.YtfjkamhcabckeaaDoorW.PrintMore
attribute [local go_sem] zc7 zc8 max_two min_two zct zcu zc6 zc9
def zah.j0 : Nat → Bool → List Int → List Int → Option (List Int × List Int × List Int × List Int × Bool)
 | 0, _, _, _ => none
 | k + 1, x34, x440000, x440001 => if x34 = true then (some (([] : List Int), ([] : List Int), ([] : List Int), ([] : List Int), false)) else ((some (([] : List Int) : List Int)).bind fun y444 => (if y444.length + x440000.length < 17592186044416 then ((some (([] : List Int) : List Int)).bind fun y450 => (if y450.length + x440001.length < 17592186044416 then ((zb8.f k (y444 ++ x440000) (y450 ++ x440001)).bind fun bt456 => ((zaf.f k x440000).bind fun t464 => ((zaf.f k x440001).bind fun t467 => ((zcd.f k t464 t467).bind fun bt470 => (some (bt456.1, bt456.2.1, bt470.1, bt470.2, (bt456.2.2 == 0))))))) else (none))) else (none)))
def zah.f (k : Nat) (l0_0 : List Int) (l0_1 : List Int) : Option (List Int × List Int × List Int × List Int × Bool) := if (l0_0.length : Int) > 4 then (zah.j0 k true l0_0 l0_1) else (if (l0_1.length : Int) > 4 then (zah.j0 k true l0_0 l0_1) else (if (l0_1.length : Int) = 0 then (zah.j0 k true l0_0 l0_1) else ((zby.f l0_0).bind fun t442 => (if t442 = true then ((zby.f l0_1).bind fun t443 => (zah.j0 k (!t443) l0_0 l0_1)) else (zah.j0 k true l0_0 l0_1)))))
def zah.T3 : Bool × List (List Nat × List Nat) := (true, [([], []), ([], []), ([1], [1]), ([0, 2], [0, 2]), ([], []), ([], []), ([5], [5]), ([4, 6, 3], [4, 6]), ([3, 7, 7], [3, 7]), ([8], [8]), ([9], [9]), ([9], [9]), ([], []), ([12, 10, 8, 0, 1, 2, 3, 4, 5, 6, 7, 8, 9, 10, 12], [10, 12]), ([11, 13, 0, 1, 2, 3, 4, 5, 6, 7, 8, 9, 10, 11, 12, 13], [11])])
def zah.B3 : List Nat := [0, 0, 2, 7, 0, 0, 32, 127, 255, 511, 1023, 1023, 0, 6143, 16383]
theorem zah.tab3 : rtab .any (opsOf Tryd.f25 3) = zah.T3 := by kernel_rfl
theorem zah.bits3 : waitsOk zah.T3.2 zah.B3 = true := by kernel_rfl
def zah.T4 : Bool × List (List Nat × List Nat) := (true, [([], []), ([], []), ([1], [1]), ([2], [2]), ([], []), ([4], [4]), ([5, 3], [5]), ([3, 6, 6], [3, 6]), ([], []), ([8], [8]), ([0, 7, 0], [0]), ([7, 10, 0, 1, 2, 3, 4, 5, 6, 7, 10], [7]), ([9, 11, 0, 1, 2, 3, 4, 5, 6, 7, 8, 9, 10, 11], [9])])
def zah.B4 : List Nat := [0, 0, 2, 6, 0, 16, 62, 126, 0, 256, 255, 1279, 4095]
theorem zah.tab4 : rtab .any (opsOf Tryd.f25 4) = zah.T4 := by kernel_rfl
theorem zah.bits4 : waitsOk zah.T4.2 zah.B4 = true := by kernel_rfl
theorem zah.calls (k : Nat) (A0_0 : Option Addr) (c0_0 : Nat) (l0_0 : List Int) (A0_1 : Option Addr) (c0_1 : Nat) (l0_1 : List Int) (r1 : List Int) (r2 : List Int) (r3 : List Int) (r4 : List Int) (r5 : Bool) (w : World) (hr0_0 : Kd.C (Kd.int .u64) w A0_0 l0_0.length l0_0) (hc0_0 : l0_0.length ≤ c0_0) (hr0_1 : Kd.C (Kd.int .u64) w A0_1 l0_1.length l0_1) (hc0_1 : l0_1.length ≤ c0_1) (h : zah.f k l0_0 l0_1 = some (r1, r2, r3, r4, r5)) :
  Calls Tryd.prog 25 #[.agg #[.slice A0_0 l0_0.length c0_0, .slice A0_1 l0_1.length c0_1]] w fun e w' => ∃ v0_ v1_ v2_ v3_ : Value, e = .returned (.tuple #[.agg #[v0_, v1_], .agg #[v2_, v3_], .bool r5]) ∧ Kd.V (Kd.int .u64) 57 w' w.heap.size (fun k_ => (w.heap.size ≤ k_) ∧ some k_ ≠ (v2_ : Value).ownBlock ∧ some k_ ≠ (v3_ : Value).ownBlock) v0_ r1 ∧ Kd.V (Kd.int .u64) 57 w' w.heap.size (fun k_ => (w.heap.size ≤ k_) ∧ some k_ ≠ (v2_ : Value).ownBlock ∧ some k_ ≠ (v3_ : Value).ownBlock) v1_ r2 ∧ Kd.R (Kd.int .i64) 3 w' w.heap.size (fun k_ => (w.heap.size ≤ k_) ∧ some k_ ≠ (v3_ : Value).ownBlock) v2_ r3 ∧ Kd.R (Kd.int .i64) 3 w' w.heap.size (fun k_ => (w.heap.size ≤ k_) ∧ some k_ ≠ (v2_ : Value).ownBlock) v3_ r4 ∧ Below w.heap.size w w' := by
 have hu24 := Tryd.underlying24
 have hu28 := Tryd.underlying28
 have hu40 := Tryd.underlying40
 have HR0_0 := zA hr0_0
 have HC0_0 := zA hc0_0
 clear hr0_0 hc0_0
 have HR0_1 := zA hr0_1
 have HC0_1 := zA hc0_1
 clear hr0_1 hc0_1
 have HB := zA (Below.refl w.heap.size w)
 have H : (if (l0_0.length : Int) > 4 then (zah.j0 k true l0_0 l0_1) else (if (l0_1.length : Int) > 4 then (zah.j0 k true l0_0 l0_1) else (if (l0_1.length : Int) = 0 then (zah.j0 k true l0_0 l0_1) else ((zby.f l0_0).bind fun t442 => (if t442 = true then ((zby.f l0_1).bind fun t443 => (zah.j0 k (!t443) l0_0 l0_1)) else (zah.j0 k true l0_0 l0_1)))))) = some (r1, r2, r3, r4, r5) := h
 clear h
 have HC2 := zA H
 clear H
 go_enter Tryd.func25, Tryd.ntmps25
 go_upto_region 1 with (first | ((with_reducible refine zbe (N := 1) rfl ?_); (try (refine gate_guard (by rfl) ?_; dsimp only)); refine zbk ?hg (N := 1) ?hd (cs := #[.slice A0_0 l0_0.length c0_0, .slice A0_1 l0_1.length c0_1]) (t := 24) ?hr ?_; (case hd => rfl); (case hg => rfl); (case hr => first | (go_simp; done) | (go_simp; rfl)); intro gb439 hg w3 hbox hb; have n0_ := zA (zaa (zB HB) hb); have n1_ := zA (hbox); have n2_ := zA ((by rw [hg]; exact (za (zB HB)) : w.heap.size ≤ gb439)); have n3_ := zA ((by rw [hg]; exact (za (zB HB)) : w.heap.size ≤ gb439)); clear HB; have HB := n0_; have BK439 := n1_; have GW439 := n2_; have GE439 := n3_; clear n0_ n1_ n2_ n3_ hb hbox hg) | ((with_reducible refine zbe (N := 2) rfl ?_); (try (refine gate_guard (by rfl) ?_; dsimp only)); refine zbk ?hg (N := 2) ?hd (cs := #[.slice none 0 0, .slice none 0 0]) (t := 28) ?hr ?_; (case hd => rfl); (case hg => rfl); (case hr => first | (go_simp; done) | (go_simp; rfl)); intro gb440 hg w4 hbox hb; have n0_ := zA (zac (g := gb439) (o := .cells #[.slice A0_0 l0_0.length c0_0, .slice A0_1 l0_1.length c0_1] 24 (0, 0)) (zK BK439) hb); have n1_ := zA (zaa (zB HB) hb); have n2_ := zA (hbox); have n3_ := zA ((by rw [hg]; exact (za (zB HB)) : w.heap.size ≤ gb440)); have n4_ := zA ((by rw [hg]; exact (za (zB HB)) : w.heap.size ≤ gb440)); have n5_ := zA ((by rw [hg]; exact Nat.ne_of_lt (zay (g := gb439) (o := .cells #[.slice A0_0 l0_0.length c0_0, .slice A0_1 l0_1.length c0_1] 24 (0, 0)) (zK BK439)) : gb439 ≠ gb440)); have n6_ := zA ((by rw [hg]; exact Nat.ne_of_gt (zay (g := gb439) (o := .cells #[.slice A0_0 l0_0.length c0_0, .slice A0_1 l0_1.length c0_1] 24 (0, 0)) (zK BK439)) : gb440 ≠ gb439)); clear BK439 HB; have BK439 := n0_; have HB := n1_; have BK440 := n2_; have GW440 := n3_; have GE440 := n4_; have NB439_440 := n5_; have NB440_439 := n6_; clear n0_ n1_ n2_ n3_ n4_ n5_ n6_ hb hbox hg) | ((with_reducible refine zbe (N := 3) rfl ?_); (try (refine gate_guard (by rfl) ?_; dsimp only)); refine zbk ?hg (N := 3) ?hd (cs := #[.slice none 0 0, .slice none 0 0]) (t := 40) ?hr ?_; (case hd => rfl); (case hg => rfl); (case hr => first | (go_simp; done) | (go_simp; rfl)); intro gb441 hg w5 hbox hb; have n0_ := zA (zac (g := gb439) (o := .cells #[.slice A0_0 l0_0.length c0_0, .slice A0_1 l0_1.length c0_1] 24 (0, 0)) (zK BK439) hb); have n1_ := zA (zac (g := gb440) (o := .cells #[.slice none 0 0, .slice none 0 0] 28 (0, 0)) (zK BK440) hb); have n2_ := zA (zaa (zB HB) hb); have n3_ := zA (hbox); have n4_ := zA ((by rw [hg]; exact (za (zB HB)) : w.heap.size ≤ gb441)); have n5_ := zA ((by rw [hg]; exact (za (zB HB)) : w.heap.size ≤ gb441)); have n6_ := zA ((by rw [hg]; exact Nat.ne_of_lt (zay (g := gb439) (o := .cells #[.slice A0_0 l0_0.length c0_0, .slice A0_1 l0_1.length c0_1] 24 (0, 0)) (zK BK439)) : gb439 ≠ gb441)); have n7_ := zA ((by rw [hg]; exact Nat.ne_of_gt (zay (g := gb439) (o := .cells #[.slice A0_0 l0_0.length c0_0, .slice A0_1 l0_1.length c0_1] 24 (0, 0)) (zK BK439)) : gb441 ≠ gb439)); have n8_ := zA ((by rw [hg]; exact Nat.ne_of_lt (zay (g := gb440) (o := .cells #[.slice none 0 0, .slice none 0 0] 28 (0, 0)) (zK BK440)) : gb440 ≠ gb441)); have n9_ := zA ((by rw [hg]; exact Nat.ne_of_gt (zay (g := gb440) (o := .cells #[.slice none 0 0, .slice none 0 0] 28 (0, 0)) (zK BK440)) : gb441 ≠ gb440)); clear BK439 BK440 HB; have BK439 := n0_; have BK440 := n1_; have HB := n2_; have BK441 := n3_; have GW441 := n4_; have GE441 := n5_; have NB439_441 := n6_; have NB441_439 := n7_; have NB440_441 := n8_; have NB441_440 := n9_; clear n0_ n1_ n2_ n3_ n4_ n5_ n6_ n7_ n8_ n9_ hb hbox hg))
 (try simp only [Act.put, zs1, zs2, zs3])
 go_cut [34] (fun v34 wc => ∃ (kq : Nat) (x34_1 : Bool), v34 = .bool x34_1 ∧ Aside0 (zah.j0 kq x34_1 l0_0 l0_1 = some (r1, r2, r3, r4, r5)) ∧ Aside0 (kq ≤ k) ∧ Aside0 (wc.heap[gb439]? = some (.cells #[(.slice A0_0 l0_0.length c0_0), (.slice A0_1 l0_1.length c0_1)] 24 (0, 0))) ∧ Aside0 (wc.heap[gb440]? = some (.cells #[(.slice none 0 0), (.slice none 0 0)] 28 (0, 0))) ∧ Aside0 (wc.heap[gb441]? = some (.cells #[(.slice none 0 0), (.slice none 0 0)] 40 (0, 0))) ∧ Aside0 (Below w.heap.size w wc))
 case first =>
  have H := HC2.out
  clear HC2
  by_cases c6 : (l0_0.length : Int) > 4
  ·
   rw [if_pos c6] at H
   have c6b0 : decide (4 < (l0_0.length : Int)) = true := decide_eq_true c6
   have c6b1 : decide (4 < l0_0.length) = true := decide_eq_true (by omega)
   clear c6
   (first | rw [c6b0] | (simp only [i64_w, i32_w]; rw [c6b0]) | skip)
   have H' := zA H
   clear H
   have hnb7 := NB439_440.out
   have hnc7 := NB440_439.out
   have hnb8 := NB439_441.out
   have hnc8 := NB441_439.out
   have hcz9_0 : w5.cell? ⟨gb439, 0, none⟩ = some (.slice A0_0 l0_0.length c0_0) := (zab BK439.out 0).trans rfl
   have hcz9_1 : w5.cell? ⟨gb439, 1, none⟩ = some (.slice A0_1 l0_1.length c0_1) := (zab BK439.out 1).trans rfl
   have hfz9_0 := zal BK439.out 0
   have hfz9_1 := zal BK439.out 1
   go_wp2
   go_meet
   case rel => exact ⟨_, (true), (zF), H', ⟨by first | omega | exact Nat.le_refl _⟩, ⟨zK BK439⟩, ⟨zK BK440⟩, ⟨zK BK441⟩, ⟨zB HB⟩⟩
  ·
   rw [if_neg c6] at H
   have c6b0 : decide (4 < (l0_0.length : Int)) = false := decide_eq_false c6
   have c6b1 : decide (4 < l0_0.length) = false := decide_eq_false (by omega)
   clear c6
   (first | rw [c6b0] | (simp only [i64_w, i32_w]; rw [c6b0]) | skip)
   by_cases c10 : (l0_1.length : Int) > 4
   ·
    rw [if_pos c10] at H
    have c10b0 : decide (4 < (l0_1.length : Int)) = true := decide_eq_true c10
    have c10b1 : decide (4 < l0_1.length) = true := decide_eq_true (by omega)
    clear c10
    have H' := zA H
    clear H
    have hnb11 := NB439_440.out
    have hnc11 := NB440_439.out
    have hnb12 := NB439_441.out
    have hnc12 := NB441_439.out
    have hcz13_0 : w5.cell? ⟨gb439, 0, none⟩ = some (.slice A0_0 l0_0.length c0_0) := (zab BK439.out 0).trans rfl
    have hcz13_1 : w5.cell? ⟨gb439, 1, none⟩ = some (.slice A0_1 l0_1.length c0_1) := (zab BK439.out 1).trans rfl
    have hfz13_0 := zal BK439.out 0
    have hfz13_1 := zal BK439.out 1
    go_wp2
    go_meet
    case rel => exact ⟨_, (true), (zF), H', ⟨by first | omega | exact Nat.le_refl _⟩, ⟨zK BK439⟩, ⟨zK BK440⟩, ⟨zK BK441⟩, ⟨zB HB⟩⟩
   ·
    rw [if_neg c10] at H
    have c10b0 : decide (4 < (l0_1.length : Int)) = false := decide_eq_false c10
    have c10b1 : decide (4 < l0_1.length) = false := decide_eq_false (by omega)
    clear c10
    by_cases c14 : (l0_1.length : Int) = 0
    ·
     rw [if_pos c14] at H
     have c14b0 : ((l0_1.length : Int) == 0) = true := beq_iff_eq.mpr c14
     have c14b1 : ((l0_1.length : Int) != 0) = false := bne_eq_false_iff_eq.mpr c14
     clear c14
     have H' := zA H
     clear H
     have hnb15 := NB439_440.out
     have hnc15 := NB440_439.out
     have hnb16 := NB439_441.out
     have hnc16 := NB441_439.out
     have hcz17_0 : w5.cell? ⟨gb439, 0, none⟩ = some (.slice A0_0 l0_0.length c0_0) := (zab BK439.out 0).trans rfl
     have hcz17_1 : w5.cell? ⟨gb439, 1, none⟩ = some (.slice A0_1 l0_1.length c0_1) := (zab BK439.out 1).trans rfl
     have hfz17_0 := zal BK439.out 0
     have hfz17_1 := zal BK439.out 1
     go_wp2
     go_meet
     case rel => exact ⟨_, (true), (zF), H', ⟨by first | omega | exact Nat.le_refl _⟩, ⟨zK BK439⟩, ⟨zK BK440⟩, ⟨zK BK441⟩, ⟨zB HB⟩⟩
    ·
     rw [if_neg c14] at H
     have c14b0 : ((l0_1.length : Int) == 0) = false := beq_eq_false_iff_ne.mpr c14
     have c14b1 : ((l0_1.length : Int) != 0) = true := bne_iff_ne.mpr c14
     have c14b2 : ¬ (l0_1 = []) := fun h_ => c14 (by rw [h_]; rfl)
     replace H := zO H
     obtain ⟨t442, A180, H⟩ := H
     try dsimp only at H
     have A18 := zA A180
     clear A180
     by_cases c19 : t442 = true
     ·
      subst c19
      rw [if_pos rfl] at H
      replace H := zO H
      obtain ⟨t443, A200, H⟩ := H
      try dsimp only at H
      have A20 := zA A200
      clear A200
      have H' := zA H
      clear H
      have hnb21 := NB439_440.out
      have hnc21 := NB440_439.out
      have hnb22 := NB439_441.out
      have hnc22 := NB441_439.out
      have hcz23_0 : w5.cell? ⟨gb439, 0, none⟩ = some (.slice A0_0 l0_0.length c0_0) := (zab BK439.out 0).trans rfl
      have hcz23_1 : w5.cell? ⟨gb439, 1, none⟩ = some (.slice A0_1 l0_1.length c0_1) := (zab BK439.out 1).trans rfl
      have hfz23_0 := zal BK439.out 0
      have hfz23_1 := zal BK439.out 1
      go_wp2_with (first | (go_at_call 15; (with_reducible refine (zby.calls _ _ l0_0 true _ ?side1 ?side2 A18.out).mono ?_); (case side1 => exact zJ (Kd.za3 HR0_0.out HB.out)); (case side2 => exact HC0_0.out); rintro e w' ⟨rfl, ⟨nd, rfl⟩⟩) | (go_at_call 15; (with_reducible refine (zby.calls _ _ l0_1 t443 _ ?side1 ?side2 A20.out).mono ?_); (case side1 => exact zJ (Kd.za3 HR0_1.out (zB HB))); (case side2 => exact HC0_1.out); rintro e w' ⟨rfl, ⟨nd, rfl⟩⟩))
      go_meet
      case rel => exact ⟨_, (!t443), (zF), H', ⟨by first | omega | exact Nat.le_refl _⟩, ⟨zK BK439⟩, ⟨zK BK440⟩, ⟨zK BK441⟩, ⟨zB HB⟩⟩
     ·
      replace c19 := Bool.eq_false_iff.mpr c19
      subst c19
      rw [if_neg (show ¬ (false = true) by decide)] at H
      have H' := zA H
      clear H
      have hnb24 := NB439_440.out
      have hnc24 := NB440_439.out
      have hnb25 := NB439_441.out
      have hnc25 := NB441_439.out
      have hcz26_0 : w5.cell? ⟨gb439, 0, none⟩ = some (.slice A0_0 l0_0.length c0_0) := (zab BK439.out 0).trans rfl
      have hcz26_1 : w5.cell? ⟨gb439, 1, none⟩ = some (.slice A0_1 l0_1.length c0_1) := (zab BK439.out 1).trans rfl
      have hfz26_0 := zal BK439.out 0
      have hfz26_1 := zal BK439.out 1
      go_wp2_with (first | (go_at_call 15; (with_reducible refine (zby.calls _ _ l0_0 false _ ?side1 ?side2 A18.out).mono ?_); (case side1 => exact zJ (Kd.za3 HR0_0.out HB.out)); (case side2 => exact HC0_0.out); rintro e w' ⟨rfl, ⟨nd, rfl⟩⟩))
      go_meet
      case rel => exact ⟨_, (true), (zF), H', ⟨by first | omega | exact Nat.le_refl _⟩, ⟨zK BK439⟩, ⟨zK BK440⟩, ⟨zK BK441⟩, ⟨zB HB⟩⟩
 case rest =>
  clear HC2
  try clear c1
  try clear c2
  try clear p2
  try clear c6
  try clear c6b0
  try clear c6b1
  try clear c7
  try clear c8
  try clear c10
  try clear c10b0
  try clear c10b1
  try clear c11
  try clear c12
  try clear c14
  try clear c14b0
  try clear c14b1
  try clear c14b2
  try clear c15
  try clear c16
  try clear c19
  try clear c21
  try clear c22
  try clear c24
  try clear c25
  try clear hcz13_0
  try clear hcz13_1
  try clear hcz17_0
  try clear hcz17_1
  try clear hcz23_0
  try clear hcz23_1
  try clear hcz26_0
  try clear hcz26_1
  try clear hcz9_0
  try clear hcz9_1
  try clear hfz13_0
  try clear hfz13_1
  try clear hfz17_0
  try clear hfz17_1
  try clear hfz23_0
  try clear hfz23_1
  try clear hfz26_0
  try clear hfz26_1
  try clear hfz9_0
  try clear hfz9_1
  obtain ⟨kq, x34_1, rfl, HA, HJ1, BK439, BK440, BK441, HB⟩ := hcut
  cases kq with
  | zero => exact absurd HA.out (by simp [zah.j0])
  | succ kj1 =>
   have H := HA.out
   clear HA
   simp only [zah.j0] at H
   by_cases c27 : x34_1 = true
   ·
    subst c27
    rw [if_pos rfl] at H
    simp only [Option.some.injEq, Prod.mk.injEq] at H
    obtain ⟨rfl, rfl, rfl, rfl, rfl⟩ := H
    have hnb28 := NB440_439.out
    have hnc28 := NB439_440.out
    have hnb29 := NB440_441.out
    have hnc29 := NB441_440.out
    have hcz30_0 : wc.cell? ⟨gb440, 0, none⟩ = some (.slice none 0 0) := (zab BK440.out 0).trans rfl
    have hcz30_1 : wc.cell? ⟨gb440, 1, none⟩ = some (.slice none 0 0) := (zab BK440.out 1).trans rfl
    have hfz30_0 := zal BK440.out 0
    have hfz30_1 := zal BK440.out 1
    have hnb31 := NB441_439.out
    have hnc31 := NB439_441.out
    have hcz32_0 : wc.cell? ⟨gb441, 0, none⟩ = some (.slice none 0 0) := (zab BK441.out 0).trans rfl
    have hcz32_1 : wc.cell? ⟨gb441, 1, none⟩ = some (.slice none 0 0) := (zab BK441.out 1).trans rfl
    have hfz32_0 := zal BK441.out 0
    have hfz32_1 := zal BK441.out 1
    go_wp2
    refine bodyPost_ret (results_list (rs := [.cell 2 28, .cell 3 40, .tmp 4]) rfl (by simp) (.cell gb440 28 #[.slice none 0 0, .slice none 0 0] (0, 0) _ rfl (by (with_reducible repeat (first | refine zau ?_ _ | refine zat ?_ | refine zar ?_ _)); refine zdc ?_ NB440_441.out _; (with_reducible repeat (first | refine zau ?_ _ | refine zat ?_ | refine zar ?_ _)); refine zdc ?_ NB440_441.out _; (with_reducible repeat (first | refine zau ?_ _ | refine zat ?_ | refine zar ?_ _)); refine zb1 (cs := #[.slice none 0 0, .slice none 0 0]) ?_ 1 _ rfl; (with_reducible repeat (first | refine zau ?_ _ | refine zat ?_ | refine zar ?_ _)); refine zb1 (cs := #[.slice none 0 0, .slice none 0 0]) ?_ 0 _ rfl; (with_reducible repeat (first | refine zau ?_ _ | refine zat ?_ | refine zar ?_ _)); exact BK440.out) Tryd.underlying28 rfl (by kernel_rfl) (.cell gb441 40 #[.slice none 0 0, .slice none 0 0] (0, 0) _ rfl (by (with_reducible repeat (first | refine zau ?_ _ | refine zat ?_ | refine zar ?_ _)); refine zb1 (cs := #[.slice none 0 0, .slice none 0 0]) ?_ 1 _ rfl; (with_reducible repeat (first | refine zau ?_ _ | refine zat ?_ | refine zar ?_ _)); refine zb1 (cs := #[.slice none 0 0, .slice none 0 0]) ?_ 0 _ rfl; (with_reducible repeat (first | refine zau ?_ _ | refine zat ?_ | refine zar ?_ _)); refine zdc ?_ NB441_440.out _; (with_reducible repeat (first | refine zau ?_ _ | refine zat ?_ | refine zar ?_ _)); refine zdc ?_ NB441_440.out _; (with_reducible repeat (first | refine zau ?_ _ | refine zat ?_ | refine zar ?_ _)); exact BK441.out) Tryd.underlying40 rfl (by kernel_rfl) (.tmp .nil)))) rfl ?_
    exact ⟨_, _, _, _, zW, Kd.V_nil _ _ _ _ _, Kd.V_nil _ _ _ _ _, by first | exact Kd.R_nil _ _ _ _ _ | exact Kd.N_nil _ _ _ _ _ | exact Kd.V_nil _ _ _ _ _ | exact Kd.Q_nil _ _ _ _ _ | exact Kd.S_nil _ _ _ _ _, by first | exact Kd.R_nil _ _ _ _ _ | exact Kd.N_nil _ _ _ _ _ | exact Kd.V_nil _ _ _ _ _ | exact Kd.Q_nil _ _ _ _ _ | exact Kd.S_nil _ _ _ _ _, zB HB⟩
   ·
    replace c27 := Bool.eq_false_iff.mpr c27
    subst c27
    rw [if_neg (show ¬ (false = true) by decide)] at H
    obtain ⟨y444, hy444⟩ : ∃ y_ : List Int, y_ = (([] : List Int)) := ⟨_, rfl⟩
    replace H : (if y444.length + l0_0.length < 17592186044416 then ((some (([] : List Int) : List Int)).bind fun y450 => (if y450.length + l0_1.length < 17592186044416 then ((zb8.f kj1 (y444 ++ l0_0) (y450 ++ l0_1)).bind fun bt456 => ((zaf.f kj1 l0_0).bind fun t464 => ((zaf.f kj1 l0_1).bind fun t467 => ((zcd.f kj1 t464 t467).bind fun bt470 => (some (bt456.1, bt456.2.1, bt470.1, bt470.2, (bt456.2.2 == 0))))))) else (none))) else (none)) = some (r1, r2, r3, r4, r5) := by first | (rw [hy444]; with_reducible exact H) | (have H2_ := (Option.bind_some _ _).symm.trans H; rw [hy444]; with_reducible exact H2_) | (have H2_ := (Option.bind_some _ _).symm.trans H; with_reducible exact H2_) | with_reducible exact H | (rw [hy444]; exact H) | exact H
    have Ny444 := zA hy444
    clear hy444
    by_cases c33 : y444.length + l0_0.length < 17592186044416
    ·
     rw [if_pos c33] at H
     have LMc33 := zA c33
     clear c33
     obtain ⟨y447, hy447⟩ : ∃ y_ : List Int, y_ = (y444 ++ l0_0) := ⟨_, rfl⟩
     replace H : ((some (([] : List Int) : List Int)).bind fun y450 => (if y450.length + l0_1.length < 17592186044416 then ((zb8.f kj1 y447 (y450 ++ l0_1)).bind fun bt456 => ((zaf.f kj1 l0_0).bind fun t464 => ((zaf.f kj1 l0_1).bind fun t467 => ((zcd.f kj1 t464 t467).bind fun bt470 => (some (bt456.1, bt456.2.1, bt470.1, bt470.2, (bt456.2.2 == 0))))))) else (none))) = some (r1, r2, r3, r4, r5) := by first | (rw [hy447]; with_reducible exact H) | (have H2_ := (Option.bind_some _ _).symm.trans H; rw [hy447]; with_reducible exact H2_) | (have H2_ := (Option.bind_some _ _).symm.trans H; with_reducible exact H2_) | with_reducible exact H | (rw [hy447]; exact H) | exact H
     have Ny447 := zA hy447
     clear hy447
     obtain ⟨y450, hy450⟩ : ∃ y_ : List Int, y_ = (([] : List Int)) := ⟨_, rfl⟩
     replace H : (if y450.length + l0_1.length < 17592186044416 then ((zb8.f kj1 y447 (y450 ++ l0_1)).bind fun bt456 => ((zaf.f kj1 l0_0).bind fun t464 => ((zaf.f kj1 l0_1).bind fun t467 => ((zcd.f kj1 t464 t467).bind fun bt470 => (some (bt456.1, bt456.2.1, bt470.1, bt470.2, (bt456.2.2 == 0))))))) else (none)) = some (r1, r2, r3, r4, r5) := by first | (rw [hy450]; with_reducible exact H) | (have H2_ := (Option.bind_some _ _).symm.trans H; rw [hy450]; with_reducible exact H2_) | (have H2_ := (Option.bind_some _ _).symm.trans H; with_reducible exact H2_) | with_reducible exact H | (rw [hy450]; exact H) | exact H
     have Ny450 := zA hy450
     clear hy450
     by_cases c34 : y450.length + l0_1.length < 17592186044416
     ·
      rw [if_pos c34] at H
      have LMc34 := zA c34
      clear c34
      obtain ⟨y453, hy453⟩ : ∃ y_ : List Int, y_ = (y450 ++ l0_1) := ⟨_, rfl⟩
      replace H : ((zb8.f kj1 y447 y453).bind fun bt456 => ((zaf.f kj1 l0_0).bind fun t464 => ((zaf.f kj1 l0_1).bind fun t467 => ((zcd.f kj1 t464 t467).bind fun bt470 => (some (bt456.1, bt456.2.1, bt470.1, bt470.2, (bt456.2.2 == 0))))))) = some (r1, r2, r3, r4, r5) := by first | (rw [hy453]; with_reducible exact H) | (have H2_ := (Option.bind_some _ _).symm.trans H; rw [hy453]; with_reducible exact H2_) | (have H2_ := (Option.bind_some _ _).symm.trans H; with_reducible exact H2_) | with_reducible exact H | (rw [hy453]; exact H) | exact H
      have Ny453 := zA hy453
      clear hy453
      replace H := zO H
      obtain ⟨⟨t456, t459, t462⟩, A350, H⟩ := H
      try dsimp only at H
      have A35 := zA A350
      clear A350
      replace H := zO H
      obtain ⟨t464, A360, H⟩ := H
      try dsimp only at H
      have A36 := zA A360
      clear A360
      replace H := zO H
      obtain ⟨t467, A370, H⟩ := H
      try dsimp only at H
      have A37 := zA A370
      clear A370
      replace H := zO H
      obtain ⟨⟨t470, t473⟩, A380, H⟩ := H
      try dsimp only at H
      have A38 := zA A380
      clear A380
      simp only [Option.some.injEq, Prod.mk.injEq] at H
      obtain ⟨rfl, rfl, rfl, rfl, rfl⟩ := H
      try go_wp2
      have n0_ := zA (zat BK439.out)
      have n1_ := zA (zat BK440.out)
      have n2_ := zA (zat BK441.out)
      have n3_ := zA (zbu HB.out)
      clear BK439 BK440 BK441 HB
      have BK439 := n0_
      have BK440 := n1_
      have BK441 := n2_
      have HB := n3_
      clear n0_ n1_ n2_ n3_
      refine start_ (n := 15) (S := fun w' => w'.cell? ⟨gb439, 0, none⟩ = some (.slice A0_0 l0_0.length c0_0) ∧ w'.cell? ⟨gb439, 1, none⟩ = some (.slice A0_1 l0_1.length c0_1)) (ds := []) #[false, false, false, false, false, false, false, false, false, false, false, false, false, false, false] (by kernel_rfl) rfl rfl ⟨(zab BK439.out 0).trans rfl, (zab BK439.out 1).trans rfl⟩ (fun hHeld => ?_); refine zcq zah.tab3 zah.bits3 (fun HT_ HW_ => ?_)
      generalize wc.drew = w39 at BK439 BK440 BK441 HB hHeld ⊢
      refine pure_ (i := 1) (N := some 39) (v := ?_) (a' := ?_) #[false, true, false, false, false, false, false, false, false, false, false, false, false, false, false] rfl rfl (za0 HT_.out (by kernel_rfl)) (fun _ _ _ h => h) (Or.inl ⟨by rfl, ?_⟩) ?_ ?_
      rotate_left
      ·
       intro w'
       go_simp
       with_reducible rfl
      rotate_left
      ·
       simp only [Act.put, zs1, zs2, zs3, i64_w, i32_w]
       rfl
      refine pure_ (i := 5) (N := some 43) (v := ?_) (a' := ?_) #[false, true, false, false, false, true, false, false, false, false, false, false, false, false, false] rfl rfl (za0 HT_.out (by kernel_rfl)) (fun _ _ _ h => h) (Or.inl ⟨by rfl, ?_⟩) ?_ ?_
      rotate_left
      ·
       intro w'
       go_simp
       with_reducible rfl
      rotate_left
      ·
       simp only [Act.put, zs1, zs2, zs3, i64_w, i32_w]
       rfl
      refine take_ (i := 2) (N := some 40) (v := ?_) (a' := ?_) #[false, true, true, false, false, true, false, false, false, false, false, false, false, false, false] rfl rfl (zbm HT_.out HW_.out (by kernel_rfl)) (fun _ _ _ h => h) (Or.inl ⟨by rfl, ?_⟩) hHeld ?_ ?_
      rotate_left
      ·
       rintro w' ⟨s0, s1⟩
       go_simp
       with_reducible rfl
      rotate_left
      ·
       simp only [Act.put, zs1, zs2, zs3, i64_w, i32_w]
       rfl
      refine take_ (i := 6) (N := some 44) (v := ?_) (a' := ?_) #[false, true, true, false, false, true, true, false, false, false, false, false, false, false, false] rfl rfl (zbm HT_.out HW_.out (by kernel_rfl)) (fun _ _ _ h => h) (Or.inl ⟨by rfl, ?_⟩) hHeld ?_ ?_
      rotate_left
      ·
       rintro w' ⟨s0, s1⟩
       go_simp
       with_reducible rfl
      rotate_left
      ·
       simp only [Act.put, zs1, zs2, zs3, i64_w, i32_w]
       rfl
      refine join_ (σ := Value × Value × Value × Value × Value × Value × Nat) 2 #[true, true, true, true, true, true, true, true, true, true, true, true, true, false, false] (fun s_ => [(38, s_.1), (41, s_.2.1), (42, s_.2.2.1), (45, s_.2.2.2.1), (46, .tuple #[.agg #[s_.2.2.2.2.1, s_.2.2.2.2.2.1], .int .i64 t462]), (5, .pointer (some ⟨s_.2.2.2.2.2.2, 0, none⟩)), (37, .tuple #[.agg #[s_.2.2.2.2.1, s_.2.2.2.2.2.1], .int .i64 t462]), (47, .agg #[s_.2.2.2.2.1, s_.2.2.2.2.2.1]), (48, .int .i64 t462)]) (fun s_ w' => (w'.cell? ⟨gb439, 0, none⟩ = some (.slice A0_0 l0_0.length c0_0) ∧ w'.cell? ⟨gb439, 1, none⟩ = some (.slice A0_1 l0_1.length c0_1)) ∧ (Kd.R (Kd.int .u64) 57 w' w.heap.size (fun k_ => (w.heap.size ≤ k_) ∧ some k_ ≠ (s_.2.2.2.1 : Value).ownBlock) s_.2.1 y447) ∧ (Kd.R (Kd.int .u64) 57 w' w.heap.size (fun k_ => (w.heap.size ≤ k_) ∧ some k_ ≠ (s_.2.1 : Value).ownBlock) s_.2.2.2.1 y453) ∧ (Kd.V (Kd.int .u64) 57 w' w.heap.size (fun k_ => (w.heap.size ≤ k_) ∧ some k_ ≠ (s_.2.1 : Value).ownBlock ∧ some k_ ≠ (s_.2.2.2.1 : Value).ownBlock ∧ k_ ≠ gb439 ∧ k_ ≠ gb440 ∧ k_ ≠ gb441 ∧ k_ ≠ s_.2.2.2.2.2.2) s_.2.2.2.2.1 t456) ∧ (Kd.V (Kd.int .u64) 57 w' w.heap.size (fun k_ => (w.heap.size ≤ k_) ∧ some k_ ≠ (s_.2.1 : Value).ownBlock ∧ some k_ ≠ (s_.2.2.2.1 : Value).ownBlock ∧ k_ ≠ gb439 ∧ k_ ≠ gb440 ∧ k_ ≠ gb441 ∧ k_ ≠ s_.2.2.2.2.2.2) s_.2.2.2.2.2.1 t459) ∧ (w'.heap[gb439]? = some (.cells #[.slice A0_0 l0_0.length c0_0, .slice A0_1 l0_1.length c0_1] 24 (0, 0))) ∧ (w'.heap[gb440]? = some (.cells #[.slice none 0 0, .slice none 0 0] 28 (0, 0))) ∧ (w'.heap[gb441]? = some (.cells #[.slice none 0 0, .slice none 0 0] 40 (0, 0))) ∧ (w'.heap[s_.2.2.2.2.2.2]? = some (.cells #[.slice none 0 0, .slice none 0 0] 28 (0, 0))) ∧ (w.heap.size ≤ s_.2.2.2.2.2.2) ∧ (w.heap.size ≤ s_.2.2.2.2.2.2) ∧ (gb439 ≠ s_.2.2.2.2.2.2) ∧ (s_.2.2.2.2.2.2 ≠ gb439) ∧ (gb440 ≠ s_.2.2.2.2.2.2) ∧ (s_.2.2.2.2.2.2 ≠ gb440) ∧ (gb441 ≠ s_.2.2.2.2.2.2) ∧ (s_.2.2.2.2.2.2 ≠ gb441) ∧ (Below w.heap.size w w')) ?_ ?_
      rotate_left
      ·
       intro hJ0_3_4_7_8_12
       refine join_ (σ := Value × Value × Value × Value × Value × Value) 3 #[true, true, true, true, true, true, true, true, true, true, true, true, false, false, false] (fun s_ => [(38, s_.1), (41, s_.2.1), (42, s_.2.2.1), (45, s_.2.2.2.1), (46, .tuple #[.agg #[s_.2.2.2.2.1, s_.2.2.2.2.2], .int .i64 t462]), (37, .tuple #[.agg #[s_.2.2.2.2.1, s_.2.2.2.2.2], .int .i64 t462]), (47, .agg #[s_.2.2.2.2.1, s_.2.2.2.2.2]), (48, .int .i64 t462)]) (fun s_ w' => (w'.cell? ⟨gb439, 0, none⟩ = some (.slice A0_0 l0_0.length c0_0) ∧ w'.cell? ⟨gb439, 1, none⟩ = some (.slice A0_1 l0_1.length c0_1)) ∧ (Kd.R (Kd.int .u64) 57 w' w.heap.size (fun k_ => (w.heap.size ≤ k_) ∧ some k_ ≠ (s_.2.2.2.1 : Value).ownBlock) s_.2.1 y447) ∧ (Kd.R (Kd.int .u64) 57 w' w.heap.size (fun k_ => (w.heap.size ≤ k_) ∧ some k_ ≠ (s_.2.1 : Value).ownBlock) s_.2.2.2.1 y453) ∧ (Kd.V (Kd.int .u64) 57 w' w.heap.size (fun k_ => (w.heap.size ≤ k_) ∧ some k_ ≠ (s_.2.1 : Value).ownBlock ∧ some k_ ≠ (s_.2.2.2.1 : Value).ownBlock ∧ k_ ≠ gb439 ∧ k_ ≠ gb440 ∧ k_ ≠ gb441) s_.2.2.2.2.1 t456) ∧ (Kd.V (Kd.int .u64) 57 w' w.heap.size (fun k_ => (w.heap.size ≤ k_) ∧ some k_ ≠ (s_.2.1 : Value).ownBlock ∧ some k_ ≠ (s_.2.2.2.1 : Value).ownBlock ∧ k_ ≠ gb439 ∧ k_ ≠ gb440 ∧ k_ ≠ gb441) s_.2.2.2.2.2 t459) ∧ (w'.heap[gb439]? = some (.cells #[.slice A0_0 l0_0.length c0_0, .slice A0_1 l0_1.length c0_1] 24 (0, 0))) ∧ (w'.heap[gb440]? = some (.cells #[.slice none 0 0, .slice none 0 0] 28 (0, 0))) ∧ (w'.heap[gb441]? = some (.cells #[.slice none 0 0, .slice none 0 0] 40 (0, 0))) ∧ (Below w.heap.size w w')) ?_ ?_
       rotate_left
       ·
        intro hJ0_3_4_7_8
        refine join_ (σ := Value × Value × Value × Value × Nat) 6 #[true, true, true, true, true, true, true, true, false, false, false, false, true, false, false] (fun s_ => [(38, s_.1), (41, s_.2.1), (42, s_.2.2.1), (45, s_.2.2.2.1), (5, .pointer (some ⟨s_.2.2.2.2, 0, none⟩))]) (fun s_ w' => (w'.cell? ⟨gb439, 0, none⟩ = some (.slice A0_0 l0_0.length c0_0) ∧ w'.cell? ⟨gb439, 1, none⟩ = some (.slice A0_1 l0_1.length c0_1)) ∧ (Kd.R (Kd.int .u64) 57 w' w.heap.size (fun k_ => (w.heap.size ≤ k_) ∧ some k_ ≠ (s_.2.2.2.1 : Value).ownBlock) s_.2.1 y447) ∧ (Kd.R (Kd.int .u64) 57 w' w.heap.size (fun k_ => (w.heap.size ≤ k_) ∧ some k_ ≠ (s_.2.1 : Value).ownBlock) s_.2.2.2.1 y453) ∧ (w'.heap[gb439]? = some (.cells #[.slice A0_0 l0_0.length c0_0, .slice A0_1 l0_1.length c0_1] 24 (0, 0))) ∧ (w'.heap[gb440]? = some (.cells #[.slice none 0 0, .slice none 0 0] 28 (0, 0))) ∧ (w'.heap[gb441]? = some (.cells #[.slice none 0 0, .slice none 0 0] 40 (0, 0))) ∧ (w'.heap[s_.2.2.2.2]? = some (.cells #[.slice none 0 0, .slice none 0 0] 28 (0, 0))) ∧ (w.heap.size ≤ s_.2.2.2.2) ∧ (w.heap.size ≤ s_.2.2.2.2) ∧ (gb439 ≠ s_.2.2.2.2) ∧ (s_.2.2.2.2 ≠ gb439) ∧ (gb440 ≠ s_.2.2.2.2) ∧ (s_.2.2.2.2 ≠ gb440) ∧ (gb441 ≠ s_.2.2.2.2) ∧ (s_.2.2.2.2 ≠ gb441) ∧ (Below w.heap.size w w')) ?_ ?_
        rotate_left
        ·
         intro hJ0_3_4_7_12
         refine join_ (σ := Value × Value × Value × Value) 7 #[true, true, true, true, true, true, true, true, false, false, false, false, false, false, false] (fun s_ => [(38, s_.1), (41, s_.2.1), (42, s_.2.2.1), (45, s_.2.2.2)]) (fun s_ w' => (w'.cell? ⟨gb439, 0, none⟩ = some (.slice A0_0 l0_0.length c0_0) ∧ w'.cell? ⟨gb439, 1, none⟩ = some (.slice A0_1 l0_1.length c0_1)) ∧ (Kd.R (Kd.int .u64) 57 w' w.heap.size (fun k_ => (w.heap.size ≤ k_) ∧ some k_ ≠ (s_.2.2.2 : Value).ownBlock) s_.2.1 y447) ∧ (Kd.R (Kd.int .u64) 57 w' w.heap.size (fun k_ => (w.heap.size ≤ k_) ∧ some k_ ≠ (s_.2.1 : Value).ownBlock) s_.2.2.2 y453) ∧ (w'.heap[gb439]? = some (.cells #[.slice A0_0 l0_0.length c0_0, .slice A0_1 l0_1.length c0_1] 24 (0, 0))) ∧ (w'.heap[gb440]? = some (.cells #[.slice none 0 0, .slice none 0 0] 28 (0, 0))) ∧ (w'.heap[gb441]? = some (.cells #[.slice none 0 0, .slice none 0 0] 40 (0, 0))) ∧ (Below w.heap.size w w')) ?_ ?_
         rotate_left
         ·
          intro hJ0_3_4_7
          refine join_ (σ := Value × Value × Value × Nat) 7 #[true, true, true, true, true, true, true, false, false, false, false, false, true, false, false] (fun s_ => [(38, s_.1), (41, s_.2.1), (42, s_.2.2.1), (5, .pointer (some ⟨s_.2.2.2, 0, none⟩))]) (fun s_ w' => (w'.cell? ⟨gb439, 0, none⟩ = some (.slice A0_0 l0_0.length c0_0) ∧ w'.cell? ⟨gb439, 1, none⟩ = some (.slice A0_1 l0_1.length c0_1)) ∧ (Kd.R (Kd.int .u64) 57 w' w.heap.size (fun k_ => (w.heap.size ≤ k_) ∧ some k_ ≠ (s_.2.2.1 : Value).ownBlock) s_.2.1 y447) ∧ (Kd.R (Kd.int .u64) 57 w' w.heap.size (fun k_ => (w.heap.size ≤ k_) ∧ some k_ ≠ (s_.2.1 : Value).ownBlock) s_.2.2.1 y450) ∧ (w'.heap[gb439]? = some (.cells #[.slice A0_0 l0_0.length c0_0, .slice A0_1 l0_1.length c0_1] 24 (0, 0))) ∧ (w'.heap[gb440]? = some (.cells #[.slice none 0 0, .slice none 0 0] 28 (0, 0))) ∧ (w'.heap[gb441]? = some (.cells #[.slice none 0 0, .slice none 0 0] 40 (0, 0))) ∧ (w'.heap[s_.2.2.2]? = some (.cells #[.slice none 0 0, .slice none 0 0] 28 (0, 0))) ∧ (w.heap.size ≤ s_.2.2.2) ∧ (w.heap.size ≤ s_.2.2.2) ∧ (gb439 ≠ s_.2.2.2) ∧ (s_.2.2.2 ≠ gb439) ∧ (gb440 ≠ s_.2.2.2) ∧ (s_.2.2.2 ≠ gb440) ∧ (gb441 ≠ s_.2.2.2) ∧ (s_.2.2.2 ≠ gb441) ∧ (Below w.heap.size w w')) ?_ ?_
          rotate_left
          ·
           intro hJ0_3_4_12
           refine join_ (σ := Value × Value × Value) 8 #[true, true, true, true, true, true, true, false, false, false, false, false, false, false, false] (fun s_ => [(38, s_.1), (41, s_.2.1), (42, s_.2.2)]) (fun s_ w' => (w'.cell? ⟨gb439, 0, none⟩ = some (.slice A0_0 l0_0.length c0_0) ∧ w'.cell? ⟨gb439, 1, none⟩ = some (.slice A0_1 l0_1.length c0_1)) ∧ (Kd.R (Kd.int .u64) 57 w' w.heap.size (fun k_ => (w.heap.size ≤ k_) ∧ some k_ ≠ (s_.2.2 : Value).ownBlock) s_.2.1 y447) ∧ (Kd.R (Kd.int .u64) 57 w' w.heap.size (fun k_ => (w.heap.size ≤ k_) ∧ some k_ ≠ (s_.2.1 : Value).ownBlock) s_.2.2 y450) ∧ (w'.heap[gb439]? = some (.cells #[.slice A0_0 l0_0.length c0_0, .slice A0_1 l0_1.length c0_1] 24 (0, 0))) ∧ (w'.heap[gb440]? = some (.cells #[.slice none 0 0, .slice none 0 0] 28 (0, 0))) ∧ (w'.heap[gb441]? = some (.cells #[.slice none 0 0, .slice none 0 0] 40 (0, 0))) ∧ (Below w.heap.size w w')) ?_ ?_
           rotate_left
           ·
            intro hJ0_3_4
            refine join_ (σ := Value × Value × Nat) 8 #[true, true, true, true, false, true, true, false, false, false, false, false, true, false, false] (fun s_ => [(38, s_.1), (41, s_.2.1), (5, .pointer (some ⟨s_.2.2, 0, none⟩))]) (fun s_ w' => (w'.cell? ⟨gb439, 0, none⟩ = some (.slice A0_0 l0_0.length c0_0) ∧ w'.cell? ⟨gb439, 1, none⟩ = some (.slice A0_1 l0_1.length c0_1)) ∧ (Kd.R (Kd.int .u64) 57 w' w.heap.size (fun k_ => (w.heap.size ≤ k_)) s_.2.1 y447) ∧ (w'.heap[gb439]? = some (.cells #[.slice A0_0 l0_0.length c0_0, .slice A0_1 l0_1.length c0_1] 24 (0, 0))) ∧ (w'.heap[gb440]? = some (.cells #[.slice none 0 0, .slice none 0 0] 28 (0, 0))) ∧ (w'.heap[gb441]? = some (.cells #[.slice none 0 0, .slice none 0 0] 40 (0, 0))) ∧ (w'.heap[s_.2.2]? = some (.cells #[.slice none 0 0, .slice none 0 0] 28 (0, 0))) ∧ (w.heap.size ≤ s_.2.2) ∧ (w.heap.size ≤ s_.2.2) ∧ (gb439 ≠ s_.2.2) ∧ (s_.2.2 ≠ gb439) ∧ (gb440 ≠ s_.2.2) ∧ (s_.2.2 ≠ gb440) ∧ (gb441 ≠ s_.2.2) ∧ (s_.2.2 ≠ gb441) ∧ (Below w.heap.size w w')) ?_ ?_
            rotate_left
            ·
             intro hJ0_3_12
             refine join_ (σ := Value × Value × Nat) 8 #[true, true, true, false, true, true, true, false, false, false, false, false, true, false, false] (fun s_ => [(38, s_.1), (42, s_.2.1), (5, .pointer (some ⟨s_.2.2, 0, none⟩))]) (fun s_ w' => (w'.cell? ⟨gb439, 0, none⟩ = some (.slice A0_0 l0_0.length c0_0) ∧ w'.cell? ⟨gb439, 1, none⟩ = some (.slice A0_1 l0_1.length c0_1)) ∧ (Kd.R (Kd.int .u64) 57 w' w.heap.size (fun k_ => (w.heap.size ≤ k_) ∧ some k_ ≠ (s_.2.1 : Value).ownBlock) s_.1 y444) ∧ (Kd.R (Kd.int .u64) 57 w' w.heap.size (fun k_ => (w.heap.size ≤ k_) ∧ some k_ ≠ (s_.1 : Value).ownBlock) s_.2.1 y450) ∧ (w'.heap[gb439]? = some (.cells #[.slice A0_0 l0_0.length c0_0, .slice A0_1 l0_1.length c0_1] 24 (0, 0))) ∧ (w'.heap[gb440]? = some (.cells #[.slice none 0 0, .slice none 0 0] 28 (0, 0))) ∧ (w'.heap[gb441]? = some (.cells #[.slice none 0 0, .slice none 0 0] 40 (0, 0))) ∧ (w'.heap[s_.2.2]? = some (.cells #[.slice none 0 0, .slice none 0 0] 28 (0, 0))) ∧ (w.heap.size ≤ s_.2.2) ∧ (w.heap.size ≤ s_.2.2) ∧ (gb439 ≠ s_.2.2) ∧ (s_.2.2 ≠ gb439) ∧ (gb440 ≠ s_.2.2) ∧ (s_.2.2 ≠ gb440) ∧ (gb441 ≠ s_.2.2) ∧ (s_.2.2 ≠ gb441) ∧ (Below w.heap.size w w')) ?_ ?_
             rotate_left
             ·
              intro hJ0_4_12
              refine join_ (σ := Value × Value) 9 #[true, true, true, true, false, true, true, false, false, false, false, false, false, false, false] (fun s_ => [(38, s_.1), (41, s_.2)]) (fun s_ w' => (w'.cell? ⟨gb439, 0, none⟩ = some (.slice A0_0 l0_0.length c0_0) ∧ w'.cell? ⟨gb439, 1, none⟩ = some (.slice A0_1 l0_1.length c0_1)) ∧ (Kd.R (Kd.int .u64) 57 w' w.heap.size (fun k_ => (w.heap.size ≤ k_)) s_.2 y447) ∧ (w'.heap[gb439]? = some (.cells #[.slice A0_0 l0_0.length c0_0, .slice A0_1 l0_1.length c0_1] 24 (0, 0))) ∧ (w'.heap[gb440]? = some (.cells #[.slice none 0 0, .slice none 0 0] 28 (0, 0))) ∧ (w'.heap[gb441]? = some (.cells #[.slice none 0 0, .slice none 0 0] 40 (0, 0))) ∧ (Below w.heap.size w w')) ?_ ?_
              rotate_left
              ·
               intro hJ0_3
               refine join_ (σ := Value × Value) 9 #[true, true, true, false, true, true, true, false, false, false, false, false, false, false, false] (fun s_ => [(38, s_.1), (42, s_.2)]) (fun s_ w' => (w'.cell? ⟨gb439, 0, none⟩ = some (.slice A0_0 l0_0.length c0_0) ∧ w'.cell? ⟨gb439, 1, none⟩ = some (.slice A0_1 l0_1.length c0_1)) ∧ (Kd.R (Kd.int .u64) 57 w' w.heap.size (fun k_ => (w.heap.size ≤ k_) ∧ some k_ ≠ (s_.2 : Value).ownBlock) s_.1 y444) ∧ (Kd.R (Kd.int .u64) 57 w' w.heap.size (fun k_ => (w.heap.size ≤ k_) ∧ some k_ ≠ (s_.1 : Value).ownBlock) s_.2 y450) ∧ (w'.heap[gb439]? = some (.cells #[.slice A0_0 l0_0.length c0_0, .slice A0_1 l0_1.length c0_1] 24 (0, 0))) ∧ (w'.heap[gb440]? = some (.cells #[.slice none 0 0, .slice none 0 0] 28 (0, 0))) ∧ (w'.heap[gb441]? = some (.cells #[.slice none 0 0, .slice none 0 0] 40 (0, 0))) ∧ (Below w.heap.size w w')) ?_ ?_
               rotate_left
               ·
                intro hJ0_4
                refine join_ (σ := Value × Nat) 9 #[true, true, true, false, false, true, true, false, false, false, false, false, true, false, false] (fun s_ => [(38, s_.1), (5, .pointer (some ⟨s_.2, 0, none⟩))]) (fun s_ w' => (w'.cell? ⟨gb439, 0, none⟩ = some (.slice A0_0 l0_0.length c0_0) ∧ w'.cell? ⟨gb439, 1, none⟩ = some (.slice A0_1 l0_1.length c0_1)) ∧ (Kd.R (Kd.int .u64) 57 w' w.heap.size (fun k_ => (w.heap.size ≤ k_)) s_.1 y444) ∧ (w'.heap[gb439]? = some (.cells #[.slice A0_0 l0_0.length c0_0, .slice A0_1 l0_1.length c0_1] 24 (0, 0))) ∧ (w'.heap[gb440]? = some (.cells #[.slice none 0 0, .slice none 0 0] 28 (0, 0))) ∧ (w'.heap[gb441]? = some (.cells #[.slice none 0 0, .slice none 0 0] 40 (0, 0))) ∧ (w'.heap[s_.2]? = some (.cells #[.slice none 0 0, .slice none 0 0] 28 (0, 0))) ∧ (w.heap.size ≤ s_.2) ∧ (w.heap.size ≤ s_.2) ∧ (gb439 ≠ s_.2) ∧ (s_.2 ≠ gb439) ∧ (gb440 ≠ s_.2) ∧ (s_.2 ≠ gb440) ∧ (gb441 ≠ s_.2) ∧ (s_.2 ≠ gb441) ∧ (Below w.heap.size w w')) ?_ ?_
                rotate_left
                ·
                 intro hJ0_12
                 refine join_ (σ := Value × Nat) 9 #[false, true, true, false, true, true, true, false, false, false, false, false, true, false, false] (fun s_ => [(42, s_.1), (5, .pointer (some ⟨s_.2, 0, none⟩))]) (fun s_ w' => (w'.cell? ⟨gb439, 0, none⟩ = some (.slice A0_0 l0_0.length c0_0) ∧ w'.cell? ⟨gb439, 1, none⟩ = some (.slice A0_1 l0_1.length c0_1)) ∧ (Kd.R (Kd.int .u64) 57 w' w.heap.size (fun k_ => (w.heap.size ≤ k_)) s_.1 y450) ∧ (w'.heap[gb439]? = some (.cells #[.slice A0_0 l0_0.length c0_0, .slice A0_1 l0_1.length c0_1] 24 (0, 0))) ∧ (w'.heap[gb440]? = some (.cells #[.slice none 0 0, .slice none 0 0] 28 (0, 0))) ∧ (w'.heap[gb441]? = some (.cells #[.slice none 0 0, .slice none 0 0] 40 (0, 0))) ∧ (w'.heap[s_.2]? = some (.cells #[.slice none 0 0, .slice none 0 0] 28 (0, 0))) ∧ (w.heap.size ≤ s_.2) ∧ (w.heap.size ≤ s_.2) ∧ (gb439 ≠ s_.2) ∧ (s_.2 ≠ gb439) ∧ (gb440 ≠ s_.2) ∧ (s_.2 ≠ gb440) ∧ (gb441 ≠ s_.2) ∧ (s_.2 ≠ gb441) ∧ (Below w.heap.size w w')) ?_ ?_
                 rotate_left
                 ·
                  intro hJ4_12
                  refine join_ (σ := Value) 10 #[true, true, true, false, false, true, true, false, false, false, false, false, false, false, false] (fun s_ => [(38, s_)]) (fun s_ w' => (w'.cell? ⟨gb439, 0, none⟩ = some (.slice A0_0 l0_0.length c0_0) ∧ w'.cell? ⟨gb439, 1, none⟩ = some (.slice A0_1 l0_1.length c0_1)) ∧ (Kd.R (Kd.int .u64) 57 w' w.heap.size (fun k_ => (w.heap.size ≤ k_)) s_ y444) ∧ (w'.heap[gb439]? = some (.cells #[.slice A0_0 l0_0.length c0_0, .slice A0_1 l0_1.length c0_1] 24 (0, 0))) ∧ (w'.heap[gb440]? = some (.cells #[.slice none 0 0, .slice none 0 0] 28 (0, 0))) ∧ (w'.heap[gb441]? = some (.cells #[.slice none 0 0, .slice none 0 0] 40 (0, 0))) ∧ (Below w.heap.size w w')) ?_ ?_
                  rotate_left
                  ·
                   intro hJ0
                   refine join_ (σ := Value) 10 #[false, true, true, false, true, true, true, false, false, false, false, false, false, false, false] (fun s_ => [(42, s_)]) (fun s_ w' => (w'.cell? ⟨gb439, 0, none⟩ = some (.slice A0_0 l0_0.length c0_0) ∧ w'.cell? ⟨gb439, 1, none⟩ = some (.slice A0_1 l0_1.length c0_1)) ∧ (Kd.R (Kd.int .u64) 57 w' w.heap.size (fun k_ => (w.heap.size ≤ k_)) s_ y450) ∧ (w'.heap[gb439]? = some (.cells #[.slice A0_0 l0_0.length c0_0, .slice A0_1 l0_1.length c0_1] 24 (0, 0))) ∧ (w'.heap[gb440]? = some (.cells #[.slice none 0 0, .slice none 0 0] 28 (0, 0))) ∧ (w'.heap[gb441]? = some (.cells #[.slice none 0 0, .slice none 0 0] 40 (0, 0))) ∧ (Below w.heap.size w w')) ?_ ?_
                   rotate_left
                   ·
                    intro hJ4
                    refine join_ (σ := Nat) 10 #[false, true, true, false, false, true, true, false, false, false, false, false, true, false, false] (fun s_ => [(5, .pointer (some ⟨s_, 0, none⟩))]) (fun s_ w' => (w'.cell? ⟨gb439, 0, none⟩ = some (.slice A0_0 l0_0.length c0_0) ∧ w'.cell? ⟨gb439, 1, none⟩ = some (.slice A0_1 l0_1.length c0_1)) ∧ (w'.heap[gb439]? = some (.cells #[.slice A0_0 l0_0.length c0_0, .slice A0_1 l0_1.length c0_1] 24 (0, 0))) ∧ (w'.heap[gb440]? = some (.cells #[.slice none 0 0, .slice none 0 0] 28 (0, 0))) ∧ (w'.heap[gb441]? = some (.cells #[.slice none 0 0, .slice none 0 0] 40 (0, 0))) ∧ (w'.heap[s_]? = some (.cells #[.slice none 0 0, .slice none 0 0] 28 (0, 0))) ∧ (w.heap.size ≤ s_) ∧ (w.heap.size ≤ s_) ∧ (gb439 ≠ s_) ∧ (s_ ≠ gb439) ∧ (gb440 ≠ s_) ∧ (s_ ≠ gb440) ∧ (gb441 ≠ s_) ∧ (s_ ≠ gb441) ∧ (Below w.heap.size w w')) ?_ ?_
                    rotate_left
                    ·
                     intro hJ12
                     refine three_ (i := 0) (j := 4) (k := 12) (Ni := some 38) (Nj := some 42) (Nk := some 5) #[true, true, true, false, false, true, true, false, false, false, false, false, false, false, false] #[false, true, true, false, true, true, true, false, false, false, false, false, false, false, false] #[false, true, true, false, false, true, true, false, false, false, false, false, true, false, false] rfl rfl rfl rfl rfl rfl (three_of HT_.out (by kernel_rfl)) (by decide) (by decide) (by decide) (fun K hK => ?_) (fun K hK => ?_) (fun K hK => ?_)
                     ·
                      skip
                      refine Kd.zcw (Kd.int .u64) _ 57 ?hg (N := 38) ?hd (xs := ([] : List Int)) (inner := []) (ok := fun _ => True) (okp := fun _ => True) ?hr ?hp (fun _ hk => hk) trivial (Below.refl _ _) (Nat.le_refl _) (by simp) ?_; (case hd => rfl); (case hg => rfl); (case hr => first | (go_simp; done) | (go_simp; rfl)); (case hp => exact (Reps.none _ _))
                      intro v445 w40 ho41 hb hg_ hnew_
                      clear hg_ hnew_
                      (first | rw [← Ny444.out] at ho41 | (simp only [Int.reduceToNat] at ho41; rw [← Ny444.out] at ho41))
                      have n0_ := zA (Kd.zbr (Kd.zcv (M := fun k_ => (w.heap.size ≤ k_)) ho41 (za (zB HB)) (fun k_ h_ => h_)) (za (zB HB)))
                      have n1_ := zA (zac (g := gb439) (o := .cells #[.slice A0_0 l0_0.length c0_0, .slice A0_1 l0_1.length c0_1] 24 (0, 0)) (zK BK439) hb)
                      have n2_ := zA (zac (g := gb440) (o := .cells #[.slice none 0 0, .slice none 0 0] 28 (0, 0)) (zK BK440) hb)
                      have n3_ := zA (zac (g := gb441) (o := .cells #[.slice none 0 0, .slice none 0 0] 40 (0, 0)) (zK BK441) hb)
                      have n4_ := zA (zaa (zB HB) hb)
                      clear BK439 BK440 BK441 HB
                      have HO446 := n0_
                      have BK439 := n1_
                      have BK440 := n2_
                      have BK441 := n3_
                      have HB := n4_
                      clear n0_ n1_ n2_ n3_ n4_ hb ho41
                      refine hK.out _ _ ⟨(zab BK439.out 0).trans rfl, (zab BK439.out 1).trans rfl⟩ (fun hHeld => ?_)
                      clear hK K
                      refine norm_ (a' := ?_) ?_ ?_
                      rotate_left
                      ·
                       show Act.put _ (some 38) _ = _
                       simp only [Act.put, zs1, zs2, zs3, i64_w, i32_w]
                       rfl
                      exact norm_ (zP) (hJ0 (v445) _ ⟨hHeld, (by (with_reducible repeat (first | apply Kd.zbz | apply Kd.zb0 | apply Kd.zca)); exact Kd.zbl HO446.out (fun _ hk => hk.1)), (zK BK439), (zK BK440), (zK BK441), (zB HB)⟩)
                     ·
                      skip
                      refine Kd.zcw (Kd.int .u64) _ 57 ?hg (N := 42) ?hd (xs := ([] : List Int)) (inner := []) (ok := fun _ => True) (okp := fun _ => True) ?hr ?hp (fun _ hk => hk) trivial (Below.refl _ _) (Nat.le_refl _) (by simp) ?_; (case hd => rfl); (case hg => rfl); (case hr => first | (go_simp; done) | (go_simp; rfl)); (case hp => exact (Reps.none _ _))
                      intro v451 w40 ho41 hb hg_ hnew_
                      clear hg_ hnew_
                      (first | rw [← Ny450.out] at ho41 | (simp only [Int.reduceToNat] at ho41; rw [← Ny450.out] at ho41))
                      have n0_ := zA (Kd.zbr (Kd.zcv (M := fun k_ => (w.heap.size ≤ k_)) ho41 (za (zB HB)) (fun k_ h_ => h_)) (za (zB HB)))
                      have n1_ := zA (zac (g := gb439) (o := .cells #[.slice A0_0 l0_0.length c0_0, .slice A0_1 l0_1.length c0_1] 24 (0, 0)) (zK BK439) hb)
                      have n2_ := zA (zac (g := gb440) (o := .cells #[.slice none 0 0, .slice none 0 0] 28 (0, 0)) (zK BK440) hb)
                      have n3_ := zA (zac (g := gb441) (o := .cells #[.slice none 0 0, .slice none 0 0] 40 (0, 0)) (zK BK441) hb)
                      have n4_ := zA (zaa (zB HB) hb)
                      clear BK439 BK440 BK441 HB
                      have HO452 := n0_
                      have BK439 := n1_
                      have BK440 := n2_
                      have BK441 := n3_
                      have HB := n4_
                      clear n0_ n1_ n2_ n3_ n4_ hb ho41
                      refine hK.out _ _ ⟨(zab BK439.out 0).trans rfl, (zab BK439.out 1).trans rfl⟩ (fun hHeld => ?_)
                      clear hK K
                      refine norm_ (a' := ?_) ?_ ?_
                      rotate_left
                      ·
                       show Act.put _ (some 42) _ = _
                       simp only [Act.put, zs1, zs2, zs3, i64_w, i32_w]
                       rfl
                      exact norm_ (zP) (hJ4 (v451) _ ⟨hHeld, (by (with_reducible repeat (first | apply Kd.zbz | apply Kd.zb0 | apply Kd.zca)); exact Kd.zbl HO452.out (fun _ hk => hk.1)), (zK BK439), (zK BK440), (zK BK441), (zB HB)⟩)
                     ·
                      skip
                      refine zc0 ?hg (N := 5) ?hd (cs := #[.slice none 0 0, .slice none 0 0]) (t := 28) ?hr ?_; (case hd => rfl); (case hg => rfl); (case hr => first | (go_simp; done) | (go_simp; rfl))
                      intro gb463 hg w40 hbox hb
                      have n0_ := zA (zac (g := gb439) (o := .cells #[.slice A0_0 l0_0.length c0_0, .slice A0_1 l0_1.length c0_1] 24 (0, 0)) (zK BK439) hb)
                      have n1_ := zA (zac (g := gb440) (o := .cells #[.slice none 0 0, .slice none 0 0] 28 (0, 0)) (zK BK440) hb)
                      have n2_ := zA (zac (g := gb441) (o := .cells #[.slice none 0 0, .slice none 0 0] 40 (0, 0)) (zK BK441) hb)
                      have n3_ := zA (zaa (zB HB) hb)
                      have n4_ := zA (hbox)
                      have n5_ := zA ((by rw [hg]; exact (za (zB HB)) : w.heap.size ≤ gb463))
                      have n6_ := zA ((by rw [hg]; exact (za (zB HB)) : w.heap.size ≤ gb463))
                      have n7_ := zA ((by rw [hg]; exact Nat.ne_of_lt (zay (g := gb439) (o := .cells #[.slice A0_0 l0_0.length c0_0, .slice A0_1 l0_1.length c0_1] 24 (0, 0)) (zK BK439)) : gb439 ≠ gb463))
                      have n8_ := zA ((by rw [hg]; exact Nat.ne_of_gt (zay (g := gb439) (o := .cells #[.slice A0_0 l0_0.length c0_0, .slice A0_1 l0_1.length c0_1] 24 (0, 0)) (zK BK439)) : gb463 ≠ gb439))
                      have n9_ := zA ((by rw [hg]; exact Nat.ne_of_lt (zay (g := gb440) (o := .cells #[.slice none 0 0, .slice none 0 0] 28 (0, 0)) (zK BK440)) : gb440 ≠ gb463))
                      have n10_ := zA ((by rw [hg]; exact Nat.ne_of_gt (zay (g := gb440) (o := .cells #[.slice none 0 0, .slice none 0 0] 28 (0, 0)) (zK BK440)) : gb463 ≠ gb440))
                      have n11_ := zA ((by rw [hg]; exact Nat.ne_of_lt (zay (g := gb441) (o := .cells #[.slice none 0 0, .slice none 0 0] 40 (0, 0)) (zK BK441)) : gb441 ≠ gb463))
                      have n12_ := zA ((by rw [hg]; exact Nat.ne_of_gt (zay (g := gb441) (o := .cells #[.slice none 0 0, .slice none 0 0] 40 (0, 0)) (zK BK441)) : gb463 ≠ gb441))
                      clear BK439 BK440 BK441 HB
                      have BK439 := n0_
                      have BK440 := n1_
                      have BK441 := n2_
                      have HB := n3_
                      have BK463 := n4_
                      have GW463 := n5_
                      have GE463 := n6_
                      have NB439_463 := n7_
                      have NB463_439 := n8_
                      have NB440_463 := n9_
                      have NB463_440 := n10_
                      have NB441_463 := n11_
                      have NB463_441 := n12_
                      clear n0_ n1_ n2_ n3_ n4_ n5_ n6_ n7_ n8_ n9_ n10_ n11_ n12_ hb hbox hg
                      refine hK.out _ _ ⟨(zab BK439.out 0).trans rfl, (zab BK439.out 1).trans rfl⟩ (fun hHeld => ?_)
                      clear hK K
                      refine norm_ (a' := ?_) ?_ ?_
                      rotate_left
                      ·
                       show Act.put _ (some 5) _ = _
                       simp only [Act.put, zs1, zs2, zs3, i64_w, i32_w]
                       rfl
                      exact norm_ (zP) (hJ12 (gb463) _ ⟨hHeld, (zK BK439), (zK BK440), (zK BK441), (zK BK463), GW463.out, GE463.out, NB439_463.out, NB463_439.out, NB440_463.out, NB463_440.out, NB441_463.out, NB463_441.out, (zB HB)⟩)
                    ·
                     skip
                     rintro gb463 w41 ⟨hS_, h0_, h1_, h2_, h3_, h4_, h5_, h6_, h7_, h8_, h9_, h10_, h11_, h12_⟩
                     have n0_ : Aside0 (w41.heap[gb439]? = some (.cells #[.slice A0_0 l0_0.length c0_0, .slice A0_1 l0_1.length c0_1] 24 (0, 0))) := ⟨h0_⟩
                     have n1_ : Aside0 (w41.heap[gb440]? = some (.cells #[.slice none 0 0, .slice none 0 0] 28 (0, 0))) := ⟨h1_⟩
                     have n2_ : Aside0 (w41.heap[gb441]? = some (.cells #[.slice none 0 0, .slice none 0 0] 40 (0, 0))) := ⟨h2_⟩
                     have n3_ : Aside0 (w41.heap[gb463]? = some (.cells #[.slice none 0 0, .slice none 0 0] 28 (0, 0))) := ⟨h3_⟩
                     have n4_ : Aside0 (w.heap.size ≤ gb463) := ⟨h4_⟩
                     have n5_ : Aside0 (w.heap.size ≤ gb463) := ⟨h5_⟩
                     have n6_ : Aside0 (gb439 ≠ gb463) := ⟨h6_⟩
                     have n7_ : Aside0 (gb463 ≠ gb439) := ⟨h7_⟩
                     have n8_ : Aside0 (gb440 ≠ gb463) := ⟨h8_⟩
                     have n9_ : Aside0 (gb463 ≠ gb440) := ⟨h9_⟩
                     have n10_ : Aside0 (gb441 ≠ gb463) := ⟨h10_⟩
                     have n11_ : Aside0 (gb463 ≠ gb441) := ⟨h11_⟩
                     have n12_ : Aside0 (Below w.heap.size w w41) := ⟨h12_⟩
                     clear BK439 BK440 BK441 HB h0_ h1_ h2_ h3_ h4_ h5_ h6_ h7_ h8_ h9_ h10_ h11_ h12_
                     have BK439 := n0_
                     have BK440 := n1_
                     have BK441 := n2_
                     have BK463 := n3_
                     have GW463 := n4_
                     have GE463 := n5_
                     have NB439_463 := n6_
                     have NB463_439 := n7_
                     have NB440_463 := n8_
                     have NB463_440 := n9_
                     have NB441_463 := n10_
                     have NB463_441 := n11_
                     have HB := n12_
                     clear n0_ n1_ n2_ n3_ n4_ n5_ n6_ n7_ n8_ n9_ n10_ n11_ n12_
                     have hHeld : w41.cell? ⟨gb439, 0, none⟩ = some (.slice A0_0 l0_0.length c0_0) ∧ w41.cell? ⟨gb439, 1, none⟩ = some (.slice A0_1 l0_1.length c0_1) := hS_
                     refine norm_ (a' := ?_) ?_ ?_
                     rotate_left
                     ·
                      simp only [putAll, Act.put, zs1, zs2, zs3]
                      rfl
                     refine two_ (i := 0) (j := 4) (Ni := some 38) (Nj := some 42) #[true, true, true, false, false, true, true, false, false, false, false, false, true, false, false] #[false, true, true, false, true, true, true, false, false, false, false, false, true, false, false] rfl rfl rfl rfl (two_of HT_.out (by kernel_rfl)) (by decide) (by decide) (fun K hK => ?_) (fun K hK => ?_)
                     ·
                      skip
                      refine Kd.zcw (Kd.int .u64) _ 57 ?hg (N := 38) ?hd (xs := ([] : List Int)) (inner := []) (ok := fun _ => True) (okp := fun _ => True) ?hr ?hp (fun _ hk => hk) trivial (Below.refl _ _) (Nat.le_refl _) (by simp) ?_; (case hd => rfl); (case hg => rfl); (case hr => first | (go_simp; done) | (go_simp; rfl)); (case hp => exact (Reps.none _ _))
                      intro v445 w42 ho43 hb hg_ hnew_
                      clear hg_ hnew_
                      (first | rw [← Ny444.out] at ho43 | (simp only [Int.reduceToNat] at ho43; rw [← Ny444.out] at ho43))
                      have n0_ := zA (Kd.zbr (Kd.zcv (M := fun k_ => (w.heap.size ≤ k_)) ho43 (za (zB HB)) (fun k_ h_ => h_)) (za (zB HB)))
                      have n1_ := zA (zac (g := gb439) (o := .cells #[.slice A0_0 l0_0.length c0_0, .slice A0_1 l0_1.length c0_1] 24 (0, 0)) (zK BK439) hb)
                      have n2_ := zA (zac (g := gb440) (o := .cells #[.slice none 0 0, .slice none 0 0] 28 (0, 0)) (zK BK440) hb)
                      have n3_ := zA (zac (g := gb441) (o := .cells #[.slice none 0 0, .slice none 0 0] 40 (0, 0)) (zK BK441) hb)
                      have n4_ := zA (zac (g := gb463) (o := .cells #[.slice none 0 0, .slice none 0 0] 28 (0, 0)) (zK BK463) hb)
                      have n5_ := zA (zaa (zB HB) hb)
                      clear BK439 BK440 BK441 BK463 HB
                      have HO446 := n0_
                      have BK439 := n1_
                      have BK440 := n2_
                      have BK441 := n3_
                      have BK463 := n4_
                      have HB := n5_
                      clear n0_ n1_ n2_ n3_ n4_ n5_ hb ho43
                      refine hK.out _ _ ⟨(zab BK439.out 0).trans rfl, (zab BK439.out 1).trans rfl⟩ (fun hHeld => ?_)
                      clear hK K
                      refine norm_ (a' := ?_) ?_ ?_
                      rotate_left
                      ·
                       show Act.put _ (some 38) _ = _
                       simp only [Act.put, zs1, zs2, zs3, i64_w, i32_w]
                       rfl
                      exact norm_ (zP) (hJ0_12 (v445, gb463) _ ⟨hHeld, (by (with_reducible repeat (first | apply Kd.zbz | apply Kd.zb0 | apply Kd.zca)); exact Kd.zbl HO446.out (fun _ hk => hk.1)), (zK BK439), (zK BK440), (zK BK441), (zK BK463), GW463.out, GE463.out, NB439_463.out, NB463_439.out, NB440_463.out, NB463_440.out, NB441_463.out, NB463_441.out, (zB HB)⟩)
                     ·
                      skip
                      refine Kd.zcw (Kd.int .u64) _ 57 ?hg (N := 42) ?hd (xs := ([] : List Int)) (inner := []) (ok := fun _ => True) (okp := fun _ => True) ?hr ?hp (fun _ hk => hk) trivial (Below.refl _ _) (Nat.le_refl _) (by simp) ?_; (case hd => rfl); (case hg => rfl); (case hr => first | (go_simp; done) | (go_simp; rfl)); (case hp => exact (Reps.none _ _))
                      intro v451 w42 ho43 hb hg_ hnew_
                      clear hg_ hnew_
                      (first | rw [← Ny450.out] at ho43 | (simp only [Int.reduceToNat] at ho43; rw [← Ny450.out] at ho43))
                      have n0_ := zA (Kd.zbr (Kd.zcv (M := fun k_ => (w.heap.size ≤ k_)) ho43 (za (zB HB)) (fun k_ h_ => h_)) (za (zB HB)))
                      have n1_ := zA (zac (g := gb439) (o := .cells #[.slice A0_0 l0_0.length c0_0, .slice A0_1 l0_1.length c0_1] 24 (0, 0)) (zK BK439) hb)
                      have n2_ := zA (zac (g := gb440) (o := .cells #[.slice none 0 0, .slice none 0 0] 28 (0, 0)) (zK BK440) hb)
                      have n3_ := zA (zac (g := gb441) (o := .cells #[.slice none 0 0, .slice none 0 0] 40 (0, 0)) (zK BK441) hb)
                      have n4_ := zA (zac (g := gb463) (o := .cells #[.slice none 0 0, .slice none 0 0] 28 (0, 0)) (zK BK463) hb)
                      have n5_ := zA (zaa (zB HB) hb)
                      clear BK439 BK440 BK441 BK463 HB
                      have HO452 := n0_
                      have BK439 := n1_
                      have BK440 := n2_
                      have BK441 := n3_
                      have BK463 := n4_
                      have HB := n5_
                      clear n0_ n1_ n2_ n3_ n4_ n5_ hb ho43
                      refine hK.out _ _ ⟨(zab BK439.out 0).trans rfl, (zab BK439.out 1).trans rfl⟩ (fun hHeld => ?_)
                      clear hK K
                      refine norm_ (a' := ?_) ?_ ?_
                      rotate_left
                      ·
                       show Act.put _ (some 42) _ = _
                       simp only [Act.put, zs1, zs2, zs3, i64_w, i32_w]
                       rfl
                      exact norm_ (zP) (hJ4_12 (v451, gb463) _ ⟨hHeld, (by (with_reducible repeat (first | apply Kd.zbz | apply Kd.zb0 | apply Kd.zca)); exact Kd.zbl HO452.out (fun _ hk => hk.1)), (zK BK439), (zK BK440), (zK BK441), (zK BK463), GW463.out, GE463.out, NB439_463.out, NB463_439.out, NB440_463.out, NB463_440.out, NB441_463.out, NB463_441.out, (zB HB)⟩)
                   ·
                    skip
                    rintro v451 w42 ⟨hS_, h0_, h1_, h2_, h3_, h4_⟩
                    have n0_ : Aside0 (Kd.R (Kd.int .u64) 57 w42 w.heap.size (fun k_ => (w.heap.size ≤ k_)) v451 y450) := ⟨h0_⟩
                    have n1_ : Aside0 (w42.heap[gb439]? = some (.cells #[.slice A0_0 l0_0.length c0_0, .slice A0_1 l0_1.length c0_1] 24 (0, 0))) := ⟨h1_⟩
                    have n2_ : Aside0 (w42.heap[gb440]? = some (.cells #[.slice none 0 0, .slice none 0 0] 28 (0, 0))) := ⟨h2_⟩
                    have n3_ : Aside0 (w42.heap[gb441]? = some (.cells #[.slice none 0 0, .slice none 0 0] 40 (0, 0))) := ⟨h3_⟩
                    have n4_ : Aside0 (Below w.heap.size w w42) := ⟨h4_⟩
                    clear BK439 BK440 BK441 HB h0_ h1_ h2_ h3_ h4_
                    have HO452 := n0_
                    have BK439 := n1_
                    have BK440 := n2_
                    have BK441 := n3_
                    have HB := n4_
                    clear n0_ n1_ n2_ n3_ n4_
                    have hHeld : w42.cell? ⟨gb439, 0, none⟩ = some (.slice A0_0 l0_0.length c0_0) ∧ w42.cell? ⟨gb439, 1, none⟩ = some (.slice A0_1 l0_1.length c0_1) := hS_
                    refine norm_ (a' := ?_) ?_ ?_
                    rotate_left
                    ·
                     simp only [putAll, Act.put, zs1, zs2, zs3]
                     rfl
                    refine two_ (i := 0) (j := 12) (Ni := some 38) (Nj := some 5) #[true, true, true, false, true, true, true, false, false, false, false, false, false, false, false] #[false, true, true, false, true, true, true, false, false, false, false, false, true, false, false] rfl rfl rfl rfl (two_of HT_.out (by kernel_rfl)) (by decide) (by decide) (fun K hK => ?_) (fun K hK => ?_)
                    ·
                     skip
                     refine Kd.zcw (Kd.int .u64) _ 57 ?hg (N := 38) ?hd (xs := ([] : List Int)) (inner := []) (ok := fun _ => True) (okp := fun _ => True) ?hr ?hp (fun _ hk => hk) trivial (Below.refl _ _) (Nat.le_refl _) (by simp) ?_; (case hd => rfl); (case hg => rfl); (case hr => first | (go_simp; done) | (go_simp; rfl)); (case hp => exact (Reps.none _ _))
                     intro v445 w43 ho44 hb hg_ hnew_
                     clear hg_ hnew_
                     (first | rw [← Ny444.out] at ho44 | (simp only [Int.reduceToNat] at ho44; rw [← Ny444.out] at ho44))
                     have n0_ := zA (Kd.zbj (zR HO452) (Kd.zbi ho44) hb)
                     have n1_ := zA (Kd.zbr (Kd.zb5 (Kd.zcv (M := fun k_ => (w.heap.size ≤ k_)) ho44 (za (zB HB)) (fun k_ h_ => h_)) (Kd.R_lt (zR HO452))) (za (zB HB)))
                     have n2_ := zA (zac (g := gb439) (o := .cells #[.slice A0_0 l0_0.length c0_0, .slice A0_1 l0_1.length c0_1] 24 (0, 0)) (zK BK439) hb)
                     have n3_ := zA (zac (g := gb440) (o := .cells #[.slice none 0 0, .slice none 0 0] 28 (0, 0)) (zK BK440) hb)
                     have n4_ := zA (zac (g := gb441) (o := .cells #[.slice none 0 0, .slice none 0 0] 40 (0, 0)) (zK BK441) hb)
                     have n5_ := zA (zaa (zB HB) hb)
                     clear HO452 BK439 BK440 BK441 HB
                     have HO452 := n0_
                     have HO446 := n1_
                     have BK439 := n2_
                     have BK440 := n3_
                     have BK441 := n4_
                     have HB := n5_
                     clear n0_ n1_ n2_ n3_ n4_ n5_ hb ho44
                     refine hK.out _ _ ⟨(zab BK439.out 0).trans rfl, (zab BK439.out 1).trans rfl⟩ (fun hHeld => ?_)
                     clear hK K
                     refine norm_ (a' := ?_) ?_ ?_
                     rotate_left
                     ·
                      show Act.put _ (some 38) _ = _
                      simp only [Act.put, zs1, zs2, zs3, i64_w, i32_w]
                      rfl
                     exact norm_ (zP) (hJ0_4 (v445, v451) _ ⟨hHeld, (by (with_reducible repeat (first | apply Kd.zbz | apply Kd.zb0 | apply Kd.zca)); exact Kd.zbl HO446.out (fun _ hk => ⟨hk.1.1, hk.2⟩)), (zR HO452), (zK BK439), (zK BK440), (zK BK441), (zB HB)⟩)
                    ·
                     skip
                     refine zc0 ?hg (N := 5) ?hd (cs := #[.slice none 0 0, .slice none 0 0]) (t := 28) ?hr ?_; (case hd => rfl); (case hg => rfl); (case hr => first | (go_simp; done) | (go_simp; rfl))
                     intro gb463 hg w43 hbox hb
                     have n0_ := zA (Kd.zbs (zR HO452) hb)
                     have n1_ := zA (zac (g := gb439) (o := .cells #[.slice A0_0 l0_0.length c0_0, .slice A0_1 l0_1.length c0_1] 24 (0, 0)) (zK BK439) hb)
                     have n2_ := zA (zac (g := gb440) (o := .cells #[.slice none 0 0, .slice none 0 0] 28 (0, 0)) (zK BK440) hb)
                     have n3_ := zA (zac (g := gb441) (o := .cells #[.slice none 0 0, .slice none 0 0] 40 (0, 0)) (zK BK441) hb)
                     have n4_ := zA (zaa (zB HB) hb)
                     have n5_ := zA (hbox)
                     have n6_ := zA ((by rw [hg]; exact (za (zB HB)) : w.heap.size ≤ gb463))
                     have n7_ := zA ((by rw [hg]; exact (za (zB HB)) : w.heap.size ≤ gb463))
                     have n8_ := zA ((by rw [hg]; exact Nat.ne_of_lt (zay (g := gb439) (o := .cells #[.slice A0_0 l0_0.length c0_0, .slice A0_1 l0_1.length c0_1] 24 (0, 0)) (zK BK439)) : gb439 ≠ gb463))
                     have n9_ := zA ((by rw [hg]; exact Nat.ne_of_gt (zay (g := gb439) (o := .cells #[.slice A0_0 l0_0.length c0_0, .slice A0_1 l0_1.length c0_1] 24 (0, 0)) (zK BK439)) : gb463 ≠ gb439))
                     have n10_ := zA ((by rw [hg]; exact Nat.ne_of_lt (zay (g := gb440) (o := .cells #[.slice none 0 0, .slice none 0 0] 28 (0, 0)) (zK BK440)) : gb440 ≠ gb463))
                     have n11_ := zA ((by rw [hg]; exact Nat.ne_of_gt (zay (g := gb440) (o := .cells #[.slice none 0 0, .slice none 0 0] 28 (0, 0)) (zK BK440)) : gb463 ≠ gb440))
                     have n12_ := zA ((by rw [hg]; exact Nat.ne_of_lt (zay (g := gb441) (o := .cells #[.slice none 0 0, .slice none 0 0] 40 (0, 0)) (zK BK441)) : gb441 ≠ gb463))
                     have n13_ := zA ((by rw [hg]; exact Nat.ne_of_gt (zay (g := gb441) (o := .cells #[.slice none 0 0, .slice none 0 0] 40 (0, 0)) (zK BK441)) : gb463 ≠ gb441))
                     clear HO452 BK439 BK440 BK441 HB
                     have HO452 := n0_
                     have BK439 := n1_
                     have BK440 := n2_
                     have BK441 := n3_
                     have HB := n4_
                     have BK463 := n5_
                     have GW463 := n6_
                     have GE463 := n7_
                     have NB439_463 := n8_
                     have NB463_439 := n9_
                     have NB440_463 := n10_
                     have NB463_440 := n11_
                     have NB441_463 := n12_
                     have NB463_441 := n13_
                     clear n0_ n1_ n2_ n3_ n4_ n5_ n6_ n7_ n8_ n9_ n10_ n11_ n12_ n13_ hb hbox hg
                     refine hK.out _ _ ⟨(zab BK439.out 0).trans rfl, (zab BK439.out 1).trans rfl⟩ (fun hHeld => ?_)
                     clear hK K
                     refine norm_ (a' := ?_) ?_ ?_
                     rotate_left
                     ·
                      show Act.put _ (some 5) _ = _
                      simp only [Act.put, zs1, zs2, zs3, i64_w, i32_w]
                      rfl
                     exact norm_ (zP) (hJ4_12 (v451, gb463) _ ⟨hHeld, (zR HO452), (zK BK439), (zK BK440), (zK BK441), (zK BK463), GW463.out, GE463.out, NB439_463.out, NB463_439.out, NB440_463.out, NB463_440.out, NB441_463.out, NB463_441.out, (zB HB)⟩)
                  ·
                   skip
                   rintro v445 w42 ⟨hS_, h0_, h1_, h2_, h3_, h4_⟩
                   have n0_ : Aside0 (Kd.R (Kd.int .u64) 57 w42 w.heap.size (fun k_ => (w.heap.size ≤ k_)) v445 y444) := ⟨h0_⟩
                   have n1_ : Aside0 (w42.heap[gb439]? = some (.cells #[.slice A0_0 l0_0.length c0_0, .slice A0_1 l0_1.length c0_1] 24 (0, 0))) := ⟨h1_⟩
                   have n2_ : Aside0 (w42.heap[gb440]? = some (.cells #[.slice none 0 0, .slice none 0 0] 28 (0, 0))) := ⟨h2_⟩
                   have n3_ : Aside0 (w42.heap[gb441]? = some (.cells #[.slice none 0 0, .slice none 0 0] 40 (0, 0))) := ⟨h3_⟩
                   have n4_ : Aside0 (Below w.heap.size w w42) := ⟨h4_⟩
                   clear BK439 BK440 BK441 HB h0_ h1_ h2_ h3_ h4_
                   have HO446 := n0_
                   have BK439 := n1_
                   have BK440 := n2_
                   have BK441 := n3_
                   have HB := n4_
                   clear n0_ n1_ n2_ n3_ n4_
                   have hHeld : w42.cell? ⟨gb439, 0, none⟩ = some (.slice A0_0 l0_0.length c0_0) ∧ w42.cell? ⟨gb439, 1, none⟩ = some (.slice A0_1 l0_1.length c0_1) := hS_
                   refine norm_ (a' := ?_) ?_ ?_
                   rotate_left
                   ·
                    simp only [putAll, Act.put, zs1, zs2, zs3]
                    rfl
                   refine three_ (i := 3) (j := 4) (k := 12) (Ni := some 41) (Nj := some 42) (Nk := some 5) #[true, true, true, true, false, true, true, false, false, false, false, false, false, false, false] #[true, true, true, false, true, true, true, false, false, false, false, false, false, false, false] #[true, true, true, false, false, true, true, false, false, false, false, false, true, false, false] rfl rfl rfl rfl rfl rfl (three_of HT_.out (by kernel_rfl)) (by decide) (by decide) (by decide) (fun K hK => ?_) (fun K hK => ?_) (fun K hK => ?_)
                   ·
                    skip
                    refine zce (Kd.int .u64) (w0 := w) w.heap.size (by rfl) (.tmp 38) (.tmp 40) 26 22 57 (.int .u64 0) 8 rfl Tryd.underlying26 Tryd.underlying22 info57 rfl (by decide) (by omega) v445 y444 l0_0 _ _ _ (fun k_ => (w.heap.size ≤ k_)) (fun _ => False) rfl rfl ?aO ?aR (fun _ _ h => h) (fun _ h => h.elim) ?aF ?aB ?aS ?aL ?_
                    (case aR => exact zJ (Kd.za3 HR0_0.out HB.out))
                    (case aB => exact (zB HB))
                    (case aF => exact (fun k_ hk => (Nat.le_trans (za (zB HB)) hk)))
                    (case aO => exact (zR HO446))
                    (case aS => exact (za (zB HB)))
                    (case aL => have := LMc33.out; omega)
                    intro v448 w43 ho hb hg hat
                    rw [← Ny447.out] at ho
                    have n0_ := zA (zcb (g := gb439) (o := .cells #[.slice A0_0 l0_0.length c0_0, .slice A0_1 l0_1.length c0_1] 24 (0, 0)) (zK BK439) hg (Kd.R_ne HO446.out BK439.out (by decide)))
                    have n1_ := zA (zcb (g := gb440) (o := .cells #[.slice none 0 0, .slice none 0 0] 28 (0, 0)) (zK BK440) hg (Kd.R_ne HO446.out BK440.out (by decide)))
                    have n2_ := zA (zcb (g := gb441) (o := .cells #[.slice none 0 0, .slice none 0 0] 40 (0, 0)) (zK BK441) hg (Kd.R_ne HO446.out BK441.out (by decide)))
                    have n3_ := zA (hb)
                    have n4_ := zA (ho)
                    clear BK439 BK440 BK441 HB HO446
                    have BK439 := n0_
                    have BK440 := n1_
                    have BK441 := n2_
                    have HB := n3_
                    have HO449 := n4_
                    clear n0_ n1_ n2_ n3_ n4_ ho hb hg hat
                    refine hK.out _ _ ⟨(zab BK439.out 0).trans rfl, (zab BK439.out 1).trans rfl⟩ (fun hHeld => ?_)
                    clear hK K
                    refine norm_ (a' := ?_) ?_ ?_
                    rotate_left
                    ·
                     show Act.put _ (some 41) _ = _
                     simp only [Act.put, zs1, zs2, zs3, i64_w, i32_w]
                     rfl
                    exact norm_ (zP) (hJ0_3 (v445, v448) _ ⟨hHeld, (zR HO449), (zK BK439), (zK BK440), (zK BK441), (zB HB)⟩)
                   ·
                    skip
                    refine Kd.zcw (Kd.int .u64) _ 57 ?hg (N := 42) ?hd (xs := ([] : List Int)) (inner := []) (ok := fun _ => True) (okp := fun _ => True) ?hr ?hp (fun _ hk => hk) trivial (Below.refl _ _) (Nat.le_refl _) (by simp) ?_; (case hd => rfl); (case hg => rfl); (case hr => first | (go_simp; done) | (go_simp; rfl)); (case hp => exact (Reps.none _ _))
                    intro v451 w43 ho44 hb hg_ hnew_
                    clear hg_ hnew_
                    (first | rw [← Ny450.out] at ho44 | (simp only [Int.reduceToNat] at ho44; rw [← Ny450.out] at ho44))
                    have n0_ := zA (Kd.zbj (zR HO446) (Kd.zbi ho44) hb)
                    have n1_ := zA (Kd.zbr (Kd.zb5 (Kd.zcv (M := fun k_ => (w.heap.size ≤ k_)) ho44 (za (zB HB)) (fun k_ h_ => h_)) (Kd.R_lt (zR HO446))) (za (zB HB)))
                    have n2_ := zA (zac (g := gb439) (o := .cells #[.slice A0_0 l0_0.length c0_0, .slice A0_1 l0_1.length c0_1] 24 (0, 0)) (zK BK439) hb)
                    have n3_ := zA (zac (g := gb440) (o := .cells #[.slice none 0 0, .slice none 0 0] 28 (0, 0)) (zK BK440) hb)
                    have n4_ := zA (zac (g := gb441) (o := .cells #[.slice none 0 0, .slice none 0 0] 40 (0, 0)) (zK BK441) hb)
                    have n5_ := zA (zaa (zB HB) hb)
                    clear HO446 BK439 BK440 BK441 HB
                    have HO446 := n0_
                    have HO452 := n1_
                    have BK439 := n2_
                    have BK440 := n3_
                    have BK441 := n4_
                    have HB := n5_
                    clear n0_ n1_ n2_ n3_ n4_ n5_ hb ho44
                    refine hK.out _ _ ⟨(zab BK439.out 0).trans rfl, (zab BK439.out 1).trans rfl⟩ (fun hHeld => ?_)
                    clear hK K
                    refine norm_ (a' := ?_) ?_ ?_
                    rotate_left
                    ·
                     show Act.put _ (some 42) _ = _
                     simp only [Act.put, zs1, zs2, zs3, i64_w, i32_w]
                     rfl
                    exact norm_ (zP) (hJ0_4 (v445, v451) _ ⟨hHeld, (zR HO446), (by (with_reducible repeat (first | apply Kd.zbz | apply Kd.zb0 | apply Kd.zca)); exact Kd.zbl HO452.out (fun _ hk => ⟨hk.1.1, hk.2⟩)), (zK BK439), (zK BK440), (zK BK441), (zB HB)⟩)
                   ·
                    skip
                    refine zc0 ?hg (N := 5) ?hd (cs := #[.slice none 0 0, .slice none 0 0]) (t := 28) ?hr ?_; (case hd => rfl); (case hg => rfl); (case hr => first | (go_simp; done) | (go_simp; rfl))
                    intro gb463 hg w43 hbox hb
                    have n0_ := zA (Kd.zbs (zR HO446) hb)
                    have n1_ := zA (zac (g := gb439) (o := .cells #[.slice A0_0 l0_0.length c0_0, .slice A0_1 l0_1.length c0_1] 24 (0, 0)) (zK BK439) hb)
                    have n2_ := zA (zac (g := gb440) (o := .cells #[.slice none 0 0, .slice none 0 0] 28 (0, 0)) (zK BK440) hb)
                    have n3_ := zA (zac (g := gb441) (o := .cells #[.slice none 0 0, .slice none 0 0] 40 (0, 0)) (zK BK441) hb)
                    have n4_ := zA (zaa (zB HB) hb)
                    have n5_ := zA (hbox)
                    have n6_ := zA ((by rw [hg]; exact (za (zB HB)) : w.heap.size ≤ gb463))
                    have n7_ := zA ((by rw [hg]; exact (za (zB HB)) : w.heap.size ≤ gb463))
                    have n8_ := zA ((by rw [hg]; exact Nat.ne_of_lt (zay (g := gb439) (o := .cells #[.slice A0_0 l0_0.length c0_0, .slice A0_1 l0_1.length c0_1] 24 (0, 0)) (zK BK439)) : gb439 ≠ gb463))
                    have n9_ := zA ((by rw [hg]; exact Nat.ne_of_gt (zay (g := gb439) (o := .cells #[.slice A0_0 l0_0.length c0_0, .slice A0_1 l0_1.length c0_1] 24 (0, 0)) (zK BK439)) : gb463 ≠ gb439))
                    have n10_ := zA ((by rw [hg]; exact Nat.ne_of_lt (zay (g := gb440) (o := .cells #[.slice none 0 0, .slice none 0 0] 28 (0, 0)) (zK BK440)) : gb440 ≠ gb463))
                    have n11_ := zA ((by rw [hg]; exact Nat.ne_of_gt (zay (g := gb440) (o := .cells #[.slice none 0 0, .slice none 0 0] 28 (0, 0)) (zK BK440)) : gb463 ≠ gb440))
                    have n12_ := zA ((by rw [hg]; exact Nat.ne_of_lt (zay (g := gb441) (o := .cells #[.slice none 0 0, .slice none 0 0] 40 (0, 0)) (zK BK441)) : gb441 ≠ gb463))
                    have n13_ := zA ((by rw [hg]; exact Nat.ne_of_gt (zay (g := gb441) (o := .cells #[.slice none 0 0, .slice none 0 0] 40 (0, 0)) (zK BK441)) : gb463 ≠ gb441))
                    clear HO446 BK439 BK440 BK441 HB
                    have HO446 := n0_
                    have BK439 := n1_
                    have BK440 := n2_
                    have BK441 := n3_
                    have HB := n4_
                    have BK463 := n5_
                    have GW463 := n6_
                    have GE463 := n7_
                    have NB439_463 := n8_
                    have NB463_439 := n9_
                    have NB440_463 := n10_
                    have NB463_440 := n11_
                    have NB441_463 := n12_
                    have NB463_441 := n13_
                    clear n0_ n1_ n2_ n3_ n4_ n5_ n6_ n7_ n8_ n9_ n10_ n11_ n12_ n13_ hb hbox hg
                    refine hK.out _ _ ⟨(zab BK439.out 0).trans rfl, (zab BK439.out 1).trans rfl⟩ (fun hHeld => ?_)
                    clear hK K
                    refine norm_ (a' := ?_) ?_ ?_
                    rotate_left
                    ·
                     show Act.put _ (some 5) _ = _
                     simp only [Act.put, zs1, zs2, zs3, i64_w, i32_w]
                     rfl
                    exact norm_ (zP) (hJ0_12 (v445, gb463) _ ⟨hHeld, (zR HO446), (zK BK439), (zK BK440), (zK BK441), (zK BK463), GW463.out, GE463.out, NB439_463.out, NB463_439.out, NB440_463.out, NB463_440.out, NB441_463.out, NB463_441.out, (zB HB)⟩)
                 ·
                  skip
                  rintro ⟨v451, gb463⟩ w43 ⟨hS_, h0_, h1_, h2_, h3_, h4_, h5_, h6_, h7_, h8_, h9_, h10_, h11_, h12_, h13_⟩
                  have n0_ : Aside0 (Kd.R (Kd.int .u64) 57 w43 w.heap.size (fun k_ => (w.heap.size ≤ k_)) v451 y450) := ⟨h0_⟩
                  have n1_ : Aside0 (w43.heap[gb439]? = some (.cells #[.slice A0_0 l0_0.length c0_0, .slice A0_1 l0_1.length c0_1] 24 (0, 0))) := ⟨h1_⟩
                  have n2_ : Aside0 (w43.heap[gb440]? = some (.cells #[.slice none 0 0, .slice none 0 0] 28 (0, 0))) := ⟨h2_⟩
                  have n3_ : Aside0 (w43.heap[gb441]? = some (.cells #[.slice none 0 0, .slice none 0 0] 40 (0, 0))) := ⟨h3_⟩
                  have n4_ : Aside0 (w43.heap[gb463]? = some (.cells #[.slice none 0 0, .slice none 0 0] 28 (0, 0))) := ⟨h4_⟩
                  have n5_ : Aside0 (w.heap.size ≤ gb463) := ⟨h5_⟩
                  have n6_ : Aside0 (w.heap.size ≤ gb463) := ⟨h6_⟩
                  have n7_ : Aside0 (gb439 ≠ gb463) := ⟨h7_⟩
                  have n8_ : Aside0 (gb463 ≠ gb439) := ⟨h8_⟩
                  have n9_ : Aside0 (gb440 ≠ gb463) := ⟨h9_⟩
                  have n10_ : Aside0 (gb463 ≠ gb440) := ⟨h10_⟩
                  have n11_ : Aside0 (gb441 ≠ gb463) := ⟨h11_⟩
                  have n12_ : Aside0 (gb463 ≠ gb441) := ⟨h12_⟩
                  have n13_ : Aside0 (Below w.heap.size w w43) := ⟨h13_⟩
                  clear BK439 BK440 BK441 HB h0_ h1_ h2_ h3_ h4_ h5_ h6_ h7_ h8_ h9_ h10_ h11_ h12_ h13_
                  have HO452 := n0_
                  have BK439 := n1_
                  have BK440 := n2_
                  have BK441 := n3_
                  have BK463 := n4_
                  have GW463 := n5_
                  have GE463 := n6_
                  have NB439_463 := n7_
                  have NB463_439 := n8_
                  have NB440_463 := n9_
                  have NB463_440 := n10_
                  have NB441_463 := n11_
                  have NB463_441 := n12_
                  have HB := n13_
                  clear n0_ n1_ n2_ n3_ n4_ n5_ n6_ n7_ n8_ n9_ n10_ n11_ n12_ n13_
                  have hHeld : w43.cell? ⟨gb439, 0, none⟩ = some (.slice A0_0 l0_0.length c0_0) ∧ w43.cell? ⟨gb439, 1, none⟩ = some (.slice A0_1 l0_1.length c0_1) := hS_
                  refine norm_ (a' := ?_) ?_ ?_
                  rotate_left
                  ·
                   simp only [putAll, Act.put, zs1, zs2, zs3]
                   rfl
                  refine one_ (i := 0) (N := some 38) #[true, true, true, false, true, true, true, false, false, false, false, false, true, false, false] rfl rfl (zb4 HT_.out (by kernel_rfl)) (by decide) (fun K hK => ?_)
                  refine Kd.zcw (Kd.int .u64) _ 57 ?hg (N := 38) ?hd (xs := ([] : List Int)) (inner := []) (ok := fun _ => True) (okp := fun _ => True) ?hr ?hp (fun _ hk => hk) trivial (Below.refl _ _) (Nat.le_refl _) (by simp) ?_; (case hd => rfl); (case hg => rfl); (case hr => first | (go_simp; done) | (go_simp; rfl)); (case hp => exact (Reps.none _ _))
                  intro v445 w44 ho45 hb hg_ hnew_
                  clear hg_ hnew_
                  (first | rw [← Ny444.out] at ho45 | (simp only [Int.reduceToNat] at ho45; rw [← Ny444.out] at ho45))
                  have n0_ := zA (Kd.zbj (zR HO452) (Kd.zbi ho45) hb)
                  have n1_ := zA (Kd.zbr (Kd.zb5 (Kd.zcv (M := fun k_ => (w.heap.size ≤ k_)) ho45 (za (zB HB)) (fun k_ h_ => h_)) (Kd.R_lt (zR HO452))) (za (zB HB)))
                  have n2_ := zA (zac (g := gb439) (o := .cells #[.slice A0_0 l0_0.length c0_0, .slice A0_1 l0_1.length c0_1] 24 (0, 0)) (zK BK439) hb)
                  have n3_ := zA (zac (g := gb440) (o := .cells #[.slice none 0 0, .slice none 0 0] 28 (0, 0)) (zK BK440) hb)
                  have n4_ := zA (zac (g := gb441) (o := .cells #[.slice none 0 0, .slice none 0 0] 40 (0, 0)) (zK BK441) hb)
                  have n5_ := zA (zac (g := gb463) (o := .cells #[.slice none 0 0, .slice none 0 0] 28 (0, 0)) (zK BK463) hb)
                  have n6_ := zA (zaa (zB HB) hb)
                  clear HO452 BK439 BK440 BK441 BK463 HB
                  have HO452 := n0_
                  have HO446 := n1_
                  have BK439 := n2_
                  have BK440 := n3_
                  have BK441 := n4_
                  have BK463 := n5_
                  have HB := n6_
                  clear n0_ n1_ n2_ n3_ n4_ n5_ n6_ hb ho45
                  refine hK.out _ _ ⟨(zab BK439.out 0).trans rfl, (zab BK439.out 1).trans rfl⟩ (fun hHeld => ?_)
                  clear hK K
                  refine norm_ (a' := ?_) ?_ ?_
                  rotate_left
                  ·
                   show Act.put _ (some 38) _ = _
                   simp only [Act.put, zs1, zs2, zs3, i64_w, i32_w]
                   rfl
                  exact norm_ (zP) (hJ0_4_12 (v445, v451, gb463) _ ⟨hHeld, (by (with_reducible repeat (first | apply Kd.zbz | apply Kd.zb0 | apply Kd.zca)); exact Kd.zbl HO446.out (fun _ hk => ⟨hk.1.1, hk.2⟩)), (zR HO452), (zK BK439), (zK BK440), (zK BK441), (zK BK463), GW463.out, GE463.out, NB439_463.out, NB463_439.out, NB440_463.out, NB463_440.out, NB441_463.out, NB463_441.out, (zB HB)⟩)
                ·
                 skip
                 rintro ⟨v445, gb463⟩ w43 ⟨hS_, h0_, h1_, h2_, h3_, h4_, h5_, h6_, h7_, h8_, h9_, h10_, h11_, h12_, h13_⟩
                 have n0_ : Aside0 (Kd.R (Kd.int .u64) 57 w43 w.heap.size (fun k_ => (w.heap.size ≤ k_)) v445 y444) := ⟨h0_⟩
                 have n1_ : Aside0 (w43.heap[gb439]? = some (.cells #[.slice A0_0 l0_0.length c0_0, .slice A0_1 l0_1.length c0_1] 24 (0, 0))) := ⟨h1_⟩
                 have n2_ : Aside0 (w43.heap[gb440]? = some (.cells #[.slice none 0 0, .slice none 0 0] 28 (0, 0))) := ⟨h2_⟩
                 have n3_ : Aside0 (w43.heap[gb441]? = some (.cells #[.slice none 0 0, .slice none 0 0] 40 (0, 0))) := ⟨h3_⟩
                 have n4_ : Aside0 (w43.heap[gb463]? = some (.cells #[.slice none 0 0, .slice none 0 0] 28 (0, 0))) := ⟨h4_⟩
                 have n5_ : Aside0 (w.heap.size ≤ gb463) := ⟨h5_⟩
                 have n6_ : Aside0 (w.heap.size ≤ gb463) := ⟨h6_⟩
                 have n7_ : Aside0 (gb439 ≠ gb463) := ⟨h7_⟩
                 have n8_ : Aside0 (gb463 ≠ gb439) := ⟨h8_⟩
                 have n9_ : Aside0 (gb440 ≠ gb463) := ⟨h9_⟩
                 have n10_ : Aside0 (gb463 ≠ gb440) := ⟨h10_⟩
                 have n11_ : Aside0 (gb441 ≠ gb463) := ⟨h11_⟩
                 have n12_ : Aside0 (gb463 ≠ gb441) := ⟨h12_⟩
                 have n13_ : Aside0 (Below w.heap.size w w43) := ⟨h13_⟩
                 clear BK439 BK440 BK441 HB h0_ h1_ h2_ h3_ h4_ h5_ h6_ h7_ h8_ h9_ h10_ h11_ h12_ h13_
                 have HO446 := n0_
                 have BK439 := n1_
                 have BK440 := n2_
                 have BK441 := n3_
                 have BK463 := n4_
                 have GW463 := n5_
                 have GE463 := n6_
                 have NB439_463 := n7_
                 have NB463_439 := n8_
                 have NB440_463 := n9_
                 have NB463_440 := n10_
                 have NB441_463 := n11_
                 have NB463_441 := n12_
                 have HB := n13_
                 clear n0_ n1_ n2_ n3_ n4_ n5_ n6_ n7_ n8_ n9_ n10_ n11_ n12_ n13_
                 have hHeld : w43.cell? ⟨gb439, 0, none⟩ = some (.slice A0_0 l0_0.length c0_0) ∧ w43.cell? ⟨gb439, 1, none⟩ = some (.slice A0_1 l0_1.length c0_1) := hS_
                 refine norm_ (a' := ?_) ?_ ?_
                 rotate_left
                 ·
                  simp only [putAll, Act.put, zs1, zs2, zs3]
                  rfl
                 refine two_ (i := 3) (j := 4) (Ni := some 41) (Nj := some 42) #[true, true, true, true, false, true, true, false, false, false, false, false, true, false, false] #[true, true, true, false, true, true, true, false, false, false, false, false, true, false, false] rfl rfl rfl rfl (two_of HT_.out (by kernel_rfl)) (by decide) (by decide) (fun K hK => ?_) (fun K hK => ?_)
                 ·
                  skip
                  refine zce (Kd.int .u64) (w0 := w) w.heap.size (by rfl) (.tmp 38) (.tmp 40) 26 22 57 (.int .u64 0) 8 rfl Tryd.underlying26 Tryd.underlying22 info57 rfl (by decide) (by omega) v445 y444 l0_0 _ _ _ (fun k_ => (w.heap.size ≤ k_)) (fun _ => False) rfl rfl ?aO ?aR (fun _ _ h => h) (fun _ h => h.elim) ?aF ?aB ?aS ?aL ?_
                  (case aR => exact zJ (Kd.za3 HR0_0.out HB.out))
                  (case aB => exact (zB HB))
                  (case aF => exact (fun k_ hk => (Nat.le_trans (za (zB HB)) hk)))
                  (case aO => exact (zR HO446))
                  (case aS => exact (za (zB HB)))
                  (case aL => have := LMc33.out; omega)
                  intro v448 w44 ho hb hg hat
                  rw [← Ny447.out] at ho
                  have n0_ := zA (zcb (g := gb439) (o := .cells #[.slice A0_0 l0_0.length c0_0, .slice A0_1 l0_1.length c0_1] 24 (0, 0)) (zK BK439) hg (Kd.R_ne HO446.out BK439.out (by decide)))
                  have n1_ := zA (zcb (g := gb440) (o := .cells #[.slice none 0 0, .slice none 0 0] 28 (0, 0)) (zK BK440) hg (Kd.R_ne HO446.out BK440.out (by decide)))
                  have n2_ := zA (zcb (g := gb441) (o := .cells #[.slice none 0 0, .slice none 0 0] 40 (0, 0)) (zK BK441) hg (Kd.R_ne HO446.out BK441.out (by decide)))
                  have n3_ := zA (zcb (g := gb463) (o := .cells #[.slice none 0 0, .slice none 0 0] 28 (0, 0)) (zK BK463) hg (Kd.R_ne HO446.out BK463.out (by decide)))
                  have n4_ := zA (hb)
                  have n5_ := zA (ho)
                  clear BK439 BK440 BK441 BK463 HB HO446
                  have BK439 := n0_
                  have BK440 := n1_
                  have BK441 := n2_
                  have BK463 := n3_
                  have HB := n4_
                  have HO449 := n5_
                  clear n0_ n1_ n2_ n3_ n4_ n5_ ho hb hg hat
                  refine hK.out _ _ ⟨(zab BK439.out 0).trans rfl, (zab BK439.out 1).trans rfl⟩ (fun hHeld => ?_)
                  clear hK K
                  refine norm_ (a' := ?_) ?_ ?_
                  rotate_left
                  ·
                   show Act.put _ (some 41) _ = _
                   simp only [Act.put, zs1, zs2, zs3, i64_w, i32_w]
                   rfl
                  exact norm_ (zP) (hJ0_3_12 (v445, v448, gb463) _ ⟨hHeld, (zR HO449), (zK BK439), (zK BK440), (zK BK441), (zK BK463), GW463.out, GE463.out, NB439_463.out, NB463_439.out, NB440_463.out, NB463_440.out, NB441_463.out, NB463_441.out, (zB HB)⟩)
                 ·
                  skip
                  refine Kd.zcw (Kd.int .u64) _ 57 ?hg (N := 42) ?hd (xs := ([] : List Int)) (inner := []) (ok := fun _ => True) (okp := fun _ => True) ?hr ?hp (fun _ hk => hk) trivial (Below.refl _ _) (Nat.le_refl _) (by simp) ?_; (case hd => rfl); (case hg => rfl); (case hr => first | (go_simp; done) | (go_simp; rfl)); (case hp => exact (Reps.none _ _))
                  intro v451 w44 ho45 hb hg_ hnew_
                  clear hg_ hnew_
                  (first | rw [← Ny450.out] at ho45 | (simp only [Int.reduceToNat] at ho45; rw [← Ny450.out] at ho45))
                  have n0_ := zA (Kd.zbj (zR HO446) (Kd.zbi ho45) hb)
                  have n1_ := zA (Kd.zbr (Kd.zb5 (Kd.zcv (M := fun k_ => (w.heap.size ≤ k_)) ho45 (za (zB HB)) (fun k_ h_ => h_)) (Kd.R_lt (zR HO446))) (za (zB HB)))
                  have n2_ := zA (zac (g := gb439) (o := .cells #[.slice A0_0 l0_0.length c0_0, .slice A0_1 l0_1.length c0_1] 24 (0, 0)) (zK BK439) hb)
                  have n3_ := zA (zac (g := gb440) (o := .cells #[.slice none 0 0, .slice none 0 0] 28 (0, 0)) (zK BK440) hb)
                  have n4_ := zA (zac (g := gb441) (o := .cells #[.slice none 0 0, .slice none 0 0] 40 (0, 0)) (zK BK441) hb)
                  have n5_ := zA (zac (g := gb463) (o := .cells #[.slice none 0 0, .slice none 0 0] 28 (0, 0)) (zK BK463) hb)
                  have n6_ := zA (zaa (zB HB) hb)
                  clear HO446 BK439 BK440 BK441 BK463 HB
                  have HO446 := n0_
                  have HO452 := n1_
                  have BK439 := n2_
                  have BK440 := n3_
                  have BK441 := n4_
                  have BK463 := n5_
                  have HB := n6_
                  clear n0_ n1_ n2_ n3_ n4_ n5_ n6_ hb ho45
                  refine hK.out _ _ ⟨(zab BK439.out 0).trans rfl, (zab BK439.out 1).trans rfl⟩ (fun hHeld => ?_)
                  clear hK K
                  refine norm_ (a' := ?_) ?_ ?_
                  rotate_left
                  ·
                   show Act.put _ (some 42) _ = _
                   simp only [Act.put, zs1, zs2, zs3, i64_w, i32_w]
                   rfl
                  exact norm_ (zP) (hJ0_4_12 (v445, v451, gb463) _ ⟨hHeld, (zR HO446), (by (with_reducible repeat (first | apply Kd.zbz | apply Kd.zb0 | apply Kd.zca)); exact Kd.zbl HO452.out (fun _ hk => ⟨hk.1.1, hk.2⟩)), (zK BK439), (zK BK440), (zK BK441), (zK BK463), GW463.out, GE463.out, NB439_463.out, NB463_439.out, NB440_463.out, NB463_440.out, NB441_463.out, NB463_441.out, (zB HB)⟩)
               ·
                skip
                rintro ⟨v445, v451⟩ w44 ⟨hS_, h0_, h1_, h2_, h3_, h4_, h5_⟩
                have n0_ : Aside0 (Kd.R (Kd.int .u64) 57 w44 w.heap.size (fun k_ => (w.heap.size ≤ k_) ∧ some k_ ≠ (v451 : Value).ownBlock) v445 y444) := ⟨h0_⟩
                have n1_ : Aside0 (Kd.R (Kd.int .u64) 57 w44 w.heap.size (fun k_ => (w.heap.size ≤ k_) ∧ some k_ ≠ (v445 : Value).ownBlock) v451 y450) := ⟨h1_⟩
                have n2_ : Aside0 (w44.heap[gb439]? = some (.cells #[.slice A0_0 l0_0.length c0_0, .slice A0_1 l0_1.length c0_1] 24 (0, 0))) := ⟨h2_⟩
                have n3_ : Aside0 (w44.heap[gb440]? = some (.cells #[.slice none 0 0, .slice none 0 0] 28 (0, 0))) := ⟨h3_⟩
                have n4_ : Aside0 (w44.heap[gb441]? = some (.cells #[.slice none 0 0, .slice none 0 0] 40 (0, 0))) := ⟨h4_⟩
                have n5_ : Aside0 (Below w.heap.size w w44) := ⟨h5_⟩
                clear BK439 BK440 BK441 HB h0_ h1_ h2_ h3_ h4_ h5_
                have HO446 := n0_
                have HO452 := n1_
                have BK439 := n2_
                have BK440 := n3_
                have BK441 := n4_
                have HB := n5_
                clear n0_ n1_ n2_ n3_ n4_ n5_
                have hHeld : w44.cell? ⟨gb439, 0, none⟩ = some (.slice A0_0 l0_0.length c0_0) ∧ w44.cell? ⟨gb439, 1, none⟩ = some (.slice A0_1 l0_1.length c0_1) := hS_
                refine norm_ (a' := ?_) ?_ ?_
                rotate_left
                ·
                 simp only [putAll, Act.put, zs1, zs2, zs3]
                 rfl
                refine two_ (i := 3) (j := 12) (Ni := some 41) (Nj := some 5) #[true, true, true, true, true, true, true, false, false, false, false, false, false, false, false] #[true, true, true, false, true, true, true, false, false, false, false, false, true, false, false] rfl rfl rfl rfl (two_of HT_.out (by kernel_rfl)) (by decide) (by decide) (fun K hK => ?_) (fun K hK => ?_)
                ·
                 skip
                 refine zce (Kd.int .u64) (w0 := w) w.heap.size (by rfl) (.tmp 38) (.tmp 40) 26 22 57 (.int .u64 0) 8 rfl Tryd.underlying26 Tryd.underlying22 info57 rfl (by decide) (by omega) v445 y444 l0_0 _ _ _ (fun k_ => (w.heap.size ≤ k_) ∧ some k_ ≠ (v451 : Value).ownBlock) (fun _ => False) rfl rfl ?aO ?aR (fun _ _ h => h) (fun _ h => h.elim) ?aF ?aB ?aS ?aL ?_
                 (case aR => exact zJ (Kd.za3 HR0_0.out HB.out))
                 (case aB => exact (zB HB))
                 (case aF => exact (fun k_ hk => ⟨(Nat.le_trans (za (zB HB)) hk), Kd.fresh' (Kd.R_lt (zR HO452)) k_ hk⟩))
                 (case aO => exact (zR HO446))
                 (case aS => exact (za (zB HB)))
                 (case aL => have := LMc33.out; omega)
                 intro v448 w45 ho hb hg hat
                 rw [← Ny447.out] at ho
                 have n0_ := zA (zcb (g := gb439) (o := .cells #[.slice A0_0 l0_0.length c0_0, .slice A0_1 l0_1.length c0_1] 24 (0, 0)) (zK BK439) hg (Kd.R_ne HO446.out BK439.out (by decide)))
                 have n1_ := zA (zcb (g := gb440) (o := .cells #[.slice none 0 0, .slice none 0 0] 28 (0, 0)) (zK BK440) hg (Kd.R_ne HO446.out BK440.out (by decide)))
                 have n2_ := zA (zcb (g := gb441) (o := .cells #[.slice none 0 0, .slice none 0 0] 40 (0, 0)) (zK BK441) hg (Kd.R_ne HO446.out BK441.out (by decide)))
                 have n3_ := zA (Kd.R_after (ok := (fun k_ => (w.heap.size ≤ k_))) (zR HO452) hg hat)
                 have n4_ := zA (hb)
                 have n5_ := zA (ho)
                 clear BK439 BK440 BK441 HO452 HB HO446
                 have BK439 := n0_
                 have BK440 := n1_
                 have BK441 := n2_
                 have HO452 := n3_
                 have HB := n4_
                 have HO449 := n5_
                 clear n0_ n1_ n2_ n3_ n4_ n5_ ho hb hg hat
                 refine hK.out _ _ ⟨(zab BK439.out 0).trans rfl, (zab BK439.out 1).trans rfl⟩ (fun hHeld => ?_)
                 clear hK K
                 refine norm_ (a' := ?_) ?_ ?_
                 rotate_left
                 ·
                  show Act.put _ (some 41) _ = _
                  simp only [Act.put, zs1, zs2, zs3, i64_w, i32_w]
                  rfl
                 exact norm_ (zP) (hJ0_3_4 (v445, v448, v451) _ ⟨hHeld, (zR HO449), (zR HO452), (zK BK439), (zK BK440), (zK BK441), (zB HB)⟩)
                ·
                 skip
                 refine zc0 ?hg (N := 5) ?hd (cs := #[.slice none 0 0, .slice none 0 0]) (t := 28) ?hr ?_; (case hd => rfl); (case hg => rfl); (case hr => first | (go_simp; done) | (go_simp; rfl))
                 intro gb463 hg w45 hbox hb
                 have n0_ := zA (Kd.zbs (zR HO446) hb)
                 have n1_ := zA (Kd.zbs (zR HO452) hb)
                 have n2_ := zA (zac (g := gb439) (o := .cells #[.slice A0_0 l0_0.length c0_0, .slice A0_1 l0_1.length c0_1] 24 (0, 0)) (zK BK439) hb)
                 have n3_ := zA (zac (g := gb440) (o := .cells #[.slice none 0 0, .slice none 0 0] 28 (0, 0)) (zK BK440) hb)
                 have n4_ := zA (zac (g := gb441) (o := .cells #[.slice none 0 0, .slice none 0 0] 40 (0, 0)) (zK BK441) hb)
                 have n5_ := zA (zaa (zB HB) hb)
                 have n6_ := zA (hbox)
                 have n7_ := zA ((by rw [hg]; exact (za (zB HB)) : w.heap.size ≤ gb463))
                 have n8_ := zA ((by rw [hg]; exact (za (zB HB)) : w.heap.size ≤ gb463))
                 have n9_ := zA ((by rw [hg]; exact Nat.ne_of_lt (zay (g := gb439) (o := .cells #[.slice A0_0 l0_0.length c0_0, .slice A0_1 l0_1.length c0_1] 24 (0, 0)) (zK BK439)) : gb439 ≠ gb463))
                 have n10_ := zA ((by rw [hg]; exact Nat.ne_of_gt (zay (g := gb439) (o := .cells #[.slice A0_0 l0_0.length c0_0, .slice A0_1 l0_1.length c0_1] 24 (0, 0)) (zK BK439)) : gb463 ≠ gb439))
                 have n11_ := zA ((by rw [hg]; exact Nat.ne_of_lt (zay (g := gb440) (o := .cells #[.slice none 0 0, .slice none 0 0] 28 (0, 0)) (zK BK440)) : gb440 ≠ gb463))
                 have n12_ := zA ((by rw [hg]; exact Nat.ne_of_gt (zay (g := gb440) (o := .cells #[.slice none 0 0, .slice none 0 0] 28 (0, 0)) (zK BK440)) : gb463 ≠ gb440))
                 have n13_ := zA ((by rw [hg]; exact Nat.ne_of_lt (zay (g := gb441) (o := .cells #[.slice none 0 0, .slice none 0 0] 40 (0, 0)) (zK BK441)) : gb441 ≠ gb463))
                 have n14_ := zA ((by rw [hg]; exact Nat.ne_of_gt (zay (g := gb441) (o := .cells #[.slice none 0 0, .slice none 0 0] 40 (0, 0)) (zK BK441)) : gb463 ≠ gb441))
                 clear HO446 HO452 BK439 BK440 BK441 HB
                 have HO446 := n0_
                 have HO452 := n1_
                 have BK439 := n2_
                 have BK440 := n3_
                 have BK441 := n4_
                 have HB := n5_
                 have BK463 := n6_
                 have GW463 := n7_
                 have GE463 := n8_
                 have NB439_463 := n9_
                 have NB463_439 := n10_
                 have NB440_463 := n11_
                 have NB463_440 := n12_
                 have NB441_463 := n13_
                 have NB463_441 := n14_
                 clear n0_ n1_ n2_ n3_ n4_ n5_ n6_ n7_ n8_ n9_ n10_ n11_ n12_ n13_ n14_ hb hbox hg
                 refine hK.out _ _ ⟨(zab BK439.out 0).trans rfl, (zab BK439.out 1).trans rfl⟩ (fun hHeld => ?_)
                 clear hK K
                 refine norm_ (a' := ?_) ?_ ?_
                 rotate_left
                 ·
                  show Act.put _ (some 5) _ = _
                  simp only [Act.put, zs1, zs2, zs3, i64_w, i32_w]
                  rfl
                 exact norm_ (zP) (hJ0_4_12 (v445, v451, gb463) _ ⟨hHeld, (zR HO446), (zR HO452), (zK BK439), (zK BK440), (zK BK441), (zK BK463), GW463.out, GE463.out, NB439_463.out, NB463_439.out, NB440_463.out, NB463_440.out, NB441_463.out, NB463_441.out, (zB HB)⟩)
              ·
               skip
               rintro ⟨v445, v448⟩ w43 ⟨hS_, h0_, h1_, h2_, h3_, h4_⟩
               have n0_ : Aside0 (Kd.R (Kd.int .u64) 57 w43 w.heap.size (fun k_ => (w.heap.size ≤ k_)) v448 y447) := ⟨h0_⟩
               have n1_ : Aside0 (w43.heap[gb439]? = some (.cells #[.slice A0_0 l0_0.length c0_0, .slice A0_1 l0_1.length c0_1] 24 (0, 0))) := ⟨h1_⟩
               have n2_ : Aside0 (w43.heap[gb440]? = some (.cells #[.slice none 0 0, .slice none 0 0] 28 (0, 0))) := ⟨h2_⟩
               have n3_ : Aside0 (w43.heap[gb441]? = some (.cells #[.slice none 0 0, .slice none 0 0] 40 (0, 0))) := ⟨h3_⟩
               have n4_ : Aside0 (Below w.heap.size w w43) := ⟨h4_⟩
               clear BK439 BK440 BK441 HB h0_ h1_ h2_ h3_ h4_
               have HO449 := n0_
               have BK439 := n1_
               have BK440 := n2_
               have BK441 := n3_
               have HB := n4_
               clear n0_ n1_ n2_ n3_ n4_
               have hHeld : w43.cell? ⟨gb439, 0, none⟩ = some (.slice A0_0 l0_0.length c0_0) ∧ w43.cell? ⟨gb439, 1, none⟩ = some (.slice A0_1 l0_1.length c0_1) := hS_
               refine norm_ (a' := ?_) ?_ ?_
               rotate_left
               ·
                simp only [putAll, Act.put, zs1, zs2, zs3]
                rfl
               refine two_ (i := 4) (j := 12) (Ni := some 42) (Nj := some 5) #[true, true, true, true, true, true, true, false, false, false, false, false, false, false, false] #[true, true, true, true, false, true, true, false, false, false, false, false, true, false, false] rfl rfl rfl rfl (two_of HT_.out (by kernel_rfl)) (by decide) (by decide) (fun K hK => ?_) (fun K hK => ?_)
               ·
                skip
                refine Kd.zcw (Kd.int .u64) _ 57 ?hg (N := 42) ?hd (xs := ([] : List Int)) (inner := []) (ok := fun _ => True) (okp := fun _ => True) ?hr ?hp (fun _ hk => hk) trivial (Below.refl _ _) (Nat.le_refl _) (by simp) ?_; (case hd => rfl); (case hg => rfl); (case hr => first | (go_simp; done) | (go_simp; rfl)); (case hp => exact (Reps.none _ _))
                intro v451 w44 ho45 hb hg_ hnew_
                clear hg_ hnew_
                (first | rw [← Ny450.out] at ho45 | (simp only [Int.reduceToNat] at ho45; rw [← Ny450.out] at ho45))
                have n0_ := zA (Kd.zbj (zR HO449) (Kd.zbi ho45) hb)
                have n1_ := zA (Kd.zbr (Kd.zb5 (Kd.zcv (M := fun k_ => (w.heap.size ≤ k_)) ho45 (za (zB HB)) (fun k_ h_ => h_)) (Kd.R_lt (zR HO449))) (za (zB HB)))
                have n2_ := zA (zac (g := gb439) (o := .cells #[.slice A0_0 l0_0.length c0_0, .slice A0_1 l0_1.length c0_1] 24 (0, 0)) (zK BK439) hb)
                have n3_ := zA (zac (g := gb440) (o := .cells #[.slice none 0 0, .slice none 0 0] 28 (0, 0)) (zK BK440) hb)
                have n4_ := zA (zac (g := gb441) (o := .cells #[.slice none 0 0, .slice none 0 0] 40 (0, 0)) (zK BK441) hb)
                have n5_ := zA (zaa (zB HB) hb)
                clear HO449 BK439 BK440 BK441 HB
                have HO449 := n0_
                have HO452 := n1_
                have BK439 := n2_
                have BK440 := n3_
                have BK441 := n4_
                have HB := n5_
                clear n0_ n1_ n2_ n3_ n4_ n5_ hb ho45
                refine hK.out _ _ ⟨(zab BK439.out 0).trans rfl, (zab BK439.out 1).trans rfl⟩ (fun hHeld => ?_)
                clear hK K
                refine norm_ (a' := ?_) ?_ ?_
                rotate_left
                ·
                 show Act.put _ (some 42) _ = _
                 simp only [Act.put, zs1, zs2, zs3, i64_w, i32_w]
                 rfl
                exact norm_ (zP) (hJ0_3_4 (v445, v448, v451) _ ⟨hHeld, (zR HO449), (by (with_reducible repeat (first | apply Kd.zbz | apply Kd.zb0 | apply Kd.zca)); exact Kd.zbl HO452.out (fun _ hk => ⟨hk.1.1, hk.2⟩)), (zK BK439), (zK BK440), (zK BK441), (zB HB)⟩)
               ·
                skip
                refine zc0 ?hg (N := 5) ?hd (cs := #[.slice none 0 0, .slice none 0 0]) (t := 28) ?hr ?_; (case hd => rfl); (case hg => rfl); (case hr => first | (go_simp; done) | (go_simp; rfl))
                intro gb463 hg w44 hbox hb
                have n0_ := zA (Kd.zbs (zR HO449) hb)
                have n1_ := zA (zac (g := gb439) (o := .cells #[.slice A0_0 l0_0.length c0_0, .slice A0_1 l0_1.length c0_1] 24 (0, 0)) (zK BK439) hb)
                have n2_ := zA (zac (g := gb440) (o := .cells #[.slice none 0 0, .slice none 0 0] 28 (0, 0)) (zK BK440) hb)
                have n3_ := zA (zac (g := gb441) (o := .cells #[.slice none 0 0, .slice none 0 0] 40 (0, 0)) (zK BK441) hb)
                have n4_ := zA (zaa (zB HB) hb)
                have n5_ := zA (hbox)
                have n6_ := zA ((by rw [hg]; exact (za (zB HB)) : w.heap.size ≤ gb463))
                have n7_ := zA ((by rw [hg]; exact (za (zB HB)) : w.heap.size ≤ gb463))
                have n8_ := zA ((by rw [hg]; exact Nat.ne_of_lt (zay (g := gb439) (o := .cells #[.slice A0_0 l0_0.length c0_0, .slice A0_1 l0_1.length c0_1] 24 (0, 0)) (zK BK439)) : gb439 ≠ gb463))
                have n9_ := zA ((by rw [hg]; exact Nat.ne_of_gt (zay (g := gb439) (o := .cells #[.slice A0_0 l0_0.length c0_0, .slice A0_1 l0_1.length c0_1] 24 (0, 0)) (zK BK439)) : gb463 ≠ gb439))
                have n10_ := zA ((by rw [hg]; exact Nat.ne_of_lt (zay (g := gb440) (o := .cells #[.slice none 0 0, .slice none 0 0] 28 (0, 0)) (zK BK440)) : gb440 ≠ gb463))
                have n11_ := zA ((by rw [hg]; exact Nat.ne_of_gt (zay (g := gb440) (o := .cells #[.slice none 0 0, .slice none 0 0] 28 (0, 0)) (zK BK440)) : gb463 ≠ gb440))
                have n12_ := zA ((by rw [hg]; exact Nat.ne_of_lt (zay (g := gb441) (o := .cells #[.slice none 0 0, .slice none 0 0] 40 (0, 0)) (zK BK441)) : gb441 ≠ gb463))
                have n13_ := zA ((by rw [hg]; exact Nat.ne_of_gt (zay (g := gb441) (o := .cells #[.slice none 0 0, .slice none 0 0] 40 (0, 0)) (zK BK441)) : gb463 ≠ gb441))
                clear HO449 BK439 BK440 BK441 HB
                have HO449 := n0_
                have BK439 := n1_
                have BK440 := n2_
                have BK441 := n3_
                have HB := n4_
                have BK463 := n5_
                have GW463 := n6_
                have GE463 := n7_
                have NB439_463 := n8_
                have NB463_439 := n9_
                have NB440_463 := n10_
                have NB463_440 := n11_
                have NB441_463 := n12_
                have NB463_441 := n13_
                clear n0_ n1_ n2_ n3_ n4_ n5_ n6_ n7_ n8_ n9_ n10_ n11_ n12_ n13_ hb hbox hg
                refine hK.out _ _ ⟨(zab BK439.out 0).trans rfl, (zab BK439.out 1).trans rfl⟩ (fun hHeld => ?_)
                clear hK K
                refine norm_ (a' := ?_) ?_ ?_
                rotate_left
                ·
                 show Act.put _ (some 5) _ = _
                 simp only [Act.put, zs1, zs2, zs3, i64_w, i32_w]
                 rfl
                exact norm_ (zP) (hJ0_3_12 (v445, v448, gb463) _ ⟨hHeld, (zR HO449), (zK BK439), (zK BK440), (zK BK441), (zK BK463), GW463.out, GE463.out, NB439_463.out, NB463_439.out, NB440_463.out, NB463_440.out, NB441_463.out, NB463_441.out, (zB HB)⟩)
             ·
              skip
              rintro ⟨v445, v451, gb463⟩ w45 ⟨hS_, h0_, h1_, h2_, h3_, h4_, h5_, h6_, h7_, h8_, h9_, h10_, h11_, h12_, h13_, h14_⟩
              have n0_ : Aside0 (Kd.R (Kd.int .u64) 57 w45 w.heap.size (fun k_ => (w.heap.size ≤ k_) ∧ some k_ ≠ (v451 : Value).ownBlock) v445 y444) := ⟨h0_⟩
              have n1_ : Aside0 (Kd.R (Kd.int .u64) 57 w45 w.heap.size (fun k_ => (w.heap.size ≤ k_) ∧ some k_ ≠ (v445 : Value).ownBlock) v451 y450) := ⟨h1_⟩
              have n2_ : Aside0 (w45.heap[gb439]? = some (.cells #[.slice A0_0 l0_0.length c0_0, .slice A0_1 l0_1.length c0_1] 24 (0, 0))) := ⟨h2_⟩
              have n3_ : Aside0 (w45.heap[gb440]? = some (.cells #[.slice none 0 0, .slice none 0 0] 28 (0, 0))) := ⟨h3_⟩
              have n4_ : Aside0 (w45.heap[gb441]? = some (.cells #[.slice none 0 0, .slice none 0 0] 40 (0, 0))) := ⟨h4_⟩
              have n5_ : Aside0 (w45.heap[gb463]? = some (.cells #[.slice none 0 0, .slice none 0 0] 28 (0, 0))) := ⟨h5_⟩
              have n6_ : Aside0 (w.heap.size ≤ gb463) := ⟨h6_⟩
              have n7_ : Aside0 (w.heap.size ≤ gb463) := ⟨h7_⟩
              have n8_ : Aside0 (gb439 ≠ gb463) := ⟨h8_⟩
              have n9_ : Aside0 (gb463 ≠ gb439) := ⟨h9_⟩
              have n10_ : Aside0 (gb440 ≠ gb463) := ⟨h10_⟩
              have n11_ : Aside0 (gb463 ≠ gb440) := ⟨h11_⟩
              have n12_ : Aside0 (gb441 ≠ gb463) := ⟨h12_⟩
              have n13_ : Aside0 (gb463 ≠ gb441) := ⟨h13_⟩
              have n14_ : Aside0 (Below w.heap.size w w45) := ⟨h14_⟩
              clear BK439 BK440 BK441 HB h0_ h1_ h2_ h3_ h4_ h5_ h6_ h7_ h8_ h9_ h10_ h11_ h12_ h13_ h14_
              have HO446 := n0_
              have HO452 := n1_
              have BK439 := n2_
              have BK440 := n3_
              have BK441 := n4_
              have BK463 := n5_
              have GW463 := n6_
              have GE463 := n7_
              have NB439_463 := n8_
              have NB463_439 := n9_
              have NB440_463 := n10_
              have NB463_440 := n11_
              have NB441_463 := n12_
              have NB463_441 := n13_
              have HB := n14_
              clear n0_ n1_ n2_ n3_ n4_ n5_ n6_ n7_ n8_ n9_ n10_ n11_ n12_ n13_ n14_
              have hHeld : w45.cell? ⟨gb439, 0, none⟩ = some (.slice A0_0 l0_0.length c0_0) ∧ w45.cell? ⟨gb439, 1, none⟩ = some (.slice A0_1 l0_1.length c0_1) := hS_
              refine norm_ (a' := ?_) ?_ ?_
              rotate_left
              ·
               simp only [putAll, Act.put, zs1, zs2, zs3]
               rfl
              refine one_ (i := 3) (N := some 41) #[true, true, true, true, true, true, true, false, false, false, false, false, true, false, false] rfl rfl (zb4 HT_.out (by kernel_rfl)) (by decide) (fun K hK => ?_)
              refine zce (Kd.int .u64) (w0 := w) w.heap.size (by rfl) (.tmp 38) (.tmp 40) 26 22 57 (.int .u64 0) 8 rfl Tryd.underlying26 Tryd.underlying22 info57 rfl (by decide) (by omega) v445 y444 l0_0 _ _ _ (fun k_ => (w.heap.size ≤ k_) ∧ some k_ ≠ (v451 : Value).ownBlock) (fun _ => False) rfl rfl ?aO ?aR (fun _ _ h => h) (fun _ h => h.elim) ?aF ?aB ?aS ?aL ?_
              (case aR => exact zJ (Kd.za3 HR0_0.out HB.out))
              (case aB => exact (zB HB))
              (case aF => exact (fun k_ hk => ⟨(Nat.le_trans (za (zB HB)) hk), Kd.fresh' (Kd.R_lt (zR HO452)) k_ hk⟩))
              (case aO => exact (zR HO446))
              (case aS => exact (za (zB HB)))
              (case aL => have := LMc33.out; omega)
              intro v448 w46 ho hb hg hat
              rw [← Ny447.out] at ho
              have n0_ := zA (zcb (g := gb439) (o := .cells #[.slice A0_0 l0_0.length c0_0, .slice A0_1 l0_1.length c0_1] 24 (0, 0)) (zK BK439) hg (Kd.R_ne HO446.out BK439.out (by decide)))
              have n1_ := zA (zcb (g := gb440) (o := .cells #[.slice none 0 0, .slice none 0 0] 28 (0, 0)) (zK BK440) hg (Kd.R_ne HO446.out BK440.out (by decide)))
              have n2_ := zA (zcb (g := gb441) (o := .cells #[.slice none 0 0, .slice none 0 0] 40 (0, 0)) (zK BK441) hg (Kd.R_ne HO446.out BK441.out (by decide)))
              have n3_ := zA (Kd.R_after (ok := (fun k_ => (w.heap.size ≤ k_))) (zR HO452) hg hat)
              have n4_ := zA (zcb (g := gb463) (o := .cells #[.slice none 0 0, .slice none 0 0] 28 (0, 0)) (zK BK463) hg (Kd.R_ne HO446.out BK463.out (by decide)))
              have n5_ := zA (hb)
              have n6_ := zA (ho)
              clear BK439 BK440 BK441 HO452 BK463 HB HO446
              have BK439 := n0_
              have BK440 := n1_
              have BK441 := n2_
              have HO452 := n3_
              have BK463 := n4_
              have HB := n5_
              have HO449 := n6_
              clear n0_ n1_ n2_ n3_ n4_ n5_ n6_ ho hb hg hat
              refine hK.out _ _ ⟨(zab BK439.out 0).trans rfl, (zab BK439.out 1).trans rfl⟩ (fun hHeld => ?_)
              clear hK K
              refine norm_ (a' := ?_) ?_ ?_
              rotate_left
              ·
               show Act.put _ (some 41) _ = _
               simp only [Act.put, zs1, zs2, zs3, i64_w, i32_w]
               rfl
              exact norm_ (zP) (hJ0_3_4_12 (v445, v448, v451, gb463) _ ⟨hHeld, (zR HO449), (zR HO452), (zK BK439), (zK BK440), (zK BK441), (zK BK463), GW463.out, GE463.out, NB439_463.out, NB463_439.out, NB440_463.out, NB463_440.out, NB441_463.out, NB463_441.out, (zB HB)⟩)
            ·
             skip
             rintro ⟨v445, v448, gb463⟩ w44 ⟨hS_, h0_, h1_, h2_, h3_, h4_, h5_, h6_, h7_, h8_, h9_, h10_, h11_, h12_, h13_⟩
             have n0_ : Aside0 (Kd.R (Kd.int .u64) 57 w44 w.heap.size (fun k_ => (w.heap.size ≤ k_)) v448 y447) := ⟨h0_⟩
             have n1_ : Aside0 (w44.heap[gb439]? = some (.cells #[.slice A0_0 l0_0.length c0_0, .slice A0_1 l0_1.length c0_1] 24 (0, 0))) := ⟨h1_⟩
             have n2_ : Aside0 (w44.heap[gb440]? = some (.cells #[.slice none 0 0, .slice none 0 0] 28 (0, 0))) := ⟨h2_⟩
             have n3_ : Aside0 (w44.heap[gb441]? = some (.cells #[.slice none 0 0, .slice none 0 0] 40 (0, 0))) := ⟨h3_⟩
             have n4_ : Aside0 (w44.heap[gb463]? = some (.cells #[.slice none 0 0, .slice none 0 0] 28 (0, 0))) := ⟨h4_⟩
             have n5_ : Aside0 (w.heap.size ≤ gb463) := ⟨h5_⟩
             have n6_ : Aside0 (w.heap.size ≤ gb463) := ⟨h6_⟩
             have n7_ : Aside0 (gb439 ≠ gb463) := ⟨h7_⟩
             have n8_ : Aside0 (gb463 ≠ gb439) := ⟨h8_⟩
             have n9_ : Aside0 (gb440 ≠ gb463) := ⟨h9_⟩
             have n10_ : Aside0 (gb463 ≠ gb440) := ⟨h10_⟩
             have n11_ : Aside0 (gb441 ≠ gb463) := ⟨h11_⟩
             have n12_ : Aside0 (gb463 ≠ gb441) := ⟨h12_⟩
             have n13_ : Aside0 (Below w.heap.size w w44) := ⟨h13_⟩
             clear BK439 BK440 BK441 HB h0_ h1_ h2_ h3_ h4_ h5_ h6_ h7_ h8_ h9_ h10_ h11_ h12_ h13_
             have HO449 := n0_
             have BK439 := n1_
             have BK440 := n2_
             have BK441 := n3_
             have BK463 := n4_
             have GW463 := n5_
             have GE463 := n6_
             have NB439_463 := n7_
             have NB463_439 := n8_
             have NB440_463 := n9_
             have NB463_440 := n10_
             have NB441_463 := n11_
             have NB463_441 := n12_
             have HB := n13_
             clear n0_ n1_ n2_ n3_ n4_ n5_ n6_ n7_ n8_ n9_ n10_ n11_ n12_ n13_
             have hHeld : w44.cell? ⟨gb439, 0, none⟩ = some (.slice A0_0 l0_0.length c0_0) ∧ w44.cell? ⟨gb439, 1, none⟩ = some (.slice A0_1 l0_1.length c0_1) := hS_
             refine norm_ (a' := ?_) ?_ ?_
             rotate_left
             ·
              simp only [putAll, Act.put, zs1, zs2, zs3]
              rfl
             refine one_ (i := 4) (N := some 42) #[true, true, true, true, true, true, true, false, false, false, false, false, true, false, false] rfl rfl (zb4 HT_.out (by kernel_rfl)) (by decide) (fun K hK => ?_)
             refine Kd.zcw (Kd.int .u64) _ 57 ?hg (N := 42) ?hd (xs := ([] : List Int)) (inner := []) (ok := fun _ => True) (okp := fun _ => True) ?hr ?hp (fun _ hk => hk) trivial (Below.refl _ _) (Nat.le_refl _) (by simp) ?_; (case hd => rfl); (case hg => rfl); (case hr => first | (go_simp; done) | (go_simp; rfl)); (case hp => exact (Reps.none _ _))
             intro v451 w45 ho46 hb hg_ hnew_
             clear hg_ hnew_
             (first | rw [← Ny450.out] at ho46 | (simp only [Int.reduceToNat] at ho46; rw [← Ny450.out] at ho46))
             have n0_ := zA (Kd.zbj (zR HO449) (Kd.zbi ho46) hb)
             have n1_ := zA (Kd.zbr (Kd.zb5 (Kd.zcv (M := fun k_ => (w.heap.size ≤ k_)) ho46 (za (zB HB)) (fun k_ h_ => h_)) (Kd.R_lt (zR HO449))) (za (zB HB)))
             have n2_ := zA (zac (g := gb439) (o := .cells #[.slice A0_0 l0_0.length c0_0, .slice A0_1 l0_1.length c0_1] 24 (0, 0)) (zK BK439) hb)
             have n3_ := zA (zac (g := gb440) (o := .cells #[.slice none 0 0, .slice none 0 0] 28 (0, 0)) (zK BK440) hb)
             have n4_ := zA (zac (g := gb441) (o := .cells #[.slice none 0 0, .slice none 0 0] 40 (0, 0)) (zK BK441) hb)
             have n5_ := zA (zac (g := gb463) (o := .cells #[.slice none 0 0, .slice none 0 0] 28 (0, 0)) (zK BK463) hb)
             have n6_ := zA (zaa (zB HB) hb)
             clear HO449 BK439 BK440 BK441 BK463 HB
             have HO449 := n0_
             have HO452 := n1_
             have BK439 := n2_
             have BK440 := n3_
             have BK441 := n4_
             have BK463 := n5_
             have HB := n6_
             clear n0_ n1_ n2_ n3_ n4_ n5_ n6_ hb ho46
             refine hK.out _ _ ⟨(zab BK439.out 0).trans rfl, (zab BK439.out 1).trans rfl⟩ (fun hHeld => ?_)
             clear hK K
             refine norm_ (a' := ?_) ?_ ?_
             rotate_left
             ·
              show Act.put _ (some 42) _ = _
              simp only [Act.put, zs1, zs2, zs3, i64_w, i32_w]
              rfl
             exact norm_ (zP) (hJ0_3_4_12 (v445, v448, v451, gb463) _ ⟨hHeld, (zR HO449), (by (with_reducible repeat (first | apply Kd.zbz | apply Kd.zb0 | apply Kd.zca)); exact Kd.zbl HO452.out (fun _ hk => ⟨hk.1.1, hk.2⟩)), (zK BK439), (zK BK440), (zK BK441), (zK BK463), GW463.out, GE463.out, NB439_463.out, NB463_439.out, NB440_463.out, NB463_440.out, NB441_463.out, NB463_441.out, (zB HB)⟩)
           ·
            skip
            rintro ⟨v445, v448, v451⟩ w45 ⟨hS_, h0_, h1_, h2_, h3_, h4_, h5_⟩
            have n0_ : Aside0 (Kd.R (Kd.int .u64) 57 w45 w.heap.size (fun k_ => (w.heap.size ≤ k_) ∧ some k_ ≠ (v451 : Value).ownBlock) v448 y447) := ⟨h0_⟩
            have n1_ : Aside0 (Kd.R (Kd.int .u64) 57 w45 w.heap.size (fun k_ => (w.heap.size ≤ k_) ∧ some k_ ≠ (v448 : Value).ownBlock) v451 y450) := ⟨h1_⟩
            have n2_ : Aside0 (w45.heap[gb439]? = some (.cells #[.slice A0_0 l0_0.length c0_0, .slice A0_1 l0_1.length c0_1] 24 (0, 0))) := ⟨h2_⟩
            have n3_ : Aside0 (w45.heap[gb440]? = some (.cells #[.slice none 0 0, .slice none 0 0] 28 (0, 0))) := ⟨h3_⟩
            have n4_ : Aside0 (w45.heap[gb441]? = some (.cells #[.slice none 0 0, .slice none 0 0] 40 (0, 0))) := ⟨h4_⟩
            have n5_ : Aside0 (Below w.heap.size w w45) := ⟨h5_⟩
            clear BK439 BK440 BK441 HB h0_ h1_ h2_ h3_ h4_ h5_
            have HO449 := n0_
            have HO452 := n1_
            have BK439 := n2_
            have BK440 := n3_
            have BK441 := n4_
            have HB := n5_
            clear n0_ n1_ n2_ n3_ n4_ n5_
            have hHeld : w45.cell? ⟨gb439, 0, none⟩ = some (.slice A0_0 l0_0.length c0_0) ∧ w45.cell? ⟨gb439, 1, none⟩ = some (.slice A0_1 l0_1.length c0_1) := hS_
            refine norm_ (a' := ?_) ?_ ?_
            rotate_left
            ·
             simp only [putAll, Act.put, zs1, zs2, zs3]
             rfl
            refine two_ (i := 7) (j := 12) (Ni := some 45) (Nj := some 5) #[true, true, true, true, true, true, true, true, false, false, false, false, false, false, false] #[true, true, true, true, true, true, true, false, false, false, false, false, true, false, false] rfl rfl rfl rfl (two_of HT_.out (by kernel_rfl)) (by decide) (by decide) (fun K hK => ?_) (fun K hK => ?_)
            ·
             skip
             refine zce (Kd.int .u64) (w0 := w) w.heap.size (by rfl) (.tmp 42) (.tmp 44) 26 22 57 (.int .u64 0) 8 rfl Tryd.underlying26 Tryd.underlying22 info57 rfl (by decide) (by omega) v451 y450 l0_1 _ _ _ (fun k_ => (w.heap.size ≤ k_) ∧ some k_ ≠ (v448 : Value).ownBlock) (fun _ => False) rfl rfl ?aO ?aR (fun _ _ h => h) (fun _ h => h.elim) ?aF ?aB ?aS ?aL ?_
             (case aR => exact zJ (Kd.za3 HR0_1.out HB.out))
             (case aB => exact (zB HB))
             (case aF => exact (fun k_ hk => ⟨(Nat.le_trans (za (zB HB)) hk), Kd.fresh' (Kd.R_lt (zR HO449)) k_ hk⟩))
             (case aO => exact (zR HO452))
             (case aS => exact (za (zB HB)))
             (case aL => have := LMc34.out; omega)
             intro v454 w46 ho hb hg hat
             rw [← Ny453.out] at ho
             have n0_ := zA (zcb (g := gb439) (o := .cells #[.slice A0_0 l0_0.length c0_0, .slice A0_1 l0_1.length c0_1] 24 (0, 0)) (zK BK439) hg (Kd.R_ne HO452.out BK439.out (by decide)))
             have n1_ := zA (zcb (g := gb440) (o := .cells #[.slice none 0 0, .slice none 0 0] 28 (0, 0)) (zK BK440) hg (Kd.R_ne HO452.out BK440.out (by decide)))
             have n2_ := zA (zcb (g := gb441) (o := .cells #[.slice none 0 0, .slice none 0 0] 40 (0, 0)) (zK BK441) hg (Kd.R_ne HO452.out BK441.out (by decide)))
             have n3_ := zA (Kd.R_after (ok := (fun k_ => (w.heap.size ≤ k_))) (zR HO449) hg hat)
             have n4_ := zA (hb)
             have n5_ := zA (ho)
             clear BK439 BK440 BK441 HO449 HB HO452
             have BK439 := n0_
             have BK440 := n1_
             have BK441 := n2_
             have HO449 := n3_
             have HB := n4_
             have HO455 := n5_
             clear n0_ n1_ n2_ n3_ n4_ n5_ ho hb hg hat
             refine hK.out _ _ ⟨(zab BK439.out 0).trans rfl, (zab BK439.out 1).trans rfl⟩ (fun hHeld => ?_)
             clear hK K
             refine norm_ (a' := ?_) ?_ ?_
             rotate_left
             ·
              show Act.put _ (some 45) _ = _
              simp only [Act.put, zs1, zs2, zs3, i64_w, i32_w]
              rfl
             exact norm_ (zP) (hJ0_3_4_7 (v445, v448, v451, v454) _ ⟨hHeld, (zR HO449), (zR HO455), (zK BK439), (zK BK440), (zK BK441), (zB HB)⟩)
            ·
             skip
             refine zc0 ?hg (N := 5) ?hd (cs := #[.slice none 0 0, .slice none 0 0]) (t := 28) ?hr ?_; (case hd => rfl); (case hg => rfl); (case hr => first | (go_simp; done) | (go_simp; rfl))
             intro gb463 hg w46 hbox hb
             have n0_ := zA (Kd.zbs (zR HO449) hb)
             have n1_ := zA (Kd.zbs (zR HO452) hb)
             have n2_ := zA (zac (g := gb439) (o := .cells #[.slice A0_0 l0_0.length c0_0, .slice A0_1 l0_1.length c0_1] 24 (0, 0)) (zK BK439) hb)
             have n3_ := zA (zac (g := gb440) (o := .cells #[.slice none 0 0, .slice none 0 0] 28 (0, 0)) (zK BK440) hb)
             have n4_ := zA (zac (g := gb441) (o := .cells #[.slice none 0 0, .slice none 0 0] 40 (0, 0)) (zK BK441) hb)
             have n5_ := zA (zaa (zB HB) hb)
             have n6_ := zA (hbox)
             have n7_ := zA ((by rw [hg]; exact (za (zB HB)) : w.heap.size ≤ gb463))
             have n8_ := zA ((by rw [hg]; exact (za (zB HB)) : w.heap.size ≤ gb463))
             have n9_ := zA ((by rw [hg]; exact Nat.ne_of_lt (zay (g := gb439) (o := .cells #[.slice A0_0 l0_0.length c0_0, .slice A0_1 l0_1.length c0_1] 24 (0, 0)) (zK BK439)) : gb439 ≠ gb463))
             have n10_ := zA ((by rw [hg]; exact Nat.ne_of_gt (zay (g := gb439) (o := .cells #[.slice A0_0 l0_0.length c0_0, .slice A0_1 l0_1.length c0_1] 24 (0, 0)) (zK BK439)) : gb463 ≠ gb439))
             have n11_ := zA ((by rw [hg]; exact Nat.ne_of_lt (zay (g := gb440) (o := .cells #[.slice none 0 0, .slice none 0 0] 28 (0, 0)) (zK BK440)) : gb440 ≠ gb463))
             have n12_ := zA ((by rw [hg]; exact Nat.ne_of_gt (zay (g := gb440) (o := .cells #[.slice none 0 0, .slice none 0 0] 28 (0, 0)) (zK BK440)) : gb463 ≠ gb440))
             have n13_ := zA ((by rw [hg]; exact Nat.ne_of_lt (zay (g := gb441) (o := .cells #[.slice none 0 0, .slice none 0 0] 40 (0, 0)) (zK BK441)) : gb441 ≠ gb463))
             have n14_ := zA ((by rw [hg]; exact Nat.ne_of_gt (zay (g := gb441) (o := .cells #[.slice none 0 0, .slice none 0 0] 40 (0, 0)) (zK BK441)) : gb463 ≠ gb441))
             clear HO449 HO452 BK439 BK440 BK441 HB
             have HO449 := n0_
             have HO452 := n1_
             have BK439 := n2_
             have BK440 := n3_
             have BK441 := n4_
             have HB := n5_
             have BK463 := n6_
             have GW463 := n7_
             have GE463 := n8_
             have NB439_463 := n9_
             have NB463_439 := n10_
             have NB440_463 := n11_
             have NB463_440 := n12_
             have NB441_463 := n13_
             have NB463_441 := n14_
             clear n0_ n1_ n2_ n3_ n4_ n5_ n6_ n7_ n8_ n9_ n10_ n11_ n12_ n13_ n14_ hb hbox hg
             refine hK.out _ _ ⟨(zab BK439.out 0).trans rfl, (zab BK439.out 1).trans rfl⟩ (fun hHeld => ?_)
             clear hK K
             refine norm_ (a' := ?_) ?_ ?_
             rotate_left
             ·
              show Act.put _ (some 5) _ = _
              simp only [Act.put, zs1, zs2, zs3, i64_w, i32_w]
              rfl
             exact norm_ (zP) (hJ0_3_4_12 (v445, v448, v451, gb463) _ ⟨hHeld, (zR HO449), (zR HO452), (zK BK439), (zK BK440), (zK BK441), (zK BK463), GW463.out, GE463.out, NB439_463.out, NB463_439.out, NB440_463.out, NB463_440.out, NB441_463.out, NB463_441.out, (zB HB)⟩)
          ·
           skip
           rintro ⟨v445, v448, v451, gb463⟩ w46 ⟨hS_, h0_, h1_, h2_, h3_, h4_, h5_, h6_, h7_, h8_, h9_, h10_, h11_, h12_, h13_, h14_⟩
           have n0_ : Aside0 (Kd.R (Kd.int .u64) 57 w46 w.heap.size (fun k_ => (w.heap.size ≤ k_) ∧ some k_ ≠ (v451 : Value).ownBlock) v448 y447) := ⟨h0_⟩
           have n1_ : Aside0 (Kd.R (Kd.int .u64) 57 w46 w.heap.size (fun k_ => (w.heap.size ≤ k_) ∧ some k_ ≠ (v448 : Value).ownBlock) v451 y450) := ⟨h1_⟩
           have n2_ : Aside0 (w46.heap[gb439]? = some (.cells #[.slice A0_0 l0_0.length c0_0, .slice A0_1 l0_1.length c0_1] 24 (0, 0))) := ⟨h2_⟩
           have n3_ : Aside0 (w46.heap[gb440]? = some (.cells #[.slice none 0 0, .slice none 0 0] 28 (0, 0))) := ⟨h3_⟩
           have n4_ : Aside0 (w46.heap[gb441]? = some (.cells #[.slice none 0 0, .slice none 0 0] 40 (0, 0))) := ⟨h4_⟩
           have n5_ : Aside0 (w46.heap[gb463]? = some (.cells #[.slice none 0 0, .slice none 0 0] 28 (0, 0))) := ⟨h5_⟩
           have n6_ : Aside0 (w.heap.size ≤ gb463) := ⟨h6_⟩
           have n7_ : Aside0 (w.heap.size ≤ gb463) := ⟨h7_⟩
           have n8_ : Aside0 (gb439 ≠ gb463) := ⟨h8_⟩
           have n9_ : Aside0 (gb463 ≠ gb439) := ⟨h9_⟩
           have n10_ : Aside0 (gb440 ≠ gb463) := ⟨h10_⟩
           have n11_ : Aside0 (gb463 ≠ gb440) := ⟨h11_⟩
           have n12_ : Aside0 (gb441 ≠ gb463) := ⟨h12_⟩
           have n13_ : Aside0 (gb463 ≠ gb441) := ⟨h13_⟩
           have n14_ : Aside0 (Below w.heap.size w w46) := ⟨h14_⟩
           clear BK439 BK440 BK441 HB h0_ h1_ h2_ h3_ h4_ h5_ h6_ h7_ h8_ h9_ h10_ h11_ h12_ h13_ h14_
           have HO449 := n0_
           have HO452 := n1_
           have BK439 := n2_
           have BK440 := n3_
           have BK441 := n4_
           have BK463 := n5_
           have GW463 := n6_
           have GE463 := n7_
           have NB439_463 := n8_
           have NB463_439 := n9_
           have NB440_463 := n10_
           have NB463_440 := n11_
           have NB441_463 := n12_
           have NB463_441 := n13_
           have HB := n14_
           clear n0_ n1_ n2_ n3_ n4_ n5_ n6_ n7_ n8_ n9_ n10_ n11_ n12_ n13_ n14_
           have hHeld : w46.cell? ⟨gb439, 0, none⟩ = some (.slice A0_0 l0_0.length c0_0) ∧ w46.cell? ⟨gb439, 1, none⟩ = some (.slice A0_1 l0_1.length c0_1) := hS_
           refine norm_ (a' := ?_) ?_ ?_
           rotate_left
           ·
            simp only [putAll, Act.put, zs1, zs2, zs3]
            rfl
           refine one_ (i := 7) (N := some 45) #[true, true, true, true, true, true, true, true, false, false, false, false, true, false, false] rfl rfl (zb4 HT_.out (by kernel_rfl)) (by decide) (fun K hK => ?_)
           refine zce (Kd.int .u64) (w0 := w) w.heap.size (by rfl) (.tmp 42) (.tmp 44) 26 22 57 (.int .u64 0) 8 rfl Tryd.underlying26 Tryd.underlying22 info57 rfl (by decide) (by omega) v451 y450 l0_1 _ _ _ (fun k_ => (w.heap.size ≤ k_) ∧ some k_ ≠ (v448 : Value).ownBlock) (fun _ => False) rfl rfl ?aO ?aR (fun _ _ h => h) (fun _ h => h.elim) ?aF ?aB ?aS ?aL ?_
           (case aR => exact zJ (Kd.za3 HR0_1.out HB.out))
           (case aB => exact (zB HB))
           (case aF => exact (fun k_ hk => ⟨(Nat.le_trans (za (zB HB)) hk), Kd.fresh' (Kd.R_lt (zR HO449)) k_ hk⟩))
           (case aO => exact (zR HO452))
           (case aS => exact (za (zB HB)))
           (case aL => have := LMc34.out; omega)
           intro v454 w47 ho hb hg hat
           rw [← Ny453.out] at ho
           have n0_ := zA (zcb (g := gb439) (o := .cells #[.slice A0_0 l0_0.length c0_0, .slice A0_1 l0_1.length c0_1] 24 (0, 0)) (zK BK439) hg (Kd.R_ne HO452.out BK439.out (by decide)))
           have n1_ := zA (zcb (g := gb440) (o := .cells #[.slice none 0 0, .slice none 0 0] 28 (0, 0)) (zK BK440) hg (Kd.R_ne HO452.out BK440.out (by decide)))
           have n2_ := zA (zcb (g := gb441) (o := .cells #[.slice none 0 0, .slice none 0 0] 40 (0, 0)) (zK BK441) hg (Kd.R_ne HO452.out BK441.out (by decide)))
           have n3_ := zA (Kd.R_after (ok := (fun k_ => (w.heap.size ≤ k_))) (zR HO449) hg hat)
           have n4_ := zA (zcb (g := gb463) (o := .cells #[.slice none 0 0, .slice none 0 0] 28 (0, 0)) (zK BK463) hg (Kd.R_ne HO452.out BK463.out (by decide)))
           have n5_ := zA (hb)
           have n6_ := zA (ho)
           clear BK439 BK440 BK441 HO449 BK463 HB HO452
           have BK439 := n0_
           have BK440 := n1_
           have BK441 := n2_
           have HO449 := n3_
           have BK463 := n4_
           have HB := n5_
           have HO455 := n6_
           clear n0_ n1_ n2_ n3_ n4_ n5_ n6_ ho hb hg hat
           refine hK.out _ _ ⟨(zab BK439.out 0).trans rfl, (zab BK439.out 1).trans rfl⟩ (fun hHeld => ?_)
           clear hK K
           refine norm_ (a' := ?_) ?_ ?_
           rotate_left
           ·
            show Act.put _ (some 45) _ = _
            simp only [Act.put, zs1, zs2, zs3, i64_w, i32_w]
            rfl
           exact norm_ (zP) (hJ0_3_4_7_12 (v445, v448, v451, v454, gb463) _ ⟨hHeld, (zR HO449), (zR HO455), (zK BK439), (zK BK440), (zK BK441), (zK BK463), GW463.out, GE463.out, NB439_463.out, NB463_439.out, NB440_463.out, NB463_440.out, NB441_463.out, NB463_441.out, (zB HB)⟩)
         ·
          skip
          rintro ⟨v445, v448, v451, v454⟩ w46 ⟨hS_, h0_, h1_, h2_, h3_, h4_, h5_⟩
          have n0_ : Aside0 (Kd.R (Kd.int .u64) 57 w46 w.heap.size (fun k_ => (w.heap.size ≤ k_) ∧ some k_ ≠ (v454 : Value).ownBlock) v448 y447) := ⟨h0_⟩
          have n1_ : Aside0 (Kd.R (Kd.int .u64) 57 w46 w.heap.size (fun k_ => (w.heap.size ≤ k_) ∧ some k_ ≠ (v448 : Value).ownBlock) v454 y453) := ⟨h1_⟩
          have n2_ : Aside0 (w46.heap[gb439]? = some (.cells #[.slice A0_0 l0_0.length c0_0, .slice A0_1 l0_1.length c0_1] 24 (0, 0))) := ⟨h2_⟩
          have n3_ : Aside0 (w46.heap[gb440]? = some (.cells #[.slice none 0 0, .slice none 0 0] 28 (0, 0))) := ⟨h3_⟩
          have n4_ : Aside0 (w46.heap[gb441]? = some (.cells #[.slice none 0 0, .slice none 0 0] 40 (0, 0))) := ⟨h4_⟩
          have n5_ : Aside0 (Below w.heap.size w w46) := ⟨h5_⟩
          clear BK439 BK440 BK441 HB h0_ h1_ h2_ h3_ h4_ h5_
          have HO449 := n0_
          have HO455 := n1_
          have BK439 := n2_
          have BK440 := n3_
          have BK441 := n4_
          have HB := n5_
          clear n0_ n1_ n2_ n3_ n4_ n5_
          have hHeld : w46.cell? ⟨gb439, 0, none⟩ = some (.slice A0_0 l0_0.length c0_0) ∧ w46.cell? ⟨gb439, 1, none⟩ = some (.slice A0_1 l0_1.length c0_1) := hS_
          obtain ⟨Ao47, co47, eo47⟩ := Kd.zbn HO449.out
          (first | subst eo47 | (injection eo47 with f1_ f2_ f3_; have f4_ := f1_.symm; have f5_ := f3_.symm; clear f1_ f2_ f3_; subst f4_; subst f5_))
          obtain ⟨Ao48, co48, eo48⟩ := Kd.zbn HO455.out
          (first | subst eo48 | (injection eo48 with f1_ f2_ f3_; have f4_ := f1_.symm; have f5_ := f3_.symm; clear f1_ f2_ f3_; subst f4_; subst f5_))
          refine norm_ (a' := ?_) ?_ ?_
          rotate_left
          ·
           simp only [putAll, Act.put, zs1, zs2, zs3]
           rfl
          refine two_ (i := 8) (j := 12) (Ni := some 46) (Nj := some 5) #[true, true, true, true, true, true, true, true, true, false, false, false, false, false, false] #[true, true, true, true, true, true, true, true, false, false, false, false, true, false, false] rfl rfl rfl rfl (two_of HT_.out (by kernel_rfl)) (by decide) (by decide) (fun K hK => ?_) (fun K hK => ?_)
          ·
           skip
           refine goes_ Tryd.func24 (by kernel_rfl) rfl #[.slice Ao47 y447.length co47, .slice Ao48 y453.length co48] (by rfl) rfl rfl (zE) ?_
           with_reducible refine (zb8.calls kj1 _ _ y447 _ _ y453 t456 t459 t462 _ ?side1 ?side2 ?side3 ?side4 A35.out).mono ?_
           (case side1 => exact zJ (Kd.za2 HO449.out).2.2)
           (case side2 => exact (Kd.za2 HO449.out).2.1)
           (case side3 => exact zJ (Kd.za2 HO455.out).2.2)
           (case side4 => exact (Kd.za2 HO455.out).2.1)
           rintro e w49 ⟨v457, v460, rfl, ho0, ho1, hb⟩
           refine ⟨_, rfl, ?_⟩
           have n0_ := zA (Kd.zbs (zR HO449) hb)
           have n1_ := zA (Kd.zbs (zR HO455) hb)
           have n2_ := zA (Kd.za6 (Kd.zan (ok' := fun k_ => (w.heap.size ≤ k_) ∧ some k_ ≠ (.slice Ao47 y447.length co47 : Value).ownBlock ∧ some k_ ≠ (.slice Ao48 y453.length co48 : Value).ownBlock ∧ k_ ≠ gb439 ∧ k_ ≠ gb440 ∧ k_ ≠ gb441) ho0 (fun k_ hk_ => ⟨(Nat.le_trans (za (zB HB)) hk_), (Kd.fresh' (Kd.R_lt (zR HO449)) k_ hk_), (Kd.fresh' (Kd.R_lt (zR HO455)) k_ hk_), (Kd.freshB (g := gb439) (o := .cells #[.slice A0_0 l0_0.length c0_0, .slice A0_1 l0_1.length c0_1] 24 (0, 0)) (zK BK439) k_ hk_), (Kd.freshB (g := gb440) (o := .cells #[.slice none 0 0, .slice none 0 0] 28 (0, 0)) (zK BK440) k_ hk_), (Kd.freshB (g := gb441) (o := .cells #[.slice none 0 0, .slice none 0 0] 40 (0, 0)) (zK BK441) k_ hk_)⟩)) (za (zB HB)))
           have n3_ := zA (Kd.za6 (Kd.zan (ok' := fun k_ => (w.heap.size ≤ k_) ∧ some k_ ≠ (.slice Ao47 y447.length co47 : Value).ownBlock ∧ some k_ ≠ (.slice Ao48 y453.length co48 : Value).ownBlock ∧ k_ ≠ gb439 ∧ k_ ≠ gb440 ∧ k_ ≠ gb441) ho1 (fun k_ hk_ => ⟨(Nat.le_trans (za (zB HB)) hk_), (Kd.fresh' (Kd.R_lt (zR HO449)) k_ hk_), (Kd.fresh' (Kd.R_lt (zR HO455)) k_ hk_), (Kd.freshB (g := gb439) (o := .cells #[.slice A0_0 l0_0.length c0_0, .slice A0_1 l0_1.length c0_1] 24 (0, 0)) (zK BK439) k_ hk_), (Kd.freshB (g := gb440) (o := .cells #[.slice none 0 0, .slice none 0 0] 28 (0, 0)) (zK BK440) k_ hk_), (Kd.freshB (g := gb441) (o := .cells #[.slice none 0 0, .slice none 0 0] 40 (0, 0)) (zK BK441) k_ hk_)⟩)) (za (zB HB)))
           have n4_ := zA (zac (g := gb439) (o := .cells #[.slice A0_0 l0_0.length c0_0, .slice A0_1 l0_1.length c0_1] 24 (0, 0)) (zK BK439) hb)
           have n5_ := zA (zac (g := gb440) (o := .cells #[.slice none 0 0, .slice none 0 0] 28 (0, 0)) (zK BK440) hb)
           have n6_ := zA (zac (g := gb441) (o := .cells #[.slice none 0 0, .slice none 0 0] 40 (0, 0)) (zK BK441) hb)
           have n7_ := zA (zaa (zB HB) hb)
           clear HO449 HO455 BK439 BK440 BK441 HB
           have HO449 := n0_
           have HO455 := n1_
           have HO458 := n2_
           have HO461 := n3_
           have BK439 := n4_
           have BK440 := n5_
           have BK441 := n6_
           have HB := n7_
           clear n0_ n1_ n2_ n3_ n4_ n5_ n6_ n7_
           (try clear hb)
           (try clear hb2)
           (try clear hk)
           (try clear hi)
           (try clear ho0)
           (try clear ho1)
           refine hK.out _ _ ⟨(zab BK439.out 0).trans rfl, (zab BK439.out 1).trans rfl⟩ (fun hHeld => ?_)
           clear hK K
           refine norm_ (a' := ?_) ?_ ?_
           rotate_left
           ·
            show Act.put _ (some 46) _ = _
            simp only [Act.put, zs1, zs2, zs3, i64_w, i32_w]
            rfl
           refine pure_ (i := 9) (N := some 37) (v := ?_) (a' := ?_) #[true, true, true, true, true, true, true, true, true, true, false, false, false, false, false] rfl rfl (za0 HT_.out (by kernel_rfl)) (fun _ _ _ h => h) (Or.inl ⟨by rfl, ?_⟩) ?_ ?_
           rotate_left
           ·
            intro w'
            go_simp
            with_reducible rfl
           rotate_left
           ·
            simp only [Act.put, zs1, zs2, zs3, i64_w, i32_w]
            rfl
           refine pure_ (i := 10) (N := some 47) (v := ?_) (a' := ?_) #[true, true, true, true, true, true, true, true, true, true, true, false, false, false, false] rfl rfl (za0 HT_.out (by kernel_rfl)) (fun _ _ _ h => h) (Or.inl ⟨by rfl, ?_⟩) ?_ ?_
           rotate_left
           ·
            intro w'
            go_simp
            with_reducible rfl
           rotate_left
           ·
            simp only [Act.put, zs1, zs2, zs3, i64_w, i32_w]
            rfl
           refine pure_ (i := 11) (N := some 48) (v := ?_) (a' := ?_) #[true, true, true, true, true, true, true, true, true, true, true, true, false, false, false] rfl rfl (za0 HT_.out (by kernel_rfl)) (fun _ _ _ h => h) (Or.inl ⟨by rfl, ?_⟩) ?_ ?_
           rotate_left
           ·
            intro w'
            go_simp
            with_reducible rfl
           rotate_left
           ·
            simp only [Act.put, zs1, zs2, zs3, i64_w, i32_w]
            rfl
           exact norm_ (zP) (hJ0_3_4_7_8 (v445, .slice Ao47 y447.length co47, v451, .slice Ao48 y453.length co48, v457, v460) _ ⟨hHeld, (zR HO449), (zR HO455), (zV HO458), (zV HO461), (zK BK439), (zK BK440), (zK BK441), (zB HB)⟩)
          ·
           skip
           refine zc0 ?hg (N := 5) ?hd (cs := #[.slice none 0 0, .slice none 0 0]) (t := 28) ?hr ?_; (case hd => rfl); (case hg => rfl); (case hr => first | (go_simp; done) | (go_simp; rfl))
           intro gb463 hg w47 hbox hb
           have n0_ := zA (Kd.zbs (zR HO449) hb)
           have n1_ := zA (Kd.zbs (zR HO455) hb)
           have n2_ := zA (zac (g := gb439) (o := .cells #[.slice A0_0 l0_0.length c0_0, .slice A0_1 l0_1.length c0_1] 24 (0, 0)) (zK BK439) hb)
           have n3_ := zA (zac (g := gb440) (o := .cells #[.slice none 0 0, .slice none 0 0] 28 (0, 0)) (zK BK440) hb)
           have n4_ := zA (zac (g := gb441) (o := .cells #[.slice none 0 0, .slice none 0 0] 40 (0, 0)) (zK BK441) hb)
           have n5_ := zA (zaa (zB HB) hb)
           have n6_ := zA (hbox)
           have n7_ := zA ((by rw [hg]; exact (za (zB HB)) : w.heap.size ≤ gb463))
           have n8_ := zA ((by rw [hg]; exact (za (zB HB)) : w.heap.size ≤ gb463))
           have n9_ := zA ((by rw [hg]; exact Nat.ne_of_lt (zay (g := gb439) (o := .cells #[.slice A0_0 l0_0.length c0_0, .slice A0_1 l0_1.length c0_1] 24 (0, 0)) (zK BK439)) : gb439 ≠ gb463))
           have n10_ := zA ((by rw [hg]; exact Nat.ne_of_gt (zay (g := gb439) (o := .cells #[.slice A0_0 l0_0.length c0_0, .slice A0_1 l0_1.length c0_1] 24 (0, 0)) (zK BK439)) : gb463 ≠ gb439))
           have n11_ := zA ((by rw [hg]; exact Nat.ne_of_lt (zay (g := gb440) (o := .cells #[.slice none 0 0, .slice none 0 0] 28 (0, 0)) (zK BK440)) : gb440 ≠ gb463))
           have n12_ := zA ((by rw [hg]; exact Nat.ne_of_gt (zay (g := gb440) (o := .cells #[.slice none 0 0, .slice none 0 0] 28 (0, 0)) (zK BK440)) : gb463 ≠ gb440))
           have n13_ := zA ((by rw [hg]; exact Nat.ne_of_lt (zay (g := gb441) (o := .cells #[.slice none 0 0, .slice none 0 0] 40 (0, 0)) (zK BK441)) : gb441 ≠ gb463))
           have n14_ := zA ((by rw [hg]; exact Nat.ne_of_gt (zay (g := gb441) (o := .cells #[.slice none 0 0, .slice none 0 0] 40 (0, 0)) (zK BK441)) : gb463 ≠ gb441))
           clear HO449 HO455 BK439 BK440 BK441 HB
           have HO449 := n0_
           have HO455 := n1_
           have BK439 := n2_
           have BK440 := n3_
           have BK441 := n4_
           have HB := n5_
           have BK463 := n6_
           have GW463 := n7_
           have GE463 := n8_
           have NB439_463 := n9_
           have NB463_439 := n10_
           have NB440_463 := n11_
           have NB463_440 := n12_
           have NB441_463 := n13_
           have NB463_441 := n14_
           clear n0_ n1_ n2_ n3_ n4_ n5_ n6_ n7_ n8_ n9_ n10_ n11_ n12_ n13_ n14_ hb hbox hg
           refine hK.out _ _ ⟨(zab BK439.out 0).trans rfl, (zab BK439.out 1).trans rfl⟩ (fun hHeld => ?_)
           clear hK K
           refine norm_ (a' := ?_) ?_ ?_
           rotate_left
           ·
            show Act.put _ (some 5) _ = _
            simp only [Act.put, zs1, zs2, zs3, i64_w, i32_w]
            rfl
           exact norm_ (zP) (hJ0_3_4_7_12 (v445, (.slice Ao47 y447.length co47 : Value), v451, (.slice Ao48 y453.length co48 : Value), gb463) _ ⟨hHeld, (zR HO449), (zR HO455), (zK BK439), (zK BK440), (zK BK441), (zK BK463), GW463.out, GE463.out, NB439_463.out, NB463_439.out, NB440_463.out, NB463_440.out, NB441_463.out, NB463_441.out, (zB HB)⟩)
        ·
         skip
         rintro ⟨v445, v448, v451, v454, gb463⟩ w47 ⟨hS_, h0_, h1_, h2_, h3_, h4_, h5_, h6_, h7_, h8_, h9_, h10_, h11_, h12_, h13_, h14_⟩
         have n0_ : Aside0 (Kd.R (Kd.int .u64) 57 w47 w.heap.size (fun k_ => (w.heap.size ≤ k_) ∧ some k_ ≠ (v454 : Value).ownBlock) v448 y447) := ⟨h0_⟩
         have n1_ : Aside0 (Kd.R (Kd.int .u64) 57 w47 w.heap.size (fun k_ => (w.heap.size ≤ k_) ∧ some k_ ≠ (v448 : Value).ownBlock) v454 y453) := ⟨h1_⟩
         have n2_ : Aside0 (w47.heap[gb439]? = some (.cells #[.slice A0_0 l0_0.length c0_0, .slice A0_1 l0_1.length c0_1] 24 (0, 0))) := ⟨h2_⟩
         have n3_ : Aside0 (w47.heap[gb440]? = some (.cells #[.slice none 0 0, .slice none 0 0] 28 (0, 0))) := ⟨h3_⟩
         have n4_ : Aside0 (w47.heap[gb441]? = some (.cells #[.slice none 0 0, .slice none 0 0] 40 (0, 0))) := ⟨h4_⟩
         have n5_ : Aside0 (w47.heap[gb463]? = some (.cells #[.slice none 0 0, .slice none 0 0] 28 (0, 0))) := ⟨h5_⟩
         have n6_ : Aside0 (w.heap.size ≤ gb463) := ⟨h6_⟩
         have n7_ : Aside0 (w.heap.size ≤ gb463) := ⟨h7_⟩
         have n8_ : Aside0 (gb439 ≠ gb463) := ⟨h8_⟩
         have n9_ : Aside0 (gb463 ≠ gb439) := ⟨h9_⟩
         have n10_ : Aside0 (gb440 ≠ gb463) := ⟨h10_⟩
         have n11_ : Aside0 (gb463 ≠ gb440) := ⟨h11_⟩
         have n12_ : Aside0 (gb441 ≠ gb463) := ⟨h12_⟩
         have n13_ : Aside0 (gb463 ≠ gb441) := ⟨h13_⟩
         have n14_ : Aside0 (Below w.heap.size w w47) := ⟨h14_⟩
         clear BK439 BK440 BK441 HB h0_ h1_ h2_ h3_ h4_ h5_ h6_ h7_ h8_ h9_ h10_ h11_ h12_ h13_ h14_
         have HO449 := n0_
         have HO455 := n1_
         have BK439 := n2_
         have BK440 := n3_
         have BK441 := n4_
         have BK463 := n5_
         have GW463 := n6_
         have GE463 := n7_
         have NB439_463 := n8_
         have NB463_439 := n9_
         have NB440_463 := n10_
         have NB463_440 := n11_
         have NB441_463 := n12_
         have NB463_441 := n13_
         have HB := n14_
         clear n0_ n1_ n2_ n3_ n4_ n5_ n6_ n7_ n8_ n9_ n10_ n11_ n12_ n13_ n14_
         have hHeld : w47.cell? ⟨gb439, 0, none⟩ = some (.slice A0_0 l0_0.length c0_0) ∧ w47.cell? ⟨gb439, 1, none⟩ = some (.slice A0_1 l0_1.length c0_1) := hS_
         obtain ⟨Ao48, co48, eo48⟩ := Kd.zbn HO449.out
         (first | subst eo48 | (injection eo48 with f1_ f2_ f3_; have f4_ := f1_.symm; have f5_ := f3_.symm; clear f1_ f2_ f3_; subst f4_; subst f5_))
         obtain ⟨Ao49, co49, eo49⟩ := Kd.zbn HO455.out
         (first | subst eo49 | (injection eo49 with f1_ f2_ f3_; have f4_ := f1_.symm; have f5_ := f3_.symm; clear f1_ f2_ f3_; subst f4_; subst f5_))
         refine norm_ (a' := ?_) ?_ ?_
         rotate_left
         ·
          simp only [putAll, Act.put, zs1, zs2, zs3]
          rfl
         refine one_ (i := 8) (N := some 46) #[true, true, true, true, true, true, true, true, true, false, false, false, true, false, false] rfl rfl (zb4 HT_.out (by kernel_rfl)) (by decide) (fun K hK => ?_)
         refine goes_ Tryd.func24 (by kernel_rfl) rfl #[.slice Ao48 y447.length co48, .slice Ao49 y453.length co49] (by rfl) rfl rfl (zE) ?_
         with_reducible refine (zb8.calls kj1 _ _ y447 _ _ y453 t456 t459 t462 _ ?side1 ?side2 ?side3 ?side4 A35.out).mono ?_
         (case side1 => exact zJ (Kd.za2 HO449.out).2.2)
         (case side2 => exact (Kd.za2 HO449.out).2.1)
         (case side3 => exact zJ (Kd.za2 HO455.out).2.2)
         (case side4 => exact (Kd.za2 HO455.out).2.1)
         rintro e w50 ⟨v457, v460, rfl, ho0, ho1, hb⟩
         refine ⟨_, rfl, ?_⟩
         have n0_ := zA (Kd.zbs (zR HO449) hb)
         have n1_ := zA (Kd.zbs (zR HO455) hb)
         have n2_ := zA (Kd.za6 (Kd.zan (ok' := fun k_ => (w.heap.size ≤ k_) ∧ some k_ ≠ (.slice Ao48 y447.length co48 : Value).ownBlock ∧ some k_ ≠ (.slice Ao49 y453.length co49 : Value).ownBlock ∧ k_ ≠ gb439 ∧ k_ ≠ gb440 ∧ k_ ≠ gb441 ∧ k_ ≠ gb463) ho0 (fun k_ hk_ => ⟨(Nat.le_trans (za (zB HB)) hk_), (Kd.fresh' (Kd.R_lt (zR HO449)) k_ hk_), (Kd.fresh' (Kd.R_lt (zR HO455)) k_ hk_), (Kd.freshB (g := gb439) (o := .cells #[.slice A0_0 l0_0.length c0_0, .slice A0_1 l0_1.length c0_1] 24 (0, 0)) (zK BK439) k_ hk_), (Kd.freshB (g := gb440) (o := .cells #[.slice none 0 0, .slice none 0 0] 28 (0, 0)) (zK BK440) k_ hk_), (Kd.freshB (g := gb441) (o := .cells #[.slice none 0 0, .slice none 0 0] 40 (0, 0)) (zK BK441) k_ hk_), (Kd.freshB (g := gb463) (o := .cells #[.slice none 0 0, .slice none 0 0] 28 (0, 0)) (zK BK463) k_ hk_)⟩)) (za (zB HB)))
         have n3_ := zA (Kd.za6 (Kd.zan (ok' := fun k_ => (w.heap.size ≤ k_) ∧ some k_ ≠ (.slice Ao48 y447.length co48 : Value).ownBlock ∧ some k_ ≠ (.slice Ao49 y453.length co49 : Value).ownBlock ∧ k_ ≠ gb439 ∧ k_ ≠ gb440 ∧ k_ ≠ gb441 ∧ k_ ≠ gb463) ho1 (fun k_ hk_ => ⟨(Nat.le_trans (za (zB HB)) hk_), (Kd.fresh' (Kd.R_lt (zR HO449)) k_ hk_), (Kd.fresh' (Kd.R_lt (zR HO455)) k_ hk_), (Kd.freshB (g := gb439) (o := .cells #[.slice A0_0 l0_0.length c0_0, .slice A0_1 l0_1.length c0_1] 24 (0, 0)) (zK BK439) k_ hk_), (Kd.freshB (g := gb440) (o := .cells #[.slice none 0 0, .slice none 0 0] 28 (0, 0)) (zK BK440) k_ hk_), (Kd.freshB (g := gb441) (o := .cells #[.slice none 0 0, .slice none 0 0] 40 (0, 0)) (zK BK441) k_ hk_), (Kd.freshB (g := gb463) (o := .cells #[.slice none 0 0, .slice none 0 0] 28 (0, 0)) (zK BK463) k_ hk_)⟩)) (za (zB HB)))
         have n4_ := zA (zac (g := gb439) (o := .cells #[.slice A0_0 l0_0.length c0_0, .slice A0_1 l0_1.length c0_1] 24 (0, 0)) (zK BK439) hb)
         have n5_ := zA (zac (g := gb440) (o := .cells #[.slice none 0 0, .slice none 0 0] 28 (0, 0)) (zK BK440) hb)
         have n6_ := zA (zac (g := gb441) (o := .cells #[.slice none 0 0, .slice none 0 0] 40 (0, 0)) (zK BK441) hb)
         have n7_ := zA (zac (g := gb463) (o := .cells #[.slice none 0 0, .slice none 0 0] 28 (0, 0)) (zK BK463) hb)
         have n8_ := zA (zaa (zB HB) hb)
         clear HO449 HO455 BK439 BK440 BK441 BK463 HB
         have HO449 := n0_
         have HO455 := n1_
         have HO458 := n2_
         have HO461 := n3_
         have BK439 := n4_
         have BK440 := n5_
         have BK441 := n6_
         have BK463 := n7_
         have HB := n8_
         clear n0_ n1_ n2_ n3_ n4_ n5_ n6_ n7_ n8_
         (try clear hb)
         (try clear hb2)
         (try clear hk)
         (try clear hi)
         (try clear ho0)
         (try clear ho1)
         refine hK.out _ _ ⟨(zab BK439.out 0).trans rfl, (zab BK439.out 1).trans rfl⟩ (fun hHeld => ?_)
         clear hK K
         refine norm_ (a' := ?_) ?_ ?_
         rotate_left
         ·
          show Act.put _ (some 46) _ = _
          simp only [Act.put, zs1, zs2, zs3, i64_w, i32_w]
          rfl
         refine pure_ (i := 9) (N := some 37) (v := ?_) (a' := ?_) #[true, true, true, true, true, true, true, true, true, true, false, false, true, false, false] rfl rfl (za0 HT_.out (by kernel_rfl)) (fun _ _ _ h => h) (Or.inl ⟨by rfl, ?_⟩) ?_ ?_
         rotate_left
         ·
          intro w'
          go_simp
          with_reducible rfl
         rotate_left
         ·
          simp only [Act.put, zs1, zs2, zs3, i64_w, i32_w]
          rfl
         refine pure_ (i := 10) (N := some 47) (v := ?_) (a' := ?_) #[true, true, true, true, true, true, true, true, true, true, true, false, true, false, false] rfl rfl (za0 HT_.out (by kernel_rfl)) (fun _ _ _ h => h) (Or.inl ⟨by rfl, ?_⟩) ?_ ?_
         rotate_left
         ·
          intro w'
          go_simp
          with_reducible rfl
         rotate_left
         ·
          simp only [Act.put, zs1, zs2, zs3, i64_w, i32_w]
          rfl
         refine pure_ (i := 11) (N := some 48) (v := ?_) (a' := ?_) #[true, true, true, true, true, true, true, true, true, true, true, true, true, false, false] rfl rfl (za0 HT_.out (by kernel_rfl)) (fun _ _ _ h => h) (Or.inl ⟨by rfl, ?_⟩) ?_ ?_
         rotate_left
         ·
          intro w'
          go_simp
          with_reducible rfl
         rotate_left
         ·
          simp only [Act.put, zs1, zs2, zs3, i64_w, i32_w]
          rfl
         exact norm_ (zP) (hJ0_3_4_7_8_12 (v445, .slice Ao48 y447.length co48, v451, .slice Ao49 y453.length co49, v457, v460, gb463) _ ⟨hHeld, (zR HO449), (zR HO455), (zV HO458), (zV HO461), (zK BK439), (zK BK440), (zK BK441), (zK BK463), GW463.out, GE463.out, NB439_463.out, NB463_439.out, NB440_463.out, NB463_440.out, NB441_463.out, NB463_441.out, (zB HB)⟩)
       ·
        skip
        rintro ⟨v445, v448, v451, v454, v457, v460⟩ w49 ⟨hS_, h0_, h1_, h2_, h3_, h4_, h5_, h6_, h7_⟩
        have n0_ : Aside0 (Kd.R (Kd.int .u64) 57 w49 w.heap.size (fun k_ => (w.heap.size ≤ k_) ∧ some k_ ≠ (v454 : Value).ownBlock) v448 y447) := ⟨h0_⟩
        have n1_ : Aside0 (Kd.R (Kd.int .u64) 57 w49 w.heap.size (fun k_ => (w.heap.size ≤ k_) ∧ some k_ ≠ (v448 : Value).ownBlock) v454 y453) := ⟨h1_⟩
        have n2_ : Aside0 (Kd.V (Kd.int .u64) 57 w49 w.heap.size (fun k_ => (w.heap.size ≤ k_) ∧ some k_ ≠ (v448 : Value).ownBlock ∧ some k_ ≠ (v454 : Value).ownBlock ∧ k_ ≠ gb439 ∧ k_ ≠ gb440 ∧ k_ ≠ gb441) v457 t456) := ⟨h2_⟩
        have n3_ : Aside0 (Kd.V (Kd.int .u64) 57 w49 w.heap.size (fun k_ => (w.heap.size ≤ k_) ∧ some k_ ≠ (v448 : Value).ownBlock ∧ some k_ ≠ (v454 : Value).ownBlock ∧ k_ ≠ gb439 ∧ k_ ≠ gb440 ∧ k_ ≠ gb441) v460 t459) := ⟨h3_⟩
        have n4_ : Aside0 (w49.heap[gb439]? = some (.cells #[.slice A0_0 l0_0.length c0_0, .slice A0_1 l0_1.length c0_1] 24 (0, 0))) := ⟨h4_⟩
        have n5_ : Aside0 (w49.heap[gb440]? = some (.cells #[.slice none 0 0, .slice none 0 0] 28 (0, 0))) := ⟨h5_⟩
        have n6_ : Aside0 (w49.heap[gb441]? = some (.cells #[.slice none 0 0, .slice none 0 0] 40 (0, 0))) := ⟨h6_⟩
        have n7_ : Aside0 (Below w.heap.size w w49) := ⟨h7_⟩
        clear BK439 BK440 BK441 HB h0_ h1_ h2_ h3_ h4_ h5_ h6_ h7_
        have HO449 := n0_
        have HO455 := n1_
        have HO458 := n2_
        have HO461 := n3_
        have BK439 := n4_
        have BK440 := n5_
        have BK441 := n6_
        have HB := n7_
        clear n0_ n1_ n2_ n3_ n4_ n5_ n6_ n7_
        have hHeld : w49.cell? ⟨gb439, 0, none⟩ = some (.slice A0_0 l0_0.length c0_0) ∧ w49.cell? ⟨gb439, 1, none⟩ = some (.slice A0_1 l0_1.length c0_1) := hS_
        refine norm_ (a' := ?_) ?_ ?_
        rotate_left
        ·
         simp only [putAll, Act.put, zs1, zs2, zs3]
         rfl
        refine one_ (i := 12) (N := some 5) #[true, true, true, true, true, true, true, true, true, true, true, true, true, false, false] rfl rfl (zb4 HT_.out (by kernel_rfl)) (by decide) (fun K hK => ?_)
        refine zc0 ?hg (N := 5) ?hd (cs := #[.slice none 0 0, .slice none 0 0]) (t := 28) ?hr ?_; (case hd => rfl); (case hg => rfl); (case hr => first | (go_simp; done) | (go_simp; rfl))
        intro gb463 hg w50 hbox hb
        have n0_ := zA (Kd.zbs (zR HO449) hb)
        have n1_ := zA (Kd.zbs (zR HO455) hb)
        have n2_ := zA (Kd.zaw (Kd.zcy (zV HO458) gb463 (Nat.le_of_eq hg.symm)) hb)
        have n3_ := zA (Kd.zaw (Kd.zcy (zV HO461) gb463 (Nat.le_of_eq hg.symm)) hb)
        have n4_ := zA (zac (g := gb439) (o := .cells #[.slice A0_0 l0_0.length c0_0, .slice A0_1 l0_1.length c0_1] 24 (0, 0)) (zK BK439) hb)
        have n5_ := zA (zac (g := gb440) (o := .cells #[.slice none 0 0, .slice none 0 0] 28 (0, 0)) (zK BK440) hb)
        have n6_ := zA (zac (g := gb441) (o := .cells #[.slice none 0 0, .slice none 0 0] 40 (0, 0)) (zK BK441) hb)
        have n7_ := zA (zaa (zB HB) hb)
        have n8_ := zA (hbox)
        have n9_ := zA ((by rw [hg]; exact (za (zB HB)) : w.heap.size ≤ gb463))
        have n10_ := zA ((by rw [hg]; exact (za (zB HB)) : w.heap.size ≤ gb463))
        have n11_ := zA ((by rw [hg]; exact Nat.ne_of_lt (zay (g := gb439) (o := .cells #[.slice A0_0 l0_0.length c0_0, .slice A0_1 l0_1.length c0_1] 24 (0, 0)) (zK BK439)) : gb439 ≠ gb463))
        have n12_ := zA ((by rw [hg]; exact Nat.ne_of_gt (zay (g := gb439) (o := .cells #[.slice A0_0 l0_0.length c0_0, .slice A0_1 l0_1.length c0_1] 24 (0, 0)) (zK BK439)) : gb463 ≠ gb439))
        have n13_ := zA ((by rw [hg]; exact Nat.ne_of_lt (zay (g := gb440) (o := .cells #[.slice none 0 0, .slice none 0 0] 28 (0, 0)) (zK BK440)) : gb440 ≠ gb463))
        have n14_ := zA ((by rw [hg]; exact Nat.ne_of_gt (zay (g := gb440) (o := .cells #[.slice none 0 0, .slice none 0 0] 28 (0, 0)) (zK BK440)) : gb463 ≠ gb440))
        have n15_ := zA ((by rw [hg]; exact Nat.ne_of_lt (zay (g := gb441) (o := .cells #[.slice none 0 0, .slice none 0 0] 40 (0, 0)) (zK BK441)) : gb441 ≠ gb463))
        have n16_ := zA ((by rw [hg]; exact Nat.ne_of_gt (zay (g := gb441) (o := .cells #[.slice none 0 0, .slice none 0 0] 40 (0, 0)) (zK BK441)) : gb463 ≠ gb441))
        clear HO449 HO455 HO458 HO461 BK439 BK440 BK441 HB
        have HO449 := n0_
        have HO455 := n1_
        have HO458 := n2_
        have HO461 := n3_
        have BK439 := n4_
        have BK440 := n5_
        have BK441 := n6_
        have HB := n7_
        have BK463 := n8_
        have GW463 := n9_
        have GE463 := n10_
        have NB439_463 := n11_
        have NB463_439 := n12_
        have NB440_463 := n13_
        have NB463_440 := n14_
        have NB441_463 := n15_
        have NB463_441 := n16_
        clear n0_ n1_ n2_ n3_ n4_ n5_ n6_ n7_ n8_ n9_ n10_ n11_ n12_ n13_ n14_ n15_ n16_ hb hbox hg
        refine hK.out _ _ ⟨(zab BK439.out 0).trans rfl, (zab BK439.out 1).trans rfl⟩ (fun hHeld => ?_)
        clear hK K
        refine norm_ (a' := ?_) ?_ ?_
        rotate_left
        ·
         show Act.put _ (some 5) _ = _
         simp only [Act.put, zs1, zs2, zs3, i64_w, i32_w]
         rfl
        exact norm_ (zP) (hJ0_3_4_7_8_12 (v445, v448, v451, v454, v457, v460, gb463) _ ⟨hHeld, (zR HO449), (zR HO455), (by (with_reducible repeat (first | apply Kd.zbv | apply Kd.zbw | apply Kd.zb3)); exact Kd.zan HO458.out (fun _ hk => ⟨hk.1.1, ⟨hk.1.2.1, ⟨hk.1.2.2.1, ⟨hk.1.2.2.2.1, ⟨hk.1.2.2.2.2.1, ⟨hk.1.2.2.2.2.2, hk.2⟩⟩⟩⟩⟩⟩)), (by (with_reducible repeat (first | apply Kd.zbv | apply Kd.zbw | apply Kd.zb3)); exact Kd.zan HO461.out (fun _ hk => ⟨hk.1.1, ⟨hk.1.2.1, ⟨hk.1.2.2.1, ⟨hk.1.2.2.2.1, ⟨hk.1.2.2.2.2.1, ⟨hk.1.2.2.2.2.2, hk.2⟩⟩⟩⟩⟩⟩)), (zK BK439), (zK BK440), (zK BK441), (zK BK463), GW463.out, GE463.out, NB439_463.out, NB463_439.out, NB440_463.out, NB463_440.out, NB441_463.out, NB463_441.out, (zB HB)⟩)
      rintro ⟨v445, v448, v451, v454, v457, v460, gb463⟩ w50 ⟨hS_, h0_, h1_, h2_, h3_, h4_, h5_, h6_, h7_, h8_, h9_, h10_, h11_, h12_, h13_, h14_, h15_, h16_⟩
      have n0_ : Aside0 (Kd.R (Kd.int .u64) 57 w50 w.heap.size (fun k_ => (w.heap.size ≤ k_) ∧ some k_ ≠ (v454 : Value).ownBlock) v448 y447) := ⟨h0_⟩
      have n1_ : Aside0 (Kd.R (Kd.int .u64) 57 w50 w.heap.size (fun k_ => (w.heap.size ≤ k_) ∧ some k_ ≠ (v448 : Value).ownBlock) v454 y453) := ⟨h1_⟩
      have n2_ : Aside0 (Kd.V (Kd.int .u64) 57 w50 w.heap.size (fun k_ => (w.heap.size ≤ k_) ∧ some k_ ≠ (v448 : Value).ownBlock ∧ some k_ ≠ (v454 : Value).ownBlock ∧ k_ ≠ gb439 ∧ k_ ≠ gb440 ∧ k_ ≠ gb441 ∧ k_ ≠ gb463) v457 t456) := ⟨h2_⟩
      have n3_ : Aside0 (Kd.V (Kd.int .u64) 57 w50 w.heap.size (fun k_ => (w.heap.size ≤ k_) ∧ some k_ ≠ (v448 : Value).ownBlock ∧ some k_ ≠ (v454 : Value).ownBlock ∧ k_ ≠ gb439 ∧ k_ ≠ gb440 ∧ k_ ≠ gb441 ∧ k_ ≠ gb463) v460 t459) := ⟨h3_⟩
      have n4_ : Aside0 (w50.heap[gb439]? = some (.cells #[.slice A0_0 l0_0.length c0_0, .slice A0_1 l0_1.length c0_1] 24 (0, 0))) := ⟨h4_⟩
      have n5_ : Aside0 (w50.heap[gb440]? = some (.cells #[.slice none 0 0, .slice none 0 0] 28 (0, 0))) := ⟨h5_⟩
      have n6_ : Aside0 (w50.heap[gb441]? = some (.cells #[.slice none 0 0, .slice none 0 0] 40 (0, 0))) := ⟨h6_⟩
      have n7_ : Aside0 (w50.heap[gb463]? = some (.cells #[.slice none 0 0, .slice none 0 0] 28 (0, 0))) := ⟨h7_⟩
      have n8_ : Aside0 (w.heap.size ≤ gb463) := ⟨h8_⟩
      have n9_ : Aside0 (w.heap.size ≤ gb463) := ⟨h9_⟩
      have n10_ : Aside0 (gb439 ≠ gb463) := ⟨h10_⟩
      have n11_ : Aside0 (gb463 ≠ gb439) := ⟨h11_⟩
      have n12_ : Aside0 (gb440 ≠ gb463) := ⟨h12_⟩
      have n13_ : Aside0 (gb463 ≠ gb440) := ⟨h13_⟩
      have n14_ : Aside0 (gb441 ≠ gb463) := ⟨h14_⟩
      have n15_ : Aside0 (gb463 ≠ gb441) := ⟨h15_⟩
      have n16_ : Aside0 (Below w.heap.size w w50) := ⟨h16_⟩
      clear BK439 BK440 BK441 HB h0_ h1_ h2_ h3_ h4_ h5_ h6_ h7_ h8_ h9_ h10_ h11_ h12_ h13_ h14_ h15_ h16_
      have HO449 := n0_
      have HO455 := n1_
      have HO458 := n2_
      have HO461 := n3_
      have BK439 := n4_
      have BK440 := n5_
      have BK441 := n6_
      have BK463 := n7_
      have GW463 := n8_
      have GE463 := n9_
      have NB439_463 := n10_
      have NB463_439 := n11_
      have NB440_463 := n12_
      have NB463_440 := n13_
      have NB441_463 := n14_
      have NB463_441 := n15_
      have HB := n16_
      clear n0_ n1_ n2_ n3_ n4_ n5_ n6_ n7_ n8_ n9_ n10_ n11_ n12_ n13_ n14_ n15_ n16_
      have hHeld : w50.cell? ⟨gb439, 0, none⟩ = some (.slice A0_0 l0_0.length c0_0) ∧ w50.cell? ⟨gb439, 1, none⟩ = some (.slice A0_1 l0_1.length c0_1) := hS_
      obtain ⟨Ao51, co51, eo51⟩ := Kd.za7 HO458.out
      (first | subst eo51 | (injection eo51 with f1_ f2_ f3_; have f4_ := f1_.symm; have f5_ := f3_.symm; clear f1_ f2_ f3_; subst f4_; subst f5_))
      obtain ⟨Ao53, co53, eo53⟩ := Kd.za7 HO461.out
      (first | subst eo53 | (injection eo53 with f1_ f2_ f3_; have f4_ := f1_.symm; have f5_ := f3_.symm; clear f1_ f2_ f3_; subst f4_; subst f5_))
      refine norm_ (a' := ?_) ?_ ?_
      rotate_left
      ·
       simp only [putAll, Act.put, zs1, zs2, zs3]
       rfl
      refine one_ (i := 13) (N := none) #[true, true, true, true, true, true, true, true, true, true, true, true, true, true, false] rfl rfl (zb4 HT_.out (by kernel_rfl)) (by decide) (fun K hK => ?_)
      have hs52 : w50.cell? ⟨gb463, 0, none⟩ = some (.slice none 0 0) := (zab BK463.out 0).trans rfl
      have hfs52 := zal BK463.out 0
      have hns52_0 := NB439_463.out
      have hns52_1 := NB440_463.out
      have hns52_2 := NB441_463.out
      have hms52_0 := NB463_439.out
      have hms52_1 := NB463_440.out
      have hms52_2 := NB463_441.out
      have hs54 : w50.cell? ⟨gb463, 1, none⟩ = some (.slice none 0 0) := (zab BK463.out 1).trans rfl
      have hfs54 := zal BK463.out 1
      have hns54_0 := NB439_463.out
      have hns54_1 := NB440_463.out
      have hns54_2 := NB441_463.out
      have hms54_0 := NB463_439.out
      have hms54_1 := NB463_440.out
      have hms54_2 := NB463_441.out
      refine skip_ (w1 := ?_) (by rfl) rfl ?_ ?_
      rotate_left
      ·
       go_simp
       rfl
      refine hK.out _ _ ⟨((cell_far (p := ⟨gb463, _, none⟩) NB439_463.out _).trans (((cell_far (p := ⟨gb463, _, none⟩) NB439_463.out _).trans (hHeld.1)))), ((cell_far (p := ⟨gb463, _, none⟩) NB439_463.out _).trans (((cell_far (p := ⟨gb463, _, none⟩) NB439_463.out _).trans (hHeld.2))))⟩ (fun hHeld => ?_)
      clear hK K
      refine pure_ (i := 14) (N := some 6) (v := ?_) (a' := ?_) #[true, true, true, true, true, true, true, true, true, true, true, true, true, true, true] rfl rfl (za0 HT_.out (by kernel_rfl)) (fun _ _ _ h => h) (Or.inl ⟨by rfl, ?_⟩) ?_ ?_
      rotate_left
      ·
       intro w'
       go_simp
       with_reducible rfl
      rotate_left
      ·
       simp only [Act.put, zs1, zs2, zs3, i64_w, i32_w]
       rfl
      refine done_ (done_of HT_.out (by kernel_rfl)) ?_
      try go_wp2
      have n0_ : Aside0 (Kd.R (Kd.int .u64) 57 ((w50.setCell ⟨gb463, 0, none⟩ (.slice Ao51 t456.length co51)).setCell ⟨gb463, 1, none⟩ (.slice Ao53 t459.length co53)) w.heap.size (fun k_ => (w.heap.size ≤ k_) ∧ some k_ ≠ (v454 : Value).ownBlock) v448 y447) := ⟨by (with_reducible repeat (first | apply Kd.zbz | apply Kd.zb0 | apply Kd.zca)); exact Kd.zbl (Kd.R_far (p := ⟨gb463, 1, none⟩) (Kd.R_far (p := ⟨gb463, 0, none⟩) (Kd.R_types HO449.out BK463.out (by decide)) (fun _ hk => hk.2) (.slice Ao51 t456.length co51)) (fun _ hk => hk.2) (.slice Ao53 t459.length co53)) (fun _ hk => ⟨hk.1.1, hk.1.2⟩)⟩
      have n1_ : Aside0 (Kd.R (Kd.int .u64) 57 ((w50.setCell ⟨gb463, 0, none⟩ (.slice Ao51 t456.length co51)).setCell ⟨gb463, 1, none⟩ (.slice Ao53 t459.length co53)) w.heap.size (fun k_ => (w.heap.size ≤ k_) ∧ some k_ ≠ (v448 : Value).ownBlock) v454 y453) := ⟨by (with_reducible repeat (first | apply Kd.zbz | apply Kd.zb0 | apply Kd.zca)); exact Kd.zbl (Kd.R_far (p := ⟨gb463, 1, none⟩) (Kd.R_far (p := ⟨gb463, 0, none⟩) (Kd.R_types HO455.out BK463.out (by decide)) (fun _ hk => hk.2) (.slice Ao51 t456.length co51)) (fun _ hk => hk.2) (.slice Ao53 t459.length co53)) (fun _ hk => ⟨hk.1.1, hk.1.2⟩)⟩
      have n2_ : Aside0 (Kd.V (Kd.int .u64) 57 ((w50.setCell ⟨gb463, 0, none⟩ (.slice Ao51 t456.length co51)).setCell ⟨gb463, 1, none⟩ (.slice Ao53 t459.length co53)) w.heap.size (fun k_ => (w.heap.size ≤ k_) ∧ some k_ ≠ (v448 : Value).ownBlock ∧ some k_ ≠ (v454 : Value).ownBlock ∧ k_ ≠ gb439 ∧ k_ ≠ gb440 ∧ k_ ≠ gb441 ∧ k_ ≠ gb463) (.slice Ao51 t456.length co51) t456) := ⟨by (with_reducible repeat (first | apply Kd.zbv | apply Kd.zbw | apply Kd.zb3)); exact Kd.zan (Kd.V_far (p := ⟨gb463, 1, none⟩) (Kd.V_far (p := ⟨gb463, 0, none⟩) (Kd.zan HO458.out (fun k_ hk => (⟨hk, hk.2.2.2.2.2.2⟩ : _ ∧ k_ ≠ gb463))) (fun _ hk => hk.2) (.slice Ao51 t456.length co51)) (fun _ hk => hk.2) (.slice Ao53 t459.length co53)) (fun _ hk => ⟨hk.1.1, ⟨hk.1.2.1, ⟨hk.1.2.2.1, ⟨hk.1.2.2.2.1, ⟨hk.1.2.2.2.2.1, ⟨hk.1.2.2.2.2.2.1, hk.1.2.2.2.2.2.2⟩⟩⟩⟩⟩⟩)⟩
      have n3_ : Aside0 (Kd.V (Kd.int .u64) 57 ((w50.setCell ⟨gb463, 0, none⟩ (.slice Ao51 t456.length co51)).setCell ⟨gb463, 1, none⟩ (.slice Ao53 t459.length co53)) w.heap.size (fun k_ => (w.heap.size ≤ k_) ∧ some k_ ≠ (v448 : Value).ownBlock ∧ some k_ ≠ (v454 : Value).ownBlock ∧ k_ ≠ gb439 ∧ k_ ≠ gb440 ∧ k_ ≠ gb441 ∧ k_ ≠ gb463) (.slice Ao53 t459.length co53) t459) := ⟨by (with_reducible repeat (first | apply Kd.zbv | apply Kd.zbw | apply Kd.zb3)); exact Kd.zan (Kd.V_far (p := ⟨gb463, 1, none⟩) (Kd.V_far (p := ⟨gb463, 0, none⟩) (Kd.zan HO461.out (fun k_ hk => (⟨hk, hk.2.2.2.2.2.2⟩ : _ ∧ k_ ≠ gb463))) (fun _ hk => hk.2) (.slice Ao51 t456.length co51)) (fun _ hk => hk.2) (.slice Ao53 t459.length co53)) (fun _ hk => ⟨hk.1.1, ⟨hk.1.2.1, ⟨hk.1.2.2.1, ⟨hk.1.2.2.2.1, ⟨hk.1.2.2.2.2.1, ⟨hk.1.2.2.2.2.2.1, hk.1.2.2.2.2.2.2⟩⟩⟩⟩⟩⟩)⟩
      have n4_ : Aside0 (((w50.setCell ⟨gb463, 0, none⟩ (.slice Ao51 t456.length co51)).setCell ⟨gb463, 1, none⟩ (.slice Ao53 t459.length co53)).heap[gb439]? = some (.cells #[.slice A0_0 l0_0.length c0_0, .slice A0_1 l0_1.length c0_1] 24 (0, 0))) := ⟨by (with_reducible repeat (first | refine zau ?_ _ | refine zat ?_ | refine zar ?_ _)); refine zdc ?_ NB439_463.out _; (with_reducible repeat (first | refine zau ?_ _ | refine zat ?_ | refine zar ?_ _)); refine zdc ?_ NB439_463.out _; (with_reducible repeat (first | refine zau ?_ _ | refine zat ?_ | refine zar ?_ _)); exact BK439.out⟩
      have n5_ : Aside0 (((w50.setCell ⟨gb463, 0, none⟩ (.slice Ao51 t456.length co51)).setCell ⟨gb463, 1, none⟩ (.slice Ao53 t459.length co53)).heap[gb440]? = some (.cells #[.slice none 0 0, .slice none 0 0] 28 (0, 0))) := ⟨by (with_reducible repeat (first | refine zau ?_ _ | refine zat ?_ | refine zar ?_ _)); refine zdc ?_ NB440_463.out _; (with_reducible repeat (first | refine zau ?_ _ | refine zat ?_ | refine zar ?_ _)); refine zdc ?_ NB440_463.out _; (with_reducible repeat (first | refine zau ?_ _ | refine zat ?_ | refine zar ?_ _)); exact BK440.out⟩
      have n6_ : Aside0 (((w50.setCell ⟨gb463, 0, none⟩ (.slice Ao51 t456.length co51)).setCell ⟨gb463, 1, none⟩ (.slice Ao53 t459.length co53)).heap[gb441]? = some (.cells #[.slice none 0 0, .slice none 0 0] 40 (0, 0))) := ⟨by (with_reducible repeat (first | refine zau ?_ _ | refine zat ?_ | refine zar ?_ _)); refine zdc ?_ NB441_463.out _; (with_reducible repeat (first | refine zau ?_ _ | refine zat ?_ | refine zar ?_ _)); refine zdc ?_ NB441_463.out _; (with_reducible repeat (first | refine zau ?_ _ | refine zat ?_ | refine zar ?_ _)); exact BK441.out⟩
      have n7_ : Aside0 (((w50.setCell ⟨gb463, 0, none⟩ (.slice Ao51 t456.length co51)).setCell ⟨gb463, 1, none⟩ (.slice Ao53 t459.length co53)).heap[gb463]? = some (.cells #[.slice Ao51 t456.length co51, .slice Ao53 t459.length co53] 28 (0, 0))) := ⟨by (with_reducible repeat (first | refine zau ?_ _ | refine zat ?_ | refine zar ?_ _)); refine zb1 (cs := #[.slice Ao51 t456.length co51, .slice none 0 0]) ?_ 1 _ rfl; (with_reducible repeat (first | refine zau ?_ _ | refine zat ?_ | refine zar ?_ _)); refine zb1 (cs := #[.slice none 0 0, .slice none 0 0]) ?_ 0 _ rfl; (with_reducible repeat (first | refine zau ?_ _ | refine zat ?_ | refine zar ?_ _)); exact BK463.out⟩
      have n8_ : Aside0 (Below w.heap.size w ((w50.setCell ⟨gb463, 0, none⟩ (.slice Ao51 t456.length co51)).setCell ⟨gb463, 1, none⟩ (.slice Ao53 t459.length co53))) := ⟨zB HB⟩
      (try clear HO449)
      (try clear HO455)
      (try clear HO458)
      (try clear HO461)
      (try clear BK439)
      (try clear BK440)
      (try clear BK441)
      (try clear BK463)
      (try clear HB)
      generalize ((w50.setCell ⟨gb463, 0, none⟩ (.slice Ao51 t456.length co51)).setCell ⟨gb463, 1, none⟩ (.slice Ao53 t459.length co53)) = w55 at n0_ n1_ n2_ n3_ n4_ n5_ n6_ n7_ n8_ ⊢
      have HO449 := n0_
      have HO455 := n1_
      have HO458 := n2_
      have HO461 := n3_
      have BK439 := n4_
      have BK440 := n5_
      have BK441 := n6_
      have BK463 := n7_
      have HB := n8_
      clear n0_ n1_ n2_ n3_ n4_ n5_ n6_ n7_ n8_
      have n0_ := zA (Kd.zca HO449.out)
      have n1_ := zA (Kd.zca HO455.out)
      have n2_ := zA (Kd.zb3 HO458.out)
      have n3_ := zA (Kd.zb3 HO461.out)
      have n4_ := zA (zat BK439.out)
      have n5_ := zA (zat BK440.out)
      have n6_ := zA (zat BK441.out)
      have n7_ := zA (zat BK463.out)
      have n8_ := zA (zbu HB.out)
      clear HO449 HO455 HO458 HO461 BK439 BK440 BK441 BK463 HB
      have HO449 := n0_
      have HO455 := n1_
      have HO458 := n2_
      have HO461 := n3_
      have BK439 := n4_
      have BK440 := n5_
      have BK441 := n6_
      have BK463 := n7_
      have HB := n8_
      clear n0_ n1_ n2_ n3_ n4_ n5_ n6_ n7_ n8_
      refine start_ (n := 13) (S := fun w' => w'.cell? ⟨gb463, 0, none⟩ = some (.slice Ao51 t456.length co51) ∧ w'.cell? ⟨gb463, 1, none⟩ = some (.slice Ao53 t459.length co53) ∧ w'.cell? ⟨gb439, 0, none⟩ = some (.slice A0_0 l0_0.length c0_0) ∧ w'.cell? ⟨gb439, 1, none⟩ = some (.slice A0_1 l0_1.length c0_1)) (ds := []) #[false, false, false, false, false, false, false, false, false, false, false, false, false] (by kernel_rfl) rfl rfl ⟨(zab BK463.out 0).trans rfl, (zab BK463.out 1).trans rfl, (zab BK439.out 0).trans rfl, (zab BK439.out 1).trans rfl⟩ (fun hHeld => ?_); refine zcq zah.tab4 zah.bits4 (fun HT_ HW_ => ?_)
      generalize w55.drew = w56 at HO449 HO455 HO458 HO461 BK439 BK440 BK441 BK463 HB hHeld ⊢
      refine pure_ (i := 1) (N := some 50) (v := ?_) (a' := ?_) #[false, true, false, false, false, false, false, false, false, false, false, false, false] rfl rfl (za0 HT_.out (by kernel_rfl)) (fun _ _ _ h => h) (Or.inl ⟨by rfl, ?_⟩) ?_ ?_
      rotate_left
      ·
       intro w'
       go_simp
       with_reducible rfl
      rotate_left
      ·
       simp only [Act.put, zs1, zs2, zs3, i64_w, i32_w]
       rfl
      refine pure_ (i := 4) (N := some 53) (v := ?_) (a' := ?_) #[false, true, false, false, true, false, false, false, false, false, false, false, false] rfl rfl (za0 HT_.out (by kernel_rfl)) (fun _ _ _ h => h) (Or.inl ⟨by rfl, ?_⟩) ?_ ?_
      rotate_left
      ·
       intro w'
       go_simp
       with_reducible rfl
      rotate_left
      ·
       simp only [Act.put, zs1, zs2, zs3, i64_w, i32_w]
       rfl
      refine pure_ (i := 8) (N := some 57) (v := ?_) (a' := ?_) #[false, true, false, false, true, false, false, false, true, false, false, false, false] rfl rfl (za0 HT_.out (by kernel_rfl)) (fun _ _ _ h => h) (Or.inl ⟨by rfl, ?_⟩) ?_ ?_
      rotate_left
      ·
       intro w'
       go_simp
       with_reducible rfl
      rotate_left
      ·
       simp only [Act.put, zs1, zs2, zs3, i64_w, i32_w]
       rfl
      refine pure_ (i := 9) (N := some 58) (v := ?_) (a' := ?_) #[false, true, false, false, true, false, false, false, true, true, false, false, false] rfl rfl (za0 HT_.out (by kernel_rfl)) (fun _ _ _ h => h) (Or.inl ⟨by rfl, ?_⟩) ?_ ?_
      rotate_left
      ·
       intro w'
       go_simp
       with_reducible rfl
      rotate_left
      ·
       simp only [Act.put, zs1, zs2, zs3, i64_w, i32_w]
       rfl
      refine take_ (i := 0) (N := some 49) (v := ?_) (a' := ?_) #[true, true, false, false, true, false, false, false, true, true, false, false, false] rfl rfl (zbm HT_.out HW_.out (by kernel_rfl)) (fun _ _ _ h => h) (Or.inl ⟨by rfl, ?_⟩) hHeld ?_ ?_
      rotate_left
      ·
       rintro w' ⟨s0, s1, s2, s3⟩
       go_simp
       with_reducible rfl
      rotate_left
      ·
       simp only [Act.put, zs1, zs2, zs3, i64_w, i32_w]
       rfl
      refine take_ (i := 2) (N := some 51) (v := ?_) (a' := ?_) #[true, true, true, false, true, false, false, false, true, true, false, false, false] rfl rfl (zbm HT_.out HW_.out (by kernel_rfl)) (fun _ _ _ h => h) (Or.inl ⟨by rfl, ?_⟩) hHeld ?_ ?_
      rotate_left
      ·
       rintro w' ⟨s0, s1, s2, s3⟩
       go_simp
       with_reducible rfl
      rotate_left
      ·
       simp only [Act.put, zs1, zs2, zs3, i64_w, i32_w]
       rfl
      refine take_ (i := 5) (N := some 54) (v := ?_) (a' := ?_) #[true, true, true, false, true, true, false, false, true, true, false, false, false] rfl rfl (zbm HT_.out HW_.out (by kernel_rfl)) (fun _ _ _ h => h) (Or.inl ⟨by rfl, ?_⟩) hHeld ?_ ?_
      rotate_left
      ·
       rintro w' ⟨s0, s1, s2, s3⟩
       go_simp
       with_reducible rfl
      rotate_left
      ·
       simp only [Act.put, zs1, zs2, zs3, i64_w, i32_w]
       rfl
      refine one_ (i := 3) (N := some 52) #[true, true, true, true, true, true, false, false, true, true, false, false, false] rfl rfl (zb4 HT_.out (by kernel_rfl)) (by decide) (fun K hK => ?_)
      refine goes_ Tryd.func17 (by kernel_rfl) rfl #[.slice A0_0 l0_0.length c0_0] (by rfl) rfl rfl (zE) ?_
      with_reducible refine (zaf.calls kj1 _ _ l0_0 t464 _ ?side1 ?side2 A36.out).mono ?_
      (case side1 => exact zJ (Kd.za3 HR0_0.out HB.out))
      (case side2 => exact HC0_0.out)
      rintro e w57 ⟨v465, rfl, ho0, hb⟩
      refine ⟨_, rfl, ?_⟩
      have n0_ := zA (Kd.zbs (zR HO449) hb)
      have n1_ := zA (Kd.zbs (zR HO455) hb)
      have n2_ := zA (Kd.V_elder' (zV HO458) (Kd.zbi ho0) hb)
      have n3_ := zA (Kd.V_elder' (zV HO461) (Kd.zbi ho0) hb)
      have n4_ := zA (Kd.zbr (Kd.zcv (M := fun k_ => (w.heap.size ≤ k_)) ho0 (za (zB HB)) (fun k_ h_ => h_)) (za (zB HB)))
      have n5_ := zA (zac (g := gb439) (o := .cells #[.slice A0_0 l0_0.length c0_0, .slice A0_1 l0_1.length c0_1] 24 (0, 0)) (zK BK439) hb)
      have n6_ := zA (zac (g := gb440) (o := .cells #[.slice none 0 0, .slice none 0 0] 28 (0, 0)) (zK BK440) hb)
      have n7_ := zA (zac (g := gb441) (o := .cells #[.slice none 0 0, .slice none 0 0] 40 (0, 0)) (zK BK441) hb)
      have n8_ := zA (zac (g := gb463) (o := .cells #[.slice Ao51 t456.length co51, .slice Ao53 t459.length co53] 28 (0, 0)) (zK BK463) hb)
      have n9_ := zA (zaa (zB HB) hb)
      clear HO449 HO455 HO458 HO461 BK439 BK440 BK441 BK463 HB
      have HO449 := n0_
      have HO455 := n1_
      have HO458 := n2_
      have HO461 := n3_
      have HO466 := n4_
      have BK439 := n5_
      have BK440 := n6_
      have BK441 := n7_
      have BK463 := n8_
      have HB := n9_
      clear n0_ n1_ n2_ n3_ n4_ n5_ n6_ n7_ n8_ n9_
      (try clear hb)
      (try clear hb2)
      (try clear hk)
      (try clear hi)
      (try clear ho0)
      refine hK.out _ _ ⟨(zab BK463.out 0).trans rfl, (zab BK463.out 1).trans rfl, (zab BK439.out 0).trans rfl, (zab BK439.out 1).trans rfl⟩ (fun hHeld => ?_)
      clear hK K
      refine norm_ (a' := ?_) ?_ ?_
      rotate_left
      ·
       show Act.put _ (some 52) _ = _
       simp only [Act.put, zs1, zs2, zs3, i64_w, i32_w]
       rfl
      refine one_ (i := 6) (N := some 55) #[true, true, true, true, true, true, true, false, true, true, false, false, false] rfl rfl (zb4 HT_.out (by kernel_rfl)) (by decide) (fun K hK => ?_)
      refine goes_ Tryd.func17 (by kernel_rfl) rfl #[.slice A0_1 l0_1.length c0_1] (by rfl) rfl rfl (zE) ?_
      with_reducible refine (zaf.calls kj1 _ _ l0_1 t467 _ ?side1 ?side2 A37.out).mono ?_
      (case side1 => exact zJ (Kd.za3 HR0_1.out HB.out))
      (case side2 => exact HC0_1.out)
      rintro e w58 ⟨v468, rfl, ho0, hb⟩
      refine ⟨_, rfl, ?_⟩
      have n0_ := zA (Kd.zbs (zR HO449) hb)
      have n1_ := zA (Kd.zbs (zR HO455) hb)
      have n2_ := zA (Kd.V_elder' (zV HO458) (Kd.zbi ho0) hb)
      have n3_ := zA (Kd.V_elder' (zV HO461) (Kd.zbi ho0) hb)
      have n4_ := zA (Kd.zbj (zR HO466) (Kd.zbi ho0) hb)
      have n5_ := zA (Kd.zbr (Kd.zb5 (Kd.zcv (M := fun k_ => (w.heap.size ≤ k_)) ho0 (za (zB HB)) (fun k_ h_ => h_)) (Kd.R_lt (zR HO466))) (za (zB HB)))
      have n6_ := zA (zac (g := gb439) (o := .cells #[.slice A0_0 l0_0.length c0_0, .slice A0_1 l0_1.length c0_1] 24 (0, 0)) (zK BK439) hb)
      have n7_ := zA (zac (g := gb440) (o := .cells #[.slice none 0 0, .slice none 0 0] 28 (0, 0)) (zK BK440) hb)
      have n8_ := zA (zac (g := gb441) (o := .cells #[.slice none 0 0, .slice none 0 0] 40 (0, 0)) (zK BK441) hb)
      have n9_ := zA (zac (g := gb463) (o := .cells #[.slice Ao51 t456.length co51, .slice Ao53 t459.length co53] 28 (0, 0)) (zK BK463) hb)
      have n10_ := zA (zaa (zB HB) hb)
      clear HO449 HO455 HO458 HO461 HO466 BK439 BK440 BK441 BK463 HB
      have HO449 := n0_
      have HO455 := n1_
      have HO458 := n2_
      have HO461 := n3_
      have HO466 := n4_
      have HO469 := n5_
      have BK439 := n6_
      have BK440 := n7_
      have BK441 := n8_
      have BK463 := n9_
      have HB := n10_
      clear n0_ n1_ n2_ n3_ n4_ n5_ n6_ n7_ n8_ n9_ n10_
      (try clear hb)
      (try clear hb2)
      (try clear hk)
      (try clear hi)
      (try clear ho0)
      obtain ⟨Ao59, co59, eo59⟩ := Kd.zbn HO466.out
      (first | subst eo59 | (injection eo59 with f1_ f2_ f3_; have f4_ := f1_.symm; have f5_ := f3_.symm; clear f1_ f2_ f3_; subst f4_; subst f5_))
      obtain ⟨Ao60, co60, eo60⟩ := Kd.zbn HO469.out
      (first | subst eo60 | (injection eo60 with f1_ f2_ f3_; have f4_ := f1_.symm; have f5_ := f3_.symm; clear f1_ f2_ f3_; subst f4_; subst f5_))
      refine hK.out _ _ ⟨(zab BK463.out 0).trans rfl, (zab BK463.out 1).trans rfl, (zab BK439.out 0).trans rfl, (zab BK439.out 1).trans rfl⟩ (fun hHeld => ?_)
      clear hK K
      refine norm_ (a' := ?_) ?_ ?_
      rotate_left
      ·
       show Act.put _ (some 55) _ = _
       simp only [Act.put, zs1, zs2, zs3, i64_w, i32_w]
       rfl
      refine one_ (i := 7) (N := some 56) #[true, true, true, true, true, true, true, true, true, true, false, false, false] rfl rfl (zb4 HT_.out (by kernel_rfl)) (by decide) (fun K hK => ?_)
      refine goes_ Tryd.func59 (by kernel_rfl) rfl #[.slice Ao59 t464.length co59, .slice Ao60 t467.length co60] (by rfl) rfl rfl (zE) ?_
      with_reducible refine (zcd.calls kj1 _ _ t464 _ _ t467 t470 t473 _ ?side1 ?side2 ?side3 ?side4 A38.out).mono ?_
      (case side1 => exact zJ (Kd.za2 HO466.out).2.2)
      (case side2 => exact (Kd.za2 HO466.out).2.1)
      (case side3 => exact zJ (Kd.za2 HO469.out).2.2)
      (case side4 => exact (Kd.za2 HO469.out).2.1)
      rintro e w61 ⟨v471, v474, rfl, ho0, ho1, hb⟩
      refine ⟨_, rfl, ?_⟩
      have n0_ := zA (Kd.zbs (zR HO449) hb)
      have n1_ := zA (Kd.zbs (zR HO455) hb)
      have n2_ := zA (Kd.zan (Kd.V_told (Kd.V_told (Kd.V_old (zV HO458) hb) (Kd.zbi ho0)) (Kd.zbi ho1)) (fun _ h_ => h_.1))
      have n3_ := zA (Kd.zan (Kd.V_told (Kd.V_told (Kd.V_old (zV HO461) hb) (Kd.zbi ho0)) (Kd.zbi ho1)) (fun _ h_ => h_.1))
      have n4_ := zA (Kd.zbl (Kd.R_told (Kd.R_told (Kd.R_old (zR HO466) hb) (Kd.zbi ho0)) (Kd.zbi ho1)) (fun _ h_ => h_.1))
      have n5_ := zA (Kd.zbl (Kd.R_told (Kd.R_told (Kd.R_old (zR HO469) hb) (Kd.zbi ho0)) (Kd.zbi ho1)) (fun _ h_ => h_.1))
      have n6_ := zA (Kd.zbr (Kd.zb5 (Kd.zb5 (Kd.zcv (M := fun k_ => (w.heap.size ≤ k_)) ho0 (za (zB HB)) (fun k_ h_ => h_)) (Kd.R_lt (zR HO466))) (Kd.R_lt (zR HO469))) (za (zB HB)))
      have n7_ := zA (Kd.zbr (Kd.zb5 (Kd.zb5 (Kd.zcv (M := fun k_ => (w.heap.size ≤ k_)) ho1 (za (zB HB)) (fun k_ h_ => h_)) (Kd.R_lt (zR HO466))) (Kd.R_lt (zR HO469))) (za (zB HB)))
      have n8_ := zA (zac (g := gb439) (o := .cells #[.slice A0_0 l0_0.length c0_0, .slice A0_1 l0_1.length c0_1] 24 (0, 0)) (zK BK439) hb)
      have n9_ := zA (zac (g := gb440) (o := .cells #[.slice none 0 0, .slice none 0 0] 28 (0, 0)) (zK BK440) hb)
      have n10_ := zA (zac (g := gb441) (o := .cells #[.slice none 0 0, .slice none 0 0] 40 (0, 0)) (zK BK441) hb)
      have n11_ := zA (zac (g := gb463) (o := .cells #[.slice Ao51 t456.length co51, .slice Ao53 t459.length co53] 28 (0, 0)) (zK BK463) hb)
      have n12_ := zA (zaa (zB HB) hb)
      clear HO449 HO455 HO458 HO461 HO466 HO469 BK439 BK440 BK441 BK463 HB
      have HO449 := n0_
      have HO455 := n1_
      have HO458 := n2_
      have HO461 := n3_
      have HO466 := n4_
      have HO469 := n5_
      have HO472 := n6_
      have HO475 := n7_
      have BK439 := n8_
      have BK440 := n9_
      have BK441 := n10_
      have BK463 := n11_
      have HB := n12_
      clear n0_ n1_ n2_ n3_ n4_ n5_ n6_ n7_ n8_ n9_ n10_ n11_ n12_
      (try clear hb)
      (try clear hb2)
      (try clear hk)
      (try clear hi)
      (try clear ho0)
      (try clear ho1)
      obtain ⟨Ao64, co64, eo64⟩ := Kd.zbn HO472.out
      (first | subst eo64 | (injection eo64 with f1_ f2_ f3_; have f4_ := f1_.symm; have f5_ := f3_.symm; clear f1_ f2_ f3_; subst f4_; subst f5_))
      obtain ⟨Ao66, co66, eo66⟩ := Kd.zbn HO475.out
      (first | subst eo66 | (injection eo66 with f1_ f2_ f3_; have f4_ := f1_.symm; have f5_ := f3_.symm; clear f1_ f2_ f3_; subst f4_; subst f5_))
      refine hK.out _ _ ⟨(zab BK463.out 0).trans rfl, (zab BK463.out 1).trans rfl, (zab BK439.out 0).trans rfl, (zab BK439.out 1).trans rfl⟩ (fun hHeld => ?_)
      clear hK K
      refine norm_ (a' := ?_) ?_ ?_
      rotate_left
      ·
       show Act.put _ (some 56) _ = _
       simp only [Act.put, zs1, zs2, zs3, i64_w, i32_w]
       rfl
      refine one_ (i := 10) (N := none) #[true, true, true, true, true, true, true, true, true, true, true, false, false] rfl rfl (zb4 HT_.out (by kernel_rfl)) (by decide) (fun K hK => ?_)
      have hs62 : w61.cell? ⟨gb440, 0, none⟩ = some (.slice none 0 0) := (zab BK440.out 0).trans rfl
      have hfs62 := zal BK440.out 0
      have hns62_0 := NB439_440.out
      have hns62_2 := NB441_440.out
      have hns62_3 := NB463_440.out
      have hms62_0 := NB440_439.out
      have hms62_2 := NB440_441.out
      have hms62_3 := NB440_463.out
      have hs63 : w61.cell? ⟨gb440, 1, none⟩ = some (.slice none 0 0) := (zab BK440.out 1).trans rfl
      have hfs63 := zal BK440.out 1
      have hns63_0 := NB439_440.out
      have hns63_2 := NB441_440.out
      have hns63_3 := NB463_440.out
      have hms63_0 := NB440_439.out
      have hms63_2 := NB440_441.out
      have hms63_3 := NB440_463.out
      refine skip_ (w1 := ?_) (by rfl) rfl ?_ ?_
      rotate_left
      ·
       go_simp
       rfl
      refine hK.out _ _ ⟨((cell_far (p := ⟨gb440, _, none⟩) NB463_440.out _).trans (((cell_far (p := ⟨gb440, _, none⟩) NB463_440.out _).trans (hHeld.1)))), ((cell_far (p := ⟨gb440, _, none⟩) NB463_440.out _).trans (((cell_far (p := ⟨gb440, _, none⟩) NB463_440.out _).trans (hHeld.2.1)))), ((cell_far (p := ⟨gb440, _, none⟩) NB439_440.out _).trans (((cell_far (p := ⟨gb440, _, none⟩) NB439_440.out _).trans (hHeld.2.2.1)))), ((cell_far (p := ⟨gb440, _, none⟩) NB439_440.out _).trans (((cell_far (p := ⟨gb440, _, none⟩) NB439_440.out _).trans (hHeld.2.2.2))))⟩ (fun hHeld => ?_)
      clear hK K
      refine one_ (i := 11) (N := none) #[true, true, true, true, true, true, true, true, true, true, true, true, false] rfl rfl (zb4 HT_.out (by kernel_rfl)) (by decide) (fun K hK => ?_)
      have hs65 : w61.cell? ⟨gb441, 0, none⟩ = some (.slice none 0 0) := (zab BK441.out 0).trans rfl
      have hfs65 := zal BK441.out 0
      have hns65_0 := NB439_441.out
      have hns65_1 := NB440_441.out
      have hns65_3 := NB463_441.out
      have hms65_0 := NB441_439.out
      have hms65_1 := NB441_440.out
      have hms65_3 := NB441_463.out
      have hs67 : w61.cell? ⟨gb441, 1, none⟩ = some (.slice none 0 0) := (zab BK441.out 1).trans rfl
      have hfs67 := zal BK441.out 1
      have hns67_0 := NB439_441.out
      have hns67_1 := NB440_441.out
      have hns67_3 := NB463_441.out
      have hms67_0 := NB441_439.out
      have hms67_1 := NB441_440.out
      have hms67_3 := NB441_463.out
      refine skip_ (w1 := ?_) (by rfl) rfl ?_ ?_
      rotate_left
      ·
       go_simp
       rfl
      refine hK.out _ _ ⟨((cell_far (p := ⟨gb441, _, none⟩) NB463_441.out _).trans (((cell_far (p := ⟨gb441, _, none⟩) NB463_441.out _).trans (hHeld.1)))), ((cell_far (p := ⟨gb441, _, none⟩) NB463_441.out _).trans (((cell_far (p := ⟨gb441, _, none⟩) NB463_441.out _).trans (hHeld.2.1)))), ((cell_far (p := ⟨gb441, _, none⟩) NB439_441.out _).trans (((cell_far (p := ⟨gb441, _, none⟩) NB439_441.out _).trans (hHeld.2.2.1)))), ((cell_far (p := ⟨gb441, _, none⟩) NB439_441.out _).trans (((cell_far (p := ⟨gb441, _, none⟩) NB439_441.out _).trans (hHeld.2.2.2))))⟩ (fun hHeld => ?_)
      clear hK K
      refine pure_ (i := 12) (N := some 4) (v := ?_) (a' := ?_) #[true, true, true, true, true, true, true, true, true, true, true, true, true] rfl rfl (za0 HT_.out (by kernel_rfl)) (fun _ _ _ h => h) (Or.inl ⟨by rfl, ?_⟩) ?_ ?_
      rotate_left
      ·
       intro w'
       go_simp
       with_reducible rfl
      rotate_left
      ·
       simp only [Act.put, zs1, zs2, zs3, i64_w, i32_w]
       rfl
      refine done_ (done_of HT_.out (by kernel_rfl)) ?_
      try go_wp2
      refine bodyPost_ret (results_list (rs := [.cell 2 28, .cell 3 40, .tmp 4]) rfl (by simp) (.cell gb440 28 #[.slice Ao51 t456.length co51, .slice Ao53 t459.length co53] (0, 0) _ rfl (by (with_reducible repeat (first | refine zau ?_ _ | refine zat ?_ | refine zar ?_ _)); refine zdc ?_ NB440_441.out _; (with_reducible repeat (first | refine zau ?_ _ | refine zat ?_ | refine zar ?_ _)); refine zdc ?_ NB440_441.out _; (with_reducible repeat (first | refine zau ?_ _ | refine zat ?_ | refine zar ?_ _)); refine zb1 (cs := #[.slice Ao51 t456.length co51, .slice none 0 0]) ?_ 1 _ rfl; (with_reducible repeat (first | refine zau ?_ _ | refine zat ?_ | refine zar ?_ _)); refine zb1 (cs := #[.slice none 0 0, .slice none 0 0]) ?_ 0 _ rfl; (with_reducible repeat (first | refine zau ?_ _ | refine zat ?_ | refine zar ?_ _)); exact BK440.out) Tryd.underlying28 rfl (by kernel_rfl) (.cell gb441 40 #[.slice Ao64 t470.length co64, .slice Ao66 t473.length co66] (0, 0) _ rfl (by (with_reducible repeat (first | refine zau ?_ _ | refine zat ?_ | refine zar ?_ _)); refine zb1 (cs := #[.slice Ao64 t470.length co64, .slice none 0 0]) ?_ 1 _ rfl; (with_reducible repeat (first | refine zau ?_ _ | refine zat ?_ | refine zar ?_ _)); refine zb1 (cs := #[.slice none 0 0, .slice none 0 0]) ?_ 0 _ rfl; (with_reducible repeat (first | refine zau ?_ _ | refine zat ?_ | refine zar ?_ _)); refine zdc ?_ NB441_440.out _; (with_reducible repeat (first | refine zau ?_ _ | refine zat ?_ | refine zar ?_ _)); refine zdc ?_ NB441_440.out _; (with_reducible repeat (first | refine zau ?_ _ | refine zat ?_ | refine zar ?_ _)); exact BK441.out) Tryd.underlying40 rfl (by kernel_rfl) (.tmp .nil)))) rfl ?_
      exact ⟨_, _, _, _, zW, by (with_reducible repeat (first | apply Kd.zbv | apply Kd.zbw | apply Kd.zb3)); exact Kd.zan (Kd.V_far (p := ⟨gb441, 1, none⟩) (Kd.V_far (p := ⟨gb441, 0, none⟩) (Kd.V_far (p := ⟨gb440, 1, none⟩) (Kd.V_far (p := ⟨gb440, 0, none⟩) (Kd.zan (Kd.zan HO458.out (fun k_ hk => (⟨hk, hk.1.1.1.1.2.2.2.2.1⟩ : _ ∧ k_ ≠ gb440))) (fun k_ hk => (⟨hk, hk.1.1.1.1.1.2.2.2.2.2.1⟩ : _ ∧ k_ ≠ gb441))) (fun _ hk => hk.1.2) (.slice Ao51 t456.length co51)) (fun _ hk => hk.1.2) (.slice Ao53 t459.length co53)) (fun _ hk => hk.2) (.slice Ao64 t470.length co64)) (fun _ hk => hk.2) (.slice Ao66 t473.length co66)) (fun _ hk => ⟨hk.1.1.1.1.1.1.1, ⟨hk.1.1.1.2, hk.1.1.2⟩⟩), by (with_reducible repeat (first | apply Kd.zbv | apply Kd.zbw | apply Kd.zb3)); exact Kd.zan (Kd.V_far (p := ⟨gb441, 1, none⟩) (Kd.V_far (p := ⟨gb441, 0, none⟩) (Kd.V_far (p := ⟨gb440, 1, none⟩) (Kd.V_far (p := ⟨gb440, 0, none⟩) (Kd.zan (Kd.zan HO461.out (fun k_ hk => (⟨hk, hk.1.1.1.1.2.2.2.2.1⟩ : _ ∧ k_ ≠ gb440))) (fun k_ hk => (⟨hk, hk.1.1.1.1.1.2.2.2.2.2.1⟩ : _ ∧ k_ ≠ gb441))) (fun _ hk => hk.1.2) (.slice Ao51 t456.length co51)) (fun _ hk => hk.1.2) (.slice Ao53 t459.length co53)) (fun _ hk => hk.2) (.slice Ao64 t470.length co64)) (fun _ hk => hk.2) (.slice Ao66 t473.length co66)) (fun _ hk => ⟨hk.1.1.1.1.1.1.1, ⟨hk.1.1.1.2, hk.1.1.2⟩⟩), by (with_reducible repeat (first | apply Kd.zbz | apply Kd.zb0 | apply Kd.zca)); exact Kd.zbl (Kd.R_far (p := ⟨gb441, 1, none⟩) (Kd.R_far (p := ⟨gb441, 0, none⟩) (Kd.R_far (p := ⟨gb440, 1, none⟩) (Kd.R_far (p := ⟨gb440, 0, none⟩) (Kd.R_types (Kd.R_types HO472.out BK440.out (by decide)) BK441.out (by decide)) (fun _ hk => hk.1.2) (.slice Ao51 t456.length co51)) (fun _ hk => hk.1.2) (.slice Ao53 t459.length co53)) (fun _ hk => hk.2) (.slice Ao64 t470.length co64)) (fun _ hk => hk.2) (.slice Ao66 t473.length co66)) (fun _ hk => ⟨hk.1.1.1.1.1, hk.1.1.1.1.2⟩), by (with_reducible repeat (first | apply Kd.zbz | apply Kd.zb0 | apply Kd.zca)); exact Kd.zbl (Kd.R_far (p := ⟨gb441, 1, none⟩) (Kd.R_far (p := ⟨gb441, 0, none⟩) (Kd.R_far (p := ⟨gb440, 1, none⟩) (Kd.R_far (p := ⟨gb440, 0, none⟩) (Kd.R_types (Kd.R_types HO475.out BK440.out (by decide)) BK441.out (by decide)) (fun _ hk => hk.1.2) (.slice Ao51 t456.length co51)) (fun _ hk => hk.1.2) (.slice Ao53 t459.length co53)) (fun _ hk => hk.2) (.slice Ao64 t470.length co64)) (fun _ hk => hk.2) (.slice Ao66 t473.length co66)) (fun _ hk => ⟨hk.1.1.1.1.1, hk.1.1.1.1.2⟩), zB HB⟩
     ·
      rw [if_neg c34] at H
      exact absurd H (by simp)
    ·
     rw [if_neg c33] at H
     exact absurd H (by simp)
end Go.Proofs.YtfjkamhcabckeaaDoor.P
end
