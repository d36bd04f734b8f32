-- Written by a program of this session (wip/tools/shake.py) out of its own texts and of the kit's printed ones; not trusted: Lean checks it.
import Derived.Test.YtfjkamhcabckeaaDoorZRatioOf6
section
namespace Go.Proofs.YtfjkamhcabckeaaDoor.P
open Go.RowKit Go.Proofs.YtfjkamhcabckeaaDoorW.PrintWords Go.Proofs.YtfjkamhcabckeaaDoorW.PrintLast Go.Proofs.YtfjkamhcabckeaaDoorW.PrintMore
attribute [local go_sem] max2_int min2_int max_two min_two max_three min_three max_four min_four
set_option linter.unusedVariables false
set_option linter.unusedSimpArgs false
def roundelref03_Floor.f (k : Nat) (l0_0 : List Int) (l0_1 : List Int) : Option (List Int) := (roundelref02_Div.f k l0_0 l0_1).bind fun bt477 => (some bt477.1)
set_option maxHeartbeats 8000000 in
set_option maxRecDepth 100000 in
theorem roundelref03_Floor.calls (k : Nat) (A0_0 : Option Addr) (c0_0 : Nat) (l0_0 : List Int) (A0_1 : Option Addr) (c0_1 : Nat) (l0_1 : List Int) (r : List Int) (w : World) (hr0_0 : Kd.C (Kd.int .i64) w A0_0 l0_0.length l0_0) (hc0_0 : l0_0.length ≤ c0_0) (hr0_1 : Kd.C (Kd.int .i64) w A0_1 l0_1.length l0_1) (hc0_1 : l0_1.length ≤ c0_1) (h : roundelref03_Floor.f k l0_0 l0_1 = some r) :
  Calls Tryd.prog 28 #[.agg #[.slice A0_0 l0_0.length c0_0, .slice A0_1 l0_1.length c0_1]] w fun e w' => ∃ v0_ : Value, e = .returned (v0_) ∧ Kd.R (Kd.int .i64) 3 w' w.heap.size (fun _ => True) v0_ r ∧ Below w.heap.size w w' := by
 have hu40 := Tryd.underlying40
 have HR0_0 := Aside0.mk hr0_0
 have HC0_0 := Aside0.mk hc0_0
 clear hr0_0 hc0_0
 have HR0_1 := Aside0.mk hr0_1
 have HC0_1 := Aside0.mk hc0_1
 clear hr0_1 hc0_1
 have HB := Aside0.mk (Below.refl w.heap.size w)
 have H : ((roundelref02_Div.f k l0_0 l0_1).bind fun bt477 => (some bt477.1)) = some r := h
 clear h
 replace H := Option.bind_eq_some_iff.mp H
 obtain ⟨⟨t477, t478⟩, A20, H⟩ := H
 replace H : (some t477) = some r := H
 have A2 := Aside0.mk A20
 clear A20
 obtain rfl := Option.some.inj H
 go_enter Tryd.func28, Tryd.ntmps28
 go_wp2_with (first | ((with_reducible refine gate_dst (N := 1) rfl ?_); refine box_event ?hg (N := 1) ?hd (cs := #[.slice A0_0 l0_0.length c0_0, .slice A0_1 l0_1.length c0_1]) (t := 40) ?hr ?_; (case hd => rfl); (case hg => rfl); (case hr => first | (go_simp; done) | (go_simp; rfl)); intro gb476 hg w3 hbox hb; have n0_ := Aside0.mk (below_step (zB HB) hb); have n1_ := Aside0.mk (hbox); have n2_ := Aside0.mk ((by rw [hg]; exact (below_size (zB HB)) : w.heap.size ≤ gb476)); have n3_ := Aside0.mk ((by rw [hg]; exact (below_size (zB HB)) : w.heap.size ≤ gb476)); clear HB; have HB := n0_; have BK476 := n1_; have GW476 := n2_; have GE476 := n3_; clear n0_ n1_ n2_ n3_; clear hb hbox hg; have hcz4_0 : w3.cell? ⟨gb476, 0, none⟩ = some (.slice A0_0 l0_0.length c0_0) := (blk_cell BK476.out 0).trans rfl; have hcz4_1 : w3.cell? ⟨gb476, 1, none⟩ = some (.slice A0_1 l0_1.length c0_1) := (blk_cell BK476.out 1).trans rfl; have hfz4_0 := blk_frozen BK476.out 0; have hfz4_1 := blk_frozen BK476.out 1) | ((with_reducible refine gate_callee (f := 57) rfl ?_); refine goesL_ (some 10) rfl rfl Tryd.func57 (by kernel_rfl) rfl #[.slice A0_0 l0_0.length c0_0, .slice A0_1 l0_1.length c0_1] rfl (zE) ?_; (with_reducible refine (roundelref02_Div.calls k _ _ l0_0 _ _ l0_1 t477 t478 _ ?side1 ?side2 ?side3 ?side4 A2.out).mono ?_); (case side1 => repeat (first | exact (Kd.C_below HR0_0.out HB.out) | (with_reducible refine Kd.C_alloc ?_ _) | (with_reducible refine Kd.C_drewN ?_ _) | (with_reducible refine Kd.C_drew ?_))); (case side2 => exact HC0_0.out); (case side3 => repeat (first | exact (Kd.C_below HR0_1.out HB.out) | (with_reducible refine Kd.C_alloc ?_ _) | (with_reducible refine Kd.C_drewN ?_ _) | (with_reducible refine Kd.C_drew ?_))); (case side4 => exact HC0_1.out); rintro e w5 ⟨v479, v481, rfl, ho0, ho1, hb⟩; refine ⟨_, rfl, ?_⟩; have n0_ := Aside0.mk (Kd.R_lower ho0 (below_size (zB HB))); have n1_ := Aside0.mk (Kd.R_lower ho1 (below_size (zB HB))); have n2_ := Aside0.mk (blk_below (g := gb476) (o := .cells #[.slice A0_0 l0_0.length c0_0, .slice A0_1 l0_1.length c0_1] 40 (0, 0)) (zK BK476) hb); have n3_ := Aside0.mk (below_step (zB HB) hb); clear BK476; clear HB; have HO480 := n0_; have HO482 := n1_; have BK476 := n2_; have HB := n3_; clear n0_ n1_ n2_ n3_; (try clear hb); (try clear hb2); (try clear hk); (try clear hi); (try clear ho0); (try clear ho1)))
 go_ret
 exact ⟨_, zW, by (with_reducible repeat (first | apply Kd.R_alloc | apply Kd.R_drewN | apply Kd.R_drew)); exact Kd.R_mono HO480.out (fun _ hk => trivial), zB HB⟩
end Go.Proofs.YtfjkamhcabckeaaDoor.P
end
section
namespace Go.Proofs.YtfjkamhcabckeaaDoor.P
open Go.RowKit Go.Proofs.YtfjkamhcabckeaaDoorW.PrintWords Go.Proofs.YtfjkamhcabckeaaDoorW.PrintLast Go.Proofs.YtfjkamhcabckeaaDoorW.PrintMore
attribute [local go_sem] max2_int min2_int max_two min_two max_three min_three max_four min_four
set_option linter.unusedVariables false
set_option linter.unusedSimpArgs false
mutual
def roundellaw03_RatioOf.j0 : Nat → Int → Bool → List Int → List Int → Option (Bool)
 | 0, _, _, _, _ => none
 | k + 1, x1, x35, x484000, x484001 => if x35 = true then ((roundellaw03_awake.f k).bind fun t487 => (some t487)) else ((ratio_Int.f k x1).bind fun bt488 => ((roundelref03_Int.f k x1).bind fun bt494 => ((roundellaw03_Is.f k bt488.1 bt488.2 bt494.1 bt494.2).bind fun t500 => (if t500 = true then ((ratio_Int.f k x1).bind fun bt501 => ((ratio_Ratio_Good.f k bt501.1 bt501.2).bind fun t507 => (roundellaw03_RatioOf.j1 k (!t507) x484000 x484001))) else (roundellaw03_RatioOf.j1 k true x484000 x484001)))))
def roundellaw03_RatioOf.j1 : Nat → Bool → List Int → List Int → Option (Bool)
 | 0, _, _, _ => none
 | k + 1, x48, x484000, x484001 => if x48 = true then (none) else (if (x484001.length : Int) = 0 then ((some (([] : List Int) : List Int)).bind fun y508 => (if y508.length + x484000.length < 17592186044416 then ((ratio_Of.f k (y508 ++ x484000) ([] : List Int)).bind fun bt514 => (if bt514.2.2 = 16 then (if (bt514.1.length : Int) = 0 then (some ((bt514.2.1.length : Int) == 0)) else (none)) else (none))) else (none))) else ((roundellaw03_made.f k x484000 x484001).bind fun bt522 => (if bt522.2.2.2.2 = true then ((roundellaw03_Is.f k bt522.1 bt522.2.1 bt522.2.2.1 bt522.2.2.2.1).bind fun t537 => (if t537 = true then ((ratio_Ratio_Good.f k bt522.1 bt522.2.1).bind fun t538 => (if t538 = true then ((ratio_Ratio_Floor.f k bt522.1 bt522.2.1).bind fun t539 => ((roundelref03_Floor.f k bt522.2.2.1 bt522.2.2.2.1).bind fun t542 => ((roundellaw02_Is.f k t539 t542).bind fun t545 => (some t545)))) else (none))) else (none))) else (none))))
end
def roundellaw03_RatioOf.f (k : Nat) (l0_0 : List Int) (l0_1 : List Int) (a1 : Int) : Option (Bool) := (roundellaw03_awake.f k).bind fun t484 => (if t484 = true then (if (l0_0.length : Int) > 4 then (roundellaw03_RatioOf.j0 k a1 true l0_0 l0_1) else (if (l0_1.length : Int) > 4 then (roundellaw03_RatioOf.j0 k a1 true l0_0 l0_1) else ((roundelref02_Good.f l0_0).bind fun t485 => (if t485 = true then ((roundelref02_Good.f l0_1).bind fun t486 => (roundellaw03_RatioOf.j0 k a1 (!t486) l0_0 l0_1)) else (roundellaw03_RatioOf.j0 k a1 true l0_0 l0_1))))) else (roundellaw03_RatioOf.j0 k a1 true l0_0 l0_1))
def roundellaw03_RatioOf.T9 : Bool × List (List Nat × List Nat) := (true, [([], []), ([0], [0]), ([1], [1]), ([1], [1]), ([2, 3, 1, 1], [1, 2, 3]), ([1, 4], [1, 4]), ([5, 4], [5]), ([6], [6]), ([7, 6, 6], [6, 7]), ([6, 8], [6, 8]), ([9, 8], [9]), ([10], [10]), ([11, 10, 10], [10, 11]), ([10], [10]), ([13, 12, 10], [10, 13]), ([12, 14, 14, 10], [10, 12, 14]), ([10, 15], [10, 15]), ([16, 15, 0, 1, 2, 3, 4, 5, 6, 7, 8, 9, 10, 11, 12, 13, 14, 15, 16], [16])])
def roundellaw03_RatioOf.B9 : List Nat := [0, 1, 3, 3, 15, 31, 63, 127, 255, 511, 1023, 2047, 4095, 2047, 16383, 32767, 65535, 131071]
theorem roundellaw03_RatioOf.tab9 : rtab .any (opsOf Tryd.f4 9) = roundellaw03_RatioOf.T9 := by kernel_rfl
theorem roundellaw03_RatioOf.bits9 : waitsOk roundellaw03_RatioOf.T9.2 roundellaw03_RatioOf.B9 = true := by kernel_rfl
set_option maxHeartbeats 8000000 in
set_option maxRecDepth 100000 in
theorem roundellaw03_RatioOf.calls (k : Nat) (A0_0 : Option Addr) (c0_0 : Nat) (l0_0 : List Int) (A0_1 : Option Addr) (c0_1 : Nat) (l0_1 : List Int) (a1 : Int) (r : Bool) (w : World) (hr0_0 : Kd.C (Kd.int .u64) w A0_0 l0_0.length l0_0) (hc0_0 : l0_0.length ≤ c0_0) (hr0_1 : Kd.C (Kd.int .u64) w A0_1 l0_1.length l0_1) (hc0_1 : l0_1.length ≤ c0_1) (hG : Glob w) (h : roundellaw03_RatioOf.f k l0_0 l0_1 a1 = some r) :
  Calls Tryd.prog 4 #[.agg #[.slice A0_0 l0_0.length c0_0, .slice A0_1 l0_1.length c0_1], .int .i64 a1] w fun e w' => e = .returned (.bool r) ∧ Below w.heap.size w w' := by
 have hu24 := Tryd.underlying24
 have hu28 := Tryd.underlying28
 have hu40 := Tryd.underlying40
 have HR0_0 := Aside0.mk hr0_0
 have HC0_0 := Aside0.mk hc0_0
 clear hr0_0 hc0_0
 have HR0_1 := Aside0.mk hr0_1
 have HC0_1 := Aside0.mk hc0_1
 clear hr0_1 hc0_1
 have HG := Aside0.mk hG
 clear hG
 have HB := Aside0.mk (Below.refl w.heap.size w)
 have H : ((roundellaw03_awake.f k).bind fun t484 => (if t484 = true then (if (l0_0.length : Int) > 4 then (roundellaw03_RatioOf.j0 k a1 true l0_0 l0_1) else (if (l0_1.length : Int) > 4 then (roundellaw03_RatioOf.j0 k a1 true l0_0 l0_1) else ((roundelref02_Good.f l0_0).bind fun t485 => (if t485 = true then ((roundelref02_Good.f l0_1).bind fun t486 => (roundellaw03_RatioOf.j0 k a1 (!t486) l0_0 l0_1)) else (roundellaw03_RatioOf.j0 k a1 true l0_0 l0_1))))) else (roundellaw03_RatioOf.j0 k a1 true l0_0 l0_1))) = some r := h
 clear h
 have HC3 := Aside0.mk H
 clear H
 go_enter Tryd.func4, Tryd.ntmps4
 go_upto_region 1 with (first | ((with_reducible refine gate_dst (N := 2) rfl ?_); (try (refine gate_guard (by rfl) ?_; dsimp only)); refine box_event ?hg (N := 2) ?hd (cs := #[.slice A0_0 l0_0.length c0_0, .slice A0_1 l0_1.length c0_1]) (t := 24) ?hr ?_; (case hd => rfl); (case hg => rfl); (case hr => first | (go_simp; done) | (go_simp; rfl)); intro gb483 hg w4 hbox hb; have n0_ := Aside0.mk (below_step (zB HB) hb); have n1_ := Aside0.mk (hbox); have n2_ := Aside0.mk ((by rw [hg]; exact (below_size (zB HB)) : w.heap.size ≤ gb483)); have n3_ := Aside0.mk ((by rw [hg]; exact (below_size (zB HB)) : w.heap.size ≤ gb483)); clear HB; have HB := n0_; have BK483 := n1_; have GW483 := n2_; have GE483 := n3_; clear n0_ n1_ n2_ n3_; clear hb hbox hg))
 (try simp only [Act.put, List.setIfInBounds_toArray, List.set_cons_zero, List.set_cons_succ])
 go_cut [35] (fun v35 wc => ∃ (kq : Nat) (x35_2 : Bool), v35 = .bool x35_2 ∧ Aside0 (roundellaw03_RatioOf.j0 kq a1 x35_2 l0_0 l0_1 = some r) ∧ Aside0 (kq ≤ k) ∧ Aside0 (wc.heap[gb483]? = some (.cells #[(.slice A0_0 l0_0.length c0_0), (.slice A0_1 l0_1.length c0_1)] 24 (0, 0))) ∧ Aside0 (Below w.heap.size w wc))
 case first =>
  have H := HC3.out
  clear HC3
  replace H := Option.bind_eq_some_iff.mp H
  obtain ⟨t484, A50, H⟩ := H
  replace H : (if t484 = true then (if (l0_0.length : Int) > 4 then (roundellaw03_RatioOf.j0 k a1 true l0_0 l0_1) else (if (l0_1.length : Int) > 4 then (roundellaw03_RatioOf.j0 k a1 true l0_0 l0_1) else ((roundelref02_Good.f l0_0).bind fun t485 => (if t485 = true then ((roundelref02_Good.f l0_1).bind fun t486 => (roundellaw03_RatioOf.j0 k a1 (!t486) l0_0 l0_1)) else (roundellaw03_RatioOf.j0 k a1 true l0_0 l0_1))))) else (roundellaw03_RatioOf.j0 k a1 true l0_0 l0_1)) = some r := H
  have A5 := Aside0.mk A50
  clear A50
  by_cases c6 : t484 = true
  ·
   subst c6
   have H1 : (if (l0_0.length : Int) > 4 then (roundellaw03_RatioOf.j0 k a1 true l0_0 l0_1) else (if (l0_1.length : Int) > 4 then (roundellaw03_RatioOf.j0 k a1 true l0_0 l0_1) else ((roundelref02_Good.f l0_0).bind fun t485 => (if t485 = true then ((roundelref02_Good.f l0_1).bind fun t486 => (roundellaw03_RatioOf.j0 k a1 (!t486) l0_0 l0_1)) else (roundellaw03_RatioOf.j0 k a1 true l0_0 l0_1))))) = some r := by rw [if_pos rfl] at H; exact H
   clear H
   have H := H1
   clear H1
   by_cases c7 : (l0_0.length : Int) > 4
   ·
    rw [if_pos c7] at H
    have c7b0 : decide (4 < (l0_0.length : Int)) = true := decide_eq_true c7
    have c7b1 : decide (4 < l0_0.length) = true := decide_eq_true (by omega)
    clear c7
    (first | rw [c7b0] | (simp only [i64_w, i32_w]; rw [c7b0]) | skip)
    have H' := Aside0.mk H
    clear H
    go_wp2_with (first | ((with_reducible refine gate_callee (f := 14) rfl ?_); refine goesL_ (some 10) rfl rfl Tryd.func14 (by kernel_rfl) rfl #[] rfl (zE) ?_; (with_reducible refine (roundellaw03_awake.calls k  true _ ?side1 A5.out).mono ?_); (case side1 => exact Glob.below HG.out (zB HB)); rintro e w8 ⟨rfl, hb⟩; refine ⟨_, rfl, ?_⟩; have n0_ := Aside0.mk (blk_below (g := gb483) (o := .cells #[.slice A0_0 l0_0.length c0_0, .slice A0_1 l0_1.length c0_1] 24 (0, 0)) (zK BK483) hb); have n1_ := Aside0.mk (below_step (zB HB) hb); clear BK483; clear HB; have BK483 := n0_; have HB := n1_; clear n0_ n1_; (try clear hb); (try clear hb2); (try clear hk); (try clear hi); have hcz9_0 : w8.cell? ⟨gb483, 0, none⟩ = some (.slice A0_0 l0_0.length c0_0) := (blk_cell BK483.out 0).trans rfl; have hcz9_1 : w8.cell? ⟨gb483, 1, none⟩ = some (.slice A0_1 l0_1.length c0_1) := (blk_cell BK483.out 1).trans rfl; have hfz9_0 := blk_frozen BK483.out 0; have hfz9_1 := blk_frozen BK483.out 1))
    go_meet
    case rel => exact ⟨_, (true), (zF), H', ⟨by first | omega | exact Nat.le_refl _⟩, ⟨zK BK483⟩, ⟨zB HB⟩⟩
   ·
    rw [if_neg c7] at H
    have c7b0 : decide (4 < (l0_0.length : Int)) = false := decide_eq_false c7
    have c7b1 : decide (4 < l0_0.length) = false := decide_eq_false (by omega)
    clear c7
    (first | rw [c7b0] | (simp only [i64_w, i32_w]; rw [c7b0]) | skip)
    by_cases c10 : (l0_1.length : Int) > 4
    ·
     rw [if_pos c10] at H
     have c10b0 : decide (4 < (l0_1.length : Int)) = true := decide_eq_true c10
     have c10b1 : decide (4 < l0_1.length) = true := decide_eq_true (by omega)
     clear c10
     have H' := Aside0.mk H
     clear H
     go_wp2_with (first | ((with_reducible refine gate_callee (f := 14) rfl ?_); refine goesL_ (some 10) rfl rfl Tryd.func14 (by kernel_rfl) rfl #[] rfl (zE) ?_; (with_reducible refine (roundellaw03_awake.calls k  true _ ?side1 A5.out).mono ?_); (case side1 => exact Glob.below HG.out (zB HB)); rintro e w11 ⟨rfl, hb⟩; refine ⟨_, rfl, ?_⟩; have n0_ := Aside0.mk (blk_below (g := gb483) (o := .cells #[.slice A0_0 l0_0.length c0_0, .slice A0_1 l0_1.length c0_1] 24 (0, 0)) (zK BK483) hb); have n1_ := Aside0.mk (below_step (zB HB) hb); clear BK483; clear HB; have BK483 := n0_; have HB := n1_; clear n0_ n1_; (try clear hb); (try clear hb2); (try clear hk); (try clear hi); have hcz12_0 : w11.cell? ⟨gb483, 0, none⟩ = some (.slice A0_0 l0_0.length c0_0) := (blk_cell BK483.out 0).trans rfl; have hcz12_1 : w11.cell? ⟨gb483, 1, none⟩ = some (.slice A0_1 l0_1.length c0_1) := (blk_cell BK483.out 1).trans rfl; have hfz12_0 := blk_frozen BK483.out 0; have hfz12_1 := blk_frozen BK483.out 1))
     go_meet
     case rel => exact ⟨_, (true), (zF), H', ⟨by first | omega | exact Nat.le_refl _⟩, ⟨zK BK483⟩, ⟨zB HB⟩⟩
    ·
     rw [if_neg c10] at H
     have c10b0 : decide (4 < (l0_1.length : Int)) = false := decide_eq_false c10
     have c10b1 : decide (4 < l0_1.length) = false := decide_eq_false (by omega)
     clear c10
     replace H := Option.bind_eq_some_iff.mp H
     obtain ⟨t485, A130, H⟩ := H
     replace H : (if t485 = true then ((roundelref02_Good.f l0_1).bind fun t486 => (roundellaw03_RatioOf.j0 k a1 (!t486) l0_0 l0_1)) else (roundellaw03_RatioOf.j0 k a1 true l0_0 l0_1)) = some r := H
     have A13 := Aside0.mk A130
     clear A130
     by_cases c14 : t485 = true
     ·
      subst c14
      have H1 : ((roundelref02_Good.f l0_1).bind fun t486 => (roundellaw03_RatioOf.j0 k a1 (!t486) l0_0 l0_1)) = some r := by rw [if_pos rfl] at H; exact H
      clear H
      have H := H1
      clear H1
      replace H := Option.bind_eq_some_iff.mp H
      obtain ⟨t486, A150, H⟩ := H
      replace H : (roundellaw03_RatioOf.j0 k a1 (!t486) l0_0 l0_1) = some r := H
      have A15 := Aside0.mk A150
      clear A150
      have H' := Aside0.mk H
      clear H
      go_wp2_with (first | ((with_reducible refine gate_callee (f := 14) rfl ?_); refine goesL_ (some 10) rfl rfl Tryd.func14 (by kernel_rfl) rfl #[] rfl (zE) ?_; (with_reducible refine (roundellaw03_awake.calls k  true _ ?side1 A5.out).mono ?_); (case side1 => exact Glob.below HG.out (zB HB)); rintro e w16 ⟨rfl, hb⟩; refine ⟨_, rfl, ?_⟩; have n0_ := Aside0.mk (blk_below (g := gb483) (o := .cells #[.slice A0_0 l0_0.length c0_0, .slice A0_1 l0_1.length c0_1] 24 (0, 0)) (zK BK483) hb); have n1_ := Aside0.mk (below_step (zB HB) hb); clear BK483; clear HB; have BK483 := n0_; have HB := n1_; clear n0_ n1_; (try clear hb); (try clear hb2); (try clear hk); (try clear hi); have hcz17_0 : w16.cell? ⟨gb483, 0, none⟩ = some (.slice A0_0 l0_0.length c0_0) := (blk_cell BK483.out 0).trans rfl; have hcz17_1 : w16.cell? ⟨gb483, 1, none⟩ = some (.slice A0_1 l0_1.length c0_1) := (blk_cell BK483.out 1).trans rfl; have hfz17_0 := blk_frozen BK483.out 0; have hfz17_1 := blk_frozen BK483.out 1) | (go_at_call 15; (with_reducible refine (roundelref02_Good.calls _ _ l0_0 true _ ?side1 ?side2 A13.out).mono ?_); (case side1 => repeat (first | exact (Kd.C_below HR0_0.out HB.out) | (with_reducible refine Kd.C_alloc ?_ _) | (with_reducible refine Kd.C_drewN ?_ _) | (with_reducible refine Kd.C_drew ?_))); (case side2 => exact HC0_0.out); rintro e w' ⟨rfl, ⟨nd, rfl⟩⟩) | (go_at_call 15; (with_reducible refine (roundelref02_Good.calls _ _ l0_1 t486 _ ?side1 ?side2 A15.out).mono ?_); (case side1 => repeat (first | exact (Kd.C_below HR0_1.out (zB HB)) | (with_reducible refine Kd.C_alloc ?_ _) | (with_reducible refine Kd.C_drewN ?_ _) | (with_reducible refine Kd.C_drew ?_))); (case side2 => exact HC0_1.out); rintro e w' ⟨rfl, ⟨nd, rfl⟩⟩))
      go_meet
      case rel => exact ⟨_, (!t486), (zF), H', ⟨by first | omega | exact Nat.le_refl _⟩, ⟨zK BK483⟩, ⟨zB HB⟩⟩
     ·
      replace c14 := Bool.eq_false_iff.mpr c14
      subst c14
      have H1 : (roundellaw03_RatioOf.j0 k a1 true l0_0 l0_1) = some r := by rw [if_neg (show ¬ (false = true) by decide)] at H; exact H
      clear H
      have H := H1
      clear H1
      have H' := Aside0.mk H
      clear H
      go_wp2_with (first | ((with_reducible refine gate_callee (f := 14) rfl ?_); refine goesL_ (some 10) rfl rfl Tryd.func14 (by kernel_rfl) rfl #[] rfl (zE) ?_; (with_reducible refine (roundellaw03_awake.calls k  true _ ?side1 A5.out).mono ?_); (case side1 => exact Glob.below HG.out (zB HB)); rintro e w18 ⟨rfl, hb⟩; refine ⟨_, rfl, ?_⟩; have n0_ := Aside0.mk (blk_below (g := gb483) (o := .cells #[.slice A0_0 l0_0.length c0_0, .slice A0_1 l0_1.length c0_1] 24 (0, 0)) (zK BK483) hb); have n1_ := Aside0.mk (below_step (zB HB) hb); clear BK483; clear HB; have BK483 := n0_; have HB := n1_; clear n0_ n1_; (try clear hb); (try clear hb2); (try clear hk); (try clear hi); have hcz19_0 : w18.cell? ⟨gb483, 0, none⟩ = some (.slice A0_0 l0_0.length c0_0) := (blk_cell BK483.out 0).trans rfl; have hcz19_1 : w18.cell? ⟨gb483, 1, none⟩ = some (.slice A0_1 l0_1.length c0_1) := (blk_cell BK483.out 1).trans rfl; have hfz19_0 := blk_frozen BK483.out 0; have hfz19_1 := blk_frozen BK483.out 1) | (go_at_call 15; (with_reducible refine (roundelref02_Good.calls _ _ l0_0 false _ ?side1 ?side2 A13.out).mono ?_); (case side1 => repeat (first | exact (Kd.C_below HR0_0.out HB.out) | (with_reducible refine Kd.C_alloc ?_ _) | (with_reducible refine Kd.C_drewN ?_ _) | (with_reducible refine Kd.C_drew ?_))); (case side2 => exact HC0_0.out); rintro e w' ⟨rfl, ⟨nd, rfl⟩⟩))
      go_meet
      case rel => exact ⟨_, (true), (zF), H', ⟨by first | omega | exact Nat.le_refl _⟩, ⟨zK BK483⟩, ⟨zB HB⟩⟩
  ·
   replace c6 := Bool.eq_false_iff.mpr c6
   subst c6
   have H1 : (roundellaw03_RatioOf.j0 k a1 true l0_0 l0_1) = some r := by rw [if_neg (show ¬ (false = true) by decide)] at H; exact H
   clear H
   have H := H1
   clear H1
   have H' := Aside0.mk H
   clear H
   go_wp2_with (first | ((with_reducible refine gate_callee (f := 14) rfl ?_); refine goesL_ (some 10) rfl rfl Tryd.func14 (by kernel_rfl) rfl #[] rfl (zE) ?_; (with_reducible refine (roundellaw03_awake.calls k  false _ ?side1 A5.out).mono ?_); (case side1 => exact Glob.below HG.out (zB HB)); rintro e w20 ⟨rfl, hb⟩; refine ⟨_, rfl, ?_⟩; have n0_ := Aside0.mk (blk_below (g := gb483) (o := .cells #[.slice A0_0 l0_0.length c0_0, .slice A0_1 l0_1.length c0_1] 24 (0, 0)) (zK BK483) hb); have n1_ := Aside0.mk (below_step (zB HB) hb); clear BK483; clear HB; have BK483 := n0_; have HB := n1_; clear n0_ n1_; (try clear hb); (try clear hb2); (try clear hk); (try clear hi)))
   go_meet
   case rel => exact ⟨_, (true), (zF), H', ⟨by first | omega | exact Nat.le_refl _⟩, ⟨zK BK483⟩, ⟨zB HB⟩⟩
 case rest =>
  clear HC3
  try clear c1
  try clear p2
  try clear c4
  try clear c6
  try clear p6
  try clear c7
  try clear c7b0
  try clear c7b1
  try clear c10
  try clear c10b0
  try clear c10b1
  try clear c14
  try clear hcz12_0
  try clear hcz12_1
  try clear hcz17_0
  try clear hcz17_1
  try clear hcz19_0
  try clear hcz19_1
  try clear hcz9_0
  try clear hcz9_1
  try clear hfz12_0
  try clear hfz12_1
  try clear hfz17_0
  try clear hfz17_1
  try clear hfz19_0
  try clear hfz19_1
  try clear hfz9_0
  try clear hfz9_1
  obtain ⟨kq, x35_2, rfl, HA, HJ2, BK483, HB⟩ := hcut
  cases kq with
  | zero => exact absurd HA.out (by simp [roundellaw03_RatioOf.j0])
  | succ kj2 =>
   have H := HA.out
   clear HA
   simp only [roundellaw03_RatioOf.j0] at H
   by_cases c21 : x35_2 = true
   ·
    subst c21
    have H1 : ((roundellaw03_awake.f kj2).bind fun t487 => (some t487)) = some r := by rw [if_pos rfl] at H; exact H
    clear H
    have H := H1
    clear H1
    replace H := Option.bind_eq_some_iff.mp H
    obtain ⟨t487, A220, H⟩ := H
    replace H : (some t487) = some r := H
    have A22 := Aside0.mk A220
    clear A220
    obtain rfl := Option.some.inj H
    go_wp2_with (first | ((with_reducible refine gate_callee (f := 14) rfl ?_); refine goesL_ (some 36) rfl rfl Tryd.func14 (by kernel_rfl) rfl #[] rfl (zE) ?_; (with_reducible refine (roundellaw03_awake.calls kj2  t487 _ ?side1 A22.out).mono ?_); (case side1 => exact Glob.below HG.out (zB HB)); rintro e w23 ⟨rfl, hb⟩; refine ⟨_, rfl, ?_⟩; have n0_ := Aside0.mk (blk_below (g := gb483) (o := .cells #[.slice A0_0 l0_0.length c0_0, .slice A0_1 l0_1.length c0_1] 24 (0, 0)) (zK BK483) hb); have n1_ := Aside0.mk (below_step (zB HB) hb); clear BK483; clear HB; have BK483 := n0_; have HB := n1_; clear n0_ n1_; (try clear hb); (try clear hb2); (try clear hk); (try clear hi)))
    go_ret
    exact ⟨zW, zB HB⟩
   ·
    replace c21 := Bool.eq_false_iff.mpr c21
    subst c21
    have H1 : ((ratio_Int.f kj2 a1).bind fun bt488 => ((roundelref03_Int.f kj2 a1).bind fun bt494 => ((roundellaw03_Is.f kj2 bt488.1 bt488.2 bt494.1 bt494.2).bind fun t500 => (if t500 = true then ((ratio_Int.f kj2 a1).bind fun bt501 => ((ratio_Ratio_Good.f kj2 bt501.1 bt501.2).bind fun t507 => (roundellaw03_RatioOf.j1 kj2 (!t507) l0_0 l0_1))) else (roundellaw03_RatioOf.j1 kj2 true l0_0 l0_1))))) = some r := by rw [if_neg (show ¬ (false = true) by decide)] at H; exact H
    clear H
    have H := H1
    clear H1
    have HC24 := Aside0.mk H
    clear H
    go_upto_region 3 with (fail)
    go_cut [48] (fun v48 wc => ∃ (kq : Nat) (x48_23 : Bool), v48 = .bool x48_23 ∧ Aside0 (roundellaw03_RatioOf.j1 kq x48_23 l0_0 l0_1 = some r) ∧ Aside0 (kq ≤ kj2) ∧ Aside0 (wc.heap[gb483]? = some (.cells #[(.slice A0_0 l0_0.length c0_0), (.slice A0_1 l0_1.length c0_1)] 24 (0, 0))) ∧ Aside0 (Below w.heap.size w wc))
    case first =>
     have H := HC24.out
     clear HC24
     replace H := Option.bind_eq_some_iff.mp H
     obtain ⟨⟨t488, t491⟩, A250, H⟩ := H
     replace H : ((roundelref03_Int.f kj2 a1).bind fun bt494 => ((roundellaw03_Is.f kj2 t488 t491 bt494.1 bt494.2).bind fun t500 => (if t500 = true then ((ratio_Int.f kj2 a1).bind fun bt501 => ((ratio_Ratio_Good.f kj2 bt501.1 bt501.2).bind fun t507 => (roundellaw03_RatioOf.j1 kj2 (!t507) l0_0 l0_1))) else (roundellaw03_RatioOf.j1 kj2 true l0_0 l0_1)))) = some r := H
     have A25 := Aside0.mk A250
     clear A250
     replace H := Option.bind_eq_some_iff.mp H
     obtain ⟨⟨t494, t497⟩, A260, H⟩ := H
     replace H : ((roundellaw03_Is.f kj2 t488 t491 t494 t497).bind fun t500 => (if t500 = true then ((ratio_Int.f kj2 a1).bind fun bt501 => ((ratio_Ratio_Good.f kj2 bt501.1 bt501.2).bind fun t507 => (roundellaw03_RatioOf.j1 kj2 (!t507) l0_0 l0_1))) else (roundellaw03_RatioOf.j1 kj2 true l0_0 l0_1))) = some r := H
     have A26 := Aside0.mk A260
     clear A260
     replace H := Option.bind_eq_some_iff.mp H
     obtain ⟨t500, A270, H⟩ := H
     replace H : (if t500 = true then ((ratio_Int.f kj2 a1).bind fun bt501 => ((ratio_Ratio_Good.f kj2 bt501.1 bt501.2).bind fun t507 => (roundellaw03_RatioOf.j1 kj2 (!t507) l0_0 l0_1))) else (roundellaw03_RatioOf.j1 kj2 true l0_0 l0_1)) = some r := H
     have A27 := Aside0.mk A270
     clear A270
     by_cases c28 : t500 = true
     ·
      subst c28
      have H1 : ((ratio_Int.f kj2 a1).bind fun bt501 => ((ratio_Ratio_Good.f kj2 bt501.1 bt501.2).bind fun t507 => (roundellaw03_RatioOf.j1 kj2 (!t507) l0_0 l0_1))) = some r := by rw [if_pos rfl] at H; exact H
      clear H
      have H := H1
      clear H1
      replace H := Option.bind_eq_some_iff.mp H
      obtain ⟨⟨t501, t504⟩, A290, H⟩ := H
      replace H : ((ratio_Ratio_Good.f kj2 t501 t504).bind fun t507 => (roundellaw03_RatioOf.j1 kj2 (!t507) l0_0 l0_1)) = some r := H
      have A29 := Aside0.mk A290
      clear A290
      replace H := Option.bind_eq_some_iff.mp H
      obtain ⟨t507, A300, H⟩ := H
      replace H : (roundellaw03_RatioOf.j1 kj2 (!t507) l0_0 l0_1) = some r := H
      have A30 := Aside0.mk A300
      clear A300
      have H' := Aside0.mk H
      clear H
      go_wp2_with (first | ((with_reducible refine gate_callee (f := 22) rfl ?_); refine goesL_ (some 38) rfl rfl Tryd.func22 (by kernel_rfl) rfl #[.int .i64 a1] rfl (zE) ?_; (with_reducible refine (ratio_Int.calls kj2 a1 t488 t491 _ A25.out).mono ?_); rintro e w31 ⟨v489, v492, rfl, ho0, ho1, hb⟩; refine ⟨_, rfl, ?_⟩; have n0_ := Aside0.mk (Kd.V_lower (Kd.V_mono (ok' := fun k_ => k_ ≠ gb483) ho0 (fun k_ hk_ => (Kd.freshB (g := gb483) (o := .cells #[.slice A0_0 l0_0.length c0_0, .slice A0_1 l0_1.length c0_1] 24 (0, 0)) (zK BK483) k_ hk_))) (below_size (zB HB))); have n1_ := Aside0.mk (Kd.V_lower (Kd.V_mono (ok' := fun k_ => k_ ≠ gb483) ho1 (fun k_ hk_ => (Kd.freshB (g := gb483) (o := .cells #[.slice A0_0 l0_0.length c0_0, .slice A0_1 l0_1.length c0_1] 24 (0, 0)) (zK BK483) k_ hk_))) (below_size (zB HB))); have n2_ := Aside0.mk (blk_below (g := gb483) (o := .cells #[.slice A0_0 l0_0.length c0_0, .slice A0_1 l0_1.length c0_1] 24 (0, 0)) (zK BK483) hb); have n3_ := Aside0.mk (below_step (zB HB) hb); clear BK483; clear HB; have HO490 := n0_; have HO493 := n1_; have BK483 := n2_; have HB := n3_; clear n0_ n1_ n2_ n3_; (try clear hb); (try clear hb2); (try clear hk); (try clear hi); (try clear ho0); (try clear ho1)) | ((with_reducible refine gate_callee (f := 23) rfl ?_); refine goesL_ (some 40) rfl rfl Tryd.func23 (by kernel_rfl) rfl #[.int .i64 a1] rfl (zE) ?_; (with_reducible refine (roundelref03_Int.calls kj2 a1 t494 t497 _ A26.out).mono ?_); rintro e w32 ⟨v495, v498, rfl, ho0, ho1, hb⟩; refine ⟨_, rfl, ?_⟩; have n0_ := Aside0.mk (Kd.V_mono (Kd.V_told (Kd.V_told (Kd.V_old (zV HO490) hb) (Kd.R_base ho0)) (Kd.R_base ho1)) (fun _ h_ => h_.1)); have n1_ := Aside0.mk (Kd.V_mono (Kd.V_told (Kd.V_told (Kd.V_old (zV HO493) hb) (Kd.R_base ho0)) (Kd.R_base ho1)) (fun _ h_ => h_.1)); have n2_ := Aside0.mk (Kd.R_lower ho0 (below_size (zB HB))); have n3_ := Aside0.mk (Kd.R_lower ho1 (below_size (zB HB))); have n4_ := Aside0.mk (blk_below (g := gb483) (o := .cells #[.slice A0_0 l0_0.length c0_0, .slice A0_1 l0_1.length c0_1] 24 (0, 0)) (zK BK483) hb); have n5_ := Aside0.mk (below_step (zB HB) hb); clear HO490; clear HO493; clear BK483; clear HB; have HO490 := n0_; have HO493 := n1_; have HO496 := n2_; have HO499 := n3_; have BK483 := n4_; have HB := n5_; clear n0_ n1_ n2_ n3_ n4_ n5_; (try clear hb); (try clear hb2); (try clear hk); (try clear hi); (try clear ho0); (try clear ho1); obtain ⟨Ao33, co33, eo33⟩ := Kd.V_slice HO490.out; subst eo33; obtain ⟨Ao34, co34, eo34⟩ := Kd.V_slice HO493.out; subst eo34; obtain ⟨Ao35, co35, eo35⟩ := Kd.R_slice HO496.out; subst eo35; obtain ⟨Ao36, co36, eo36⟩ := Kd.R_slice HO499.out; subst eo36) | ((with_reducible refine gate_callee (f := 21) rfl ?_); refine goesL_ (some 41) rfl rfl Tryd.func21 (by kernel_rfl) rfl #[.agg #[.slice Ao33 t488.length co33, .slice Ao34 t491.length co34], .agg #[.slice Ao35 t494.length co35, .slice Ao36 t497.length co36]] rfl (zE) ?_; (with_reducible refine (roundellaw03_Is.calls kj2 _ _ t488 _ _ t491 _ _ t494 _ _ t497 true _ ?side1 ?side2 ?side3 ?side4 ?side5 ?side6 ?side7 ?side8 A27.out).mono ?_); (case side1 => repeat (first | exact (Kd.V_reads' HO490.out).2.2 | (with_reducible refine Kd.C_alloc ?_ _) | (with_reducible refine Kd.C_drewN ?_ _) | (with_reducible refine Kd.C_drew ?_))); (case side2 => exact (Kd.V_reads' HO490.out).2.1); (case side3 => repeat (first | exact (Kd.V_reads' HO493.out).2.2 | (with_reducible refine Kd.C_alloc ?_ _) | (with_reducible refine Kd.C_drewN ?_ _) | (with_reducible refine Kd.C_drew ?_))); (case side4 => exact (Kd.V_reads' HO493.out).2.1); (case side5 => repeat (first | exact (Kd.R_reads' HO496.out).2.2 | (with_reducible refine Kd.C_alloc ?_ _) | (with_reducible refine Kd.C_drewN ?_ _) | (with_reducible refine Kd.C_drew ?_))); (case side6 => exact (Kd.R_reads' HO496.out).2.1); (case side7 => repeat (first | exact (Kd.R_reads' HO499.out).2.2 | (with_reducible refine Kd.C_alloc ?_ _) | (with_reducible refine Kd.C_drewN ?_ _) | (with_reducible refine Kd.C_drew ?_))); (case side8 => exact (Kd.R_reads' HO499.out).2.1); rintro e w37 ⟨rfl, hb⟩; refine ⟨_, rfl, ?_⟩; have n0_ := Aside0.mk (Kd.V_below (zV HO490) hb); have n1_ := Aside0.mk (Kd.V_below (zV HO493) hb); have n2_ := Aside0.mk (Kd.R_below (zR HO496) hb); have n3_ := Aside0.mk (Kd.R_below (zR HO499) hb); have n4_ := Aside0.mk (blk_below (g := gb483) (o := .cells #[.slice A0_0 l0_0.length c0_0, .slice A0_1 l0_1.length c0_1] 24 (0, 0)) (zK BK483) hb); have n5_ := Aside0.mk (below_step (zB HB) hb); clear HO490; clear HO493; clear HO496; clear HO499; clear BK483; clear HB; have HO490 := n0_; have HO493 := n1_; have HO496 := n2_; have HO499 := n3_; have BK483 := n4_; have HB := n5_; clear n0_ n1_ n2_ n3_ n4_ n5_; (try clear hb); (try clear hb2); (try clear hk); (try clear hi)) | (go_at_call 22; (with_reducible refine (ratio_Int.calls kj2 a1 t501 t504 _ A29.out).mono ?_); rintro e w38 ⟨v502, v505, rfl, ho0, ho1, hb⟩; have n0_ := Aside0.mk (Kd.V_below (zV HO490) hb); have n1_ := Aside0.mk (Kd.V_below (zV HO493) hb); have n2_ := Aside0.mk (Kd.R_below (zR HO496) hb); have n3_ := Aside0.mk (Kd.R_below (zR HO499) hb); have n4_ := Aside0.mk (Kd.V_lower (Kd.V_mono (ok' := fun k_ => some k_ ≠ (.slice Ao35 t494.length co35 : Value).ownBlock ∧ some k_ ≠ (.slice Ao36 t497.length co36 : Value).ownBlock ∧ k_ ≠ gb483) ho0 (fun k_ hk_ => ⟨(Kd.fresh' (Kd.R_lt (zR HO496)) k_ hk_), (Kd.fresh' (Kd.R_lt (zR HO499)) k_ hk_), (Kd.freshB (g := gb483) (o := .cells #[.slice A0_0 l0_0.length c0_0, .slice A0_1 l0_1.length c0_1] 24 (0, 0)) (zK BK483) k_ hk_)⟩)) (below_size (zB HB))); have n5_ := Aside0.mk (Kd.V_lower (Kd.V_mono (ok' := fun k_ => some k_ ≠ (.slice Ao35 t494.length co35 : Value).ownBlock ∧ some k_ ≠ (.slice Ao36 t497.length co36 : Value).ownBlock ∧ k_ ≠ gb483) ho1 (fun k_ hk_ => ⟨(Kd.fresh' (Kd.R_lt (zR HO496)) k_ hk_), (Kd.fresh' (Kd.R_lt (zR HO499)) k_ hk_), (Kd.freshB (g := gb483) (o := .cells #[.slice A0_0 l0_0.length c0_0, .slice A0_1 l0_1.length c0_1] 24 (0, 0)) (zK BK483) k_ hk_)⟩)) (below_size (zB HB))); have n6_ := Aside0.mk (blk_below (g := gb483) (o := .cells #[.slice A0_0 l0_0.length c0_0, .slice A0_1 l0_1.length c0_1] 24 (0, 0)) (zK BK483) hb); have n7_ := Aside0.mk (below_step (zB HB) hb); clear HO490; clear HO493; clear HO496; clear HO499; clear BK483; clear HB; have HO490 := n0_; have HO493 := n1_; have HO496 := n2_; have HO499 := n3_; have HO503 := n4_; have HO506 := n5_; have BK483 := n6_; have HB := n7_; clear n0_ n1_ n2_ n3_ n4_ n5_ n6_ n7_; (try clear hb); (try clear hb2); (try clear hk); (try clear hi); (try clear ho0); (try clear ho1); obtain ⟨Ao39, co39, eo39⟩ := Kd.V_slice HO503.out; subst eo39; obtain ⟨Ao40, co40, eo40⟩ := Kd.V_slice HO506.out; subst eo40) | (go_at_call 16; (with_reducible refine (ratio_Ratio_Good.calls kj2 _ _ t501 _ _ t504 t507 _ ?side1 ?side2 ?side3 ?side4 A30.out).mono ?_); (case side1 => repeat (first | exact (Kd.V_reads' HO503.out).2.2 | (with_reducible refine Kd.C_alloc ?_ _) | (with_reducible refine Kd.C_drewN ?_ _) | (with_reducible refine Kd.C_drew ?_))); (case side2 => exact (Kd.V_reads' HO503.out).2.1); (case side3 => repeat (first | exact (Kd.V_reads' HO506.out).2.2 | (with_reducible refine Kd.C_alloc ?_ _) | (with_reducible refine Kd.C_drewN ?_ _) | (with_reducible refine Kd.C_drew ?_))); (case side4 => exact (Kd.V_reads' HO506.out).2.1); rintro e w41 ⟨rfl, hb⟩; have n0_ := Aside0.mk (Kd.V_below (zV HO490) hb); have n1_ := Aside0.mk (Kd.V_below (zV HO493) hb); have n2_ := Aside0.mk (Kd.R_below (zR HO496) hb); have n3_ := Aside0.mk (Kd.R_below (zR HO499) hb); have n4_ := Aside0.mk (Kd.V_below (zV HO503) hb); have n5_ := Aside0.mk (Kd.V_below (zV HO506) hb); have n6_ := Aside0.mk (blk_below (g := gb483) (o := .cells #[.slice A0_0 l0_0.length c0_0, .slice A0_1 l0_1.length c0_1] 24 (0, 0)) (zK BK483) hb); have n7_ := Aside0.mk (below_step (zB HB) hb); clear HO490; clear HO493; clear HO496; clear HO499; clear HO503; clear HO506; clear BK483; clear HB; have HO490 := n0_; have HO493 := n1_; have HO496 := n2_; have HO499 := n3_; have HO503 := n4_; have HO506 := n5_; have BK483 := n6_; have HB := n7_; clear n0_ n1_ n2_ n3_ n4_ n5_ n6_ n7_; (try clear hb); (try clear hb2); (try clear hk); (try clear hi)))
      go_meet
      case rel => exact ⟨_, (!t507), (zF), H', ⟨by have := HJ2.out; first | omega | exact Nat.le_refl _⟩, ⟨zK BK483⟩, ⟨zB HB⟩⟩
     ·
      replace c28 := Bool.eq_false_iff.mpr c28
      subst c28
      have H1 : (roundellaw03_RatioOf.j1 kj2 true l0_0 l0_1) = some r := by rw [if_neg (show ¬ (false = true) by decide)] at H; exact H
      clear H
      have H := H1
      clear H1
      have H' := Aside0.mk H
      clear H
      go_wp2_with (first | ((with_reducible refine gate_callee (f := 22) rfl ?_); refine goesL_ (some 38) rfl rfl Tryd.func22 (by kernel_rfl) rfl #[.int .i64 a1] rfl (zE) ?_; (with_reducible refine (ratio_Int.calls kj2 a1 t488 t491 _ A25.out).mono ?_); rintro e w42 ⟨v489, v492, rfl, ho0, ho1, hb⟩; refine ⟨_, rfl, ?_⟩; have n0_ := Aside0.mk (Kd.V_lower (Kd.V_mono (ok' := fun k_ => k_ ≠ gb483) ho0 (fun k_ hk_ => (Kd.freshB (g := gb483) (o := .cells #[.slice A0_0 l0_0.length c0_0, .slice A0_1 l0_1.length c0_1] 24 (0, 0)) (zK BK483) k_ hk_))) (below_size (zB HB))); have n1_ := Aside0.mk (Kd.V_lower (Kd.V_mono (ok' := fun k_ => k_ ≠ gb483) ho1 (fun k_ hk_ => (Kd.freshB (g := gb483) (o := .cells #[.slice A0_0 l0_0.length c0_0, .slice A0_1 l0_1.length c0_1] 24 (0, 0)) (zK BK483) k_ hk_))) (below_size (zB HB))); have n2_ := Aside0.mk (blk_below (g := gb483) (o := .cells #[.slice A0_0 l0_0.length c0_0, .slice A0_1 l0_1.length c0_1] 24 (0, 0)) (zK BK483) hb); have n3_ := Aside0.mk (below_step (zB HB) hb); clear BK483; clear HB; have HO490 := n0_; have HO493 := n1_; have BK483 := n2_; have HB := n3_; clear n0_ n1_ n2_ n3_; (try clear hb); (try clear hb2); (try clear hk); (try clear hi); (try clear ho0); (try clear ho1)) | ((with_reducible refine gate_callee (f := 23) rfl ?_); refine goesL_ (some 40) rfl rfl Tryd.func23 (by kernel_rfl) rfl #[.int .i64 a1] rfl (zE) ?_; (with_reducible refine (roundelref03_Int.calls kj2 a1 t494 t497 _ A26.out).mono ?_); rintro e w43 ⟨v495, v498, rfl, ho0, ho1, hb⟩; refine ⟨_, rfl, ?_⟩; have n0_ := Aside0.mk (Kd.V_mono (Kd.V_told (Kd.V_told (Kd.V_old (zV HO490) hb) (Kd.R_base ho0)) (Kd.R_base ho1)) (fun _ h_ => h_.1)); have n1_ := Aside0.mk (Kd.V_mono (Kd.V_told (Kd.V_told (Kd.V_old (zV HO493) hb) (Kd.R_base ho0)) (Kd.R_base ho1)) (fun _ h_ => h_.1)); have n2_ := Aside0.mk (Kd.R_lower ho0 (below_size (zB HB))); have n3_ := Aside0.mk (Kd.R_lower ho1 (below_size (zB HB))); have n4_ := Aside0.mk (blk_below (g := gb483) (o := .cells #[.slice A0_0 l0_0.length c0_0, .slice A0_1 l0_1.length c0_1] 24 (0, 0)) (zK BK483) hb); have n5_ := Aside0.mk (below_step (zB HB) hb); clear HO490; clear HO493; clear BK483; clear HB; have HO490 := n0_; have HO493 := n1_; have HO496 := n2_; have HO499 := n3_; have BK483 := n4_; have HB := n5_; clear n0_ n1_ n2_ n3_ n4_ n5_; (try clear hb); (try clear hb2); (try clear hk); (try clear hi); (try clear ho0); (try clear ho1); obtain ⟨Ao44, co44, eo44⟩ := Kd.V_slice HO490.out; subst eo44; obtain ⟨Ao45, co45, eo45⟩ := Kd.V_slice HO493.out; subst eo45; obtain ⟨Ao46, co46, eo46⟩ := Kd.R_slice HO496.out; subst eo46; obtain ⟨Ao47, co47, eo47⟩ := Kd.R_slice HO499.out; subst eo47) | ((with_reducible refine gate_callee (f := 21) rfl ?_); refine goesL_ (some 41) rfl rfl Tryd.func21 (by kernel_rfl) rfl #[.agg #[.slice Ao44 t488.length co44, .slice Ao45 t491.length co45], .agg #[.slice Ao46 t494.length co46, .slice Ao47 t497.length co47]] rfl (zE) ?_; (with_reducible refine (roundellaw03_Is.calls kj2 _ _ t488 _ _ t491 _ _ t494 _ _ t497 false _ ?side1 ?side2 ?side3 ?side4 ?side5 ?side6 ?side7 ?side8 A27.out).mono ?_); (case side1 => repeat (first | exact (Kd.V_reads' HO490.out).2.2 | (with_reducible refine Kd.C_alloc ?_ _) | (with_reducible refine Kd.C_drewN ?_ _) | (with_reducible refine Kd.C_drew ?_))); (case side2 => exact (Kd.V_reads' HO490.out).2.1); (case side3 => repeat (first | exact (Kd.V_reads' HO493.out).2.2 | (with_reducible refine Kd.C_alloc ?_ _) | (with_reducible refine Kd.C_drewN ?_ _) | (with_reducible refine Kd.C_drew ?_))); (case side4 => exact (Kd.V_reads' HO493.out).2.1); (case side5 => repeat (first | exact (Kd.R_reads' HO496.out).2.2 | (with_reducible refine Kd.C_alloc ?_ _) | (with_reducible refine Kd.C_drewN ?_ _) | (with_reducible refine Kd.C_drew ?_))); (case side6 => exact (Kd.R_reads' HO496.out).2.1); (case side7 => repeat (first | exact (Kd.R_reads' HO499.out).2.2 | (with_reducible refine Kd.C_alloc ?_ _) | (with_reducible refine Kd.C_drewN ?_ _) | (with_reducible refine Kd.C_drew ?_))); (case side8 => exact (Kd.R_reads' HO499.out).2.1); rintro e w48 ⟨rfl, hb⟩; refine ⟨_, rfl, ?_⟩; have n0_ := Aside0.mk (Kd.V_below (zV HO490) hb); have n1_ := Aside0.mk (Kd.V_below (zV HO493) hb); have n2_ := Aside0.mk (Kd.R_below (zR HO496) hb); have n3_ := Aside0.mk (Kd.R_below (zR HO499) hb); have n4_ := Aside0.mk (blk_below (g := gb483) (o := .cells #[.slice A0_0 l0_0.length c0_0, .slice A0_1 l0_1.length c0_1] 24 (0, 0)) (zK BK483) hb); have n5_ := Aside0.mk (below_step (zB HB) hb); clear HO490; clear HO493; clear HO496; clear HO499; clear BK483; clear HB; have HO490 := n0_; have HO493 := n1_; have HO496 := n2_; have HO499 := n3_; have BK483 := n4_; have HB := n5_; clear n0_ n1_ n2_ n3_ n4_ n5_; (try clear hb); (try clear hb2); (try clear hk); (try clear hi)))
      go_meet
      case rel => exact ⟨_, (true), (zF), H', ⟨by have := HJ2.out; first | omega | exact Nat.le_refl _⟩, ⟨zK BK483⟩, ⟨zB HB⟩⟩
    case rest =>
     clear HC24
     try clear c1
     try clear c2
     try clear p2
     try clear c4
     try clear c6
     try clear p6
     try clear c7
     try clear c7b0
     try clear c7b1
     try clear c10
     try clear c10b0
     try clear c10b1
     try clear c14
     try clear c21
     try clear c22
     try clear c23
     try clear c28
     try clear hcz12_0
     try clear hcz12_1
     try clear hcz17_0
     try clear hcz17_1
     try clear hcz19_0
     try clear hcz19_1
     try clear hcz9_0
     try clear hcz9_1
     try clear hfz12_0
     try clear hfz12_1
     try clear hfz17_0
     try clear hfz17_1
     try clear hfz19_0
     try clear hfz19_1
     try clear hfz9_0
     try clear hfz9_1
     try clear p2
     try clear p6
     obtain ⟨kq, x48_23, rfl, HA, HJ23, BK483, HB⟩ := hcut
     cases kq with
     | zero => exact absurd HA.out (by simp [roundellaw03_RatioOf.j1])
     | succ kj23 =>
      have H := HA.out
      clear HA
      simp only [roundellaw03_RatioOf.j1] at H
      by_cases c49 : x48_23 = true
      ·
       subst c49
       have H1 : (none) = some r := by rw [if_pos rfl] at H; exact H
       clear H
       have H := H1
       clear H1
       exact absurd H (by simp)
      ·
       replace c49 := Bool.eq_false_iff.mpr c49
       subst c49
       have H1 : (if (l0_1.length : Int) = 0 then ((some (([] : List Int) : List Int)).bind fun y508 => (if y508.length + l0_0.length < 17592186044416 then ((ratio_Of.f kj23 (y508 ++ l0_0) ([] : List Int)).bind fun bt514 => (if bt514.2.2 = 16 then (if (bt514.1.length : Int) = 0 then (some ((bt514.2.1.length : Int) == 0)) else (none)) else (none))) else (none))) else ((roundellaw03_made.f kj23 l0_0 l0_1).bind fun bt522 => (if bt522.2.2.2.2 = true then ((roundellaw03_Is.f kj23 bt522.1 bt522.2.1 bt522.2.2.1 bt522.2.2.2.1).bind fun t537 => (if t537 = true then ((ratio_Ratio_Good.f kj23 bt522.1 bt522.2.1).bind fun t538 => (if t538 = true then ((ratio_Ratio_Floor.f kj23 bt522.1 bt522.2.1).bind fun t539 => ((roundelref03_Floor.f kj23 bt522.2.2.1 bt522.2.2.2.1).bind fun t542 => ((roundellaw02_Is.f kj23 t539 t542).bind fun t545 => (some t545)))) else (none))) else (none))) else (none)))) = some r := by rw [if_neg (show ¬ (false = true) by decide)] at H; exact H
       clear H
       have H := H1
       clear H1
       by_cases c50 : (l0_1.length : Int) = 0
       ·
        rw [if_pos c50] at H
        have c50b0 : ((l0_1.length : Int) == 0) = true := beq_iff_eq.mpr c50
        have c50b1 : ((l0_1.length : Int) != 0) = false := bne_eq_false_iff_eq.mpr c50
        clear c50
        obtain ⟨y508, hy508⟩ : ∃ y_ : List Int, y_ = (([] : List Int)) := ⟨_, rfl⟩
        replace H : (if y508.length + l0_0.length < 17592186044416 then ((ratio_Of.f kj23 (y508 ++ l0_0) ([] : List Int)).bind fun bt514 => (if bt514.2.2 = 16 then (if (bt514.1.length : Int) = 0 then (some ((bt514.2.1.length : Int) == 0)) else (none)) else (none))) else (none)) = some r := by first | (rw [hy508]; with_reducible exact H) | (have H2_ := (Option.bind_some _ _).symm.trans H; rw [hy508]; with_reducible exact H2_) | (have H2_ := (Option.bind_some _ _).symm.trans H; with_reducible exact H2_) | with_reducible exact H | (rw [hy508]; exact H) | exact H
        have Ny508 := Aside0.mk hy508
        clear hy508
        by_cases c51 : y508.length + l0_0.length < 17592186044416
        ·
         rw [if_pos c51] at H
         have LMc51 := Aside0.mk c51
         clear c51
         obtain ⟨y511, hy511⟩ : ∃ y_ : List Int, y_ = (y508 ++ l0_0) := ⟨_, rfl⟩
         replace H : ((ratio_Of.f kj23 y511 ([] : List Int)).bind fun bt514 => (if bt514.2.2 = 16 then (if (bt514.1.length : Int) = 0 then (some ((bt514.2.1.length : Int) == 0)) else (none)) else (none))) = some r := by first | (rw [hy511]; with_reducible exact H) | (have H2_ := (Option.bind_some _ _).symm.trans H; rw [hy511]; with_reducible exact H2_) | (have H2_ := (Option.bind_some _ _).symm.trans H; with_reducible exact H2_) | with_reducible exact H | (rw [hy511]; exact H) | exact H
         have Ny511 := Aside0.mk hy511
         clear hy511
         replace H := Option.bind_eq_some_iff.mp H
         obtain ⟨⟨t514, t517, t520⟩, A520, H⟩ := H
         replace H : (if t520 = 16 then (if (t514.length : Int) = 0 then (some ((t517.length : Int) == 0)) else (none)) else (none)) = some r := H
         have A52 := Aside0.mk A520
         clear A520
         by_cases c53 : t520 = 16
         ·
          rw [if_pos c53] at H
          have c53b0 : (t520 == 16) = true := beq_iff_eq.mpr c53
          have c53b1 : (t520 != 16) = false := bne_eq_false_iff_eq.mpr c53
          clear c53
          by_cases c54 : (t514.length : Int) = 0
          ·
           rw [if_pos c54] at H
           have c54b0 : ((t514.length : Int) == 0) = true := beq_iff_eq.mpr c54
           have c54b1 : ((t514.length : Int) != 0) = false := bne_eq_false_iff_eq.mpr c54
           clear c54
           obtain rfl := Option.some.inj H
           have hcz55_0 : wc.cell? ⟨gb483, 0, none⟩ = some (.slice A0_0 l0_0.length c0_0) := (blk_cell BK483.out 0).trans rfl
           have hcz55_1 : wc.cell? ⟨gb483, 1, none⟩ = some (.slice A0_1 l0_1.length c0_1) := (blk_cell BK483.out 1).trans rfl
           have hfz55_0 := blk_frozen BK483.out 0
           have hfz55_1 := blk_frozen BK483.out 1
           go_wp2_with (first | ((with_reducible refine gate_dst (N := 54) rfl ?_); (try (refine gate_guard (by rfl) ?_; dsimp only)); refine Kd.R_lit (Kd.int .u64) _ 57 ?hg (N := 54) ?hd (xs := ([] : List Int)) (inner := []) (ok := fun _ => True) (okp := fun _ => True) ?hr ?hp (fun _ hk => hk) trivial (Below.refl _ _) (Nat.le_refl _) (by simp) ?_; (case hd => rfl); (case hg => rfl); (case hr => first | (go_simp; done) | (go_simp; rfl)); (case hp => exact (Reps.none _ _)); intro v509 w56 ho57 hb hg_ hnew_; clear hg_ hnew_; (first | rw [← Ny508.out] at ho57 | (simp only [Int.reduceToNat] at ho57; rw [← Ny508.out] at ho57)); have n0_ := Aside0.mk (Kd.R_lower ho57 (below_size (zB HB))); have n1_ := Aside0.mk (blk_below (g := gb483) (o := .cells #[.slice A0_0 l0_0.length c0_0, .slice A0_1 l0_1.length c0_1] 24 (0, 0)) (zK BK483) hb); have n2_ := Aside0.mk (below_step (zB HB) hb); clear BK483; clear HB; have HO510 := n0_; have BK483 := n1_; have HB := n2_; clear n0_ n1_ n2_; clear hb ho57; have hcz58_0 : w56.cell? ⟨gb483, 0, none⟩ = some (.slice A0_0 l0_0.length c0_0) := (blk_cell BK483.out 0).trans rfl; have hcz58_1 : w56.cell? ⟨gb483, 1, none⟩ = some (.slice A0_1 l0_1.length c0_1) := (blk_cell BK483.out 1).trans rfl; have hfz58_0 := blk_frozen BK483.out 0; have hfz58_1 := blk_frozen BK483.out 1) | ((with_reducible refine gate_builtin (b := .append) (xs := #[.tmp 54, .tmp 56]) rfl ?_); (try (refine gate_guard (by rfl) ?_; dsimp only)); at_builtin; refine R_append_rows2_ (Kd.int .u64) (w0 := w) w.heap.size rfl (.tmp 54) (.tmp 56) 26 22 57 (.int .u64 0) 8 rfl Tryd.underlying26 Tryd.underlying22 info57 rfl (by decide) (by omega) v509 y508 l0_0 _ _ _ (fun _ => True) (fun _ => False) rfl rfl ?aO ?aR (fun _ _ h => h) (fun _ h => h.elim) ?aF ?aB ?aS ?aL ?_; (case aR => repeat (first | exact (Kd.C_below HR0_0.out HB.out) | (with_reducible refine Kd.C_alloc ?_ _) | (with_reducible refine Kd.C_drewN ?_ _) | (with_reducible refine Kd.C_drew ?_))); (case aB => exact (zB HB)); (case aF => exact (fun _ _ => trivial)); (case aO => exact (zR HO510)); (case aS => exact (below_size (zB HB))); (case aL => have := LMc51.out; omega); intro v512 w59 ho hb hg hat; rw [← Ny511.out] at ho; have n0_ := Aside0.mk (blk_grown (g := gb483) (o := .cells #[.slice A0_0 l0_0.length c0_0, .slice A0_1 l0_1.length c0_1] 24 (0, 0)) (zK BK483) hg (Kd.R_ne HO510.out BK483.out (by decide))); have n1_ := Aside0.mk (hb); have n2_ := Aside0.mk (ho); clear BK483; clear HB; clear HO510; have BK483 := n0_; have HB := n1_; have HO513 := n2_; clear n0_ n1_ n2_; clear ho hb hg hat; obtain ⟨Ao60, co60, eo60⟩ := Kd.R_slice HO513.out; subst eo60) | ((with_reducible refine gate_callee (f := 24) rfl ?_); refine goesL_ (some 58) rfl rfl Tryd.func24 (by kernel_rfl) rfl #[.slice Ao60 y511.length co60, .slice none 0 0] rfl (zE) ?_; (refine (ratio_Of.calls kj23 _ _ y511 _ _ ([] : List Int) t514 t517 t520 _ ?side1 ?side2 ?side3 ?side4 A52.out).mono ?_); (case side1 => repeat (first | exact (Kd.R_reads' HO513.out).2.2 | (with_reducible refine Kd.C_alloc ?_ _) | (with_reducible refine Kd.C_drewN ?_ _) | (with_reducible refine Kd.C_drew ?_))); (case side2 => exact (Kd.R_reads' HO513.out).2.1); (case side3 => exact Kd.C_nil _ _); (case side4 => exact Nat.le_refl _); rintro e w61 ⟨v515, v518, rfl, ho0, ho1, hb⟩; refine ⟨_, rfl, ?_⟩; have n0_ := Aside0.mk (Kd.R_below (zR HO513) hb); have n1_ := Aside0.mk (Kd.V_lower (Kd.V_mono (ok' := fun k_ => some k_ ≠ (.slice Ao60 y511.length co60 : Value).ownBlock ∧ k_ ≠ gb483) ho0 (fun k_ hk_ => ⟨(Kd.fresh' (Kd.R_lt (zR HO513)) k_ hk_), (Kd.freshB (g := gb483) (o := .cells #[.slice A0_0 l0_0.length c0_0, .slice A0_1 l0_1.length c0_1] 24 (0, 0)) (zK BK483) k_ hk_)⟩)) (below_size (zB HB))); have n2_ := Aside0.mk (Kd.V_lower (Kd.V_mono (ok' := fun k_ => some k_ ≠ (.slice Ao60 y511.length co60 : Value).ownBlock ∧ k_ ≠ gb483) ho1 (fun k_ hk_ => ⟨(Kd.fresh' (Kd.R_lt (zR HO513)) k_ hk_), (Kd.freshB (g := gb483) (o := .cells #[.slice A0_0 l0_0.length c0_0, .slice A0_1 l0_1.length c0_1] 24 (0, 0)) (zK BK483) k_ hk_)⟩)) (below_size (zB HB))); have n3_ := Aside0.mk (blk_below (g := gb483) (o := .cells #[.slice A0_0 l0_0.length c0_0, .slice A0_1 l0_1.length c0_1] 24 (0, 0)) (zK BK483) hb); have n4_ := Aside0.mk (below_step (zB HB) hb); clear HO513; clear BK483; clear HB; have HO513 := n0_; have HO516 := n1_; have HO519 := n2_; have BK483 := n3_; have HB := n4_; clear n0_ n1_ n2_ n3_ n4_; (try clear hb); (try clear hb2); (try clear hk); (try clear hi); (try clear ho0); (try clear ho1)) | ((with_reducible refine gate_dst (N := 5) rfl ?_); (try (refine gate_guard (by rfl) ?_; dsimp only)); refine box_event ?hg (N := 5) ?hd (cs := #[.slice none 0 0, .slice none 0 0]) (t := 28) ?hr ?_; (case hd => rfl); (case hg => rfl); (case hr => first | (go_simp; done) | (go_simp; rfl)); intro gb521 hg w62 hbox hb; have n0_ := Aside0.mk (Kd.R_below (zR HO513) hb); have n1_ := Aside0.mk (Kd.V_below (Kd.V_elderB (zV HO516) gb521 (Nat.le_of_eq hg.symm)) hb); have n2_ := Aside0.mk (Kd.V_below (Kd.V_elderB (zV HO519) gb521 (Nat.le_of_eq hg.symm)) hb); have n3_ := Aside0.mk (blk_below (g := gb483) (o := .cells #[.slice A0_0 l0_0.length c0_0, .slice A0_1 l0_1.length c0_1] 24 (0, 0)) (zK BK483) hb); have n4_ := Aside0.mk (below_step (zB HB) hb); have n5_ := Aside0.mk (hbox); have n6_ := Aside0.mk ((by rw [hg]; exact (below_size (zB HB)) : w.heap.size ≤ gb521)); have n7_ := Aside0.mk ((by rw [hg]; exact (below_size (zB HB)) : w.heap.size ≤ gb521)); have n8_ := Aside0.mk ((by rw [hg]; exact Nat.ne_of_lt (blk_lt (g := gb483) (o := .cells #[.slice A0_0 l0_0.length c0_0, .slice A0_1 l0_1.length c0_1] 24 (0, 0)) (zK BK483)) : gb483 ≠ gb521)); have n9_ := Aside0.mk ((by rw [hg]; exact Nat.ne_of_gt (blk_lt (g := gb483) (o := .cells #[.slice A0_0 l0_0.length c0_0, .slice A0_1 l0_1.length c0_1] 24 (0, 0)) (zK BK483)) : gb521 ≠ gb483)); clear HO513; clear HO516; clear HO519; clear BK483; clear HB; have HO513 := n0_; have HO516 := n1_; have HO519 := n2_; have BK483 := n3_; have HB := n4_; have BK521 := n5_; have GW521 := n6_; have GE521 := n7_; have NB483_521 := n8_; have NB521_483 := n9_; clear n0_ n1_ n2_ n3_ n4_ n5_ n6_ n7_ n8_ n9_; clear hb hbox hg; obtain ⟨Ao63, co63, eo63⟩ := Kd.V_slice HO516.out; subst eo63; have hnb64 := NB521_483.out; have hnc64 := NB483_521.out; have hcz65_0 : w62.cell? ⟨gb521, 0, none⟩ = some (.slice none 0 0) := (blk_cell BK521.out 0).trans rfl; have hcz65_1 : w62.cell? ⟨gb521, 1, none⟩ = some (.slice none 0 0) := (blk_cell BK521.out 1).trans rfl; have hfz65_0 := blk_frozen BK521.out 0; have hfz65_1 := blk_frozen BK521.out 1; obtain ⟨Ao66, co66, eo66⟩ := Kd.V_slice HO519.out; subst eo66))
           go_ret
           exact ⟨zW, zB HB⟩
          ·
           rw [if_neg c54] at H
           exact absurd H (by simp)
         ·
          rw [if_neg c53] at H
          exact absurd H (by simp)
        ·
         rw [if_neg c51] at H
         exact absurd H (by simp)
       ·
        rw [if_neg c50] at H
        have c50b0 : ((l0_1.length : Int) == 0) = false := beq_eq_false_iff_ne.mpr c50
        have c50b1 : ((l0_1.length : Int) != 0) = true := bne_iff_ne.mpr c50
        have c50b2 : ¬ (l0_1 = []) := fun h_ => c50 (by rw [h_]; rfl)
        replace H := Option.bind_eq_some_iff.mp H
        obtain ⟨⟨t522, t525, t528, t531, t534⟩, A670, H⟩ := H
        replace H : (if t534 = true then ((roundellaw03_Is.f kj23 t522 t525 t528 t531).bind fun t537 => (if t537 = true then ((ratio_Ratio_Good.f kj23 t522 t525).bind fun t538 => (if t538 = true then ((ratio_Ratio_Floor.f kj23 t522 t525).bind fun t539 => ((roundelref03_Floor.f kj23 t528 t531).bind fun t542 => ((roundellaw02_Is.f kj23 t539 t542).bind fun t545 => (some t545)))) else (none))) else (none))) else (none)) = some r := H
        have A67 := Aside0.mk A670
        clear A670
        by_cases c68 : t534 = true
        ·
         subst c68
         have H1 : ((roundellaw03_Is.f kj23 t522 t525 t528 t531).bind fun t537 => (if t537 = true then ((ratio_Ratio_Good.f kj23 t522 t525).bind fun t538 => (if t538 = true then ((ratio_Ratio_Floor.f kj23 t522 t525).bind fun t539 => ((roundelref03_Floor.f kj23 t528 t531).bind fun t542 => ((roundellaw02_Is.f kj23 t539 t542).bind fun t545 => (some t545)))) else (none))) else (none))) = some r := by rw [if_pos rfl] at H; exact H
         clear H
         have H := H1
         clear H1
         replace H := Option.bind_eq_some_iff.mp H
         obtain ⟨t537, A690, H⟩ := H
         replace H : (if t537 = true then ((ratio_Ratio_Good.f kj23 t522 t525).bind fun t538 => (if t538 = true then ((ratio_Ratio_Floor.f kj23 t522 t525).bind fun t539 => ((roundelref03_Floor.f kj23 t528 t531).bind fun t542 => ((roundellaw02_Is.f kj23 t539 t542).bind fun t545 => (some t545)))) else (none))) else (none)) = some r := H
         have A69 := Aside0.mk A690
         clear A690
         by_cases c70 : t537 = true
         ·
          subst c70
          have H1 : ((ratio_Ratio_Good.f kj23 t522 t525).bind fun t538 => (if t538 = true then ((ratio_Ratio_Floor.f kj23 t522 t525).bind fun t539 => ((roundelref03_Floor.f kj23 t528 t531).bind fun t542 => ((roundellaw02_Is.f kj23 t539 t542).bind fun t545 => (some t545)))) else (none))) = some r := by rw [if_pos rfl] at H; exact H
          clear H
          have H := H1
          clear H1
          replace H := Option.bind_eq_some_iff.mp H
          obtain ⟨t538, A710, H⟩ := H
          replace H : (if t538 = true then ((ratio_Ratio_Floor.f kj23 t522 t525).bind fun t539 => ((roundelref03_Floor.f kj23 t528 t531).bind fun t542 => ((roundellaw02_Is.f kj23 t539 t542).bind fun t545 => (some t545)))) else (none)) = some r := H
          have A71 := Aside0.mk A710
          clear A710
          by_cases c72 : t538 = true
          ·
           subst c72
           have H1 : ((ratio_Ratio_Floor.f kj23 t522 t525).bind fun t539 => ((roundelref03_Floor.f kj23 t528 t531).bind fun t542 => ((roundellaw02_Is.f kj23 t539 t542).bind fun t545 => (some t545)))) = some r := by rw [if_pos rfl] at H; exact H
           clear H
           have H := H1
           clear H1
           replace H := Option.bind_eq_some_iff.mp H
           obtain ⟨t539, A730, H⟩ := H
           replace H : ((roundelref03_Floor.f kj23 t528 t531).bind fun t542 => ((roundellaw02_Is.f kj23 t539 t542).bind fun t545 => (some t545))) = some r := H
           have A73 := Aside0.mk A730
           clear A730
           replace H := Option.bind_eq_some_iff.mp H
           obtain ⟨t542, A740, H⟩ := H
           replace H : ((roundellaw02_Is.f kj23 t539 t542).bind fun t545 => (some t545)) = some r := H
           have A74 := Aside0.mk A740
           clear A740
           replace H := Option.bind_eq_some_iff.mp H
           obtain ⟨t545, A750, H⟩ := H
           replace H : (some t545) = some r := H
           have A75 := Aside0.mk A750
           clear A750
           obtain rfl := Option.some.inj H
           have hcz76_0 : wc.cell? ⟨gb483, 0, none⟩ = some (.slice A0_0 l0_0.length c0_0) := (blk_cell BK483.out 0).trans rfl
           have hcz76_1 : wc.cell? ⟨gb483, 1, none⟩ = some (.slice A0_1 l0_1.length c0_1) := (blk_cell BK483.out 1).trans rfl
           have hfz76_0 := blk_frozen BK483.out 0
           have hfz76_1 := blk_frozen BK483.out 1
           try go_wp2_with (first | ((with_reducible refine gate_callee (f := 25) rfl ?_); refine goesL_ (some 77) rfl rfl Tryd.func25 (by kernel_rfl) rfl #[.agg #[.slice A0_0 l0_0.length c0_0, .slice A0_1 l0_1.length c0_1]] rfl (zE) ?_; (with_reducible refine (roundellaw03_made.calls kj23 _ _ l0_0 _ _ l0_1 t522 t525 t528 t531 true _ ?side1 ?side2 ?side3 ?side4 A67.out).mono ?_); (case side1 => repeat (first | exact (Kd.C_below HR0_0.out HB.out) | (with_reducible refine Kd.C_alloc ?_ _) | (with_reducible refine Kd.C_drewN ?_ _) | (with_reducible refine Kd.C_drew ?_))); (case side2 => exact HC0_0.out); (case side3 => repeat (first | exact (Kd.C_below HR0_1.out HB.out) | (with_reducible refine Kd.C_alloc ?_ _) | (with_reducible refine Kd.C_drewN ?_ _) | (with_reducible refine Kd.C_drew ?_))); (case side4 => exact HC0_1.out); rintro e w77 ⟨v523, v526, v529, v532, rfl, ho0, ho1, ho2, ho3, hb⟩; refine ⟨_, rfl, ?_⟩; have n0_ := Aside0.mk (Kd.V_lower (Kd.V_mono (ok' := fun k_ => some k_ ≠ (v529 : Value).ownBlock ∧ some k_ ≠ (v532 : Value).ownBlock ∧ k_ ≠ gb483) ho0 (fun k_ hk_ => ⟨hk_.2.1, hk_.2.2, (Kd.freshB (g := gb483) (o := .cells #[.slice A0_0 l0_0.length c0_0, .slice A0_1 l0_1.length c0_1] 24 (0, 0)) (zK BK483) k_ hk_.1)⟩)) (below_size (zB HB))); have n1_ := Aside0.mk (Kd.V_lower (Kd.V_mono (ok' := fun k_ => some k_ ≠ (v529 : Value).ownBlock ∧ some k_ ≠ (v532 : Value).ownBlock ∧ k_ ≠ gb483) ho1 (fun k_ hk_ => ⟨hk_.2.1, hk_.2.2, (Kd.freshB (g := gb483) (o := .cells #[.slice A0_0 l0_0.length c0_0, .slice A0_1 l0_1.length c0_1] 24 (0, 0)) (zK BK483) k_ hk_.1)⟩)) (below_size (zB HB))); have n2_ := Aside0.mk (Kd.R_lower (Kd.R_mono (ok' := fun k_ => some k_ ≠ (v532 : Value).ownBlock) ho2 (fun _ hk_ => hk_.2)) (below_size (zB HB))); have n3_ := Aside0.mk (Kd.R_lower (Kd.R_mono (ok' := fun k_ => some k_ ≠ (v529 : Value).ownBlock) ho3 (fun _ hk_ => hk_.2)) (below_size (zB HB))); have n4_ := Aside0.mk (blk_below (g := gb483) (o := .cells #[.slice A0_0 l0_0.length c0_0, .slice A0_1 l0_1.length c0_1] 24 (0, 0)) (zK BK483) hb); have n5_ := Aside0.mk (below_step (zB HB) hb); clear BK483; clear HB; have HO524 := n0_; have HO527 := n1_; have HO530 := n2_; have HO533 := n3_; have BK483 := n4_; have HB := n5_; clear n0_ n1_ n2_ n3_ n4_ n5_; (try clear hb); (try clear hb2); (try clear hk); (try clear hi); (try clear ho0); (try clear ho1); (try clear ho2); (try clear ho3)) | ((with_reducible refine gate_dst (N := 7) rfl ?_); (try (refine gate_guard (by rfl) ?_; dsimp only)); refine box_event ?hg (N := 7) ?hd (cs := #[.slice none 0 0, .slice none 0 0]) (t := 28) ?hr ?_; (case hd => rfl); (case hg => rfl); (case hr => first | (go_simp; done) | (go_simp; rfl)); intro gb535 hg w78 hbox hb; have n0_ := Aside0.mk (Kd.V_below (Kd.V_elderB (zV HO524) gb535 (Nat.le_of_eq hg.symm)) hb); have n1_ := Aside0.mk (Kd.V_below (Kd.V_elderB (zV HO527) gb535 (Nat.le_of_eq hg.symm)) hb); have n2_ := Aside0.mk (Kd.R_below (zR HO530) hb); have n3_ := Aside0.mk (Kd.R_below (zR HO533) hb); have n4_ := Aside0.mk (blk_below (g := gb483) (o := .cells #[.slice A0_0 l0_0.length c0_0, .slice A0_1 l0_1.length c0_1] 24 (0, 0)) (zK BK483) hb); have n5_ := Aside0.mk (below_step (zB HB) hb); have n6_ := Aside0.mk (hbox); have n7_ := Aside0.mk ((by rw [hg]; exact (below_size (zB HB)) : w.heap.size ≤ gb535)); have n8_ := Aside0.mk ((by rw [hg]; exact (below_size (zB HB)) : w.heap.size ≤ gb535)); have n9_ := Aside0.mk ((by rw [hg]; exact Nat.ne_of_lt (blk_lt (g := gb483) (o := .cells #[.slice A0_0 l0_0.length c0_0, .slice A0_1 l0_1.length c0_1] 24 (0, 0)) (zK BK483)) : gb483 ≠ gb535)); have n10_ := Aside0.mk ((by rw [hg]; exact Nat.ne_of_gt (blk_lt (g := gb483) (o := .cells #[.slice A0_0 l0_0.length c0_0, .slice A0_1 l0_1.length c0_1] 24 (0, 0)) (zK BK483)) : gb535 ≠ gb483)); clear HO524; clear HO527; clear HO530; clear HO533; clear BK483; clear HB; have HO524 := n0_; have HO527 := n1_; have HO530 := n2_; have HO533 := n3_; have BK483 := n4_; have HB := n5_; have BK535 := n6_; have GW535 := n7_; have GE535 := n8_; have NB483_535 := n9_; have NB535_483 := n10_; clear n0_ n1_ n2_ n3_ n4_ n5_ n6_ n7_ n8_ n9_ n10_; clear hb hbox hg) | ((with_reducible refine gate_dst (N := 8) rfl ?_); (try (refine gate_guard (by rfl) ?_; dsimp only)); refine box_event ?hg (N := 8) ?hd (cs := #[.slice none 0 0, .slice none 0 0]) (t := 40) ?hr ?_; (case hd => rfl); (case hg => rfl); (case hr => first | (go_simp; done) | (go_simp; rfl)); intro gb536 hg w79 hbox hb; have n0_ := Aside0.mk (Kd.V_below (Kd.V_elderB (zV HO524) gb536 (Nat.le_of_eq hg.symm)) hb); have n1_ := Aside0.mk (Kd.V_below (Kd.V_elderB (zV HO527) gb536 (Nat.le_of_eq hg.symm)) hb); have n2_ := Aside0.mk (Kd.R_below (zR HO530) hb); have n3_ := Aside0.mk (Kd.R_below (zR HO533) hb); have n4_ := Aside0.mk (blk_below (g := gb483) (o := .cells #[.slice A0_0 l0_0.length c0_0, .slice A0_1 l0_1.length c0_1] 24 (0, 0)) (zK BK483) hb); have n5_ := Aside0.mk (blk_below (g := gb535) (o := .cells #[.slice none 0 0, .slice none 0 0] 28 (0, 0)) (zK BK535) hb); have n6_ := Aside0.mk (below_step (zB HB) hb); have n7_ := Aside0.mk (hbox); have n8_ := Aside0.mk ((by rw [hg]; exact (below_size (zB HB)) : w.heap.size ≤ gb536)); have n9_ := Aside0.mk ((by rw [hg]; exact (below_size (zB HB)) : w.heap.size ≤ gb536)); have n10_ := Aside0.mk ((by rw [hg]; exact Nat.ne_of_lt (blk_lt (g := gb483) (o := .cells #[.slice A0_0 l0_0.length c0_0, .slice A0_1 l0_1.length c0_1] 24 (0, 0)) (zK BK483)) : gb483 ≠ gb536)); have n11_ := Aside0.mk ((by rw [hg]; exact Nat.ne_of_gt (blk_lt (g := gb483) (o := .cells #[.slice A0_0 l0_0.length c0_0, .slice A0_1 l0_1.length c0_1] 24 (0, 0)) (zK BK483)) : gb536 ≠ gb483)); have n12_ := Aside0.mk ((by rw [hg]; exact Nat.ne_of_lt (blk_lt (g := gb535) (o := .cells #[.slice none 0 0, .slice none 0 0] 28 (0, 0)) (zK BK535)) : gb535 ≠ gb536)); have n13_ := Aside0.mk ((by rw [hg]; exact Nat.ne_of_gt (blk_lt (g := gb535) (o := .cells #[.slice none 0 0, .slice none 0 0] 28 (0, 0)) (zK BK535)) : gb536 ≠ gb535)); clear HO524; clear HO527; clear HO530; clear HO533; clear BK483; clear BK535; clear HB; have HO524 := n0_; have HO527 := n1_; have HO530 := n2_; have HO533 := n3_; have BK483 := n4_; have BK535 := n5_; have HB := n6_; have BK536 := n7_; have GW536 := n8_; have GE536 := n9_; have NB483_536 := n10_; have NB536_483 := n11_; have NB535_536 := n12_; have NB536_535 := n13_; clear n0_ n1_ n2_ n3_ n4_ n5_ n6_ n7_ n8_ n9_ n10_ n11_ n12_ n13_; clear hb hbox hg; obtain ⟨Ao80, co80, eo80⟩ := Kd.V_slice HO524.out; subst eo80; have hnb81 := NB535_483.out; have hnc81 := NB483_535.out; have hnb82 := NB535_536.out; have hnc82 := NB536_535.out; have hcz83_0 : w79.cell? ⟨gb535, 0, none⟩ = some (.slice none 0 0) := (blk_cell BK535.out 0).trans rfl; have hcz83_1 : w79.cell? ⟨gb535, 1, none⟩ = some (.slice none 0 0) := (blk_cell BK535.out 1).trans rfl; have hfz83_0 := blk_frozen BK535.out 0; have hfz83_1 := blk_frozen BK535.out 1; obtain ⟨Ao84, co84, eo84⟩ := Kd.V_slice HO527.out; subst eo84; obtain ⟨Ao85, co85, eo85⟩ := Kd.R_slice HO530.out; subst eo85; have hnb86 := NB536_483.out; have hnc86 := NB483_536.out; have hcz87_0 : w79.cell? ⟨gb536, 0, none⟩ = some (.slice none 0 0) := (blk_cell BK536.out 0).trans rfl; have hcz87_1 : w79.cell? ⟨gb536, 1, none⟩ = some (.slice none 0 0) := (blk_cell BK536.out 1).trans rfl; have hfz87_0 := blk_frozen BK536.out 0; have hfz87_1 := blk_frozen BK536.out 1; obtain ⟨Ao88, co88, eo88⟩ := Kd.R_slice HO533.out; subst eo88))
           have n0_ : Aside0 (Kd.V (Kd.int .u64) 57 ((((w79.setCell ⟨gb535, 0, none⟩ (.slice Ao80 t522.length co80)).setCell ⟨gb535, 1, none⟩ (.slice Ao84 t525.length co84)).setCell ⟨gb536, 0, none⟩ (.slice Ao85 t528.length co85)).setCell ⟨gb536, 1, none⟩ (.slice Ao88 t531.length co88)) w.heap.size (fun k_ => some k_ ≠ (.slice Ao85 t528.length co85 : Value).ownBlock ∧ some k_ ≠ (.slice Ao88 t531.length co88 : Value).ownBlock ∧ k_ ≠ gb483 ∧ k_ ≠ gb535 ∧ k_ ≠ gb536) (.slice Ao80 t522.length co80) t522) := ⟨by (with_reducible repeat (first | apply Kd.V_alloc | apply Kd.V_drewN | apply Kd.V_drew)); exact Kd.V_mono (Kd.V_far (p := ⟨gb536, 1, none⟩) (Kd.V_far (p := ⟨gb536, 0, none⟩) (Kd.V_far (p := ⟨gb535, 1, none⟩) (Kd.V_far (p := ⟨gb535, 0, none⟩) (Kd.V_mono (Kd.V_mono HO524.out (fun k_ hk => (⟨hk, hk.1.2⟩ : _ ∧ k_ ≠ gb535))) (fun k_ hk => (⟨hk, hk.1.2⟩ : _ ∧ k_ ≠ gb536))) (fun _ hk => hk.1.2) (.slice Ao80 t522.length co80)) (fun _ hk => hk.1.2) (.slice Ao84 t525.length co84)) (fun _ hk => hk.2) (.slice Ao85 t528.length co85)) (fun _ hk => hk.2) (.slice Ao88 t531.length co88)) (fun _ hk => ⟨hk.1.1.1.1.1, ⟨hk.1.1.1.1.2.1, ⟨hk.1.1.1.1.2.2, ⟨hk.1.1.1.2, hk.1.1.2⟩⟩⟩⟩)⟩
           have n1_ : Aside0 (Kd.V (Kd.int .u64) 57 ((((w79.setCell ⟨gb535, 0, none⟩ (.slice Ao80 t522.length co80)).setCell ⟨gb535, 1, none⟩ (.slice Ao84 t525.length co84)).setCell ⟨gb536, 0, none⟩ (.slice Ao85 t528.length co85)).setCell ⟨gb536, 1, none⟩ (.slice Ao88 t531.length co88)) w.heap.size (fun k_ => some k_ ≠ (.slice Ao85 t528.length co85 : Value).ownBlock ∧ some k_ ≠ (.slice Ao88 t531.length co88 : Value).ownBlock ∧ k_ ≠ gb483 ∧ k_ ≠ gb535 ∧ k_ ≠ gb536) (.slice Ao84 t525.length co84) t525) := ⟨by (with_reducible repeat (first | apply Kd.V_alloc | apply Kd.V_drewN | apply Kd.V_drew)); exact Kd.V_mono (Kd.V_far (p := ⟨gb536, 1, none⟩) (Kd.V_far (p := ⟨gb536, 0, none⟩) (Kd.V_far (p := ⟨gb535, 1, none⟩) (Kd.V_far (p := ⟨gb535, 0, none⟩) (Kd.V_mono (Kd.V_mono HO527.out (fun k_ hk => (⟨hk, hk.1.2⟩ : _ ∧ k_ ≠ gb535))) (fun k_ hk => (⟨hk, hk.1.2⟩ : _ ∧ k_ ≠ gb536))) (fun _ hk => hk.1.2) (.slice Ao80 t522.length co80)) (fun _ hk => hk.1.2) (.slice Ao84 t525.length co84)) (fun _ hk => hk.2) (.slice Ao85 t528.length co85)) (fun _ hk => hk.2) (.slice Ao88 t531.length co88)) (fun _ hk => ⟨hk.1.1.1.1.1, ⟨hk.1.1.1.1.2.1, ⟨hk.1.1.1.1.2.2, ⟨hk.1.1.1.2, hk.1.1.2⟩⟩⟩⟩)⟩
           have n2_ : Aside0 (Kd.R (Kd.int .i64) 3 ((((w79.setCell ⟨gb535, 0, none⟩ (.slice Ao80 t522.length co80)).setCell ⟨gb535, 1, none⟩ (.slice Ao84 t525.length co84)).setCell ⟨gb536, 0, none⟩ (.slice Ao85 t528.length co85)).setCell ⟨gb536, 1, none⟩ (.slice Ao88 t531.length co88)) w.heap.size (fun k_ => some k_ ≠ (.slice Ao88 t531.length co88 : Value).ownBlock) (.slice Ao85 t528.length co85) t528) := ⟨by (with_reducible repeat (first | apply Kd.R_alloc | apply Kd.R_drewN | apply Kd.R_drew)); exact Kd.R_mono (Kd.R_far (p := ⟨gb536, 1, none⟩) (Kd.R_far (p := ⟨gb536, 0, none⟩) (Kd.R_far (p := ⟨gb535, 1, none⟩) (Kd.R_far (p := ⟨gb535, 0, none⟩) (Kd.R_types (Kd.R_types HO530.out BK535.out (by decide)) BK536.out (by decide)) (fun _ hk => hk.1.2) (.slice Ao80 t522.length co80)) (fun _ hk => hk.1.2) (.slice Ao84 t525.length co84)) (fun _ hk => hk.2) (.slice Ao85 t528.length co85)) (fun _ hk => hk.2) (.slice Ao88 t531.length co88)) (fun _ hk => hk.1.1)⟩
           have n3_ : Aside0 (Kd.R (Kd.int .i64) 3 ((((w79.setCell ⟨gb535, 0, none⟩ (.slice Ao80 t522.length co80)).setCell ⟨gb535, 1, none⟩ (.slice Ao84 t525.length co84)).setCell ⟨gb536, 0, none⟩ (.slice Ao85 t528.length co85)).setCell ⟨gb536, 1, none⟩ (.slice Ao88 t531.length co88)) w.heap.size (fun k_ => some k_ ≠ (.slice Ao85 t528.length co85 : Value).ownBlock) (.slice Ao88 t531.length co88) t531) := ⟨by (with_reducible repeat (first | apply Kd.R_alloc | apply Kd.R_drewN | apply Kd.R_drew)); exact Kd.R_mono (Kd.R_far (p := ⟨gb536, 1, none⟩) (Kd.R_far (p := ⟨gb536, 0, none⟩) (Kd.R_far (p := ⟨gb535, 1, none⟩) (Kd.R_far (p := ⟨gb535, 0, none⟩) (Kd.R_types (Kd.R_types HO533.out BK535.out (by decide)) BK536.out (by decide)) (fun _ hk => hk.1.2) (.slice Ao80 t522.length co80)) (fun _ hk => hk.1.2) (.slice Ao84 t525.length co84)) (fun _ hk => hk.2) (.slice Ao85 t528.length co85)) (fun _ hk => hk.2) (.slice Ao88 t531.length co88)) (fun _ hk => hk.1.1)⟩
           have n4_ : Aside0 (((((w79.setCell ⟨gb535, 0, none⟩ (.slice Ao80 t522.length co80)).setCell ⟨gb535, 1, none⟩ (.slice Ao84 t525.length co84)).setCell ⟨gb536, 0, none⟩ (.slice Ao85 t528.length co85)).setCell ⟨gb536, 1, none⟩ (.slice Ao88 t531.length co88)).heap[gb483]? = some (.cells #[.slice A0_0 l0_0.length c0_0, .slice A0_1 l0_1.length c0_1] 24 (0, 0))) := ⟨by (with_reducible repeat (first | refine blk_drewN ?_ _ | refine blk_drew ?_ | refine blk_alloc ?_ _)); refine blk_far ?_ NB483_536.out _; (with_reducible repeat (first | refine blk_drewN ?_ _ | refine blk_drew ?_ | refine blk_alloc ?_ _)); refine blk_far ?_ NB483_536.out _; (with_reducible repeat (first | refine blk_drewN ?_ _ | refine blk_drew ?_ | refine blk_alloc ?_ _)); refine blk_far ?_ NB483_535.out _; (with_reducible repeat (first | refine blk_drewN ?_ _ | refine blk_drew ?_ | refine blk_alloc ?_ _)); refine blk_far ?_ NB483_535.out _; (with_reducible repeat (first | refine blk_drewN ?_ _ | refine blk_drew ?_ | refine blk_alloc ?_ _)); exact BK483.out⟩
           have n5_ : Aside0 (((((w79.setCell ⟨gb535, 0, none⟩ (.slice Ao80 t522.length co80)).setCell ⟨gb535, 1, none⟩ (.slice Ao84 t525.length co84)).setCell ⟨gb536, 0, none⟩ (.slice Ao85 t528.length co85)).setCell ⟨gb536, 1, none⟩ (.slice Ao88 t531.length co88)).heap[gb535]? = some (.cells #[.slice Ao80 t522.length co80, .slice Ao84 t525.length co84] 28 (0, 0))) := ⟨by (with_reducible repeat (first | refine blk_drewN ?_ _ | refine blk_drew ?_ | refine blk_alloc ?_ _)); refine blk_far ?_ NB535_536.out _; (with_reducible repeat (first | refine blk_drewN ?_ _ | refine blk_drew ?_ | refine blk_alloc ?_ _)); refine blk_far ?_ NB535_536.out _; (with_reducible repeat (first | refine blk_drewN ?_ _ | refine blk_drew ?_ | refine blk_alloc ?_ _)); refine blk_put (cs := #[.slice Ao80 t522.length co80, .slice none 0 0]) ?_ 1 _ rfl; (with_reducible repeat (first | refine blk_drewN ?_ _ | refine blk_drew ?_ | refine blk_alloc ?_ _)); refine blk_put (cs := #[.slice none 0 0, .slice none 0 0]) ?_ 0 _ rfl; (with_reducible repeat (first | refine blk_drewN ?_ _ | refine blk_drew ?_ | refine blk_alloc ?_ _)); exact BK535.out⟩
           have n6_ : Aside0 (((((w79.setCell ⟨gb535, 0, none⟩ (.slice Ao80 t522.length co80)).setCell ⟨gb535, 1, none⟩ (.slice Ao84 t525.length co84)).setCell ⟨gb536, 0, none⟩ (.slice Ao85 t528.length co85)).setCell ⟨gb536, 1, none⟩ (.slice Ao88 t531.length co88)).heap[gb536]? = some (.cells #[.slice Ao85 t528.length co85, .slice Ao88 t531.length co88] 40 (0, 0))) := ⟨by (with_reducible repeat (first | refine blk_drewN ?_ _ | refine blk_drew ?_ | refine blk_alloc ?_ _)); refine blk_put (cs := #[.slice Ao85 t528.length co85, .slice none 0 0]) ?_ 1 _ rfl; (with_reducible repeat (first | refine blk_drewN ?_ _ | refine blk_drew ?_ | refine blk_alloc ?_ _)); refine blk_put (cs := #[.slice none 0 0, .slice none 0 0]) ?_ 0 _ rfl; (with_reducible repeat (first | refine blk_drewN ?_ _ | refine blk_drew ?_ | refine blk_alloc ?_ _)); refine blk_far ?_ NB536_535.out _; (with_reducible repeat (first | refine blk_drewN ?_ _ | refine blk_drew ?_ | refine blk_alloc ?_ _)); refine blk_far ?_ NB536_535.out _; (with_reducible repeat (first | refine blk_drewN ?_ _ | refine blk_drew ?_ | refine blk_alloc ?_ _)); exact BK536.out⟩
           have n7_ : Aside0 (Below w.heap.size w ((((w79.setCell ⟨gb535, 0, none⟩ (.slice Ao80 t522.length co80)).setCell ⟨gb535, 1, none⟩ (.slice Ao84 t525.length co84)).setCell ⟨gb536, 0, none⟩ (.slice Ao85 t528.length co85)).setCell ⟨gb536, 1, none⟩ (.slice Ao88 t531.length co88))) := ⟨zB HB⟩
           (try clear HO524)
           (try clear HO527)
           (try clear HO530)
           (try clear HO533)
           (try clear BK483)
           (try clear BK535)
           (try clear BK536)
           (try clear HB)
           generalize ((((w79.setCell ⟨gb535, 0, none⟩ (.slice Ao80 t522.length co80)).setCell ⟨gb535, 1, none⟩ (.slice Ao84 t525.length co84)).setCell ⟨gb536, 0, none⟩ (.slice Ao85 t528.length co85)).setCell ⟨gb536, 1, none⟩ (.slice Ao88 t531.length co88)) = w89 at n0_ n1_ n2_ n3_ n4_ n5_ n6_ n7_ ⊢
           have HO524 := n0_
           have HO527 := n1_
           have HO530 := n2_
           have HO533 := n3_
           have BK483 := n4_
           have BK535 := n5_
           have BK536 := n6_
           have HB := n7_
           clear n0_ n1_ n2_ n3_ n4_ n5_ n6_ n7_
           have n0_ := Aside0.mk (Kd.V_drew HO524.out)
           have n1_ := Aside0.mk (Kd.V_drew HO527.out)
           have n2_ := Aside0.mk (Kd.R_drew HO530.out)
           have n3_ := Aside0.mk (Kd.R_drew HO533.out)
           have n4_ := Aside0.mk (blk_drew BK483.out)
           have n5_ := Aside0.mk (blk_drew BK535.out)
           have n6_ := Aside0.mk (blk_drew BK536.out)
           have n7_ := Aside0.mk (below_drew1 HB.out)
           clear HO524
           clear HO527
           clear HO530
           clear HO533
           clear BK483
           clear BK535
           clear BK536
           clear HB
           have HO524 := n0_
           have HO527 := n1_
           have HO530 := n2_
           have HO533 := n3_
           have BK483 := n4_
           have BK535 := n5_
           have BK536 := n6_
           have HB := n7_
           clear n0_ n1_ n2_ n3_ n4_ n5_ n6_ n7_
           refine start_ (n := 18) (S := fun w' => w'.cell? ⟨gb535, 0, none⟩ = some (.slice Ao80 t522.length co80) ∧ w'.cell? ⟨gb535, 1, none⟩ = some (.slice Ao84 t525.length co84) ∧ w'.cell? ⟨gb536, 0, none⟩ = some (.slice Ao85 t528.length co85) ∧ w'.cell? ⟨gb536, 1, none⟩ = some (.slice Ao88 t531.length co88)) (ds := []) #[false, false, false, false, false, false, false, false, false, false, false, false, false, false, false, false, false, false] (by kernel_rfl) rfl rfl ⟨(blk_cell BK535.out 0).trans rfl, (blk_cell BK535.out 1).trans rfl, (blk_cell BK536.out 0).trans rfl, (blk_cell BK536.out 1).trans rfl⟩ (fun hHeld => ?_); refine with_tabW roundellaw03_RatioOf.tab9 roundellaw03_RatioOf.bits9 (fun HT_ HW_ => ?_)
           generalize w89.drew = w90 at HO524 HO527 HO530 HO533 BK483 BK535 BK536 HB hHeld ⊢
           refine pure_ (i := 0) (N := some 81) (v := ?_) (a' := ?_) #[true, false, false, false, false, false, false, false, false, false, false, false, false, false, false, false, false, false] rfl rfl (any_of HT_.out (by kernel_rfl)) (fun _ _ _ h => h) (Or.inl ⟨by rfl, ?_⟩) ?_ ?_
           rotate_left
           ·
            intro w'
            go_simp
            with_reducible rfl
           rotate_left
           ·
            simp only [Act.put, List.setIfInBounds_toArray, List.set_cons_zero, List.set_cons_succ, i64_w, i32_w]
            rfl
           refine pure_ (i := 1) (N := some 82) (v := ?_) (a' := ?_) #[true, true, false, false, false, false, false, false, false, false, false, false, false, false, false, false, false, false] rfl rfl (any_of HT_.out (by kernel_rfl)) (fun _ _ _ h => h) (Or.inl ⟨by rfl, ?_⟩) ?_ ?_
           rotate_left
           ·
            intro w'
            go_simp
            with_reducible rfl
           rotate_left
           ·
            simp only [Act.put, List.setIfInBounds_toArray, List.set_cons_zero, List.set_cons_succ, i64_w, i32_w]
            rfl
           refine take_ (i := 2) (N := some 83) (v := ?_) (a' := ?_) #[true, true, true, false, false, false, false, false, false, false, false, false, false, false, false, false, false, false] rfl rfl (take_ofW HT_.out HW_.out (by kernel_rfl)) (fun _ _ _ h => h) (Or.inl ⟨by rfl, ?_⟩) hHeld ?_ ?_
           rotate_left
           ·
            rintro w' ⟨s0, s1, s2, s3⟩
            go_simp
            with_reducible rfl
           rotate_left
           ·
            simp only [Act.put, List.setIfInBounds_toArray, List.set_cons_zero, List.set_cons_succ, i64_w, i32_w]
            rfl
           refine take_ (i := 3) (N := some 84) (v := ?_) (a' := ?_) #[true, true, true, true, false, false, false, false, false, false, false, false, false, false, false, false, false, false] rfl rfl (take_ofW HT_.out HW_.out (by kernel_rfl)) (fun _ _ _ h => h) (Or.inl ⟨by rfl, ?_⟩) hHeld ?_ ?_
           rotate_left
           ·
            rintro w' ⟨s0, s1, s2, s3⟩
            go_simp
            with_reducible rfl
           rotate_left
           ·
            simp only [Act.put, List.setIfInBounds_toArray, List.set_cons_zero, List.set_cons_succ, i64_w, i32_w]
            rfl
           refine one_ (i := 4) (N := some 85) #[true, true, true, true, true, false, false, false, false, false, false, false, false, false, false, false, false, false] rfl rfl (one_of HT_.out (by kernel_rfl)) (by decide) (fun K hK => ?_)
           refine goes_ Tryd.func21 (by kernel_rfl) rfl #[.agg #[.slice Ao80 t522.length co80, .slice Ao84 t525.length co84], .agg #[.slice Ao85 t528.length co85, .slice Ao88 t531.length co88]] (by rfl) rfl rfl (zE) ?_
           with_reducible refine (roundellaw03_Is.calls kj23 _ _ t522 _ _ t525 _ _ t528 _ _ t531 true _ ?side1 ?side2 ?side3 ?side4 ?side5 ?side6 ?side7 ?side8 A69.out).mono ?_
           (case side1 => repeat (first | exact (Kd.V_reads' HO524.out).2.2 | (with_reducible refine Kd.C_alloc ?_ _) | (with_reducible refine Kd.C_drewN ?_ _) | (with_reducible refine Kd.C_drew ?_)))
           (case side2 => exact (Kd.V_reads' HO524.out).2.1)
           (case side3 => repeat (first | exact (Kd.V_reads' HO527.out).2.2 | (with_reducible refine Kd.C_alloc ?_ _) | (with_reducible refine Kd.C_drewN ?_ _) | (with_reducible refine Kd.C_drew ?_)))
           (case side4 => exact (Kd.V_reads' HO527.out).2.1)
           (case side5 => repeat (first | exact (Kd.R_reads' HO530.out).2.2 | (with_reducible refine Kd.C_alloc ?_ _) | (with_reducible refine Kd.C_drewN ?_ _) | (with_reducible refine Kd.C_drew ?_)))
           (case side6 => exact (Kd.R_reads' HO530.out).2.1)
           (case side7 => repeat (first | exact (Kd.R_reads' HO533.out).2.2 | (with_reducible refine Kd.C_alloc ?_ _) | (with_reducible refine Kd.C_drewN ?_ _) | (with_reducible refine Kd.C_drew ?_)))
           (case side8 => exact (Kd.R_reads' HO533.out).2.1)
           rintro e w91 ⟨rfl, hb⟩
           refine ⟨_, rfl, ?_⟩
           have n0_ := Aside0.mk (Kd.V_below (zV HO524) hb)
           have n1_ := Aside0.mk (Kd.V_below (zV HO527) hb)
           have n2_ := Aside0.mk (Kd.R_below (zR HO530) hb)
           have n3_ := Aside0.mk (Kd.R_below (zR HO533) hb)
           have n4_ := Aside0.mk (blk_below (g := gb483) (o := .cells #[.slice A0_0 l0_0.length c0_0, .slice A0_1 l0_1.length c0_1] 24 (0, 0)) (zK BK483) hb)
           have n5_ := Aside0.mk (blk_below (g := gb535) (o := .cells #[.slice Ao80 t522.length co80, .slice Ao84 t525.length co84] 28 (0, 0)) (zK BK535) hb)
           have n6_ := Aside0.mk (blk_below (g := gb536) (o := .cells #[.slice Ao85 t528.length co85, .slice Ao88 t531.length co88] 40 (0, 0)) (zK BK536) hb)
           have n7_ := Aside0.mk (below_step (zB HB) hb)
           clear HO524
           clear HO527
           clear HO530
           clear HO533
           clear BK483
           clear BK535
           clear BK536
           clear HB
           have HO524 := n0_
           have HO527 := n1_
           have HO530 := n2_
           have HO533 := n3_
           have BK483 := n4_
           have BK535 := n5_
           have BK536 := n6_
           have HB := n7_
           clear n0_ n1_ n2_ n3_ n4_ n5_ n6_ n7_
           (try clear hb)
           (try clear hb2)
           (try clear hk)
           (try clear hi)
           refine hK.out _ _ ⟨(blk_cell BK535.out 0).trans rfl, (blk_cell BK535.out 1).trans rfl, (blk_cell BK536.out 0).trans rfl, (blk_cell BK536.out 1).trans rfl⟩ (fun hHeld => ?_)
           clear hK K
           refine norm_ (a' := ?_) ?_ ?_
           rotate_left
           ·
            show Act.put _ (some 85) _ = _
            simp only [Act.put, List.setIfInBounds_toArray, List.set_cons_zero, List.set_cons_succ, i64_w, i32_w]
            rfl
           refine pure_ (i := 5) (N := some 86) (v := ?_) (a' := ?_) #[true, true, true, true, true, true, false, false, false, false, false, false, false, false, false, false, false, false] rfl rfl (any_of HT_.out (by kernel_rfl)) (fun _ _ _ h => h) (Or.inl ⟨by rfl, ?_⟩) ?_ ?_
           rotate_left
           ·
            intro w'
            go_simp
            with_reducible rfl
           rotate_left
           ·
            simp only [Act.put, List.setIfInBounds_toArray, List.set_cons_zero, List.set_cons_succ, i64_w, i32_w]
            rfl
           refine pure_ (i := 6) (N := some 87) (v := ?_) (a' := ?_) #[true, true, true, true, true, true, true, false, false, false, false, false, false, false, false, false, false, false] rfl rfl (any_of HT_.out (by kernel_rfl)) (fun _ _ _ h => h) (Or.inl ⟨by rfl, ?_⟩) ?_ ?_
           rotate_left
           ·
            intro w'
            go_simp
            with_reducible rfl
           rotate_left
           ·
            simp only [Act.put, List.setIfInBounds_toArray, List.set_cons_zero, List.set_cons_succ, i64_w, i32_w]
            rfl
           refine take_ (i := 7) (N := some 88) (v := ?_) (a' := ?_) #[true, true, true, true, true, true, true, true, false, false, false, false, false, false, false, false, false, false] rfl rfl (take_ofW HT_.out HW_.out (by kernel_rfl)) (fun _ _ _ h => h) (Or.inl ⟨by rfl, ?_⟩) hHeld ?_ ?_
           rotate_left
           ·
            rintro w' ⟨s0, s1, s2, s3⟩
            go_simp
            with_reducible rfl
           rotate_left
           ·
            simp only [Act.put, List.setIfInBounds_toArray, List.set_cons_zero, List.set_cons_succ, i64_w, i32_w]
            rfl
           refine one_ (i := 8) (N := some 89) #[true, true, true, true, true, true, true, true, true, false, false, false, false, false, false, false, false, false] rfl rfl (one_of HT_.out (by kernel_rfl)) (by decide) (fun K hK => ?_)
           refine goes_ Tryd.func16 (by kernel_rfl) rfl #[.agg #[.slice Ao80 t522.length co80, .slice Ao84 t525.length co84]] (by rfl) rfl rfl (zE) ?_
           with_reducible refine (ratio_Ratio_Good.calls kj23 _ _ t522 _ _ t525 true _ ?side1 ?side2 ?side3 ?side4 A71.out).mono ?_
           (case side1 => repeat (first | exact (Kd.V_reads' HO524.out).2.2 | (with_reducible refine Kd.C_alloc ?_ _) | (with_reducible refine Kd.C_drewN ?_ _) | (with_reducible refine Kd.C_drew ?_)))
           (case side2 => exact (Kd.V_reads' HO524.out).2.1)
           (case side3 => repeat (first | exact (Kd.V_reads' HO527.out).2.2 | (with_reducible refine Kd.C_alloc ?_ _) | (with_reducible refine Kd.C_drewN ?_ _) | (with_reducible refine Kd.C_drew ?_)))
           (case side4 => exact (Kd.V_reads' HO527.out).2.1)
           rintro e w92 ⟨rfl, hb⟩
           refine ⟨_, rfl, ?_⟩
           have n0_ := Aside0.mk (Kd.V_below (zV HO524) hb)
           have n1_ := Aside0.mk (Kd.V_below (zV HO527) hb)
           have n2_ := Aside0.mk (Kd.R_below (zR HO530) hb)
           have n3_ := Aside0.mk (Kd.R_below (zR HO533) hb)
           have n4_ := Aside0.mk (blk_below (g := gb483) (o := .cells #[.slice A0_0 l0_0.length c0_0, .slice A0_1 l0_1.length c0_1] 24 (0, 0)) (zK BK483) hb)
           have n5_ := Aside0.mk (blk_below (g := gb535) (o := .cells #[.slice Ao80 t522.length co80, .slice Ao84 t525.length co84] 28 (0, 0)) (zK BK535) hb)
           have n6_ := Aside0.mk (blk_below (g := gb536) (o := .cells #[.slice Ao85 t528.length co85, .slice Ao88 t531.length co88] 40 (0, 0)) (zK BK536) hb)
           have n7_ := Aside0.mk (below_step (zB HB) hb)
           clear HO524
           clear HO527
           clear HO530
           clear HO533
           clear BK483
           clear BK535
           clear BK536
           clear HB
           have HO524 := n0_
           have HO527 := n1_
           have HO530 := n2_
           have HO533 := n3_
           have BK483 := n4_
           have BK535 := n5_
           have BK536 := n6_
           have HB := n7_
           clear n0_ n1_ n2_ n3_ n4_ n5_ n6_ n7_
           (try clear hb)
           (try clear hb2)
           (try clear hk)
           (try clear hi)
           refine hK.out _ _ ⟨(blk_cell BK535.out 0).trans rfl, (blk_cell BK535.out 1).trans rfl, (blk_cell BK536.out 0).trans rfl, (blk_cell BK536.out 1).trans rfl⟩ (fun hHeld => ?_)
           clear hK K
           refine norm_ (a' := ?_) ?_ ?_
           rotate_left
           ·
            show Act.put _ (some 89) _ = _
            simp only [Act.put, List.setIfInBounds_toArray, List.set_cons_zero, List.set_cons_succ, i64_w, i32_w]
            rfl
           refine pure_ (i := 9) (N := some 90) (v := ?_) (a' := ?_) #[true, true, true, true, true, true, true, true, true, true, false, false, false, false, false, false, false, false] rfl rfl (any_of HT_.out (by kernel_rfl)) (fun _ _ _ h => h) (Or.inl ⟨by rfl, ?_⟩) ?_ ?_
           rotate_left
           ·
            intro w'
            go_simp
            with_reducible rfl
           rotate_left
           ·
            simp only [Act.put, List.setIfInBounds_toArray, List.set_cons_zero, List.set_cons_succ, i64_w, i32_w]
            rfl
           refine pure_ (i := 10) (N := some 91) (v := ?_) (a' := ?_) #[true, true, true, true, true, true, true, true, true, true, true, false, false, false, false, false, false, false] rfl rfl (any_of HT_.out (by kernel_rfl)) (fun _ _ _ h => h) (Or.inl ⟨by rfl, ?_⟩) ?_ ?_
           rotate_left
           ·
            intro w'
            go_simp
            with_reducible rfl
           rotate_left
           ·
            simp only [Act.put, List.setIfInBounds_toArray, List.set_cons_zero, List.set_cons_succ, i64_w, i32_w]
            rfl
           refine take_ (i := 11) (N := some 92) (v := ?_) (a' := ?_) #[true, true, true, true, true, true, true, true, true, true, true, true, false, false, false, false, false, false] rfl rfl (take_ofW HT_.out HW_.out (by kernel_rfl)) (fun _ _ _ h => h) (Or.inl ⟨by rfl, ?_⟩) hHeld ?_ ?_
           rotate_left
           ·
            rintro w' ⟨s0, s1, s2, s3⟩
            go_simp
            with_reducible rfl
           rotate_left
           ·
            simp only [Act.put, List.setIfInBounds_toArray, List.set_cons_zero, List.set_cons_succ, i64_w, i32_w]
            rfl
           refine take_ (i := 13) (N := some 94) (v := ?_) (a' := ?_) #[true, true, true, true, true, true, true, true, true, true, true, true, false, true, false, false, false, false] rfl rfl (take_ofW HT_.out HW_.out (by kernel_rfl)) (fun _ _ _ h => h) (Or.inl ⟨by rfl, ?_⟩) hHeld ?_ ?_
           rotate_left
           ·
            rintro w' ⟨s0, s1, s2, s3⟩
            go_simp
            with_reducible rfl
           rotate_left
           ·
            simp only [Act.put, List.setIfInBounds_toArray, List.set_cons_zero, List.set_cons_succ, i64_w, i32_w]
            rfl
           refine one_ (i := 12) (N := some 93) #[true, true, true, true, true, true, true, true, true, true, true, true, true, true, false, false, false, false] rfl rfl (one_of HT_.out (by kernel_rfl)) (by decide) (fun K hK => ?_)
           refine goes_ Tryd.func27 (by kernel_rfl) rfl #[.agg #[.slice Ao80 t522.length co80, .slice Ao84 t525.length co84]] (by rfl) rfl rfl (zE) ?_
           with_reducible refine (ratio_Ratio_Floor.calls kj23 _ _ t522 _ _ t525 t539 _ ?side1 ?side2 ?side3 ?side4 A73.out).mono ?_
           (case side1 => repeat (first | exact (Kd.V_reads' HO524.out).2.2 | (with_reducible refine Kd.C_alloc ?_ _) | (with_reducible refine Kd.C_drewN ?_ _) | (with_reducible refine Kd.C_drew ?_)))
           (case side2 => exact (Kd.V_reads' HO524.out).2.1)
           (case side3 => repeat (first | exact (Kd.V_reads' HO527.out).2.2 | (with_reducible refine Kd.C_alloc ?_ _) | (with_reducible refine Kd.C_drewN ?_ _) | (with_reducible refine Kd.C_drew ?_)))
           (case side4 => exact (Kd.V_reads' HO527.out).2.1)
           rintro e w93 ⟨v540, rfl, ho0, hb⟩
           refine ⟨_, rfl, ?_⟩
           have n0_ := Aside0.mk (Kd.V_below (zV HO524) hb)
           have n1_ := Aside0.mk (Kd.V_below (zV HO527) hb)
           have n2_ := Aside0.mk (Kd.R_below (zR HO530) hb)
           have n3_ := Aside0.mk (Kd.R_below (zR HO533) hb)
           have n4_ := Aside0.mk (Kd.V_lower (Kd.V_mono (ok' := fun k_ => some k_ ≠ (.slice Ao85 t528.length co85 : Value).ownBlock ∧ some k_ ≠ (.slice Ao88 t531.length co88 : Value).ownBlock ∧ k_ ≠ gb483 ∧ k_ ≠ gb535 ∧ k_ ≠ gb536) ho0 (fun k_ hk_ => ⟨(Kd.fresh' (Kd.R_lt (zR HO530)) k_ hk_), (Kd.fresh' (Kd.R_lt (zR HO533)) k_ hk_), (Kd.freshB (g := gb483) (o := .cells #[.slice A0_0 l0_0.length c0_0, .slice A0_1 l0_1.length c0_1] 24 (0, 0)) (zK BK483) k_ hk_), (Kd.freshB (g := gb535) (o := .cells #[.slice Ao80 t522.length co80, .slice Ao84 t525.length co84] 28 (0, 0)) (zK BK535) k_ hk_), (Kd.freshB (g := gb536) (o := .cells #[.slice Ao85 t528.length co85, .slice Ao88 t531.length co88] 40 (0, 0)) (zK BK536) k_ hk_)⟩)) (below_size (zB HB)))
           have n5_ := Aside0.mk (blk_below (g := gb483) (o := .cells #[.slice A0_0 l0_0.length c0_0, .slice A0_1 l0_1.length c0_1] 24 (0, 0)) (zK BK483) hb)
           have n6_ := Aside0.mk (blk_below (g := gb535) (o := .cells #[.slice Ao80 t522.length co80, .slice Ao84 t525.length co84] 28 (0, 0)) (zK BK535) hb)
           have n7_ := Aside0.mk (blk_below (g := gb536) (o := .cells #[.slice Ao85 t528.length co85, .slice Ao88 t531.length co88] 40 (0, 0)) (zK BK536) hb)
           have n8_ := Aside0.mk (below_step (zB HB) hb)
           clear HO524
           clear HO527
           clear HO530
           clear HO533
           clear BK483
           clear BK535
           clear BK536
           clear HB
           have HO524 := n0_
           have HO527 := n1_
           have HO530 := n2_
           have HO533 := n3_
           have HO541 := n4_
           have BK483 := n5_
           have BK535 := n6_
           have BK536 := n7_
           have HB := n8_
           clear n0_ n1_ n2_ n3_ n4_ n5_ n6_ n7_ n8_
           (try clear hb)
           (try clear hb2)
           (try clear hk)
           (try clear hi)
           (try clear ho0)
           refine hK.out _ _ ⟨(blk_cell BK535.out 0).trans rfl, (blk_cell BK535.out 1).trans rfl, (blk_cell BK536.out 0).trans rfl, (blk_cell BK536.out 1).trans rfl⟩ (fun hHeld => ?_)
           clear hK K
           refine norm_ (a' := ?_) ?_ ?_
           rotate_left
           ·
            show Act.put _ (some 93) _ = _
            simp only [Act.put, List.setIfInBounds_toArray, List.set_cons_zero, List.set_cons_succ, i64_w, i32_w]
            rfl
           refine one_ (i := 14) (N := some 95) #[true, true, true, true, true, true, true, true, true, true, true, true, true, true, true, false, false, false] rfl rfl (one_of HT_.out (by kernel_rfl)) (by decide) (fun K hK => ?_)
           refine goes_ Tryd.func28 (by kernel_rfl) rfl #[.agg #[.slice Ao85 t528.length co85, .slice Ao88 t531.length co88]] (by rfl) rfl rfl (zE) ?_
           with_reducible refine (roundelref03_Floor.calls kj23 _ _ t528 _ _ t531 t542 _ ?side1 ?side2 ?side3 ?side4 A74.out).mono ?_
           (case side1 => repeat (first | exact (Kd.R_reads' HO530.out).2.2 | (with_reducible refine Kd.C_alloc ?_ _) | (with_reducible refine Kd.C_drewN ?_ _) | (with_reducible refine Kd.C_drew ?_)))
           (case side2 => exact (Kd.R_reads' HO530.out).2.1)
           (case side3 => repeat (first | exact (Kd.R_reads' HO533.out).2.2 | (with_reducible refine Kd.C_alloc ?_ _) | (with_reducible refine Kd.C_drewN ?_ _) | (with_reducible refine Kd.C_drew ?_)))
           (case side4 => exact (Kd.R_reads' HO533.out).2.1)
           rintro e w94 ⟨v543, rfl, ho0, hb⟩
           refine ⟨_, rfl, ?_⟩
           have n0_ := Aside0.mk (Kd.V_elder' (zV HO524) (Kd.R_base ho0) hb)
           have n1_ := Aside0.mk (Kd.V_elder' (zV HO527) (Kd.R_base ho0) hb)
           have n2_ := Aside0.mk (Kd.R_elder' (zR HO530) (Kd.R_base ho0) hb)
           have n3_ := Aside0.mk (Kd.R_elder' (zR HO533) (Kd.R_base ho0) hb)
           have n4_ := Aside0.mk (Kd.V_elder' (zV HO541) (Kd.R_base ho0) hb)
           have n5_ := Aside0.mk (Kd.R_lower (Kd.R_new' (Kd.R_new' ho0 (Kd.R_lt (zR HO530))) (Kd.R_lt (zR HO533))) (below_size (zB HB)))
           have n6_ := Aside0.mk (blk_below (g := gb483) (o := .cells #[.slice A0_0 l0_0.length c0_0, .slice A0_1 l0_1.length c0_1] 24 (0, 0)) (zK BK483) hb)
           have n7_ := Aside0.mk (blk_below (g := gb535) (o := .cells #[.slice Ao80 t522.length co80, .slice Ao84 t525.length co84] 28 (0, 0)) (zK BK535) hb)
           have n8_ := Aside0.mk (blk_below (g := gb536) (o := .cells #[.slice Ao85 t528.length co85, .slice Ao88 t531.length co88] 40 (0, 0)) (zK BK536) hb)
           have n9_ := Aside0.mk (below_step (zB HB) hb)
           clear HO524
           clear HO527
           clear HO530
           clear HO533
           clear HO541
           clear BK483
           clear BK535
           clear BK536
           clear HB
           have HO524 := n0_
           have HO527 := n1_
           have HO530 := n2_
           have HO533 := n3_
           have HO541 := n4_
           have HO544 := n5_
           have BK483 := n6_
           have BK535 := n7_
           have BK536 := n8_
           have HB := n9_
           clear n0_ n1_ n2_ n3_ n4_ n5_ n6_ n7_ n8_ n9_
           (try clear hb)
           (try clear hb2)
           (try clear hk)
           (try clear hi)
           (try clear ho0)
           obtain ⟨Ao95, co95, eo95⟩ := Kd.V_slice HO541.out
           (first | subst eo95 | (injection eo95 with f1_ f2_ f3_; have f4_ := f1_.symm; have f5_ := f3_.symm; clear f1_ f2_ f3_; subst f4_; subst f5_))
           obtain ⟨Ao96, co96, eo96⟩ := Kd.R_slice HO544.out
           (first | subst eo96 | (injection eo96 with f1_ f2_ f3_; have f4_ := f1_.symm; have f5_ := f3_.symm; clear f1_ f2_ f3_; subst f4_; subst f5_))
           refine hK.out _ _ ⟨(blk_cell BK535.out 0).trans rfl, (blk_cell BK535.out 1).trans rfl, (blk_cell BK536.out 0).trans rfl, (blk_cell BK536.out 1).trans rfl⟩ (fun hHeld => ?_)
           clear hK K
           refine norm_ (a' := ?_) ?_ ?_
           rotate_left
           ·
            show Act.put _ (some 95) _ = _
            simp only [Act.put, List.setIfInBounds_toArray, List.set_cons_zero, List.set_cons_succ, i64_w, i32_w]
            rfl
           refine one_ (i := 15) (N := some 96) #[true, true, true, true, true, true, true, true, true, true, true, true, true, true, true, true, false, false] rfl rfl (one_of HT_.out (by kernel_rfl)) (by decide) (fun K hK => ?_)
           refine goes_ Tryd.func26 (by kernel_rfl) rfl #[.slice Ao95 t539.length co95, .slice Ao96 t542.length co96] (by rfl) rfl rfl (zE) ?_
           with_reducible refine (roundellaw02_Is.calls kj23 _ _ t539 _ _ t542 t545 _ ?side1 ?side2 ?side3 ?side4 A75.out).mono ?_
           (case side1 => repeat (first | exact (Kd.V_reads' HO541.out).2.2 | (with_reducible refine Kd.C_alloc ?_ _) | (with_reducible refine Kd.C_drewN ?_ _) | (with_reducible refine Kd.C_drew ?_)))
           (case side2 => exact (Kd.V_reads' HO541.out).2.1)
           (case side3 => repeat (first | exact (Kd.R_reads' HO544.out).2.2 | (with_reducible refine Kd.C_alloc ?_ _) | (with_reducible refine Kd.C_drewN ?_ _) | (with_reducible refine Kd.C_drew ?_)))
           (case side4 => exact (Kd.R_reads' HO544.out).2.1)
           rintro e w97 ⟨rfl, hb⟩
           refine ⟨_, rfl, ?_⟩
           have n0_ := Aside0.mk (Kd.V_below (zV HO524) hb)
           have n1_ := Aside0.mk (Kd.V_below (zV HO527) hb)
           have n2_ := Aside0.mk (Kd.R_below (zR HO530) hb)
           have n3_ := Aside0.mk (Kd.R_below (zR HO533) hb)
           have n4_ := Aside0.mk (Kd.V_below (zV HO541) hb)
           have n5_ := Aside0.mk (Kd.R_below (zR HO544) hb)
           have n6_ := Aside0.mk (blk_below (g := gb483) (o := .cells #[.slice A0_0 l0_0.length c0_0, .slice A0_1 l0_1.length c0_1] 24 (0, 0)) (zK BK483) hb)
           have n7_ := Aside0.mk (blk_below (g := gb535) (o := .cells #[.slice Ao80 t522.length co80, .slice Ao84 t525.length co84] 28 (0, 0)) (zK BK535) hb)
           have n8_ := Aside0.mk (blk_below (g := gb536) (o := .cells #[.slice Ao85 t528.length co85, .slice Ao88 t531.length co88] 40 (0, 0)) (zK BK536) hb)
           have n9_ := Aside0.mk (below_step (zB HB) hb)
           clear HO524
           clear HO527
           clear HO530
           clear HO533
           clear HO541
           clear HO544
           clear BK483
           clear BK535
           clear BK536
           clear HB
           have HO524 := n0_
           have HO527 := n1_
           have HO530 := n2_
           have HO533 := n3_
           have HO541 := n4_
           have HO544 := n5_
           have BK483 := n6_
           have BK535 := n7_
           have BK536 := n8_
           have HB := n9_
           clear n0_ n1_ n2_ n3_ n4_ n5_ n6_ n7_ n8_ n9_
           (try clear hb)
           (try clear hb2)
           (try clear hk)
           (try clear hi)
           refine hK.out _ _ ⟨(blk_cell BK535.out 0).trans rfl, (blk_cell BK535.out 1).trans rfl, (blk_cell BK536.out 0).trans rfl, (blk_cell BK536.out 1).trans rfl⟩ (fun hHeld => ?_)
           clear hK K
           refine norm_ (a' := ?_) ?_ ?_
           rotate_left
           ·
            show Act.put _ (some 96) _ = _
            simp only [Act.put, List.setIfInBounds_toArray, List.set_cons_zero, List.set_cons_succ, i64_w, i32_w]
            rfl
           refine pure_ (i := 16) (N := some 97) (v := ?_) (a' := ?_) #[true, true, true, true, true, true, true, true, true, true, true, true, true, true, true, true, true, false] rfl rfl (any_of HT_.out (by kernel_rfl)) (fun _ _ _ h => h) (Or.inl ⟨by rfl, ?_⟩) ?_ ?_
           rotate_left
           ·
            intro w'
            go_simp
            with_reducible rfl
           rotate_left
           ·
            simp only [Act.put, List.setIfInBounds_toArray, List.set_cons_zero, List.set_cons_succ, i64_w, i32_w]
            rfl
           refine pure_ (i := 17) (N := some 4) (v := ?_) (a' := ?_) #[true, true, true, true, true, true, true, true, true, true, true, true, true, true, true, true, true, true] rfl rfl (any_of HT_.out (by kernel_rfl)) (fun _ _ _ h => h) (Or.inl ⟨by rfl, ?_⟩) ?_ ?_
           rotate_left
           ·
            intro w'
            go_simp
            with_reducible rfl
           rotate_left
           ·
            simp only [Act.put, List.setIfInBounds_toArray, List.set_cons_zero, List.set_cons_succ, i64_w, i32_w]
            rfl
           refine done_ (done_of HT_.out (by kernel_rfl)) ?_
           try go_wp2
           go_ret
           exact ⟨zW, zB HB⟩
          ·
           replace c72 := Bool.eq_false_iff.mpr c72
           subst c72
           have H1 : (none) = some r := by rw [if_neg (show ¬ (false = true) by decide)] at H; exact H
           clear H
           have H := H1
           clear H1
           exact absurd H (by simp)
         ·
          replace c70 := Bool.eq_false_iff.mpr c70
          subst c70
          have H1 : (none) = some r := by rw [if_neg (show ¬ (false = true) by decide)] at H; exact H
          clear H
          have H := H1
          clear H1
          exact absurd H (by simp)
        ·
         replace c68 := Bool.eq_false_iff.mpr c68
         subst c68
         have H1 : (none) = some r := by rw [if_neg (show ¬ (false = true) by decide)] at H; exact H
         clear H
         have H := H1
         clear H1
         exact absurd H (by simp)
end Go.Proofs.YtfjkamhcabckeaaDoor.P
end
section
namespace Go.Proofs.YtfjkamhcabckeaaDoor.P
open Go.RowKit Go.Proofs.YtfjkamhcabckeaaDoorW.PrintWords Go.Proofs.YtfjkamhcabckeaaDoorW.PrintLast Go.Proofs.YtfjkamhcabckeaaDoorW.PrintMore
attribute [local go_sem] max2_int min2_int max_two min_two max_three min_three max_four min_four
set_option linter.unusedVariables false
set_option linter.unusedSimpArgs false
def Ev {α : Type} (F : Nat → Option α) (r : α) : Prop := ∃ K, ∀ k, K ≤ k → F k = some r
theorem Ev.const {α : Type} (r : α) : Ev (fun _ => some r) r := ⟨0, fun _ _ => rfl⟩
theorem Ev.congr {α : Type} {F G : Nat → Option α} {r : α} (h : ∀ k, F k = G k) (hg : Ev G r) : Ev F r := by
  obtain ⟨K, hK⟩ := hg
  exact ⟨K, fun k hk => (h k).trans (hK k hk)⟩
theorem Ev.step {α : Type} {F G : Nat → Option α} {r : α} (h : ∀ k, F (k + 1) = G k) (hg : Ev G r) : Ev F r := by
  obtain ⟨K, hK⟩ := hg
  refine ⟨K + 1, fun k hk => ?_⟩
  obtain ⟨m, rfl⟩ : ∃ m, k = m + 1 := ⟨k - 1, by omega⟩
  exact (h m).trans (hK m (by omega))
theorem Ev.bind {α β : Type} {F : Nat → Option α} {G : Nat → α → Option β} {x : α} {r : β} (hf : Ev F x) (hg : Ev (fun k => G k x) r) : Ev (fun k => (F k).bind (G k)) r := by
  obtain ⟨K, hK⟩ := hf
  obtain ⟨L, hL⟩ := hg
  refine ⟨K + L, fun k hk => ?_⟩
  show (F k).bind (G k) = some r
  rw [hK k (by omega)]
  exact hL k (by omega)
theorem Ev.get {α : Type} {F : Nat → Option α} {r : α} (h : Ev F r) : ∃ k, F k = some r := by
  obtain ⟨K, hK⟩ := h
  exact ⟨K, hK K (Nat.le_refl _)⟩
theorem w64s {x : Int} (h0 : -9223372036854775808 ≤ x) (h1 : x < 9223372036854775808) : wrap64 x = x := by unfold wrap64; omega
def val (B : Nat) : List Int → Nat
  | [] => 0
  | x :: xs => x.toNat + B * val B xs
def Dig (B : Nat) (l : List Int) : Prop := ∀ x ∈ l, 0 ≤ x ∧ x < (B : Int)
def strip : List Int → List Int
  | [] => []
  | x :: xs => if strip xs = [] then (if x = 0 then [] else [x]) else x :: strip xs
def dig (B n : Nat) : List Int := if h : n = 0 ∨ B ≤ 1 then [] else ((n % B : Nat) : Int) :: dig B (n / B)
termination_by n
decreasing_by exact Nat.div_lt_self (by omega) (by omega)
theorem dig_zero (B : Nat) : dig B 0 = [] := by rw [dig]; simp
theorem dig_pos {B n : Nat} (hB : 1 < B) (hn : n ≠ 0) : dig B n = ((n % B : Nat) : Int) :: dig B (n / B) := by
  rw [dig, dif_neg (by omega)]
theorem dig_ne {B n : Nat} (hB : 1 < B) (hn : n ≠ 0) : dig B n ≠ [] := by rw [dig_pos hB hn]; simp
theorem val_dig {B : Nat} (hB : 1 < B) (n : Nat) : val B (dig B n) = n := by
  induction n using Nat.strongRecOn with
  | ind n ih =>
    by_cases hn : n = 0
    · subst hn
      rw [dig_zero]
      rfl
    · rw [dig_pos hB hn, val, ih (n / B) (Nat.div_lt_self (by omega) hB)]
      have := Nat.mod_add_div n B
      omega
theorem Dig_dig {B : Nat} (hB : 1 < B) (n : Nat) : Dig B (dig B n) := by
  induction n using Nat.strongRecOn with
  | ind n ih =>
    by_cases hn : n = 0
    · subst hn
      rw [dig_zero]
      intro x hx
      cases hx
    · rw [dig_pos hB hn]
      intro x hx
      rcases List.mem_cons.1 hx with rfl | hx
      · have := Nat.mod_lt n (show 0 < B by omega)
        omega
      · exact ih (n / B) (Nat.div_lt_self (by omega) hB) x hx
theorem Dig.cons {B : Nat} {x : Int} {l : List Int} (h : Dig B (x :: l)) : (0 ≤ x ∧ x < (B : Int)) ∧ Dig B l := ⟨h x (by simp), fun y hy => h y (by simp [hy])⟩
theorem Dig.mk {B : Nat} {x : Int} {l : List Int} (h0 : 0 ≤ x) (h1 : x < (B : Int)) (h : Dig B l) : Dig B (x :: l) := by
  intro y hy
  rcases List.mem_cons.1 hy with rfl | hy
  · exact ⟨h0, h1⟩
  · exact h y hy
theorem Dig.nil (B : Nat) : Dig B [] := by intro x hx; cases hx
theorem Dig.app {B : Nat} {a b : List Int} (ha : Dig B a) (hb : Dig B b) : Dig B (a ++ b) := by
  intro x hx
  rcases List.mem_append.1 hx with h | h
  · exact ha x h
  · exact hb x h
theorem strip_dig {B : Nat} (hB : 1 < B) : ∀ (l : List Int), Dig B l → strip l = dig B (val B l)
  | [], _ => by rw [val, dig_zero]; rfl
  | x :: xs, h => by
    obtain ⟨⟨h0, h1⟩, h2⟩ := h.cons
    have ih := strip_dig hB xs h2
    have hm : ∀ v, (x.toNat + B * v) % B = x.toNat := fun v => by
      rw [Nat.add_mul_mod_self_left, Nat.mod_eq_of_lt (by omega)]
    have hd : ∀ v, (x.toNat + B * v) / B = v := fun v => by
      rw [Nat.add_mul_div_left _ _ (by omega), Nat.div_eq_of_lt (by omega), Nat.zero_add]
    rw [strip, val, ih]
    by_cases hv : val B xs = 0
    · rw [hv, dig_zero, if_pos rfl]
      by_cases hx : x = 0
      · subst hx
        simp [dig_zero]
      · rw [if_neg hx, dig_pos hB (by omega), hm, hd, dig_zero]
        congr 1
        omega
    · rw [if_neg (dig_ne hB hv)]
      have hne : x.toNat + B * val B xs ≠ 0 := by
        have := Nat.mul_pos (show 0 < B by omega) (Nat.pos_of_ne_zero hv)
        omega
      rw [dig_pos hB hne, hm, hd]
      congr 1
      omega
theorem strip_snoc0 : ∀ (l : List Int), strip (l ++ [0]) = strip l
  | [] => by simp [strip]
  | x :: xs => by
    rw [List.cons_append, strip, strip, strip_snoc0 xs]
theorem strip_snoc : ∀ (l : List Int) (x : Int), x ≠ 0 → strip (l ++ [x]) = l ++ [x]
  | [], x, h => by simp [strip, h]
  | y :: ys, x, h => by
    rw [List.cons_append, strip, strip_snoc ys x h, if_neg (by simp)]
def Good (l : List Int) : Prop := l = [] ∨ l.getD (l.length - 1) 0 ≠ 0
theorem good_dig {B : Nat} (hB : 1 < B) {l : List Int} (h : Dig B l) (hg : Good l) : l = dig B (val B l) := by
  rw [← strip_dig hB l h]
  rcases List.eq_nil_or_concat l with rfl | ⟨ys, y, rfl⟩
  · rfl
  · rcases hg with hg | hg
    · simp at hg
    · rw [List.concat_eq_append] at hg ⊢
      rw [strip_snoc _ _ (by simpa using hg)]
theorem dig_last {B : Nat} (hB : 1 < B) (n : Nat) : Good (dig B n) := by
  induction n using Nat.strongRecOn with
  | ind n ih =>
    by_cases hn : n = 0
    · subst hn
      exact .inl (dig_zero B)
    · right
      rw [dig_pos hB hn]
      have ih := ih (n / B) (Nat.div_lt_self (by omega) hB)
      by_cases hd : n / B = 0
      · rw [hd, dig_zero]
        have h1 := Nat.div_add_mod n B
        rw [hd] at h1
        simp
        omega
      · have hne := dig_ne hB hd
        rcases ih with ih | ih
        · exact absurd ih hne
        · have hl : 0 < (dig B (n / B)).length := List.length_pos_iff.2 hne
          simp only [List.length_cons, Nat.add_sub_cancel]
          rw [show (dig B (n / B)).length = (dig B (n / B)).length - 1 + 1 by omega, List.getD_cons_succ]
          exact ih
theorem dig_length {B : Nat} (hB : 1 < B) : ∀ (m n : Nat), n < B ^ m → (dig B n).length ≤ m
  | 0, n, h => by
    have : n = 0 := by simpa using h
    subst this
    rw [dig_zero]
    exact Nat.le_refl _
  | m + 1, n, h => by
    by_cases hn : n = 0
    · subst hn
      rw [dig_zero]
      exact Nat.zero_le _
    · rw [dig_pos hB hn, List.length_cons]
      have : n / B < B ^ m := by
        rw [Nat.div_lt_iff_lt_mul (by omega)]
        rwa [Nat.pow_succ] at h
      have := dig_length hB m _ this
      omega
theorem val_lt {B : Nat} : ∀ (l : List Int), Dig B l → val B l < B ^ l.length
  | [], _ => by simp [val]
  | x :: xs, h => by
    obtain ⟨⟨h0, h1⟩, h2⟩ := h.cons
    have ih := val_lt xs h2
    rw [val, List.length_cons, Nat.pow_succ]
    have : B * (val B xs + 1) ≤ B * B ^ xs.length := Nat.mul_le_mul_left _ ih
    rw [Nat.mul_add] at this
    rw [Nat.mul_comm (B ^ xs.length)]
    omega
def V (B : Nat) (l : List Int) (i : Nat) : Nat := val B (l.drop i)
theorem V_zero (B : Nat) (l : List Int) : V B l 0 = val B l := rfl
theorem V_end (B : Nat) {l : List Int} {i : Nat} (h : l.length ≤ i) : V B l i = 0 := by
  unfold V
  rw [List.drop_eq_nil_of_le h]
  rfl
theorem V_step (B : Nat) (l : List Int) (i : Nat) : V B l i = (l.getD i 0).toNat + B * V B l (i + 1) := by
  by_cases h : i < l.length
  · unfold V
    rw [List.drop_eq_getElem_cons h, val, List.getD_eq_getElem?_getD, List.getElem?_eq_getElem h]
    rfl
  · rw [V_end B (by omega), V_end B (by omega), List.getD_eq_getElem?_getD, List.getElem?_eq_none (by omega)]
    rfl
theorem Dig.get {B : Nat} (hB : 0 < B) {l : List Int} (h : Dig B l) (i : Nat) : 0 ≤ l.getD i 0 ∧ l.getD i 0 < (B : Int) := by
  by_cases hi : i < l.length
  · rw [List.getD_eq_getElem?_getD, List.getElem?_eq_getElem hi]
    exact h _ (List.getElem_mem hi)
  · rw [List.getD_eq_getElem?_getD, List.getElem?_eq_none (by omega)]
    simp
    omega
theorem V_pos {B : Nat} (hB : 1 < B) {l : List Int} (h : Dig B l) (hg : Good l) (i : Nat) (hi : i < l.length) : 0 < V B l i := by
  rcases hg with rfl | hg
  · simp at hi
  · obtain ⟨m, hm⟩ : ∃ m, l.length - 1 = i + m := ⟨l.length - 1 - i, by omega⟩
    rw [hm] at hg
    have key : ∀ m i, l.getD (i + m) 0 ≠ 0 → 0 < V B l i := by
      intro m
      induction m with
      | zero =>
        intro i h0
        rw [V_step]
        have := (h.get (show 0 < B by omega) i).1
        rw [Nat.add_zero] at h0
        omega
      | succ m ih =>
        intro i h0
        rw [V_step]
        have := ih (i + 1) (by rw [show i + 1 + m = i + (m + 1) by omega]; exact h0)
        have := Nat.mul_pos (show 0 < B by omega) this
        omega
    exact key m i hg
theorem rd_nat (l : List Int) (i : Nat) : rd l (i : Int) = l.getD i 0 := by
  unfold rd
  simp
theorem val_append (B : Nat) : ∀ (a b : List Int), val B (a ++ b) = val B a + B ^ a.length * val B b
  | [], b => by simp [val]
  | x :: xs, b => by
    rw [List.cons_append, val, val, val_append B xs b, List.length_cons, Nat.pow_succ, Nat.mul_add, ← Nat.mul_assoc, Nat.mul_comm B (B ^ xs.length)]
    omega
theorem val_replicate (B : Nat) : ∀ n, val B (List.replicate n 0) = 0
  | 0 => rfl
  | n + 1 => by rw [List.replicate_succ, val, val_replicate B n]; simp
theorem Dig.rep {B : Nat} (hB : 0 < B) (n : Nat) : Dig B (List.replicate n 0) := by
  intro x hx
  obtain ⟨_, rfl⟩ := List.mem_replicate.1 hx
  omega
theorem wadd (i j : Nat) (h : i + j < 4611686018427387904) : wrap64 ((i : Int) + (j : Int)) = ((i + j : Nat) : Int) := by rw [w64s (by omega) (by omega)]; omega
theorem wadd1 (i : Nat) (h : i < 4611686018427387904) : wrap64 ((i : Int) + 1) = ((i + 1 : Nat) : Int) := by rw [w64s (by omega) (by omega)]; omega
theorem wsub1 (i : Nat) (h : i < 4611686018427387904) (h0 : 0 < i) : wrap64 ((i : Int) - 1) = ((i - 1 : Nat) : Int) := by rw [w64s (by omega) (by omega)]; omega
theorem wid (i : Nat) (h : i < 4611686018427387904) : wrap64 (i : Int) = (i : Int) := w64s (by omega) (by omega)
def sgn (x y : Nat) : Int := if x = y then 0 else if x < y then -1 else 1
theorem take_snoc (l : List Int) (n : Nat) (h : n < l.length) : l.take (n + 1) = l.take n ++ [l.getD n 0] := by
  rw [List.take_succ_eq_append_getElem h, List.getD_eq_getElem?_getD, List.getElem?_eq_getElem h]
  rfl
theorem V_lt {B : Nat} (hB : 0 < B) {a b : List Int} (ha : Dig B a) (hb : Dig B b) : ∀ i : Nat, V B a i < V B b i → val B a < val B b
  | 0, h => h
  | i + 1, h => by
    refine V_lt hB ha hb i ?_
    rw [V_step B a i, V_step B b i]
    have h1 := (ha.get hB i)
    have h2 : B * (V B a (i + 1) + 1) ≤ B * V B b (i + 1) := Nat.mul_le_mul_left _ h
    rw [Nat.mul_add] at h2
    omega
theorem len_lt {B : Nat} (hB : 1 < B) {a b : List Int} (ha : Dig B a) (hb : Dig B b) (hg : Good b) (h : a.length < b.length) : val B a < val B b := by
  refine V_lt (by omega) ha hb (b.length - 1) ?_
  rw [V_end B (show a.length ≤ b.length - 1 by omega)]
  exact V_pos hB hb hg _ (by omega)
theorem pos3 {p q c : Nat} (h : 0 < p ∨ 0 < q ∨ 0 < c) : p + q + c ≠ 0 := by omega
theorem val_set (B : Nat) : ∀ (l : List Int) (j : Nat) (v : Int), j < l.length → val B (l.set j v) + B ^ j * (l.getD j 0).toNat = val B l + B ^ j * v.toNat
  | [], j, v, h => by simp at h
  | x :: xs, 0, v, h => by
    simp [val]
    omega
  | x :: xs, j + 1, v, h => by
    have ih := val_set B xs j v (by simpa using h)
    rw [List.set_cons_succ, val, val, List.getD_cons_succ, Nat.pow_succ, Nat.mul_comm (B ^ j) B, Nat.mul_assoc, Nat.mul_assoc]
    have : B * (val B (xs.set j v) + B ^ j * (xs.getD j 0).toNat) = B * (val B xs + B ^ j * v.toNat) := by rw [ih]
    rw [Nat.mul_add, Nat.mul_add] at this
    omega
theorem dig_set {B : Nat} {l : List Int} (h : Dig B l) (j : Nat) {v : Int} (h0 : 0 ≤ v) (h1 : v < (B : Int)) : Dig B (l.set j v) := by
  intro x hx
  rcases List.mem_or_eq_of_mem_set hx with h2 | rfl
  · exact h x h2
  · exact ⟨h0, h1⟩
theorem getD_set_ne {l : List Int} {i j : Nat} {v : Int} (h : i ≠ j) : (l.set i v).getD j 0 = l.getD j 0 := by
  rw [List.getD_eq_getElem?_getD, List.getD_eq_getElem?_getD, List.getElem?_set_ne h]
theorem mul_val (X B o x y c vo vs V V' q r : Nat) (hs : vs + X * o = vo + X * r) (hV : V = y + B * V') (hd : o + x * y + c = B * q + r) : vs + X * B * q + X * B * (x * V') = vo + X * c + X * (x * V) := by
  have h1 : X * (o + x * y + c) = X * (B * q + r) := by rw [hd]
  rw [hV]
  simp only [Nat.mul_add] at h1 ⊢
  have e1 : X * B * q = X * (B * q) := Nat.mul_assoc _ _ _
  have e2 : X * B * (x * V') = X * (x * (B * V')) := by rw [Nat.mul_assoc, Nat.mul_left_comm B x V']
  rw [e1, e2]
  omega
theorem V_bound {B : Nat} (hB : 0 < B) {l : List Int} (h : Dig B l) (i : Nat) : V B l i < B ^ l.length := by
  have h1 : Dig B (l.drop i) := fun x hx => h x (List.mem_of_mem_drop hx)
  have h2 := val_lt _ h1
  refine Nat.lt_of_lt_of_le h2 (Nat.pow_le_pow_right hB ?_)
  rw [List.length_drop]
  omega
theorem Ev.mono {α : Type} {F : Nat → Option α} (h : ∀ k, LeO (F k) (F (k + 1))) {K : Nat} {r : α} (hK : F K = some r) : Ev F r := by
  refine ⟨K, fun k hk => ?_⟩
  obtain ⟨m, rfl⟩ : ∃ m, k = K + m := ⟨k - K, by omega⟩
  clear hk
  induction m with
  | zero => exact hK
  | succ m ih => exact h (K + m) r ih
theorem sgn_add (p q c : Nat) : sgn (p + c) (q + c) = sgn p q := by
  unfold sgn
  by_cases h1 : p = q
  · rw [if_pos h1, if_pos (by omega)]
  · rw [if_neg h1, if_neg (by omega)]
    by_cases h2 : p < q
    · rw [if_pos h2, if_pos (by omega)]
    · rw [if_neg h2, if_neg (by omega)]
theorem sgn_lt {p q : Nat} (h : p < q) : sgn p q = -1 := by rw [sgn, if_neg (by omega), if_pos h]
theorem sgn_gt {p q : Nat} (h : q < p) : sgn p q = 1 := by rw [sgn, if_neg (by omega), if_neg (by omega)]
theorem top_lt {B p q x y X : Nat} (hp : p < X) (h : x < y) : p + X * x < q + X * y := by
  have : X * (x + 1) ≤ X * y := Nat.mul_le_mul_left _ h
  rw [Nat.mul_add] at this
  omega
theorem revCmp_val {B : Nat} : ∀ (n : Nat) (a b : List Int), a.length = n → b.length = n → Dig B a → Dig B b → revCmp a.reverse b.reverse = sgn (val B a) (val B b)
  | 0, a, b, ha, hb, _, _ => by
    obtain rfl := List.length_eq_zero_iff.1 ha
    obtain rfl := List.length_eq_zero_iff.1 hb
    simp [revCmp, sgn, val]
  | n + 1, a, b, ha, hb, da, db => by
    rcases List.eq_nil_or_concat a with rfl | ⟨a', x, rfl⟩
    · simp at ha
    rcases List.eq_nil_or_concat b with rfl | ⟨b', y, rfl⟩
    · simp at hb
    rw [List.concat_eq_append] at ha hb da db ⊢
    rw [List.concat_eq_append]
    have ha' : a'.length = n := by simpa using ha
    have hb' : b'.length = n := by simpa using hb
    have da' : Dig B a' := fun z hz => da z (by simp [hz])
    have db' : Dig B b' := fun z hz => db z (by simp [hz])
    have hx := da x (by simp)
    have hy := db y (by simp)
    have va := val_lt a' da'
    have vb := val_lt b' db'
    rw [ha'] at va
    rw [hb'] at vb
    rw [List.reverse_append, List.reverse_append, val_append, val_append, ha', hb']
    simp only [List.reverse_cons, List.reverse_nil, List.nil_append, List.cons_append, val, Nat.mul_zero, Nat.add_zero]
    rw [revCmp]
    by_cases h1 : x = y
    · rw [if_pos h1, revCmp_val n a' b' ha' hb' da' db', h1, sgn_add]
    · rw [if_neg h1]
      by_cases h2 : x < y
      · rw [if_pos h2, sgn_lt (top_lt (B := B) va (by omega))]
      · rw [if_neg h2, sgn_gt (top_lt (B := B) vb (by omega))]
theorem less_val (X W d y bo x bo' vo T va vb : Nat) (h : vo + X * (x + W * va) = T + X * (y + W * vb + bo)) (hd : d + y + bo = x + W * bo') : vo + X * d + X * W * va = T + X * W * (vb + bo') := by
  have h1 : X * (d + y + bo) = X * (x + W * bo') := by rw [hd]
  have e1 : X * W * va = X * (W * va) := Nat.mul_assoc _ _ _
  have e2 : X * W * (vb + bo') = X * (W * vb) + X * (W * bo') := by rw [Nat.mul_assoc, Nat.mul_add, Nat.mul_add]
  rw [e1, e2]
  simp only [Nat.mul_add] at h h1
  omega
theorem dig_mono {B : Nat} (hB : 1 < B) {x y : Nat} (h : x ≤ y) : (dig B x).length ≤ (dig B y).length := by
  have h1 := val_lt _ (Dig_dig hB y)
  rw [val_dig hB] at h1
  exact dig_length hB _ x (Nat.lt_of_le_of_lt h h1)
theorem Ev.pos {α : Type} {c : Prop} [Decidable c] {F G : Nat → Option α} {r : α} (hc : c) (h : Ev F r) : Ev (fun k => if c then F k else G k) r := Ev.congr (fun k => if_pos hc) h
theorem Ev.neg {α : Type} {c : Prop} [Decidable c] {F G : Nat → Option α} {r : α} (hc : ¬ c) (h : Ev G r) : Ev (fun k => if c then F k else G k) r := Ev.congr (fun k => if_neg hc) h
theorem Ev.plain {α β : Type} {x : Option α} {y : α} {G : Nat → α → Option β} {r : β} (hx : x = some y) (h : Ev (fun k => G k y) r) : Ev (fun k => x.bind (G k)) r := by subst hx; exact h
theorem W_le {x m n : Nat} (hx : x < 18446744073709551616 ^ m) (h : m ≤ n) : x < 18446744073709551616 ^ n := Nat.lt_of_lt_of_le hx (Nat.pow_le_pow_right (by decide) h)
end Go.Proofs.YtfjkamhcabckeaaDoor.P
end
section
namespace Go.Proofs.YtfjkamhcabckeaaDoor.P
open Go.RowKit Go.Proofs.YtfjkamhcabckeaaDoorW.PrintWords Go.Proofs.YtfjkamhcabckeaaDoorW.PrintLast Go.Proofs.YtfjkamhcabckeaaDoorW.PrintMore
attribute [local go_sem] max2_int min2_int max_two min_two max_three min_three max_four min_four
set_option linter.unusedVariables false
set_option linter.unusedSimpArgs false
theorem lit_u64 {x : Int} (h : (Lit.int .u64 x).wf = true) : 0 ≤ x ∧ x < 18446744073709551616 := by
  have h1 : IntKind.u64.min ≤ x ∧ x ≤ IntKind.u64.max := by simpa [Lit.wf] using h
  have h2 : IntKind.u64.min = 0 := by decide
  have h3 : IntKind.u64.max = 18446744073709551615 := by decide
  omega
theorem dig_lit {l : List Int} (h : ∀ x ∈ l, (Lit.int .u64 x).wf = true) : Dig 18446744073709551616 l := fun x hx => lit_u64 (h x hx)
def goodB (l : List Int) : Bool := if l.length = 0 then true else l.getD (l.length - 1) 0 != 0
theorem nGood (l : List Int) (hl : l.length < 1000000000) : nat_Good.f l = some (goodB l) := by
  unfold nat_Good.f goodB
  by_cases h : l.length = 0
  · rw [if_pos (by omega), if_pos h]
  · rw [if_neg (by omega), if_neg h, wsub1 l.length (by omega) (by omega), if_pos (by omega), if_pos (by omega), rd_nat]
theorem rGood (l : List Int) (hl : l.length < 1000000000) : roundelref02_Good.f l = some (goodB l) := by
  unfold roundelref02_Good.f goodB
  by_cases h : l.length = 0
  · rw [if_pos (by omega), if_pos h]
  · rw [if_neg (by omega), if_neg h, wsub1 l.length (by omega) (by omega), if_pos (by omega), if_pos (by omega), rd_nat]
theorem goodB_iff (l : List Int) : goodB l = true ↔ Good l := by
  unfold goodB Good
  by_cases h : l.length = 0
  · rw [if_pos h]
    simp [List.length_eq_zero_iff.1 h]
  · rw [if_neg h]
    have : l ≠ [] := fun e => h (by rw [e]; rfl)
    simp [this]
theorem goodB_dig (n : Nat) : goodB (dig 18446744073709551616 n) = true := (goodB_iff _).2 (dig_last (by decide) n)
theorem ntrim_l0 : ∀ (n : Nat) (l : List Int), l.length = n → n < 1000000000 → Ev (fun k => nat_trim.l0 k l) (strip l) := by
  intro n
  induction n with
  | zero =>
    intro l hl _
    obtain rfl := List.length_eq_zero_iff.1 hl
    refine Ev.step (G := fun _ => some []) (fun k => ?_) (Ev.const _)
    rw [nat_trim.l0, if_neg (by simp)]
  | succ n ih =>
    intro l hl hn
    have e1 := Lib.hid (wsub1 l.length (by omega) (by omega))
    by_cases hz : l.getD n 0 = 0
    · refine Ev.step (G := fun k => nat_trim.l0 k (l.take n)) (fun k => ?_) ?_
      · rw [nat_trim.l0, if_pos (by omega), e1.out, hl, Nat.add_sub_cancel, if_pos (by omega), if_pos (by omega), rd_nat, if_pos hz, if_pos (by omega), Int.toNat_natCast]
      · have e : strip l = strip (l.take n) := by
          have h2 := take_snoc l n (by omega)
          rw [hz, ← hl, List.take_length] at h2
          have h3 := strip_snoc0 (l.take n)
          rw [← h2] at h3
          exact h3
        rw [e]
        exact ih (l.take n) (by rw [List.length_take]; omega) (by omega)
    · refine Ev.step (G := fun _ => some l) (fun k => ?_) ?_
      · rw [nat_trim.l0, if_pos (by omega), e1.out, hl, Nat.add_sub_cancel, if_pos (by omega), if_pos (by omega), rd_nat, if_neg hz]
      · have h2 := take_snoc l n (by omega)
        rw [← hl, List.take_length] at h2
        have e : strip l = l := by
          have h3 := strip_snoc (l.take n) _ hz
          rw [← h2] at h3
          exact h3
        rw [e]
        exact Ev.const _
theorem ntrim (l : List Int) (hl : l.length < 1000000000) (h : Dig 18446744073709551616 l) : Ev (fun k => nat_trim.f k l) (dig 18446744073709551616 (val 18446744073709551616 l)) := by
  rw [← strip_dig (by decide) l h]
  exact ntrim_l0 l.length l rfl hl
theorem nOf (n : Nat) (h : n < 18446744073709551616) : Ev (fun k => nat_Of.f k (n : Int)) (dig 18446744073709551616 n) := by
  have h1 := ntrim [(n : Int)] (by simp) (Dig.mk (by omega) (by omega) (Dig.nil _))
  rw [show val 18446744073709551616 [(n : Int)] = n by simp [val]] at h1
  exact Ev.bind h1 (Ev.const _)
theorem nAt (l : List Int) (i : Nat) : nat_Nat_at.f l (i : Int) = some (l.getD i 0) := by
  unfold nat_Nat_at.f
  by_cases h : i < l.length
  · rw [if_neg (by omega), if_pos (by omega), if_pos (by omega), rd_nat]
  · rw [if_pos (by omega), List.getD_eq_getElem?_getD, List.getElem?_eq_none (by omega)]
    rfl
theorem nCmp' (a b : List Int) (ha : Dig 18446744073709551616 a) (hb : Dig 18446744073709551616 b) (ga : Good a) (gb : Good b) : natCmp a b = sgn (val 18446744073709551616 a) (val 18446744073709551616 b) := by
  unfold natCmp
  by_cases h : a.length = b.length
  · rw [if_pos h, revCmp_val a.length a b rfl h.symm ha hb]
  · rw [if_neg h]
    by_cases h2 : a.length < b.length
    · rw [if_pos h2, sgn_lt (len_lt (by decide) ha hb gb h2)]
    · rw [if_neg h2, sgn_gt (len_lt (by decide) hb ha ga (by omega))]
theorem nCmp (x y : Nat) : nat_Cmp.f (dig 18446744073709551616 x) (dig 18446744073709551616 y) = some (sgn x y) := by
  unfold nat_Cmp.f
  rw [nCmp' _ _ (Dig_dig (by decide) x) (Dig_dig (by decide) y) (dig_last (by decide) x) (dig_last (by decide) y), val_dig (by decide), val_dig (by decide)]
theorem sub64 (x y c : Nat) (hc : c ≤ 1) : bits_Sub64.f (x : Int) (y : Int) (c : Int) = some ((((x + 18446744073709551616 - y - c) % 18446744073709551616 : Nat) : Int), (((if x < y + c then 1 else 0 : Nat)) : Int)) := by
  unfold bits_Sub64.f
  rw [if_pos (by omega)]
  simp only [Int.toNat_natCast]
def Le (n m : Nat) : Prop := (dig 18446744073709551616 n).length ≤ m
theorem sub_digit (x y bo va vb : Nat) (hx : x < 18446744073709551616) (hy : y < 18446744073709551616) (hbo : bo ≤ 1) (h : y + 18446744073709551616 * vb + bo ≤ x + 18446744073709551616 * va) :
    (x + 18446744073709551616 - y - bo) % 18446744073709551616 + y + bo = x + 18446744073709551616 * (if x < y + bo then 1 else 0) ∧ vb + (if x < y + bo then 1 else 0) ≤ va ∧ (if x < y + bo then 1 else 0) ≤ 1 := by
  split <;> refine ⟨?_, ?_, ?_⟩ <;> omega
theorem nLess_l0 (a b : List Int) (ha : Dig 18446744073709551616 a) (hb : Dig 18446744073709551616 b) (hs : a.length < 1000000) (hs' : b.length ≤ a.length) (T : Nat) : ∀ (m i bo : Nat) (out : List Int), i + m = a.length → bo ≤ 1 → out.length = a.length → Dig 18446744073709551616 out → (∀ p, i ≤ p → out.getD p 0 = 0) →
    V 18446744073709551616 b i + bo ≤ V 18446744073709551616 a i → val 18446744073709551616 out + 18446744073709551616 ^ i * V 18446744073709551616 a i = T + 18446744073709551616 ^ i * (V 18446744073709551616 b i + bo) →
    Ev (fun k => nat_less.l0 k a b out (bo : Int) (a.length : Int) (i : Int)) (dig 18446744073709551616 T) := by
  intro m
  induction m with
  | zero =>
    intro i bo out hi hbo ho hd hz hle hT
    refine Ev.step (G := fun k => (nat_trim.f k out).bind fun t307 => some t307) (fun k => ?_) ?_
    · rw [nat_less.l0, if_neg (by omega)]
    · have h := ntrim out (by omega) hd
      rw [V_end _ (show a.length ≤ i by omega)] at hT hle
      have h0 : V 18446744073709551616 b i + bo = 0 := by omega
      rw [h0, Nat.mul_zero, Nat.add_zero, Nat.add_zero] at hT
      rw [hT] at h
      exact Ev.bind h (Ev.const _)
  | succ m ih =>
    intro i bo out hi hbo ho hd hz hle hT
    have ha1 := ha.get (show 0 < 18446744073709551616 by decide) i
    have hb1 := hb.get (show 0 < 18446744073709551616 by decide) i
    have hva := V_step 18446744073709551616 a i
    have hvb := V_step 18446744073709551616 b i
    obtain ⟨x, hx⟩ := Int.eq_ofNat_of_zero_le ha1.1
    obtain ⟨y, hy⟩ := Int.eq_ofNat_of_zero_le hb1.1
    rw [hx] at hva ha1
    rw [hy] at hvb hb1
    rw [Int.toNat_natCast] at hva hvb
    rw [hva, hvb] at hle hT
    obtain ⟨d1, d2, d3⟩ := sub_digit x y bo _ _ (by omega) (by omega) hbo hle
    have hset := val_set 18446744073709551616 out i (((x + 18446744073709551616 - y - bo) % 18446744073709551616 : Nat) : Int) (by omega)
    rw [hz i (Nat.le_refl _), Int.toNat_natCast, Int.toNat_zero, Nat.mul_zero, Nat.add_zero] at hset
    have hv := less_val _ _ _ _ _ _ _ _ _ _ _ hT d1
    rw [← hset, ← Nat.pow_succ] at hv
    have ih2 := ih (i + 1) (if x < y + bo then 1 else 0) (out.set i (((x + 18446744073709551616 - y - bo) % 18446744073709551616 : Nat) : Int)) (by omega) d3 (by rw [List.length_set]; exact ho) (dig_set hd _ (by omega) (by omega)) (fun p hp => by rw [getD_set_ne (by omega)]; exact hz p (by omega)) d2 hv
    have WA := Lib.hid (wadd1 i (by omega))
    have H2 := Lib.hid ih2
    clear ih2 hv hset d1 d2 d3 hT hle hva hvb
    refine Ev.step (fun k => ?_) H2.out
    rw [nat_less.l0, if_pos (by omega), if_pos (by omega), if_pos (by omega), nAt, Option.bind_some, rd_nat, hx, hy, sub64 x y bo hbo, Option.bind_some, if_pos (by omega), WA.out, Int.toNat_natCast]
theorem nLess (x y : Nat) (hx : Le x 100000) (hy : y ≤ x) : Ev (fun k => nat_less.f k (dig 18446744073709551616 x) (dig 18446744073709551616 y)) (dig 18446744073709551616 (x - y)) := by
  have hl := dig_mono (B := 18446744073709551616) (by decide) hy
  unfold Le at hx
  have dx := Dig_dig (B := 18446744073709551616) (by decide) x
  have dy := Dig_dig (B := 18446744073709551616) (by decide) y
  have vx := val_dig (B := 18446744073709551616) (by decide) x
  have vy := val_dig (B := 18446744073709551616) (by decide) y
  generalize dig 18446744073709551616 x = a at *
  generalize dig 18446744073709551616 y = b at *
  have h := nLess_l0 a b dx dy (by omega) hl (x - y) a.length 0 0 (List.replicate a.length 0) (by omega) (by omega) (by simp) (Dig.rep (by decide) _) (fun p _ => by
    rw [List.getD_eq_getElem?_getD, List.getElem?_replicate]
    split <;> rfl) (by rw [V_zero, V_zero, vx, vy]; omega) (by rw [V_zero, V_zero, vx, vy, val_replicate]; simp; omega)
  refine Ev.congr (fun k => ?_) h
  rw [nat_less.f, if_pos (by omega), Int.toNat_natCast, if_pos (by omega)]
  rfl
theorem Le_lt {x m : Nat} (hx : x < 18446744073709551616 ^ m) (h : m ≤ 100000) : Le x 100000 := Nat.le_trans (dig_length (by decide) m x hx) h
end Go.Proofs.YtfjkamhcabckeaaDoor.P
end
section
namespace Go.Proofs.YtfjkamhcabckeaaDoor.P
open Go.RowKit Go.Proofs.YtfjkamhcabckeaaDoorW.PrintWords Go.Proofs.YtfjkamhcabckeaaDoorW.PrintLast Go.Proofs.YtfjkamhcabckeaaDoorW.PrintMore
attribute [local go_sem] max2_int min2_int max_two min_two max_three min_three max_four min_four
set_option linter.unusedVariables false
set_option linter.unusedSimpArgs false
theorem nLong (x : Nat) (hx : Le x 100000) : ∃ L : Nat, nat_Nat_long.f (dig 18446744073709551616 x) = some (L : Int) ∧ L ≤ 64 * (dig 18446744073709551616 x).length ∧ x < 2 ^ L ∧ (x ≠ 0 → 1 ≤ L ∧ 2 ^ (L - 1) ≤ x) := by
  unfold Le at hx
  by_cases h0 : x = 0
  · subst h0
    refine ⟨0, ?_, by omega, by decide, fun h => absurd rfl h⟩
    rw [dig_zero]
    rfl
  · have hne := dig_ne (B := 18446744073709551616) (by decide) h0
    have hd := Dig_dig (B := 18446744073709551616) (by decide) x
    have hv := val_dig (B := 18446744073709551616) (by decide) x
    have hg := dig_last (B := 18446744073709551616) (by decide) x
    generalize dig 18446744073709551616 x = l at *
    rcases List.eq_nil_or_concat l with rfl | ⟨ys, y, rfl⟩
    · exact absurd rfl hne
    rw [List.concat_eq_append] at *
    have hy := hd y (by simp)
    have hys : Dig 18446744073709551616 ys := fun z hz => hd z (by simp [hz])
    have hlt := val_lt ys hys
    obtain ⟨t, rfl⟩ := Int.eq_ofNat_of_zero_le hy.1
    have ht : t ≠ 0 := by
      rcases hg with hg | hg
      · simp at hg
      · intro e
        subst e
        simp at hg
    have ht2 : t < 18446744073709551616 := by omega
    obtain ⟨b1, b2, b3⟩ := Lib.bitLenAux_bounds 64 t (by omega) (by omega)
    have b4 := Lib.bitLen_le t 64 (by omega) (by omega)
    have hb : Lib.bitLen t = Lib.bitLenAux 64 t := rfl
    rw [← hb] at b1 b2 b3
    generalize hbl : Lib.bitLen t = bl at *
    have hlen : (ys ++ [(t : Int)]).length = ys.length + 1 := by simp
    rw [val_append] at hv
    simp only [val, Int.toNat_natCast, Nat.mul_zero, Nat.add_zero] at hv
    have hW : (18446744073709551616 : Nat) ^ ys.length = 2 ^ (64 * ys.length) := by rw [Nat.pow_mul]
    rw [hW] at hv hlt
    refine ⟨64 * ys.length + bl, ?_, by rw [hlen]; omega, ?_, fun _ => ⟨by omega, ?_⟩⟩
    · unfold nat_Nat_long.f
      rw [hlen] at hx ⊢
      rw [if_neg (by omega), wsub1 (ys.length + 1) (by omega) (by omega), if_pos (by omega), if_pos (by omega), rd_nat, Nat.add_sub_cancel]
      have e : (ys ++ [(t : Int)]).getD ys.length 0 = (t : Int) := by simp
      rw [e]
      unfold bits_Len64.f
      rw [if_pos (by omega), if_pos (by omega), Int.toNat_natCast, hbl]
      show some (wrap64 (wrap64 (64 * (ys.length : Int)) + (bl : Int))) = _
      rw [w64s (x := 64 * (ys.length : Int)) (by omega) (by omega), w64s (by omega) (by omega)]
      congr 1
    · rw [Nat.pow_add, ← hv]
      have : 2 ^ (64 * ys.length) * (t + 1) ≤ 2 ^ (64 * ys.length) * 2 ^ bl := Nat.mul_le_mul_left _ b3
      rw [Nat.mul_add] at this
      omega
    · rw [show 64 * ys.length + bl - 1 = 64 * ys.length + (bl - 1) by omega, Nat.pow_add, ← hv]
      have : 2 ^ (64 * ys.length) * 2 ^ (bl - 1) ≤ 2 ^ (64 * ys.length) * t := Nat.mul_le_mul_left _ b2
      omega
theorem shift_digit (x c r : Nat) (hr : r < 64) (hx : x < 18446744073709551616) (hc : c < 2 ^ r) :
    ∃ d c' : Nat, d < 18446744073709551616 ∧ c' < 2 ^ r ∧ 2 ^ r * x + c = 18446744073709551616 * c' + d ∧ Go.bits .or .u64 (shl .u64 (x : Int) (r : Int)) (c : Int) = (d : Int) ∧ shr .u64 (x : Int) (wrap64 (64 - (r : Int))) = (c' : Int) := by
  have hp : 0 < 2 ^ r := Nat.two_pow_pos r
  have hq : 0 < 2 ^ (64 - r) := Nat.two_pow_pos _
  have hpq : 2 ^ r * 2 ^ (64 - r) = 18446744073709551616 := by
    rw [← Nat.pow_add, show r + (64 - r) = 64 by omega]
  have hm := Nat.mod_add_div x (2 ^ (64 - r))
  have hml := Nat.mod_lt x hq
  have h1 : 2 ^ r * (x % 2 ^ (64 - r)) + 2 ^ r ≤ 18446744073709551616 := by
    rw [← hpq, ← Nat.mul_succ]
    exact Nat.mul_le_mul_left _ hml
  have h2 : 2 ^ r * x = 18446744073709551616 * (x / 2 ^ (64 - r)) + 2 ^ r * (x % 2 ^ (64 - r)) := by
    rw [← hpq, Nat.mul_assoc, ← Nat.mul_add, Nat.add_comm, hm]
  have h3 : x / 2 ^ (64 - r) < 2 ^ r := by
    rw [Nat.div_lt_iff_lt_mul hq, hpq]
    exact hx
  have hsl : shl .u64 (x : Int) (r : Int) = ((2 ^ r * (x % 2 ^ (64 - r)) : Nat) : Int) := by
    unfold shl
    rw [show min ((r : Int)).toNat IntKind.u64.bits = r by simp [IntKind.bits] <;> omega, u64w]
    have e : (x : Int) * 2 ^ r = ((2 ^ r * x : Nat) : Int) := by rw [Int.natCast_mul, Int.mul_comm]; simp
    rw [e, h2]
    omega
  refine ⟨2 ^ r * (x % 2 ^ (64 - r)) + c, x / 2 ^ (64 - r), by omega, h3, by omega, ?_, ?_⟩
  · rw [hsl]
    exact orAdd hc (by omega)
  · have ew : wrap64 (64 - (r : Int)) = ((64 - r : Nat) : Int) := by rw [w64s (by omega) (by omega)]; omega
    rw [ew]
    unfold shr
    rw [Int.toNat_natCast, show min (64 - r) IntKind.u64.bits = 64 - r by simp [IntKind.bits] <;> omega]
    simp
theorem shift_val (X W r2 x c c' d va' : Nat) (T vo : Nat) (h : vo + X * c + X * (r2 * (x + W * va')) = T) (hd : r2 * x + c = W * c' + d) : vo + X * d + X * W * c' + X * W * (r2 * va') = T := by
  have h1 : X * (r2 * x + c) = X * (W * c' + d) := by rw [hd]
  have e1 : X * W * c' = X * (W * c') := Nat.mul_assoc _ _ _
  have e2 : X * W * (r2 * va') = X * (r2 * (W * va')) := by rw [Nat.mul_assoc, Nat.mul_left_comm W]
  rw [e1, e2]
  simp only [Nat.mul_add] at h h1
  omega
theorem nShifted_l0 (a : List Int) (ha : Dig 18446744073709551616 a) (hs : a.length < 1000000) (n r q T : Nat) (hn : n < 100000000) (hr : r = n % 64) (hq : q < 100000000) : ∀ (m i c : Nat) (out : List Int), i + m = a.length → c < 2 ^ r → Dig 18446744073709551616 out → out.length = q + i →
    val 18446744073709551616 out + 18446744073709551616 ^ (q + i) * c + 18446744073709551616 ^ (q + i) * (2 ^ r * V 18446744073709551616 a i) = T →
    Ev (fun k => nat_Nat_shifted.l0 k (n : Int) out (c : Int) a (a.length : Int) (i : Int)) (dig 18446744073709551616 T) := by
  have hr64 : r < 64 := by omega
  have hp64 : 2 ^ r < 18446744073709551616 := by
    have : 2 ^ r < 2 ^ 64 := Nat.pow_lt_pow_right (by decide) hr64
    omega
  have et : Int.tmod (n : Int) 64 = (r : Int) := by
    rw [Int.tmod_eq_emod_of_nonneg (by omega)]
    omega
  have ET := Lib.hid et
  clear et
  intro m
  induction m with
  | zero =>
    intro i c out hi hc hd hl hT
    refine Ev.step (G := fun k => (nat_trim.f k (out ++ [(c : Int)])).bind fun t479 => some t479) (fun k => ?_) ?_
    · rw [nat_Nat_shifted.l0, if_neg (by omega), if_pos (by omega)]
    · have h := ntrim (out ++ [(c : Int)]) (by rw [List.length_append, List.length_singleton]; omega) (hd.app (Dig.mk (by omega) (by omega) (Dig.nil _)))
      rw [val_append, hl] at h
      simp only [val, Int.toNat_natCast, Nat.mul_zero, Nat.add_zero] at h
      rw [V_end _ (show a.length ≤ i by omega), Nat.mul_zero, Nat.mul_zero, Nat.add_zero] at hT
      rw [hT] at h
      exact Ev.bind h (Ev.const _)
  | succ m ih =>
    intro i c out hi hc hd hl hT
    have hg := ha.get (show 0 < 18446744073709551616 by decide) i
    obtain ⟨x, hx⟩ := Int.eq_ofNat_of_zero_le hg.1
    rw [hx] at hg
    have hva := V_step 18446744073709551616 a i
    rw [hx, Int.toNat_natCast] at hva
    rw [hva] at hT
    obtain ⟨d, c', h1, h2, h3, h4, h5⟩ := shift_digit x c r hr64 (by omega) hc
    have hv := shift_val _ _ _ _ _ _ _ _ _ _ hT h3
    have hval : val 18446744073709551616 (out ++ [(d : Int)]) = val 18446744073709551616 out + 18446744073709551616 ^ (q + i) * d := by
      rw [val_append, hl]
      simp [val]
    rw [← hval, ← Nat.pow_succ] at hv
    have H4 := Lib.hid h4
    have H5 := Lib.hid h5
    clear h4 h5 h3 hT hva hval
    have ih2 := ih (i + 1) c' (out ++ [(d : Int)]) (by omega) h2 (hd.app (Dig.mk (by omega) (by omega) (Dig.nil _))) (by rw [List.length_append, hl]; rfl) hv
    have H2 := Lib.hid ih2
    have WA := Lib.hid (wadd1 i (by omega))
    have ew := Lib.hid (show (0 : Int) ≤ wrap64 (64 - (r : Int)) by rw [w64s (by omega) (by omega)]; omega)
    clear ih2 hv
    refine Ev.step (fun k => ?_) H2.out
    rw [nat_Nat_shifted.l0, if_pos (by omega), if_pos (by omega), if_pos (by omega), ET.out, if_pos (by omega), if_pos (by omega), if_pos ew.out, rd_nat, hx, H4.out, H5.out, WA.out]
theorem nShifted (x n : Nat) (hx : Le x 100000) (hn : n < 10000000) : Ev (fun k => nat_Nat_shifted.f k (dig 18446744073709551616 x) (n : Int)) (dig 18446744073709551616 (x * 2 ^ n)) := by
  unfold Le at hx
  have dx := Dig_dig (B := 18446744073709551616) (by decide) x
  have vx := val_dig (B := 18446744073709551616) (by decide) x
  generalize dig 18446744073709551616 x = a at *
  have hW : 18446744073709551616 ^ (n / 64) * (2 ^ (n % 64) * x) = x * 2 ^ n := by
    have e : (18446744073709551616 : Nat) ^ (n / 64) = 2 ^ (64 * (n / 64)) := by rw [Nat.pow_mul]
    rw [e, ← Nat.mul_assoc, ← Nat.pow_add, show 64 * (n / 64) + n % 64 = n by omega, Nat.mul_comm]
  have h := nShifted_l0 a dx (by omega) n (n % 64) (n / 64) (x * 2 ^ n) (by omega) rfl (by omega) a.length 0 0 (List.replicate (n / 64) 0) (by omega) (Nat.two_pow_pos _) (Dig.rep (by decide) _) (by simp) (by
    rw [val_replicate, V_zero, vx, Nat.mul_zero, Nat.add_zero, Nat.zero_add]
    exact hW)
  refine Ev.congr (fun k => ?_) h
  have e1 : wrap64 (Int.tdiv (n : Int) 64) = ((n / 64 : Nat) : Int) := by
    rw [Int.tdiv_eq_ediv_of_nonneg (by omega), w64s (by omega) (by omega)]
    omega
  rw [nat_Nat_shifted.f, e1, wadd (n / 64) a.length (by omega), wadd1 (n / 64 + a.length) (by omega)]
  clear e1
  rw [if_pos (by omega), if_pos (by omega), Int.toNat_natCast, Int.toNat_natCast, if_pos (by omega)]
  rfl
def Free (l : List Int) (m : Nat) : Prop := ∀ p, ∃ z : Nat, l.getD p 0 = ((2 ^ (min 64 (m - 64 * p)) * z : Nat) : Int)
theorem Free.zero (n m : Nat) : Free (List.replicate n 0) m := fun p => ⟨0, by
  rw [List.getD_eq_getElem?_getD, List.getElem?_replicate]
  split <;> simp⟩
theorem Free.less {l : List Int} {m m' : Nat} (h : Free l m) (hm : m' ≤ m) : Free l m' := fun p => by
  obtain ⟨z, hz⟩ := h p
  refine ⟨2 ^ (min 64 (m - 64 * p) - min 64 (m' - 64 * p)) * z, ?_⟩
  rw [hz, ← Nat.mul_assoc, ← Nat.pow_add]
  congr 3
  omega
theorem set_bit (l : List Int) (hd : Dig 18446744073709551616 l) (n : Nat) (h : Free l (n + 1)) (hn : n / 64 < l.length) :
    ∃ o : Nat, Go.bits .or .u64 (l.getD (n / 64) 0) (shl .u64 1 ((n % 64 : Nat) : Int)) = (o : Int) ∧ o < 18446744073709551616 ∧ Free (l.set (n / 64) (o : Int)) n ∧ val 18446744073709551616 (l.set (n / 64) (o : Int)) = val 18446744073709551616 l + 2 ^ n := by
  obtain ⟨z, hz⟩ := h (n / 64)
  have hr : n % 64 < 64 := Nat.mod_lt _ (by decide)
  rw [show min 64 (n + 1 - 64 * (n / 64)) = n % 64 + 1 by omega] at hz
  have hg := hd.get (show 0 < 18446744073709551616 by decide) (n / 64)
  rw [hz] at hg
  have hp : 0 < 2 ^ (n % 64) := Nat.two_pow_pos _
  have hp2 : 2 ^ (n % 64 + 1) = 2 * 2 ^ (n % 64) := by rw [Nat.pow_succ, Nat.mul_comm]
  have hp64 : 2 ^ (n % 64 + 1) ≤ 18446744073709551616 := by
    have : 2 ^ (n % 64 + 1) ≤ 2 ^ 64 := Nat.pow_le_pow_right (by decide) hr
    omega
  have hsl : shl .u64 1 ((n % 64 : Nat) : Int) = ((2 ^ (n % 64) : Nat) : Int) := by
    unfold shl
    rw [Int.toNat_natCast, show min (n % 64) IntKind.u64.bits = n % 64 by simp [IntKind.bits] <;> omega, Int.one_mul]
    have e : (2 : Int) ^ (n % 64) = ((2 ^ (n % 64) : Nat) : Int) := by simp
    rw [e, u64s (by omega) (by omega)]
  have hlt : 2 ^ (n % 64 + 1) * z + 2 ^ (n % 64) < 18446744073709551616 := by
    have h64 : 2 ^ (n % 64 + 1) * 2 ^ (63 - n % 64) = 18446744073709551616 := by
      rw [← Nat.pow_add, show n % 64 + 1 + (63 - n % 64) = 64 by omega]
    have h1 : 2 ^ (n % 64 + 1) * z < 2 ^ (n % 64 + 1) * 2 ^ (63 - n % 64) := by rw [h64]; omega
    have h2 : z < 2 ^ (63 - n % 64) := Nat.lt_of_mul_lt_mul_left h1
    have h3 : 2 ^ (n % 64 + 1) * (z + 1) ≤ 18446744073709551616 := by rw [← h64]; exact Nat.mul_le_mul_left _ h2
    rw [Nat.mul_add] at h3
    omega
  refine ⟨2 ^ (n % 64 + 1) * z + 2 ^ (n % 64), ?_, hlt, fun p => ?_, ?_⟩
  · rw [hz, hsl]
    exact orAdd (by omega) hlt
  · by_cases hp1 : p = n / 64
    · subst hp1
      refine ⟨2 * z + 1, ?_⟩
      rw [List.getD_eq_getElem?_getD, List.getElem?_set_self hn, show min 64 (n - 64 * (n / 64)) = n % 64 by omega]
      show (((2 ^ (n % 64 + 1) * z + 2 ^ (n % 64) : Nat)) : Int) = _
      congr 1
      rw [hp2, Nat.mul_add, Nat.mul_one, ← Nat.mul_assoc, Nat.mul_comm (2 ^ (n % 64)) 2]
    · rw [getD_set_ne (Ne.symm hp1)]
      exact h.less (by omega) p
  · have hs := val_set 18446744073709551616 l (n / 64) ((2 ^ (n % 64 + 1) * z + 2 ^ (n % 64) : Nat) : Int) hn
    rw [hz, Int.toNat_natCast, Int.toNat_natCast, Nat.mul_add] at hs
    have hW : 18446744073709551616 ^ (n / 64) * 2 ^ (n % 64) = 2 ^ n := by
      have e : (18446744073709551616 : Nat) ^ (n / 64) = 2 ^ (64 * (n / 64)) := by rw [Nat.pow_mul]
      rw [e, ← Nat.pow_add, show 64 * (n / 64) + n % 64 = n by omega]
    omega
theorem nDiv_l0 (x y : Nat) (hy : 0 < y) (hx : Le x 100000) (hyl : Le y 100000) : ∀ (m : Nat) (l : Nat) (out : List Int), m < 10000000 → l ≤ x → l < y * 2 ^ m → out.length = (dig 18446744073709551616 x).length → m ≤ 64 * out.length → Dig 18446744073709551616 out → Free out m → val 18446744073709551616 out * y + l = x →
    Ev (fun k => nat_DivMod.l0 k (dig 18446744073709551616 y) (dig 18446744073709551616 l) out ((m : Int) - 1)) (dig 18446744073709551616 (x / y), dig 18446744073709551616 (x % y), 0) := by
  intro m
  induction m with
  | zero =>
    intro l out _ hlx hl ho _ hd hf hv
    refine Ev.step (G := fun k => (nat_trim.f k out).bind fun t490 => some (t490, dig 18446744073709551616 l, 0)) (fun k => ?_) ?_
    · rw [nat_DivMod.l0, if_neg (by omega)]
    · have h := ntrim out (by unfold Le at hx; omega) hd
      rw [Nat.pow_zero, Nat.mul_one] at hl
      have e1 : x / y = val 18446744073709551616 out := by
        rw [← hv, Nat.add_comm, Nat.add_mul_div_right _ _ hy, Nat.div_eq_of_lt hl, Nat.zero_add]
      have e2 : x % y = l := by
        rw [← hv, Nat.add_comm, Nat.add_mul_mod_self_right, Nat.mod_eq_of_lt hl]
      rw [e1, e2]
      exact Ev.bind h (Ev.const _)
  | succ n ih =>
    intro l out hm hlx hl ho hn hd hf hv
    have hll : Le l 100000 := Nat.le_trans (dig_mono (by decide) hlx) hx
    have sh := nShifted y n hyl (by omega)
    have e0 : ((n + 1 : Nat) : Int) - 1 = (n : Int) := by omega
    rw [e0]
    have e1 : wrap64 (Int.tdiv (n : Int) 64) = ((n / 64 : Nat) : Int) := by
      rw [Int.tdiv_eq_ediv_of_nonneg (by omega), w64s (by omega) (by omega)]
      omega
    have e2 : Int.tmod (n : Int) 64 = ((n % 64 : Nat) : Int) := by
      rw [Int.tmod_eq_emod_of_nonneg (by omega)]
      omega
    have E1 := Lib.hid e1
    have E2 := Lib.hid e2
    have E3 := Lib.hid (show wrap64 ((n : Int) - 1) = (n : Int) - 1 from w64s (by omega) (by omega))
    clear e1 e2
    refine Ev.step (G := fun k => (nat_Nat_shifted.f k (dig 18446744073709551616 y) (n : Int)).bind fun t493 => (nat_Cmp.f (dig 18446744073709551616 l) t493).bind fun t496 => if t496 ≥ 0 then ((nat_less.f k (dig 18446744073709551616 l) t493).bind fun t497 => if 0 ≤ (wrap64 (Int.tdiv (n : Int) 64)) then (if (wrap64 (Int.tdiv (n : Int) 64)) < (out.length : Int) then (if 0 ≤ (Int.tmod (n : Int) 64) then (nat_DivMod.l0 k (dig 18446744073709551616 y) t497 (out.set ((wrap64 (Int.tdiv (n : Int) 64)) : Int).toNat (Go.bits .or .u64 (rd out (wrap64 (Int.tdiv (n : Int) 64))) (shl .u64 1 (Int.tmod (n : Int) 64)))) (wrap64 ((n : Int) - 1))) else none) else none) else none) else nat_DivMod.l0 k (dig 18446744073709551616 y) (dig 18446744073709551616 l) out (wrap64 ((n : Int) - 1))) (fun k => ?_) (Ev.bind sh (Ev.plain (nCmp l (y * 2 ^ n)) ?_))
    · rw [nat_DivMod.l0, if_pos (by omega)]
    · by_cases hge : y * 2 ^ n ≤ l
      · have hs : sgn l (y * 2 ^ n) ≥ 0 := by
          unfold sgn
          split
          · omega
          · rw [if_neg (by omega)]
            omega
        obtain ⟨o, o1, o2, o3, o4⟩ := set_bit out hd n hf (by omega)
        have O1 := Lib.hid o1
        have hv2 : val 18446744073709551616 (out.set (n / 64) (o : Int)) * y + (l - y * 2 ^ n) = x := by
          rw [o4, Nat.add_mul, Nat.mul_comm (2 ^ n) y]
          omega
        have hl2 : l - y * 2 ^ n < y * 2 ^ n := by
          rw [Nat.pow_succ, ← Nat.mul_assoc] at hl
          omega
        have ih2 := ih (l - y * 2 ^ n) (out.set (n / 64) (o : Int)) (by omega) (by omega) hl2 (by rw [List.length_set]; exact ho) (by rw [List.length_set]; omega) (dig_set hd _ (by omega) (by omega)) o3 hv2
        refine Ev.pos hs (Ev.bind (nLess l (y * 2 ^ n) hll hge) ?_)
        refine Ev.congr (fun k => ?_) ih2
        rw [E1.out, E2.out, E3.out, if_pos (by omega), if_pos (by omega), if_pos (by omega), Int.toNat_natCast, rd_nat, O1.out]
      · have hs : ¬ sgn l (y * 2 ^ n) ≥ 0 := by
          rw [sgn_lt (by omega)]
          omega
        refine Ev.neg hs (Ev.congr (fun k => ?_) (ih l out (by omega) hlx (by omega) ho (by omega) hd (hf.less (by omega)) hv))
        rw [E3.out]
theorem nDivMod (x y : Nat) (hy : 0 < y) (hx : Le x 100000) (hyl : Le y 100000) : Ev (fun k => nat_DivMod.f k (dig 18446744073709551616 x) (dig 18446744073709551616 y)) (dig 18446744073709551616 (x / y), dig 18446744073709551616 (x % y), 0) := by
  obtain ⟨L, l1, l2, l3, l4⟩ := nLong x hx
  obtain ⟨M, m1, m2, m3, m4⟩ := nLong y hyl
  obtain ⟨m5, m6⟩ := m4 (by omega)
  have hyne := dig_ne (B := 18446744073709551616) (by decide) (show y ≠ 0 by omega)
  have hyl0 : 0 < (dig 18446744073709551616 y).length := List.length_pos_iff.2 hyne
  have hxl := hx
  have hyl' := hyl
  unfold Le at hxl hyl'
  have hb : x < y * 2 ^ (L - M + 1) := by
    have h1 : 2 ^ L ≤ 2 ^ (M - 1) * 2 ^ (L - M + 1) := by
      rw [← Nat.pow_add]
      exact Nat.pow_le_pow_right (by decide) (by omega)
    exact Nat.lt_of_lt_of_le l3 (Nat.le_trans h1 (Nat.mul_le_mul_right _ m6))
  have hclone : nat_Nat_uint64_81.f (dig 18446744073709551616 x) = some (dig 18446744073709551616 x) := by
    unfold nat_Nat_uint64_81.f
    rw [if_pos (by omega)]
  refine Ev.congr (G := fun k => nat_DivMod.l0 k (dig 18446744073709551616 y) (dig 18446744073709551616 x) (List.replicate (dig 18446744073709551616 x).length 0) ((L : Int) - (M : Int))) (fun k => ?_) ?_
  · rw [nat_DivMod.f, if_neg (by omega), hclone, Option.bind_some, if_pos (by omega), Int.toNat_natCast, if_pos (by omega), l1, Option.bind_some, m1, Option.bind_some, w64s (by omega) (by omega)]
  · by_cases hLM : M ≤ L
    · have h := nDiv_l0 x y hy hx hyl (L - M + 1) x (List.replicate (dig 18446744073709551616 x).length 0) (by omega) (Nat.le_refl _) hb (by simp) (by rw [List.length_replicate]; omega) (Dig.rep (by decide) _) (Free.zero _ _) (by rw [val_replicate]; omega)
      rw [show ((L - M + 1 : Nat) : Int) - 1 = (L : Int) - (M : Int) by omega] at h
      exact h
    · have hxy : x < y := by
        have : 2 ^ L ≤ 2 ^ (M - 1) := Nat.pow_le_pow_right (by decide) (by omega)
        omega
      have h := nDiv_l0 x y hy hx hyl 0 x (List.replicate (dig 18446744073709551616 x).length 0) (by omega) (Nat.le_refl _) (by omega) (by simp) (by omega) (Dig.rep (by decide) _) (Free.zero _ _) (by rw [val_replicate]; omega)
      obtain ⟨K, hK⟩ := h
      have ht := ntrim (List.replicate (dig 18446744073709551616 x).length 0) (by rw [List.length_replicate]; omega) (Dig.rep (by decide) _)
      rw [val_replicate] at ht
      refine Ev.step (G := fun k => (nat_trim.f k (List.replicate (dig 18446744073709551616 x).length 0)).bind fun t490 => some (t490, dig 18446744073709551616 x, 0)) (fun k => ?_) ?_
      · rw [nat_DivMod.l0, if_neg (by omega)]
      · rw [Nat.div_eq_of_lt hxy, Nat.mod_eq_of_lt hxy]
        exact Ev.bind ht (Ev.const _)
theorem nGcd_l0 : ∀ (y x : Nat), Le x 100000 → Le y 100000 → Ev (fun k => nat_Gcd.l0 k (dig 18446744073709551616 x) (dig 18446744073709551616 y)) (dig 18446744073709551616 (Nat.gcd x y)) := by
  intro y
  induction y using Nat.strongRecOn with
  | ind y ih =>
    intro x hx hyl
    by_cases hy : y = 0
    · subst hy
      refine Ev.step (G := fun _ => some (dig 18446744073709551616 x)) (fun k => ?_) ?_
      · rw [dig_zero, nat_Gcd.l0, if_neg (by simp)]
      · rw [Nat.gcd_zero_right]
        exact Ev.const _
    · have hpos : 0 < y := by omega
      have hne := dig_ne (B := 18446744073709551616) (by decide) hy
      have hl0 : 0 < (dig 18446744073709551616 y).length := List.length_pos_iff.2 hne
      have hmod := Nat.mod_lt x hpos
      have ih2 := ih (x % y) hmod y hyl (Nat.le_trans (dig_mono (by decide) (Nat.le_of_lt hmod)) hyl)
      have hg : Nat.gcd x y = Nat.gcd y (x % y) := by rw [Nat.gcd_comm x y, Nat.gcd_rec y x, Nat.gcd_comm]
      have hclone : nat_Nat_uint64_81.f (dig 18446744073709551616 y) = some (dig 18446744073709551616 y) := by
        unfold nat_Nat_uint64_81.f
        have := hyl
        unfold Le at this
        rw [if_pos (by omega)]
      refine Ev.step (G := fun k => (nat_DivMod.f k (dig 18446744073709551616 x) (dig 18446744073709551616 y)).bind fun bt505 => (nat_Nat_uint64_81.f (dig 18446744073709551616 y)).bind fun t512 => nat_Gcd.l0 k t512 bt505.2.1) (fun k => ?_) (Ev.bind (nDivMod x y hpos hx hyl) (Ev.plain hclone ?_))
      · rw [nat_Gcd.l0, if_pos (by omega)]
      · rw [hg]
        exact ih2
theorem nGcd (x y : Nat) (hx : Le x 100000) (hy : Le y 100000) : Ev (fun k => nat_Gcd.f k (dig 18446744073709551616 x) (dig 18446744073709551616 y)) (dig 18446744073709551616 (Nat.gcd x y)) := by
  have hclone : nat_Nat_uint64_81.f (dig 18446744073709551616 x) = some (dig 18446744073709551616 x) := by
    unfold nat_Nat_uint64_81.f
    have := hx
    unfold Le at this
    rw [if_pos (by omega)]
  exact Ev.plain hclone (nGcd_l0 y x hx hy)
end Go.Proofs.YtfjkamhcabckeaaDoor.P
end
