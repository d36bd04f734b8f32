-- Written by a program of this session (wip/tools) over the kit's print; not trusted: Lean checks it.
import Derived.Test.YtcoipojikmgdmaaDoorP0
import Derived.Test.YtcoipojikmgdmaaDoorP2
import Derived.Test.YtcoipojikmgdmaaDoorP7
import Derived.Test.YtcoipojikmgdmaaDoorP10
import Derived.Test.YtcoipojikmgdmaaDoorP11
import Derived.Test.YtcoipojikmgdmaaDoorP12
import Derived.Test.YtcoipojikmgdmaaDoorP13
import Derived.Test.YtcoipojikmgdmaaDoorP16
import Derived.Test.YtcoipojikmgdmaaDoorP17
import Derived.Test.YtcoipojikmgdmaaDoorP18
namespace Go.Proofs.YtcoipojikmgdmaaDoor.P
open Go.RowKit Go.Proofs.YtcoipojikmgdmaaDoorW.PrintWords Go.Proofs.YtcoipojikmgdmaaDoorW.PrintLast Go.Proofs.YtcoipojikmgdmaaDoorW.PrintMore
attribute [local go_sem] max2_int min2_int max_two min_two max_three min_three max_four min_four   -- for this text's walks alone
set_option linter.unusedVariables false
set_option linter.unusedSimpArgs false

/-! ### roundellaw02_NatSums: function 5 -/
mutual
def roundellaw02_NatSums.j0 : Nat → List Int → List Int → Bool → Option (Bool)
  | 0, _, _, _ => none
  | k + 1, x0, x1, x19 => if x19 = true then ((roundellaw02_awake.f k).bind fun t342 => (some t342)) else ((roundellaw02_copied.f x0).bind fun t343 => ((roundellaw02_copied.f x1).bind fun t346 => ((roundelref02_Limbs.f k x0).bind fun t349 => ((roundelref02_Limbs.f k x1).bind fun t352 => ((roundelref02_Cmp.f k t349 t352).bind fun t355 => ((nat_Sub.f k t343 t346).bind fun bt356 => ((nat_Cmp.f t343 t346).bind fun t360 => (if t360 = t355 then ((nat_Add.f k t343 t346).bind fun t361 => ((roundelref02_Add.f k t349 t352).bind fun t364 => ((roundellaw02_Is.f k t361 t364).bind fun t367 => (roundellaw02_NatSums.j1 k x0 x1 t343 t346 t349 t352 t355 bt356.1 bt356.2 (!t367))))) else (roundellaw02_NatSums.j1 k x0 x1 t343 t346 t349 t352 t355 bt356.1 bt356.2 true)))))))))
def roundellaw02_NatSums.j1 : Nat → List Int → List Int → List Int → List Int → List Int → List Int → Int → List Int → Int → Bool → Option (Bool)
  | 0, _, _, _, _, _, _, _, _, _, _ => none
  | k + 1, x0, x1, x5, x6, x7, x8, x9, x10, x11, x52 => if x52 = true then (some false) else (if x9 < 0 then (if x11 = 14 then (some ((x10.length : Int) == 0)) else (some false)) else (if x11 = 0 then ((roundelref02_Sub.f k x7 x8).bind fun t368 => ((roundellaw02_Is.f k x10 t368).bind fun t371 => (if t371 = true then ((roundellaw02_same.f k x5 x0).bind fun t372 => (if t372 = true then ((roundellaw02_same.f k x6 x1).bind fun t373 => (some t373)) else (some false))) else (some false)))) else (some false)))
end
def roundellaw02_NatSums.f (k : Nat) (l0 : List Int) (l1 : List Int) : Option (Bool) := (roundellaw02_awake.f k).bind fun t340 => (if t340 = true then ((roundellaw02_few.f l0 l1).bind fun t341 => (roundellaw02_NatSums.j0 k l0 l1 (!t341))) else (roundellaw02_NatSums.j0 k l0 l1 true))
theorem roundellaw02_NatSums.mono_l : ∀ k, (∀ y0 y1 y2, LeO (roundellaw02_NatSums.j0 k y0 y1 y2) (roundellaw02_NatSums.j0 (k + 1) y0 y1 y2)) ∧ (∀ y0 y1 y2 y3 y4 y5 y6 y7 y8 y9, LeO (roundellaw02_NatSums.j1 k y0 y1 y2 y3 y4 y5 y6 y7 y8 y9) (roundellaw02_NatSums.j1 (k + 1) y0 y1 y2 y3 y4 y5 y6 y7 y8 y9))
  | 0 => ⟨fun _ _ _ r h => by simp [roundellaw02_NatSums.j0] at h, fun _ _ _ _ _ _ _ _ _ _ r h => by simp [roundellaw02_NatSums.j1] at h⟩
  | k + 1 => by
    obtain ⟨ih0, ih1⟩ := roundellaw02_NatSums.mono_l k
    refine ⟨?_, ?_⟩
    · intro y0 y1 y2
      unfold roundellaw02_NatSums.j0
      repeat' first
      | (with_reducible exact ih0 _ _ _)
      | (with_reducible exact ih1 _ _ _ _ _ _ _ _ _ _)
      | (with_reducible exact nat_Add.mono _ _ _)
      | (with_reducible exact nat_Sub.mono _ _ _)
      | (with_reducible exact roundellaw02_Is.mono _ _ _)
      | (with_reducible exact roundellaw02_awake.mono _)
      | (with_reducible exact roundellaw02_same.mono _ _ _)
      | (with_reducible exact roundelref02_Add.mono _ _ _)
      | (with_reducible exact roundelref02_Cmp.mono _ _ _)
      | (with_reducible exact roundelref02_Limbs.mono _ _)
      | (with_reducible exact roundelref02_Sub.mono _ _ _)
      | (with_reducible exact LeO.refl _)
      | (with_reducible exact LeO.none _)
      | (with_reducible refine LeO.ite ?_ ?_)
      | (with_reducible refine LeO.bind ?_ (fun _ => ?_))
      | exact ih0 _ _ _
      | exact ih1 _ _ _ _ _ _ _ _ _ _
      | exact nat_Add.mono _ _ _
      | exact nat_Sub.mono _ _ _
      | exact roundellaw02_Is.mono _ _ _
      | exact roundellaw02_awake.mono _
      | exact roundellaw02_same.mono _ _ _
      | exact roundelref02_Add.mono _ _ _
      | exact roundelref02_Cmp.mono _ _ _
      | exact roundelref02_Limbs.mono _ _
      | exact roundelref02_Sub.mono _ _ _
      | exact LeO.none _
      | refine LeO.ite ?_ ?_
      | refine LeO.bind ?_ (fun _ => ?_)
    · intro y0 y1 y2 y3 y4 y5 y6 y7 y8 y9
      unfold roundellaw02_NatSums.j1
      repeat' first
      | (with_reducible exact ih0 _ _ _)
      | (with_reducible exact ih1 _ _ _ _ _ _ _ _ _ _)
      | (with_reducible exact nat_Add.mono _ _ _)
      | (with_reducible exact nat_Sub.mono _ _ _)
      | (with_reducible exact roundellaw02_Is.mono _ _ _)
      | (with_reducible exact roundellaw02_awake.mono _)
      | (with_reducible exact roundellaw02_same.mono _ _ _)
      | (with_reducible exact roundelref02_Add.mono _ _ _)
      | (with_reducible exact roundelref02_Cmp.mono _ _ _)
      | (with_reducible exact roundelref02_Limbs.mono _ _)
      | (with_reducible exact roundelref02_Sub.mono _ _ _)
      | (with_reducible exact LeO.refl _)
      | (with_reducible exact LeO.none _)
      | (with_reducible refine LeO.ite ?_ ?_)
      | (with_reducible refine LeO.bind ?_ (fun _ => ?_))
      | exact ih0 _ _ _
      | exact ih1 _ _ _ _ _ _ _ _ _ _
      | exact nat_Add.mono _ _ _
      | exact nat_Sub.mono _ _ _
      | exact roundellaw02_Is.mono _ _ _
      | exact roundellaw02_awake.mono _
      | exact roundellaw02_same.mono _ _ _
      | exact roundelref02_Add.mono _ _ _
      | exact roundelref02_Cmp.mono _ _ _
      | exact roundelref02_Limbs.mono _ _
      | exact roundelref02_Sub.mono _ _ _
      | exact LeO.none _
      | refine LeO.ite ?_ ?_
      | refine LeO.bind ?_ (fun _ => ?_)
theorem roundellaw02_NatSums.mono : ∀ a0 a1 k, LeO (roundellaw02_NatSums.f k a0 a1) (roundellaw02_NatSums.f (k + 1) a0 a1) := by
  intro a0 a1 k
  obtain ⟨ih0, ih1⟩ := roundellaw02_NatSums.mono_l k
  unfold roundellaw02_NatSums.f
  repeat' first
      | (with_reducible exact ih0 _ _ _)
      | (with_reducible exact ih1 _ _ _ _ _ _ _ _ _ _)
      | (with_reducible exact nat_Add.mono _ _ _)
      | (with_reducible exact nat_Sub.mono _ _ _)
      | (with_reducible exact roundellaw02_Is.mono _ _ _)
      | (with_reducible exact roundellaw02_awake.mono _)
      | (with_reducible exact roundellaw02_same.mono _ _ _)
      | (with_reducible exact roundelref02_Add.mono _ _ _)
      | (with_reducible exact roundelref02_Cmp.mono _ _ _)
      | (with_reducible exact roundelref02_Limbs.mono _ _)
      | (with_reducible exact roundelref02_Sub.mono _ _ _)
      | (with_reducible exact LeO.refl _)
      | (with_reducible exact LeO.none _)
      | (with_reducible refine LeO.ite ?_ ?_)
      | (with_reducible refine LeO.bind ?_ (fun _ => ?_))
      | exact ih0 _ _ _
      | exact ih1 _ _ _ _ _ _ _ _ _ _
      | exact nat_Add.mono _ _ _
      | exact nat_Sub.mono _ _ _
      | exact roundellaw02_Is.mono _ _ _
      | exact roundellaw02_awake.mono _
      | exact roundellaw02_same.mono _ _ _
      | exact roundelref02_Add.mono _ _ _
      | exact roundelref02_Cmp.mono _ _ _
      | exact roundelref02_Limbs.mono _ _
      | exact roundelref02_Sub.mono _ _ _
      | exact LeO.none _
      | refine LeO.ite ?_ ?_
      | refine LeO.bind ?_ (fun _ => ?_)
set_option maxHeartbeats 8000000 in
set_option maxRecDepth 100000 in
theorem roundellaw02_NatSums.calls (k : Nat) (A0 : Option Addr) (c0 : Nat) (l0 : List Int) (A1 : Option Addr) (c1 : Nat) (l1 : List Int) (r : Bool) (w : World) (hr0 : Kd.C (Kd.int .u64) w A0 l0.length l0) (hc0 : l0.length ≤ c0) (hr1 : Kd.C (Kd.int .u64) w A1 l1.length l1) (hc1 : l1.length ≤ c1) (hG : Glob w) (h : roundellaw02_NatSums.f k l0 l1 = some r) :
    Calls Tryd.prog 5 #[.slice A0 l0.length c0, .slice A1 l1.length c1] w fun e w' => e = .returned (.bool r) ∧ Below w.heap.size w w' := by
  have HR0 := Aside0.mk hr0
  have HC0 := Aside0.mk hc0
  clear hr0 hc0
  have HR1 := Aside0.mk hr1
  have HC1 := Aside0.mk hc1
  clear hr1 hc1
  have HG := Aside0.mk hG
  clear hG
  have HB := Aside0.mk (Below.refl w.heap.size w)
  have H : ((roundellaw02_awake.f k).bind fun t340 => (if t340 = true then ((roundellaw02_few.f l0 l1).bind fun t341 => (roundellaw02_NatSums.j0 k l0 l1 (!t341))) else (roundellaw02_NatSums.j0 k l0 l1 true))) = some r := h
  clear h
  have HC3 := Aside0.mk H
  clear H
  go_enter Tryd.func5, Tryd.ntmps5
  go_upto_region 1 with (fail)
  go_cut [19] (fun v19 wc => ∃ (kq : Nat) (x19_2 : Bool), v19 = .bool x19_2 ∧ Aside0 (roundellaw02_NatSums.j0 kq l0 l1 x19_2 = some r) ∧ Aside0 (kq ≤ k) ∧ Aside0 (Below w.heap.size w wc))
  case first =>
    have H := HC3.out
    clear HC3
    replace H := Option.bind_eq_some_iff.mp H
    obtain ⟨t340, A40, H⟩ := H
    replace H : (if t340 = true then ((roundellaw02_few.f l0 l1).bind fun t341 => (roundellaw02_NatSums.j0 k l0 l1 (!t341))) else (roundellaw02_NatSums.j0 k l0 l1 true)) = some r := H
    have A4 := Aside0.mk A40
    clear A40
    by_cases c5 : t340 = true
    · subst c5
      have H1 : ((roundellaw02_few.f l0 l1).bind fun t341 => (roundellaw02_NatSums.j0 k l0 l1 (!t341))) = some r := by rw [if_pos rfl] at H; exact H
      clear H
      have H := H1
      clear H1
      replace H := Option.bind_eq_some_iff.mp H
      obtain ⟨t341, A60, H⟩ := H
      replace H : (roundellaw02_NatSums.j0 k l0 l1 (!t341)) = some r := H
      have A6 := Aside0.mk A60
      clear A60
      have H' := Aside0.mk H
      clear H
      go_wp2_with (first | ((with_reducible refine gate_callee (f := 12) rfl ?_); refine goesL_ (some 12) rfl rfl Tryd.func12 (by kernel_rfl) rfl #[] rfl (by (try simp only [List.map_toArray, List.map_cons, List.map_nil]); first | done | rfl | (simp only [List.length_drop, List.length_take]; rfl) | ((simp [Act.eval, wrap64]) <;> omega) | ((simp [Act.eval, wrap64, IntKind.wrap, IntKind.bits, IntKind.signed]) <;> omega)) ?_; (with_reducible refine (roundellaw02_awake.calls k  true _ ?side1 A4.out).mono ?_); (case side1 => exact Glob.below HG.out (by repeat (first | (with_reducible first | exact HB.out | apply below_alloc | apply pw_below_drewN | apply below_drew1) | exact HB.out))); rintro e w7 ⟨rfl, hb⟩; refine ⟨_, rfl, ?_⟩; have n0_ := Aside0.mk (below_step (by repeat (first | (with_reducible first | exact HB.out | apply below_alloc | apply pw_below_drewN | apply below_drew1) | exact HB.out)) hb); clear HB; have HB := n0_; clear n0_; (try clear hb); (try clear hb2); (try clear hk); (try clear hi)) | (go_at_call 19; (with_reducible refine (roundellaw02_few.calls _ _ l0 _ _ l1 t341 _ ?side1 ?side2 ?side3 ?side4 A6.out).mono ?_); (case side1 => repeat (first | exact (Kd.C_below HR0.out HB.out) | (with_reducible refine Kd.C_alloc ?_ _) | (with_reducible refine Kd.C_drewN ?_ _) | (with_reducible refine Kd.C_drew ?_))); (case side2 => exact HC0.out); (case side3 => repeat (first | exact (Kd.C_below HR1.out HB.out) | (with_reducible refine Kd.C_alloc ?_ _) | (with_reducible refine Kd.C_drewN ?_ _) | (with_reducible refine Kd.C_drew ?_))); (case side4 => exact HC1.out); rintro e w' ⟨rfl, ⟨nd, rfl⟩⟩))
      go_meet
      case rel => exact ⟨_, (!t341), (by first | rfl | (simp; done) | (simp [*]; done)), H', ⟨by first | omega | exact Nat.le_refl _⟩, ⟨by repeat (first | (with_reducible first | exact HB.out | apply below_alloc | apply pw_below_drewN | apply below_drew1) | exact HB.out)⟩⟩
    · replace c5 := Bool.eq_false_iff.mpr c5
      subst c5
      have H1 : (roundellaw02_NatSums.j0 k l0 l1 true) = some r := by rw [if_neg (show ¬ (false = true) by decide)] at H; exact H
      clear H
      have H := H1
      clear H1
      have H' := Aside0.mk H
      clear H
      go_wp2_with (first | ((with_reducible refine gate_callee (f := 12) rfl ?_); refine goesL_ (some 12) rfl rfl Tryd.func12 (by kernel_rfl) rfl #[] rfl (by (try simp only [List.map_toArray, List.map_cons, List.map_nil]); first | done | rfl | (simp only [List.length_drop, List.length_take]; rfl) | ((simp [Act.eval, wrap64]) <;> omega) | ((simp [Act.eval, wrap64, IntKind.wrap, IntKind.bits, IntKind.signed]) <;> omega)) ?_; (with_reducible refine (roundellaw02_awake.calls k  false _ ?side1 A4.out).mono ?_); (case side1 => exact Glob.below HG.out (by repeat (first | (with_reducible first | exact HB.out | apply below_alloc | apply pw_below_drewN | apply below_drew1) | exact HB.out))); rintro e w8 ⟨rfl, hb⟩; refine ⟨_, rfl, ?_⟩; have n0_ := Aside0.mk (below_step (by repeat (first | (with_reducible first | exact HB.out | apply below_alloc | apply pw_below_drewN | apply below_drew1) | exact HB.out)) hb); clear HB; have HB := n0_; clear n0_; (try clear hb); (try clear hb2); (try clear hk); (try clear hi)))
      go_meet
      case rel => exact ⟨_, (true), (by first | rfl | (simp; done) | (simp [*]; done)), H', ⟨by first | omega | exact Nat.le_refl _⟩, ⟨by repeat (first | (with_reducible first | exact HB.out | apply below_alloc | apply pw_below_drewN | apply below_drew1) | exact HB.out)⟩⟩
  case rest =>
    clear HC3
    try clear c1
    try clear p2
    try clear c5
    try clear p6
    obtain ⟨kq, x19_2, rfl, HA, HJ2, HB⟩ := hcut
    cases kq with
    | zero => exact absurd HA.out (by simp [roundellaw02_NatSums.j0])
    | succ kj2 =>
      have H := HA.out
      clear HA
      simp only [roundellaw02_NatSums.j0] at H
      by_cases c9 : x19_2 = true
      · subst c9
        have H1 : ((roundellaw02_awake.f kj2).bind fun t342 => (some t342)) = some r := by rw [if_pos rfl] at H; exact H
        clear H
        have H := H1
        clear H1
        replace H := Option.bind_eq_some_iff.mp H
        obtain ⟨t342, A100, H⟩ := H
        replace H : (some t342) = some r := H
        have A10 := Aside0.mk A100
        clear A100
        obtain rfl := Option.some.inj H
        go_wp2_with (first | ((with_reducible refine gate_callee (f := 12) rfl ?_); refine goesL_ (some 20) rfl rfl Tryd.func12 (by kernel_rfl) rfl #[] rfl (by (try simp only [List.map_toArray, List.map_cons, List.map_nil]); first | done | rfl | (simp only [List.length_drop, List.length_take]; rfl) | ((simp [Act.eval, wrap64]) <;> omega) | ((simp [Act.eval, wrap64, IntKind.wrap, IntKind.bits, IntKind.signed]) <;> omega)) ?_; (with_reducible refine (roundellaw02_awake.calls kj2  t342 _ ?side1 A10.out).mono ?_); (case side1 => exact Glob.below HG.out (by repeat (first | (with_reducible first | exact HB.out | apply below_alloc | apply pw_below_drewN | apply below_drew1) | exact HB.out))); rintro e w11 ⟨rfl, hb⟩; refine ⟨_, rfl, ?_⟩; have n0_ := Aside0.mk (below_step (by repeat (first | (with_reducible first | exact HB.out | apply below_alloc | apply pw_below_drewN | apply below_drew1) | exact HB.out)) hb); clear HB; have HB := n0_; clear n0_; (try clear hb); (try clear hb2); (try clear hk); (try clear hi)))
        go_ret
        exact ⟨by first | rfl | (simp [errW_none, errW_some] <;> rfl) | (simp [*, errW_none, errW_some] <;> rfl), by repeat (first | (with_reducible first | exact HB.out | apply below_alloc | apply pw_below_drewN | apply below_drew1) | exact HB.out)⟩
      · replace c9 := Bool.eq_false_iff.mpr c9
        subst c9
        have H1 : ((roundellaw02_copied.f l0).bind fun t343 => ((roundellaw02_copied.f l1).bind fun t346 => ((roundelref02_Limbs.f kj2 l0).bind fun t349 => ((roundelref02_Limbs.f kj2 l1).bind fun t352 => ((roundelref02_Cmp.f kj2 t349 t352).bind fun t355 => ((nat_Sub.f kj2 t343 t346).bind fun bt356 => ((nat_Cmp.f t343 t346).bind fun t360 => (if t360 = t355 then ((nat_Add.f kj2 t343 t346).bind fun t361 => ((roundelref02_Add.f kj2 t349 t352).bind fun t364 => ((roundellaw02_Is.f kj2 t361 t364).bind fun t367 => (roundellaw02_NatSums.j1 kj2 l0 l1 t343 t346 t349 t352 t355 bt356.1 bt356.2 (!t367))))) else (roundellaw02_NatSums.j1 kj2 l0 l1 t343 t346 t349 t352 t355 bt356.1 bt356.2 true))))))))) = some r := by rw [if_neg (show ¬ (false = true) by decide)] at H; exact H
        clear H
        have H := H1
        clear H1
        replace H := Option.bind_eq_some_iff.mp H
        obtain ⟨t343, A120, H⟩ := H
        replace H : ((roundellaw02_copied.f l1).bind fun t346 => ((roundelref02_Limbs.f kj2 l0).bind fun t349 => ((roundelref02_Limbs.f kj2 l1).bind fun t352 => ((roundelref02_Cmp.f kj2 t349 t352).bind fun t355 => ((nat_Sub.f kj2 t343 t346).bind fun bt356 => ((nat_Cmp.f t343 t346).bind fun t360 => (if t360 = t355 then ((nat_Add.f kj2 t343 t346).bind fun t361 => ((roundelref02_Add.f kj2 t349 t352).bind fun t364 => ((roundellaw02_Is.f kj2 t361 t364).bind fun t367 => (roundellaw02_NatSums.j1 kj2 l0 l1 t343 t346 t349 t352 t355 bt356.1 bt356.2 (!t367))))) else (roundellaw02_NatSums.j1 kj2 l0 l1 t343 t346 t349 t352 t355 bt356.1 bt356.2 true)))))))) = some r := H
        have A12 := Aside0.mk A120
        clear A120
        replace H := Option.bind_eq_some_iff.mp H
        obtain ⟨t346, A130, H⟩ := H
        replace H : ((roundelref02_Limbs.f kj2 l0).bind fun t349 => ((roundelref02_Limbs.f kj2 l1).bind fun t352 => ((roundelref02_Cmp.f kj2 t349 t352).bind fun t355 => ((nat_Sub.f kj2 t343 t346).bind fun bt356 => ((nat_Cmp.f t343 t346).bind fun t360 => (if t360 = t355 then ((nat_Add.f kj2 t343 t346).bind fun t361 => ((roundelref02_Add.f kj2 t349 t352).bind fun t364 => ((roundellaw02_Is.f kj2 t361 t364).bind fun t367 => (roundellaw02_NatSums.j1 kj2 l0 l1 t343 t346 t349 t352 t355 bt356.1 bt356.2 (!t367))))) else (roundellaw02_NatSums.j1 kj2 l0 l1 t343 t346 t349 t352 t355 bt356.1 bt356.2 true))))))) = some r := H
        have A13 := Aside0.mk A130
        clear A130
        replace H := Option.bind_eq_some_iff.mp H
        obtain ⟨t349, A140, H⟩ := H
        replace H : ((roundelref02_Limbs.f kj2 l1).bind fun t352 => ((roundelref02_Cmp.f kj2 t349 t352).bind fun t355 => ((nat_Sub.f kj2 t343 t346).bind fun bt356 => ((nat_Cmp.f t343 t346).bind fun t360 => (if t360 = t355 then ((nat_Add.f kj2 t343 t346).bind fun t361 => ((roundelref02_Add.f kj2 t349 t352).bind fun t364 => ((roundellaw02_Is.f kj2 t361 t364).bind fun t367 => (roundellaw02_NatSums.j1 kj2 l0 l1 t343 t346 t349 t352 t355 bt356.1 bt356.2 (!t367))))) else (roundellaw02_NatSums.j1 kj2 l0 l1 t343 t346 t349 t352 t355 bt356.1 bt356.2 true)))))) = some r := H
        have A14 := Aside0.mk A140
        clear A140
        replace H := Option.bind_eq_some_iff.mp H
        obtain ⟨t352, A150, H⟩ := H
        replace H : ((roundelref02_Cmp.f kj2 t349 t352).bind fun t355 => ((nat_Sub.f kj2 t343 t346).bind fun bt356 => ((nat_Cmp.f t343 t346).bind fun t360 => (if t360 = t355 then ((nat_Add.f kj2 t343 t346).bind fun t361 => ((roundelref02_Add.f kj2 t349 t352).bind fun t364 => ((roundellaw02_Is.f kj2 t361 t364).bind fun t367 => (roundellaw02_NatSums.j1 kj2 l0 l1 t343 t346 t349 t352 t355 bt356.1 bt356.2 (!t367))))) else (roundellaw02_NatSums.j1 kj2 l0 l1 t343 t346 t349 t352 t355 bt356.1 bt356.2 true))))) = some r := H
        have A15 := Aside0.mk A150
        clear A150
        replace H := Option.bind_eq_some_iff.mp H
        obtain ⟨t355, A160, H⟩ := H
        replace H : ((nat_Sub.f kj2 t343 t346).bind fun bt356 => ((nat_Cmp.f t343 t346).bind fun t360 => (if t360 = t355 then ((nat_Add.f kj2 t343 t346).bind fun t361 => ((roundelref02_Add.f kj2 t349 t352).bind fun t364 => ((roundellaw02_Is.f kj2 t361 t364).bind fun t367 => (roundellaw02_NatSums.j1 kj2 l0 l1 t343 t346 t349 t352 t355 bt356.1 bt356.2 (!t367))))) else (roundellaw02_NatSums.j1 kj2 l0 l1 t343 t346 t349 t352 t355 bt356.1 bt356.2 true)))) = some r := H
        have A16 := Aside0.mk A160
        clear A160
        replace H := Option.bind_eq_some_iff.mp H
        obtain ⟨⟨t356, t359⟩, A170, H⟩ := H
        replace H : ((nat_Cmp.f t343 t346).bind fun t360 => (if t360 = t355 then ((nat_Add.f kj2 t343 t346).bind fun t361 => ((roundelref02_Add.f kj2 t349 t352).bind fun t364 => ((roundellaw02_Is.f kj2 t361 t364).bind fun t367 => (roundellaw02_NatSums.j1 kj2 l0 l1 t343 t346 t349 t352 t355 t356 t359 (!t367))))) else (roundellaw02_NatSums.j1 kj2 l0 l1 t343 t346 t349 t352 t355 t356 t359 true))) = some r := H
        have A17 := Aside0.mk A170
        clear A170
        have HC18 := Aside0.mk H
        clear H
        go_upto_region 7 with (first | ((with_reducible refine gate_callee (f := 14) rfl ?_); refine goesL_ (some 22) rfl rfl Tryd.func14 (by kernel_rfl) rfl #[.slice A0 l0.length c0] rfl (by (try simp only [List.map_toArray, List.map_cons, List.map_nil]); first | done | rfl | (simp only [List.length_drop, List.length_take]; rfl) | ((simp [Act.eval, wrap64]) <;> omega) | ((simp [Act.eval, wrap64, IntKind.wrap, IntKind.bits, IntKind.signed]) <;> omega)) ?_; (with_reducible refine (roundellaw02_copied.calls _ _ l0 t343 _ ?side1 ?side2 A12.out).mono ?_); (case side1 => repeat (first | exact (Kd.C_below HR0.out HB.out) | (with_reducible refine Kd.C_alloc ?_ _) | (with_reducible refine Kd.C_drewN ?_ _) | (with_reducible refine Kd.C_drew ?_))); (case side2 => exact HC0.out); rintro e w19 ⟨v344, rfl, ho0, hb⟩; refine ⟨_, rfl, ?_⟩; have n0_ := Aside0.mk (Kd.R_lower ho0 (below_size (by repeat (first | (with_reducible first | exact HB.out | apply below_alloc | apply pw_below_drewN | apply below_drew1) | exact HB.out)))); have n1_ := Aside0.mk (below_step (by repeat (first | (with_reducible first | exact HB.out | apply below_alloc | apply pw_below_drewN | apply below_drew1) | exact HB.out)) hb); clear HB; have HO345 := n0_; have HB := n1_; clear n0_ n1_; (try clear hb); (try clear hb2); (try clear hk); (try clear hi); (try clear ho0)) | ((with_reducible refine gate_callee (f := 14) rfl ?_); refine goesL_ (some 24) rfl rfl Tryd.func14 (by kernel_rfl) rfl #[.slice A1 l1.length c1] rfl (by (try simp only [List.map_toArray, List.map_cons, List.map_nil]); first | done | rfl | (simp only [List.length_drop, List.length_take]; rfl) | ((simp [Act.eval, wrap64]) <;> omega) | ((simp [Act.eval, wrap64, IntKind.wrap, IntKind.bits, IntKind.signed]) <;> omega)) ?_; (with_reducible refine (roundellaw02_copied.calls _ _ l1 t346 _ ?side1 ?side2 A13.out).mono ?_); (case side1 => repeat (first | exact (Kd.C_below HR1.out HB.out) | (with_reducible refine Kd.C_alloc ?_ _) | (with_reducible refine Kd.C_drewN ?_ _) | (with_reducible refine Kd.C_drew ?_))); (case side2 => exact HC1.out); rintro e w20 ⟨v347, rfl, ho0, hb⟩; refine ⟨_, rfl, ?_⟩; have n0_ := Aside0.mk (Kd.R_elder' (by (with_reducible repeat (first | apply Kd.R_alloc | apply Kd.R_drewN | apply Kd.R_drew)); exact HO345.out) (Kd.R_base ho0) hb); have n1_ := Aside0.mk (Kd.R_lower (Kd.R_new' ho0 (Kd.R_lt (by (with_reducible repeat (first | apply Kd.R_alloc | apply Kd.R_drewN | apply Kd.R_drew)); exact HO345.out))) (below_size (by repeat (first | (with_reducible first | exact HB.out | apply below_alloc | apply pw_below_drewN | apply below_drew1) | exact HB.out)))); have n2_ := Aside0.mk (below_step (by repeat (first | (with_reducible first | exact HB.out | apply below_alloc | apply pw_below_drewN | apply below_drew1) | exact HB.out)) hb); clear HO345; clear HB; have HO345 := n0_; have HO348 := n1_; have HB := n2_; clear n0_ n1_ n2_; (try clear hb); (try clear hb2); (try clear hk); (try clear hi); (try clear ho0)) | ((with_reducible refine gate_callee (f := 18) rfl ?_); refine goesL_ (some 26) rfl rfl Tryd.func18 (by kernel_rfl) rfl #[.slice A0 l0.length c0] rfl (by (try simp only [List.map_toArray, List.map_cons, List.map_nil]); first | done | rfl | (simp only [List.length_drop, List.length_take]; rfl) | ((simp [Act.eval, wrap64]) <;> omega) | ((simp [Act.eval, wrap64, IntKind.wrap, IntKind.bits, IntKind.signed]) <;> omega)) ?_; (with_reducible refine (roundelref02_Limbs.calls kj2 _ _ l0 t349 _ ?side1 ?side2 A14.out).mono ?_); (case side1 => repeat (first | exact (Kd.C_below HR0.out HB.out) | (with_reducible refine Kd.C_alloc ?_ _) | (with_reducible refine Kd.C_drewN ?_ _) | (with_reducible refine Kd.C_drew ?_))); (case side2 => exact HC0.out); rintro e w21 ⟨v350, rfl, ho0, hb⟩; refine ⟨_, rfl, ?_⟩; have n0_ := Aside0.mk (Kd.R_below (by (with_reducible repeat (first | apply Kd.R_alloc | apply Kd.R_drewN | apply Kd.R_drew)); exact HO345.out) hb); have n1_ := Aside0.mk (Kd.R_below (by (with_reducible repeat (first | apply Kd.R_alloc | apply Kd.R_drewN | apply Kd.R_drew)); exact HO348.out) hb); have n2_ := Aside0.mk (Kd.R_lower ho0 (below_size (by repeat (first | (with_reducible first | exact HB.out | apply below_alloc | apply pw_below_drewN | apply below_drew1) | exact HB.out)))); have n3_ := Aside0.mk (below_step (by repeat (first | (with_reducible first | exact HB.out | apply below_alloc | apply pw_below_drewN | apply below_drew1) | exact HB.out)) hb); clear HO345; clear HO348; clear HB; have HO345 := n0_; have HO348 := n1_; have HO351 := n2_; have HB := n3_; clear n0_ n1_ n2_ n3_; (try clear hb); (try clear hb2); (try clear hk); (try clear hi); (try clear ho0)) | ((with_reducible refine gate_callee (f := 18) rfl ?_); refine goesL_ (some 28) rfl rfl Tryd.func18 (by kernel_rfl) rfl #[.slice A1 l1.length c1] rfl (by (try simp only [List.map_toArray, List.map_cons, List.map_nil]); first | done | rfl | (simp only [List.length_drop, List.length_take]; rfl) | ((simp [Act.eval, wrap64]) <;> omega) | ((simp [Act.eval, wrap64, IntKind.wrap, IntKind.bits, IntKind.signed]) <;> omega)) ?_; (with_reducible refine (roundelref02_Limbs.calls kj2 _ _ l1 t352 _ ?side1 ?side2 A15.out).mono ?_); (case side1 => repeat (first | exact (Kd.C_below HR1.out HB.out) | (with_reducible refine Kd.C_alloc ?_ _) | (with_reducible refine Kd.C_drewN ?_ _) | (with_reducible refine Kd.C_drew ?_))); (case side2 => exact HC1.out); rintro e w22 ⟨v353, rfl, ho0, hb⟩; refine ⟨_, rfl, ?_⟩; have n0_ := Aside0.mk (Kd.R_below (by (with_reducible repeat (first | apply Kd.R_alloc | apply Kd.R_drewN | apply Kd.R_drew)); exact HO345.out) hb); have n1_ := Aside0.mk (Kd.R_below (by (with_reducible repeat (first | apply Kd.R_alloc | apply Kd.R_drewN | apply Kd.R_drew)); exact HO348.out) hb); have n2_ := Aside0.mk (Kd.R_elder' (by (with_reducible repeat (first | apply Kd.R_alloc | apply Kd.R_drewN | apply Kd.R_drew)); exact HO351.out) (Kd.R_base ho0) hb); have n3_ := Aside0.mk (Kd.R_lower (Kd.R_new' ho0 (Kd.R_lt (by (with_reducible repeat (first | apply Kd.R_alloc | apply Kd.R_drewN | apply Kd.R_drew)); exact HO351.out))) (below_size (by repeat (first | (with_reducible first | exact HB.out | apply below_alloc | apply pw_below_drewN | apply below_drew1) | exact HB.out)))); have n4_ := Aside0.mk (below_step (by repeat (first | (with_reducible first | exact HB.out | apply below_alloc | apply pw_below_drewN | apply below_drew1) | exact HB.out)) hb); clear HO345; clear HO348; clear HO351; clear HB; have HO345 := n0_; have HO348 := n1_; have HO351 := n2_; have HO354 := n3_; have HB := n4_; clear n0_ n1_ n2_ n3_ n4_; (try clear hb); (try clear hb2); (try clear hk); (try clear hi); (try clear ho0); obtain ⟨Ao23, co23, eo23⟩ := Kd.R_slice HO351.out; subst eo23; obtain ⟨Ao24, co24, eo24⟩ := Kd.R_slice HO354.out; subst eo24) | ((with_reducible refine gate_callee (f := 22) rfl ?_); refine goesL_ (some 31) rfl rfl Tryd.func22 (by kernel_rfl) rfl #[.slice Ao23 t349.length co23, .slice Ao24 t352.length co24] rfl (by (try simp only [List.map_toArray, List.map_cons, List.map_nil]); first | done | rfl | (simp only [List.length_drop, List.length_take]; rfl) | ((simp [Act.eval, wrap64]) <;> omega) | ((simp [Act.eval, wrap64, IntKind.wrap, IntKind.bits, IntKind.signed]) <;> omega)) ?_; (with_reducible refine (roundelref02_Cmp.calls kj2 _ _ t349 _ _ t352 t355 _ ?side1 ?side2 ?side3 ?side4 A16.out).mono ?_); (case side1 => repeat (first | exact (Kd.R_reads' HO351.out).2.2 | (with_reducible refine Kd.C_alloc ?_ _) | (with_reducible refine Kd.C_drewN ?_ _) | (with_reducible refine Kd.C_drew ?_))); (case side2 => exact (Kd.R_reads' HO351.out).2.1); (case side3 => repeat (first | exact (Kd.R_reads' HO354.out).2.2 | (with_reducible refine Kd.C_alloc ?_ _) | (with_reducible refine Kd.C_drewN ?_ _) | (with_reducible refine Kd.C_drew ?_))); (case side4 => exact (Kd.R_reads' HO354.out).2.1); rintro e w' ⟨rfl, ⟨nd, rfl⟩⟩; refine ⟨_, rfl, ?_⟩; obtain ⟨Ao25, co25, eo25⟩ := Kd.R_slice HO345.out; subst eo25; obtain ⟨Ao26, co26, eo26⟩ := Kd.R_slice HO348.out; subst eo26) | ((with_reducible refine gate_callee (f := 23) rfl ?_); refine goesL_ (some 35) rfl rfl Tryd.func23 (by kernel_rfl) rfl #[.slice Ao25 t343.length co25, .slice Ao26 t346.length co26] rfl (by (try simp only [List.map_toArray, List.map_cons, List.map_nil]); first | done | rfl | (simp only [List.length_drop, List.length_take]; rfl) | ((simp [Act.eval, wrap64]) <;> omega) | ((simp [Act.eval, wrap64, IntKind.wrap, IntKind.bits, IntKind.signed]) <;> omega)) ?_; (with_reducible refine (nat_Sub.calls kj2 _ _ t343 _ _ t346 t356 t359 _ ?side1 ?side2 ?side3 ?side4 A17.out).mono ?_); (case side1 => repeat (first | exact (Kd.R_reads' HO345.out).2.2 | (with_reducible refine Kd.C_alloc ?_ _) | (with_reducible refine Kd.C_drewN ?_ _) | (with_reducible refine Kd.C_drew ?_))); (case side2 => exact (Kd.R_reads' HO345.out).2.1); (case side3 => repeat (first | exact (Kd.R_reads' HO348.out).2.2 | (with_reducible refine Kd.C_alloc ?_ _) | (with_reducible refine Kd.C_drewN ?_ _) | (with_reducible refine Kd.C_drew ?_))); (case side4 => exact (Kd.R_reads' HO348.out).2.1); rintro e w27 ⟨v357, rfl, ho0, hb⟩; refine ⟨_, rfl, ?_⟩; have n0_ := Aside0.mk (Kd.R_below (by (with_reducible repeat (first | apply Kd.R_alloc | apply Kd.R_drewN | apply Kd.R_drew)); exact HO345.out) hb); have n1_ := Aside0.mk (Kd.R_below (by (with_reducible repeat (first | apply Kd.R_alloc | apply Kd.R_drewN | apply Kd.R_drew)); exact HO348.out) hb); have n2_ := Aside0.mk (Kd.R_below (by (with_reducible repeat (first | apply Kd.R_alloc | apply Kd.R_drewN | apply Kd.R_drew)); exact HO351.out) hb); have n3_ := Aside0.mk (Kd.R_below (by (with_reducible repeat (first | apply Kd.R_alloc | apply Kd.R_drewN | apply Kd.R_drew)); exact HO354.out) hb); have n4_ := Aside0.mk (Kd.V_lower (Kd.V_mono (ok' := fun k_ => some k_ ≠ (.slice Ao25 t343.length co25 : Value).ownBlock ∧ some k_ ≠ (.slice Ao26 t346.length co26 : Value).ownBlock ∧ some k_ ≠ (.slice Ao23 t349.length co23 : Value).ownBlock ∧ some k_ ≠ (.slice Ao24 t352.length co24 : Value).ownBlock) ho0 (fun k_ hk_ => ⟨(Kd.fresh' (Kd.R_lt (by (with_reducible repeat (first | apply Kd.R_alloc | apply Kd.R_drewN | apply Kd.R_drew)); exact HO345.out)) k_ hk_), (Kd.fresh' (Kd.R_lt (by (with_reducible repeat (first | apply Kd.R_alloc | apply Kd.R_drewN | apply Kd.R_drew)); exact HO348.out)) k_ hk_), (Kd.fresh' (Kd.R_lt (by (with_reducible repeat (first | apply Kd.R_alloc | apply Kd.R_drewN | apply Kd.R_drew)); exact HO351.out)) k_ hk_), (Kd.fresh' (Kd.R_lt (by (with_reducible repeat (first | apply Kd.R_alloc | apply Kd.R_drewN | apply Kd.R_drew)); exact HO354.out)) k_ hk_)⟩)) (below_size (by repeat (first | (with_reducible first | exact HB.out | apply below_alloc | apply pw_below_drewN | apply below_drew1) | exact HB.out)))); have n5_ := Aside0.mk (below_step (by repeat (first | (with_reducible first | exact HB.out | apply below_alloc | apply pw_below_drewN | apply below_drew1) | exact HB.out)) hb); clear HO345; clear HO348; clear HO351; clear HO354; clear HB; have HO345 := n0_; have HO348 := n1_; have HO351 := n2_; have HO354 := n3_; have HO358 := n4_; have HB := n5_; clear n0_ n1_ n2_ n3_ n4_ n5_; (try clear hb); (try clear hb2); (try clear hk); (try clear hi); (try clear ho0)))
        (try simp only [Act.put, List.setIfInBounds_toArray, List.set_cons_zero, List.set_cons_succ])
        go_cut [52] (fun v52 wc => ∃ (kq : Nat) (x52_17 : Bool), v52 = .bool x52_17 ∧ Aside0 (roundellaw02_NatSums.j1 kq l0 l1 t343 t346 t349 t352 t355 t356 t359 x52_17 = some r) ∧ Aside0 (kq ≤ kj2) ∧ Aside0 (Kd.R (Kd.int .u64) 23 wc w.heap.size (fun k_ => some k_ ≠ ((.slice Ao26 t346.length co26) : Value).ownBlock) (.slice Ao25 t343.length co25) t343) ∧ Aside0 (Kd.R (Kd.int .u64) 23 wc w.heap.size (fun k_ => some k_ ≠ ((.slice Ao25 t343.length co25) : Value).ownBlock) (.slice Ao26 t346.length co26) t346) ∧ Aside0 (Kd.R (Kd.int .i64) 3 wc w.heap.size (fun k_ => some k_ ≠ ((.slice Ao24 t352.length co24) : Value).ownBlock) (.slice Ao23 t349.length co23) t349) ∧ Aside0 (Kd.R (Kd.int .i64) 3 wc w.heap.size (fun k_ => some k_ ≠ ((.slice Ao23 t349.length co23) : Value).ownBlock) (.slice Ao24 t352.length co24) t352) ∧ Aside0 (Kd.V (Kd.int .u64) 23 wc w.heap.size (fun k_ => some k_ ≠ ((.slice Ao25 t343.length co25) : Value).ownBlock ∧ some k_ ≠ ((.slice Ao26 t346.length co26) : Value).ownBlock ∧ some k_ ≠ ((.slice Ao23 t349.length co23) : Value).ownBlock ∧ some k_ ≠ ((.slice Ao24 t352.length co24) : Value).ownBlock) v357 t356) ∧ Aside0 (Below w.heap.size w wc))
        case first =>
          have H := HC18.out
          clear HC18
          replace H := Option.bind_eq_some_iff.mp H
          obtain ⟨t360, A280, H⟩ := H
          replace H : (if t360 = t355 then ((nat_Add.f kj2 t343 t346).bind fun t361 => ((roundelref02_Add.f kj2 t349 t352).bind fun t364 => ((roundellaw02_Is.f kj2 t361 t364).bind fun t367 => (roundellaw02_NatSums.j1 kj2 l0 l1 t343 t346 t349 t352 t355 t356 t359 (!t367))))) else (roundellaw02_NatSums.j1 kj2 l0 l1 t343 t346 t349 t352 t355 t356 t359 true)) = some r := H
          have A28 := Aside0.mk A280
          clear A280
          by_cases c29 : t360 = t355
          · rw [if_pos c29] at H
            have c29b0 : (t360 == t355) = true := beq_iff_eq.mpr c29
            have c29b1 : (t360 != t355) = false := bne_eq_false_iff_eq.mpr c29
            clear c29
            (first | rw [c29b0] | (simp only [i64_w, i32_w]; rw [c29b0]) | skip)
            replace H := Option.bind_eq_some_iff.mp H
            obtain ⟨t361, A300, H⟩ := H
            replace H : ((roundelref02_Add.f kj2 t349 t352).bind fun t364 => ((roundellaw02_Is.f kj2 t361 t364).bind fun t367 => (roundellaw02_NatSums.j1 kj2 l0 l1 t343 t346 t349 t352 t355 t356 t359 (!t367)))) = some r := H
            have A30 := Aside0.mk A300
            clear A300
            replace H := Option.bind_eq_some_iff.mp H
            obtain ⟨t364, A310, H⟩ := H
            replace H : ((roundellaw02_Is.f kj2 t361 t364).bind fun t367 => (roundellaw02_NatSums.j1 kj2 l0 l1 t343 t346 t349 t352 t355 t356 t359 (!t367))) = some r := H
            have A31 := Aside0.mk A310
            clear A310
            replace H := Option.bind_eq_some_iff.mp H
            obtain ⟨t367, A320, H⟩ := H
            replace H : (roundellaw02_NatSums.j1 kj2 l0 l1 t343 t346 t349 t352 t355 t356 t359 (!t367)) = some r := H
            have A32 := Aside0.mk A320
            clear A320
            have H' := Aside0.mk H
            clear H
            go_wp2_with (first | ((with_reducible refine gate_callee (f := 24) rfl ?_); refine goesL_ (some 40) rfl rfl Tryd.func24 (by kernel_rfl) rfl #[.slice Ao25 t343.length co25, .slice Ao26 t346.length co26] rfl (by (try simp only [List.map_toArray, List.map_cons, List.map_nil]); first | done | rfl | (simp only [List.length_drop, List.length_take]; rfl) | ((simp [Act.eval, wrap64]) <;> omega) | ((simp [Act.eval, wrap64, IntKind.wrap, IntKind.bits, IntKind.signed]) <;> omega)) ?_; (with_reducible refine (nat_Cmp.calls _ _ t343 _ _ t346 t360 _ ?side1 ?side2 ?side3 ?side4 A28.out).mono ?_); (case side1 => repeat (first | exact (Kd.R_reads' HO345.out).2.2 | (with_reducible refine Kd.C_alloc ?_ _) | (with_reducible refine Kd.C_drewN ?_ _) | (with_reducible refine Kd.C_drew ?_))); (case side2 => exact (Kd.R_reads' HO345.out).2.1); (case side3 => repeat (first | exact (Kd.R_reads' HO348.out).2.2 | (with_reducible refine Kd.C_alloc ?_ _) | (with_reducible refine Kd.C_drewN ?_ _) | (with_reducible refine Kd.C_drew ?_))); (case side4 => exact (Kd.R_reads' HO348.out).2.1); rintro e w33 ⟨rfl, hb⟩; refine ⟨_, rfl, ?_⟩; have n0_ := Aside0.mk (Kd.R_below (by (with_reducible repeat (first | apply Kd.R_alloc | apply Kd.R_drewN | apply Kd.R_drew)); exact HO345.out) hb); have n1_ := Aside0.mk (Kd.R_below (by (with_reducible repeat (first | apply Kd.R_alloc | apply Kd.R_drewN | apply Kd.R_drew)); exact HO348.out) hb); have n2_ := Aside0.mk (Kd.R_below (by (with_reducible repeat (first | apply Kd.R_alloc | apply Kd.R_drewN | apply Kd.R_drew)); exact HO351.out) hb); have n3_ := Aside0.mk (Kd.R_below (by (with_reducible repeat (first | apply Kd.R_alloc | apply Kd.R_drewN | apply Kd.R_drew)); exact HO354.out) hb); have n4_ := Aside0.mk (Kd.V_below (by (with_reducible repeat (first | apply Kd.V_alloc | apply Kd.V_drewN | apply Kd.V_drew)); exact HO358.out) hb); have n5_ := Aside0.mk (below_step (by repeat (first | (with_reducible first | exact HB.out | apply below_alloc | apply pw_below_drewN | apply below_drew1) | exact HB.out)) hb); clear HO345; clear HO348; clear HO351; clear HO354; clear HO358; clear HB; have HO345 := n0_; have HO348 := n1_; have HO351 := n2_; have HO354 := n3_; have HO358 := n4_; have HB := n5_; clear n0_ n1_ n2_ n3_ n4_ n5_; (try clear hb); (try clear hb2); (try clear hk); (try clear hi)) | (go_at_call 25; (with_reducible refine (nat_Add.calls kj2 _ _ t343 _ _ t346 t361 _ ?side1 ?side2 ?side3 ?side4 A30.out).mono ?_); (case side1 => repeat (first | exact (Kd.R_reads' HO345.out).2.2 | (with_reducible refine Kd.C_alloc ?_ _) | (with_reducible refine Kd.C_drewN ?_ _) | (with_reducible refine Kd.C_drew ?_))); (case side2 => exact (Kd.R_reads' HO345.out).2.1); (case side3 => repeat (first | exact (Kd.R_reads' HO348.out).2.2 | (with_reducible refine Kd.C_alloc ?_ _) | (with_reducible refine Kd.C_drewN ?_ _) | (with_reducible refine Kd.C_drew ?_))); (case side4 => exact (Kd.R_reads' HO348.out).2.1); rintro e w34 ⟨v362, rfl, ho0, hb⟩; have n0_ := Aside0.mk (Kd.R_below (by (with_reducible repeat (first | apply Kd.R_alloc | apply Kd.R_drewN | apply Kd.R_drew)); exact HO345.out) hb); have n1_ := Aside0.mk (Kd.R_below (by (with_reducible repeat (first | apply Kd.R_alloc | apply Kd.R_drewN | apply Kd.R_drew)); exact HO348.out) hb); have n2_ := Aside0.mk (Kd.R_below (by (with_reducible repeat (first | apply Kd.R_alloc | apply Kd.R_drewN | apply Kd.R_drew)); exact HO351.out) hb); have n3_ := Aside0.mk (Kd.R_below (by (with_reducible repeat (first | apply Kd.R_alloc | apply Kd.R_drewN | apply Kd.R_drew)); exact HO354.out) hb); have n4_ := Aside0.mk (Kd.V_below (by (with_reducible repeat (first | apply Kd.V_alloc | apply Kd.V_drewN | apply Kd.V_drew)); exact HO358.out) hb); have n5_ := Aside0.mk (Kd.V_lower (Kd.V_mono (ok' := fun k_ => some k_ ≠ (.slice Ao25 t343.length co25 : Value).ownBlock ∧ some k_ ≠ (.slice Ao26 t346.length co26 : Value).ownBlock ∧ some k_ ≠ (.slice Ao23 t349.length co23 : Value).ownBlock ∧ some k_ ≠ (.slice Ao24 t352.length co24 : Value).ownBlock) ho0 (fun k_ hk_ => ⟨(Kd.fresh' (Kd.R_lt (by (with_reducible repeat (first | apply Kd.R_alloc | apply Kd.R_drewN | apply Kd.R_drew)); exact HO345.out)) k_ hk_), (Kd.fresh' (Kd.R_lt (by (with_reducible repeat (first | apply Kd.R_alloc | apply Kd.R_drewN | apply Kd.R_drew)); exact HO348.out)) k_ hk_), (Kd.fresh' (Kd.R_lt (by (with_reducible repeat (first | apply Kd.R_alloc | apply Kd.R_drewN | apply Kd.R_drew)); exact HO351.out)) k_ hk_), (Kd.fresh' (Kd.R_lt (by (with_reducible repeat (first | apply Kd.R_alloc | apply Kd.R_drewN | apply Kd.R_drew)); exact HO354.out)) k_ hk_)⟩)) (below_size (by repeat (first | (with_reducible first | exact HB.out | apply below_alloc | apply pw_below_drewN | apply below_drew1) | exact HB.out)))); have n6_ := Aside0.mk (below_step (by repeat (first | (with_reducible first | exact HB.out | apply below_alloc | apply pw_below_drewN | apply below_drew1) | exact HB.out)) hb); clear HO345; clear HO348; clear HO351; clear HO354; clear HO358; clear HB; have HO345 := n0_; have HO348 := n1_; have HO351 := n2_; have HO354 := n3_; have HO358 := n4_; have HO363 := n5_; have HB := n6_; clear n0_ n1_ n2_ n3_ n4_ n5_ n6_; (try clear hb); (try clear hb2); (try clear hk); (try clear hi); (try clear ho0)) | (go_at_call 26; (with_reducible refine (roundelref02_Add.calls kj2 _ _ t349 _ _ t352 t364 _ ?side1 ?side2 ?side3 ?side4 A31.out).mono ?_); (case side1 => repeat (first | exact (Kd.R_reads' HO351.out).2.2 | (with_reducible refine Kd.C_alloc ?_ _) | (with_reducible refine Kd.C_drewN ?_ _) | (with_reducible refine Kd.C_drew ?_))); (case side2 => exact (Kd.R_reads' HO351.out).2.1); (case side3 => repeat (first | exact (Kd.R_reads' HO354.out).2.2 | (with_reducible refine Kd.C_alloc ?_ _) | (with_reducible refine Kd.C_drewN ?_ _) | (with_reducible refine Kd.C_drew ?_))); (case side4 => exact (Kd.R_reads' HO354.out).2.1); rintro e w35 ⟨v365, rfl, ho0, hb⟩; have n0_ := Aside0.mk (Kd.R_below (by (with_reducible repeat (first | apply Kd.R_alloc | apply Kd.R_drewN | apply Kd.R_drew)); exact HO345.out) hb); have n1_ := Aside0.mk (Kd.R_below (by (with_reducible repeat (first | apply Kd.R_alloc | apply Kd.R_drewN | apply Kd.R_drew)); exact HO348.out) hb); have n2_ := Aside0.mk (Kd.R_elder' (by (with_reducible repeat (first | apply Kd.R_alloc | apply Kd.R_drewN | apply Kd.R_drew)); exact HO351.out) (Kd.R_base ho0) hb); have n3_ := Aside0.mk (Kd.R_elder' (by (with_reducible repeat (first | apply Kd.R_alloc | apply Kd.R_drewN | apply Kd.R_drew)); exact HO354.out) (Kd.R_base ho0) hb); have n4_ := Aside0.mk (Kd.V_elder' (by (with_reducible repeat (first | apply Kd.V_alloc | apply Kd.V_drewN | apply Kd.V_drew)); exact HO358.out) (Kd.R_base ho0) hb); have n5_ := Aside0.mk (Kd.V_elder' (by (with_reducible repeat (first | apply Kd.V_alloc | apply Kd.V_drewN | apply Kd.V_drew)); exact HO363.out) (Kd.R_base ho0) hb); have n6_ := Aside0.mk (Kd.R_lower (Kd.R_new' (Kd.R_new' ho0 (Kd.R_lt (by (with_reducible repeat (first | apply Kd.R_alloc | apply Kd.R_drewN | apply Kd.R_drew)); exact HO351.out))) (Kd.R_lt (by (with_reducible repeat (first | apply Kd.R_alloc | apply Kd.R_drewN | apply Kd.R_drew)); exact HO354.out))) (below_size (by repeat (first | (with_reducible first | exact HB.out | apply below_alloc | apply pw_below_drewN | apply below_drew1) | exact HB.out)))); have n7_ := Aside0.mk (below_step (by repeat (first | (with_reducible first | exact HB.out | apply below_alloc | apply pw_below_drewN | apply below_drew1) | exact HB.out)) hb); clear HO345; clear HO348; clear HO351; clear HO354; clear HO358; clear HO363; clear HB; have HO345 := n0_; have HO348 := n1_; have HO351 := n2_; have HO354 := n3_; have HO358 := n4_; have HO363 := n5_; have HO366 := n6_; have HB := n7_; clear n0_ n1_ n2_ n3_ n4_ n5_ n6_ n7_; (try clear hb); (try clear hb2); (try clear hk); (try clear hi); (try clear ho0); obtain ⟨Ao36, co36, eo36⟩ := Kd.V_slice HO363.out; subst eo36; obtain ⟨Ao37, co37, eo37⟩ := Kd.R_slice HO366.out; subst eo37) | (go_at_call 16; (with_reducible refine (roundellaw02_Is.calls kj2 _ _ t361 _ _ t364 t367 _ ?side1 ?side2 ?side3 ?side4 A32.out).mono ?_); (case side1 => repeat (first | exact (Kd.V_reads' HO363.out).2.2 | (with_reducible refine Kd.C_alloc ?_ _) | (with_reducible refine Kd.C_drewN ?_ _) | (with_reducible refine Kd.C_drew ?_))); (case side2 => exact (Kd.V_reads' HO363.out).2.1); (case side3 => repeat (first | exact (Kd.R_reads' HO366.out).2.2 | (with_reducible refine Kd.C_alloc ?_ _) | (with_reducible refine Kd.C_drewN ?_ _) | (with_reducible refine Kd.C_drew ?_))); (case side4 => exact (Kd.R_reads' HO366.out).2.1); rintro e w38 ⟨rfl, hb⟩; have n0_ := Aside0.mk (Kd.R_below (by (with_reducible repeat (first | apply Kd.R_alloc | apply Kd.R_drewN | apply Kd.R_drew)); exact HO345.out) hb); have n1_ := Aside0.mk (Kd.R_below (by (with_reducible repeat (first | apply Kd.R_alloc | apply Kd.R_drewN | apply Kd.R_drew)); exact HO348.out) hb); have n2_ := Aside0.mk (Kd.R_below (by (with_reducible repeat (first | apply Kd.R_alloc | apply Kd.R_drewN | apply Kd.R_drew)); exact HO351.out) hb); have n3_ := Aside0.mk (Kd.R_below (by (with_reducible repeat (first | apply Kd.R_alloc | apply Kd.R_drewN | apply Kd.R_drew)); exact HO354.out) hb); have n4_ := Aside0.mk (Kd.V_below (by (with_reducible repeat (first | apply Kd.V_alloc | apply Kd.V_drewN | apply Kd.V_drew)); exact HO358.out) hb); have n5_ := Aside0.mk (Kd.V_below (by (with_reducible repeat (first | apply Kd.V_alloc | apply Kd.V_drewN | apply Kd.V_drew)); exact HO363.out) hb); have n6_ := Aside0.mk (Kd.R_below (by (with_reducible repeat (first | apply Kd.R_alloc | apply Kd.R_drewN | apply Kd.R_drew)); exact HO366.out) hb); have n7_ := Aside0.mk (below_step (by repeat (first | (with_reducible first | exact HB.out | apply below_alloc | apply pw_below_drewN | apply below_drew1) | exact HB.out)) hb); clear HO345; clear HO348; clear HO351; clear HO354; clear HO358; clear HO363; clear HO366; clear HB; have HO345 := n0_; have HO348 := n1_; have HO351 := n2_; have HO354 := n3_; have HO358 := n4_; have HO363 := n5_; have HO366 := n6_; have HB := n7_; clear n0_ n1_ n2_ n3_ n4_ n5_ n6_ n7_; (try clear hb); (try clear hb2); (try clear hk); (try clear hi)))
            go_meet
            case rel => exact ⟨_, (!t367), (by first | rfl | (simp; done) | (simp [*]; done)), H', ⟨by have := HJ2.out; first | omega | exact Nat.le_refl _⟩, ⟨by (with_reducible repeat (first | apply Kd.R_alloc | apply Kd.R_drewN | apply Kd.R_drew)); exact Kd.R_mono HO345.out (fun _ hk => hk.2)⟩, ⟨by (with_reducible repeat (first | apply Kd.R_alloc | apply Kd.R_drewN | apply Kd.R_drew)); exact Kd.R_mono HO348.out (fun _ hk => hk.2)⟩, ⟨by (with_reducible repeat (first | apply Kd.R_alloc | apply Kd.R_drewN | apply Kd.R_drew)); exact Kd.R_mono HO351.out (fun _ hk => hk.1.2)⟩, ⟨by (with_reducible repeat (first | apply Kd.R_alloc | apply Kd.R_drewN | apply Kd.R_drew)); exact Kd.R_mono HO354.out (fun _ hk => hk.1.2)⟩, ⟨by (with_reducible repeat (first | apply Kd.V_alloc | apply Kd.V_drewN | apply Kd.V_drew)); exact Kd.V_mono HO358.out (fun _ hk => ⟨hk.1.1, ⟨hk.1.2.1, ⟨hk.1.2.2.1, hk.1.2.2.2⟩⟩⟩)⟩, ⟨by repeat (first | (with_reducible first | exact HB.out | apply below_alloc | apply pw_below_drewN | apply below_drew1) | exact HB.out)⟩⟩
          · rw [if_neg c29] at H
            have c29b0 : (t360 == t355) = false := beq_eq_false_iff_ne.mpr c29
            have c29b1 : (t360 != t355) = true := bne_iff_ne.mpr c29
            (first | rw [c29b0] | (simp only [i64_w, i32_w]; rw [c29b0]) | skip)
            have H' := Aside0.mk H
            clear H
            go_wp2_with (first | ((with_reducible refine gate_callee (f := 24) rfl ?_); refine goesL_ (some 40) rfl rfl Tryd.func24 (by kernel_rfl) rfl #[.slice Ao25 t343.length co25, .slice Ao26 t346.length co26] rfl (by (try simp only [List.map_toArray, List.map_cons, List.map_nil]); first | done | rfl | (simp only [List.length_drop, List.length_take]; rfl) | ((simp [Act.eval, wrap64]) <;> omega) | ((simp [Act.eval, wrap64, IntKind.wrap, IntKind.bits, IntKind.signed]) <;> omega)) ?_; (with_reducible refine (nat_Cmp.calls _ _ t343 _ _ t346 t360 _ ?side1 ?side2 ?side3 ?side4 A28.out).mono ?_); (case side1 => repeat (first | exact (Kd.R_reads' HO345.out).2.2 | (with_reducible refine Kd.C_alloc ?_ _) | (with_reducible refine Kd.C_drewN ?_ _) | (with_reducible refine Kd.C_drew ?_))); (case side2 => exact (Kd.R_reads' HO345.out).2.1); (case side3 => repeat (first | exact (Kd.R_reads' HO348.out).2.2 | (with_reducible refine Kd.C_alloc ?_ _) | (with_reducible refine Kd.C_drewN ?_ _) | (with_reducible refine Kd.C_drew ?_))); (case side4 => exact (Kd.R_reads' HO348.out).2.1); rintro e w39 ⟨rfl, hb⟩; refine ⟨_, rfl, ?_⟩; have n0_ := Aside0.mk (Kd.R_below (by (with_reducible repeat (first | apply Kd.R_alloc | apply Kd.R_drewN | apply Kd.R_drew)); exact HO345.out) hb); have n1_ := Aside0.mk (Kd.R_below (by (with_reducible repeat (first | apply Kd.R_alloc | apply Kd.R_drewN | apply Kd.R_drew)); exact HO348.out) hb); have n2_ := Aside0.mk (Kd.R_below (by (with_reducible repeat (first | apply Kd.R_alloc | apply Kd.R_drewN | apply Kd.R_drew)); exact HO351.out) hb); have n3_ := Aside0.mk (Kd.R_below (by (with_reducible repeat (first | apply Kd.R_alloc | apply Kd.R_drewN | apply Kd.R_drew)); exact HO354.out) hb); have n4_ := Aside0.mk (Kd.V_below (by (with_reducible repeat (first | apply Kd.V_alloc | apply Kd.V_drewN | apply Kd.V_drew)); exact HO358.out) hb); have n5_ := Aside0.mk (below_step (by repeat (first | (with_reducible first | exact HB.out | apply below_alloc | apply pw_below_drewN | apply below_drew1) | exact HB.out)) hb); clear HO345; clear HO348; clear HO351; clear HO354; clear HO358; clear HB; have HO345 := n0_; have HO348 := n1_; have HO351 := n2_; have HO354 := n3_; have HO358 := n4_; have HB := n5_; clear n0_ n1_ n2_ n3_ n4_ n5_; (try clear hb); (try clear hb2); (try clear hk); (try clear hi)))
            go_meet
            case rel => exact ⟨_, (true), (by first | rfl | (simp; done) | (simp [*]; done)), H', ⟨by have := HJ2.out; first | omega | exact Nat.le_refl _⟩, ⟨by (with_reducible repeat (first | apply Kd.R_alloc | apply Kd.R_drewN | apply Kd.R_drew)); exact Kd.R_mono HO345.out (fun _ hk => hk.2)⟩, ⟨by (with_reducible repeat (first | apply Kd.R_alloc | apply Kd.R_drewN | apply Kd.R_drew)); exact Kd.R_mono HO348.out (fun _ hk => hk.2)⟩, ⟨by (with_reducible repeat (first | apply Kd.R_alloc | apply Kd.R_drewN | apply Kd.R_drew)); exact Kd.R_mono HO351.out (fun _ hk => hk.2)⟩, ⟨by (with_reducible repeat (first | apply Kd.R_alloc | apply Kd.R_drewN | apply Kd.R_drew)); exact Kd.R_mono HO354.out (fun _ hk => hk.2)⟩, ⟨by (with_reducible repeat (first | apply Kd.V_alloc | apply Kd.V_drewN | apply Kd.V_drew)); exact HO358.out⟩, ⟨by repeat (first | (with_reducible first | exact HB.out | apply below_alloc | apply pw_below_drewN | apply below_drew1) | exact HB.out)⟩⟩
        case rest =>
          clear HC18
          try clear c1
          try clear c2
          try clear p2
          try clear c5
          try clear p6
          try clear c9
          try clear c12
          try clear c14
          try clear c18
          try clear c22
          try clear c23
          try clear c24
          try clear c29
          try clear c29b0
          try clear c29b1
          try clear p2
          try clear p6
          obtain ⟨kq, x52_17, rfl, HA, HJ17, HO_5, HO_6, HO_7, HO_8, HO_10, HB⟩ := hcut
          cases kq with
          | zero => exact absurd HA.out (by simp [roundellaw02_NatSums.j1])
          | succ kj17 =>
            have H := HA.out
            clear HA
            simp only [roundellaw02_NatSums.j1] at H
            by_cases c40 : x52_17 = true
            · subst c40
              have H1 : (some false) = some r := by rw [if_pos rfl] at H; exact H
              clear H
              have H := H1
              clear H1
              obtain rfl := Option.some.inj H
              go_wp2
              go_ret
              exact ⟨by first | rfl | (simp [errW_none, errW_some] <;> rfl) | (simp [*, errW_none, errW_some] <;> rfl), by repeat (first | (with_reducible first | exact HB.out | apply below_alloc | apply pw_below_drewN | apply below_drew1) | exact HB.out)⟩
            · replace c40 := Bool.eq_false_iff.mpr c40
              subst c40
              have H1 : (if t355 < 0 then (if t359 = 14 then (some ((t356.length : Int) == 0)) else (some false)) else (if t359 = 0 then ((roundelref02_Sub.f kj17 t349 t352).bind fun t368 => ((roundellaw02_Is.f kj17 t356 t368).bind fun t371 => (if t371 = true then ((roundellaw02_same.f kj17 t343 l0).bind fun t372 => (if t372 = true then ((roundellaw02_same.f kj17 t346 l1).bind fun t373 => (some t373)) else (some false))) else (some false)))) else (some false))) = some r := by rw [if_neg (show ¬ (false = true) by decide)] at H; exact H
              clear H
              have H := H1
              clear H1
              by_cases c41 : t355 < 0
              · rw [if_pos c41] at H
                have c41b0 : decide (t355 < 0) = true := decide_eq_true c41
                clear c41
                by_cases c42 : t359 = 14
                · rw [if_pos c42] at H
                  have c42b0 : (t359 == 14) = true := beq_iff_eq.mpr c42
                  have c42b1 : (t359 != 14) = false := bne_eq_false_iff_eq.mpr c42
                  clear c42
                  obtain rfl := Option.some.inj H
                  obtain ⟨Ao43, co43, eo43⟩ := Kd.V_slice HO_10.out
                  subst eo43
                  go_wp2
                  go_ret
                  exact ⟨by first | rfl | (simp [errW_none, errW_some] <;> rfl) | (simp [*, errW_none, errW_some] <;> rfl), by repeat (first | (with_reducible first | exact HB.out | apply below_alloc | apply pw_below_drewN | apply below_drew1) | exact HB.out)⟩
                · rw [if_neg c42] at H
                  have c42b0 : (t359 == 14) = false := beq_eq_false_iff_ne.mpr c42
                  have c42b1 : (t359 != 14) = true := bne_iff_ne.mpr c42
                  obtain rfl := Option.some.inj H
                  go_wp2
                  go_ret
                  exact ⟨by first | rfl | (simp [errW_none, errW_some] <;> rfl) | (simp [*, errW_none, errW_some] <;> rfl), by repeat (first | (with_reducible first | exact HB.out | apply below_alloc | apply pw_below_drewN | apply below_drew1) | exact HB.out)⟩
              · rw [if_neg c41] at H
                have c41b0 : decide (t355 < 0) = false := decide_eq_false c41
                clear c41
                by_cases c44 : t359 = 0
                · rw [if_pos c44] at H
                  have c44b0 : (t359 == 0) = true := beq_iff_eq.mpr c44
                  have c44b1 : (t359 != 0) = false := bne_eq_false_iff_eq.mpr c44
                  clear c44
                  replace H := Option.bind_eq_some_iff.mp H
                  obtain ⟨t368, A450, H⟩ := H
                  replace H : ((roundellaw02_Is.f kj17 t356 t368).bind fun t371 => (if t371 = true then ((roundellaw02_same.f kj17 t343 l0).bind fun t372 => (if t372 = true then ((roundellaw02_same.f kj17 t346 l1).bind fun t373 => (some t373)) else (some false))) else (some false))) = some r := H
                  have A45 := Aside0.mk A450
                  clear A450
                  replace H := Option.bind_eq_some_iff.mp H
                  obtain ⟨t371, A460, H⟩ := H
                  replace H : (if t371 = true then ((roundellaw02_same.f kj17 t343 l0).bind fun t372 => (if t372 = true then ((roundellaw02_same.f kj17 t346 l1).bind fun t373 => (some t373)) else (some false))) else (some false)) = some r := H
                  have A46 := Aside0.mk A460
                  clear A460
                  by_cases c47 : t371 = true
                  · subst c47
                    have H1 : ((roundellaw02_same.f kj17 t343 l0).bind fun t372 => (if t372 = true then ((roundellaw02_same.f kj17 t346 l1).bind fun t373 => (some t373)) else (some false))) = some r := by rw [if_pos rfl] at H; exact H
                    clear H
                    have H := H1
                    clear H1
                    replace H := Option.bind_eq_some_iff.mp H
                    obtain ⟨t372, A480, H⟩ := H
                    replace H : (if t372 = true then ((roundellaw02_same.f kj17 t346 l1).bind fun t373 => (some t373)) else (some false)) = some r := H
                    have A48 := Aside0.mk A480
                    clear A480
                    by_cases c49 : t372 = true
                    · subst c49
                      have H1 : ((roundellaw02_same.f kj17 t346 l1).bind fun t373 => (some t373)) = some r := by rw [if_pos rfl] at H; exact H
                      clear H
                      have H := H1
                      clear H1
                      replace H := Option.bind_eq_some_iff.mp H
                      obtain ⟨t373, A500, H⟩ := H
                      replace H : (some t373) = some r := H
                      have A50 := Aside0.mk A500
                      clear A500
                      obtain rfl := Option.some.inj H
                      go_wp2_with (first | (go_at_call 27; (with_reducible refine (roundelref02_Sub.calls kj17 _ _ t349 _ _ t352 t368 _ ?side1 ?side2 ?side3 ?side4 A45.out).mono ?_); (case side1 => repeat (first | exact (Kd.R_reads' HO_7.out).2.2 | (with_reducible refine Kd.C_alloc ?_ _) | (with_reducible refine Kd.C_drewN ?_ _) | (with_reducible refine Kd.C_drew ?_))); (case side2 => exact (Kd.R_reads' HO_7.out).2.1); (case side3 => repeat (first | exact (Kd.R_reads' HO_8.out).2.2 | (with_reducible refine Kd.C_alloc ?_ _) | (with_reducible refine Kd.C_drewN ?_ _) | (with_reducible refine Kd.C_drew ?_))); (case side4 => exact (Kd.R_reads' HO_8.out).2.1); rintro e w51 ⟨v369, rfl, ho0, hb⟩; have n0_ := Aside0.mk (Kd.R_below (by (with_reducible repeat (first | apply Kd.R_alloc | apply Kd.R_drewN | apply Kd.R_drew)); exact HO_5.out) hb); have n1_ := Aside0.mk (Kd.R_below (by (with_reducible repeat (first | apply Kd.R_alloc | apply Kd.R_drewN | apply Kd.R_drew)); exact HO_6.out) hb); have n2_ := Aside0.mk (Kd.R_elder' (by (with_reducible repeat (first | apply Kd.R_alloc | apply Kd.R_drewN | apply Kd.R_drew)); exact HO_7.out) (Kd.R_base ho0) hb); have n3_ := Aside0.mk (Kd.R_elder' (by (with_reducible repeat (first | apply Kd.R_alloc | apply Kd.R_drewN | apply Kd.R_drew)); exact HO_8.out) (Kd.R_base ho0) hb); have n4_ := Aside0.mk (Kd.V_elder' (by (with_reducible repeat (first | apply Kd.V_alloc | apply Kd.V_drewN | apply Kd.V_drew)); exact HO_10.out) (Kd.R_base ho0) hb); have n5_ := Aside0.mk (Kd.R_lower (Kd.R_new' (Kd.R_new' ho0 (Kd.R_lt (by (with_reducible repeat (first | apply Kd.R_alloc | apply Kd.R_drewN | apply Kd.R_drew)); exact HO_7.out))) (Kd.R_lt (by (with_reducible repeat (first | apply Kd.R_alloc | apply Kd.R_drewN | apply Kd.R_drew)); exact HO_8.out))) (below_size (by repeat (first | (with_reducible first | exact HB.out | apply below_alloc | apply pw_below_drewN | apply below_drew1) | exact HB.out)))); have n6_ := Aside0.mk (below_step (by repeat (first | (with_reducible first | exact HB.out | apply below_alloc | apply pw_below_drewN | apply below_drew1) | exact HB.out)) hb); clear HO_5; clear HO_6; clear HO_7; clear HO_8; clear HO_10; clear HB; have HO_5 := n0_; have HO_6 := n1_; have HO_7 := n2_; have HO_8 := n3_; have HO_10 := n4_; have HO370 := n5_; have HB := n6_; clear n0_ n1_ n2_ n3_ n4_ n5_ n6_; (try clear hb); (try clear hb2); (try clear hk); (try clear hi); (try clear ho0); obtain ⟨Ao52, co52, eo52⟩ := Kd.V_slice HO_10.out; subst eo52; obtain ⟨Ao53, co53, eo53⟩ := Kd.R_slice HO370.out; subst eo53) | (go_at_call 16; (with_reducible refine (roundellaw02_Is.calls kj17 _ _ t356 _ _ t368 true _ ?side1 ?side2 ?side3 ?side4 A46.out).mono ?_); (case side1 => repeat (first | exact (Kd.V_reads' HO_10.out).2.2 | (with_reducible refine Kd.C_alloc ?_ _) | (with_reducible refine Kd.C_drewN ?_ _) | (with_reducible refine Kd.C_drew ?_))); (case side2 => exact (Kd.V_reads' HO_10.out).2.1); (case side3 => repeat (first | exact (Kd.R_reads' HO370.out).2.2 | (with_reducible refine Kd.C_alloc ?_ _) | (with_reducible refine Kd.C_drewN ?_ _) | (with_reducible refine Kd.C_drew ?_))); (case side4 => exact (Kd.R_reads' HO370.out).2.1); rintro e w54 ⟨rfl, hb⟩; have n0_ := Aside0.mk (Kd.R_below (by (with_reducible repeat (first | apply Kd.R_alloc | apply Kd.R_drewN | apply Kd.R_drew)); exact HO_5.out) hb); have n1_ := Aside0.mk (Kd.R_below (by (with_reducible repeat (first | apply Kd.R_alloc | apply Kd.R_drewN | apply Kd.R_drew)); exact HO_6.out) hb); have n2_ := Aside0.mk (Kd.R_below (by (with_reducible repeat (first | apply Kd.R_alloc | apply Kd.R_drewN | apply Kd.R_drew)); exact HO_7.out) hb); have n3_ := Aside0.mk (Kd.R_below (by (with_reducible repeat (first | apply Kd.R_alloc | apply Kd.R_drewN | apply Kd.R_drew)); exact HO_8.out) hb); have n4_ := Aside0.mk (Kd.V_below (by (with_reducible repeat (first | apply Kd.V_alloc | apply Kd.V_drewN | apply Kd.V_drew)); exact HO_10.out) hb); have n5_ := Aside0.mk (Kd.R_below (by (with_reducible repeat (first | apply Kd.R_alloc | apply Kd.R_drewN | apply Kd.R_drew)); exact HO370.out) hb); have n6_ := Aside0.mk (below_step (by repeat (first | (with_reducible first | exact HB.out | apply below_alloc | apply pw_below_drewN | apply below_drew1) | exact HB.out)) hb); clear HO_5; clear HO_6; clear HO_7; clear HO_8; clear HO_10; clear HO370; clear HB; have HO_5 := n0_; have HO_6 := n1_; have HO_7 := n2_; have HO_8 := n3_; have HO_10 := n4_; have HO370 := n5_; have HB := n6_; clear n0_ n1_ n2_ n3_ n4_ n5_ n6_; (try clear hb); (try clear hb2); (try clear hk); (try clear hi)) | (go_at_call 28; (with_reducible refine (roundellaw02_same.calls kj17 _ _ t343 _ _ l0 true _ ?side1 ?side2 ?side3 ?side4 A48.out).mono ?_); (case side1 => repeat (first | exact (Kd.R_reads' HO_5.out).2.2 | (with_reducible refine Kd.C_alloc ?_ _) | (with_reducible refine Kd.C_drewN ?_ _) | (with_reducible refine Kd.C_drew ?_))); (case side2 => exact (Kd.R_reads' HO_5.out).2.1); (case side3 => repeat (first | exact (Kd.C_below HR0.out HB.out) | (with_reducible refine Kd.C_alloc ?_ _) | (with_reducible refine Kd.C_drewN ?_ _) | (with_reducible refine Kd.C_drew ?_))); (case side4 => exact HC0.out); rintro e w' ⟨rfl, ⟨nd, rfl⟩⟩) | (go_at_call 28; (with_reducible refine (roundellaw02_same.calls kj17 _ _ t346 _ _ l1 t373 _ ?side1 ?side2 ?side3 ?side4 A50.out).mono ?_); (case side1 => repeat (first | exact (Kd.R_reads' HO_6.out).2.2 | (with_reducible refine Kd.C_alloc ?_ _) | (with_reducible refine Kd.C_drewN ?_ _) | (with_reducible refine Kd.C_drew ?_))); (case side2 => exact (Kd.R_reads' HO_6.out).2.1); (case side3 => repeat (first | exact (Kd.C_below HR1.out (by repeat (first | (with_reducible first | exact HB.out | apply below_alloc | apply pw_below_drewN | apply below_drew1) | exact HB.out))) | (with_reducible refine Kd.C_alloc ?_ _) | (with_reducible refine Kd.C_drewN ?_ _) | (with_reducible refine Kd.C_drew ?_))); (case side4 => exact HC1.out); rintro e w' ⟨rfl, ⟨nd, rfl⟩⟩))
                      go_ret
                      exact ⟨by first | rfl | (simp [errW_none, errW_some] <;> rfl) | (simp [*, errW_none, errW_some] <;> rfl), by repeat (first | (with_reducible first | exact HB.out | apply below_alloc | apply pw_below_drewN | apply below_drew1) | exact HB.out)⟩
                    · replace c49 := Bool.eq_false_iff.mpr c49
                      subst c49
                      have H1 : (some false) = some r := by rw [if_neg (show ¬ (false = true) by decide)] at H; exact H
                      clear H
                      have H := H1
                      clear H1
                      obtain rfl := Option.some.inj H
                      go_wp2_with (first | (go_at_call 27; (with_reducible refine (roundelref02_Sub.calls kj17 _ _ t349 _ _ t352 t368 _ ?side1 ?side2 ?side3 ?side4 A45.out).mono ?_); (case side1 => repeat (first | exact (Kd.R_reads' HO_7.out).2.2 | (with_reducible refine Kd.C_alloc ?_ _) | (with_reducible refine Kd.C_drewN ?_ _) | (with_reducible refine Kd.C_drew ?_))); (case side2 => exact (Kd.R_reads' HO_7.out).2.1); (case side3 => repeat (first | exact (Kd.R_reads' HO_8.out).2.2 | (with_reducible refine Kd.C_alloc ?_ _) | (with_reducible refine Kd.C_drewN ?_ _) | (with_reducible refine Kd.C_drew ?_))); (case side4 => exact (Kd.R_reads' HO_8.out).2.1); rintro e w55 ⟨v369, rfl, ho0, hb⟩; have n0_ := Aside0.mk (Kd.R_below (by (with_reducible repeat (first | apply Kd.R_alloc | apply Kd.R_drewN | apply Kd.R_drew)); exact HO_5.out) hb); have n1_ := Aside0.mk (Kd.R_below (by (with_reducible repeat (first | apply Kd.R_alloc | apply Kd.R_drewN | apply Kd.R_drew)); exact HO_6.out) hb); have n2_ := Aside0.mk (Kd.R_elder' (by (with_reducible repeat (first | apply Kd.R_alloc | apply Kd.R_drewN | apply Kd.R_drew)); exact HO_7.out) (Kd.R_base ho0) hb); have n3_ := Aside0.mk (Kd.R_elder' (by (with_reducible repeat (first | apply Kd.R_alloc | apply Kd.R_drewN | apply Kd.R_drew)); exact HO_8.out) (Kd.R_base ho0) hb); have n4_ := Aside0.mk (Kd.V_elder' (by (with_reducible repeat (first | apply Kd.V_alloc | apply Kd.V_drewN | apply Kd.V_drew)); exact HO_10.out) (Kd.R_base ho0) hb); have n5_ := Aside0.mk (Kd.R_lower (Kd.R_new' (Kd.R_new' ho0 (Kd.R_lt (by (with_reducible repeat (first | apply Kd.R_alloc | apply Kd.R_drewN | apply Kd.R_drew)); exact HO_7.out))) (Kd.R_lt (by (with_reducible repeat (first | apply Kd.R_alloc | apply Kd.R_drewN | apply Kd.R_drew)); exact HO_8.out))) (below_size (by repeat (first | (with_reducible first | exact HB.out | apply below_alloc | apply pw_below_drewN | apply below_drew1) | exact HB.out)))); have n6_ := Aside0.mk (below_step (by repeat (first | (with_reducible first | exact HB.out | apply below_alloc | apply pw_below_drewN | apply below_drew1) | exact HB.out)) hb); clear HO_5; clear HO_6; clear HO_7; clear HO_8; clear HO_10; clear HB; have HO_5 := n0_; have HO_6 := n1_; have HO_7 := n2_; have HO_8 := n3_; have HO_10 := n4_; have HO370 := n5_; have HB := n6_; clear n0_ n1_ n2_ n3_ n4_ n5_ n6_; (try clear hb); (try clear hb2); (try clear hk); (try clear hi); (try clear ho0); obtain ⟨Ao56, co56, eo56⟩ := Kd.V_slice HO_10.out; subst eo56; obtain ⟨Ao57, co57, eo57⟩ := Kd.R_slice HO370.out; subst eo57) | (go_at_call 16; (with_reducible refine (roundellaw02_Is.calls kj17 _ _ t356 _ _ t368 true _ ?side1 ?side2 ?side3 ?side4 A46.out).mono ?_); (case side1 => repeat (first | exact (Kd.V_reads' HO_10.out).2.2 | (with_reducible refine Kd.C_alloc ?_ _) | (with_reducible refine Kd.C_drewN ?_ _) | (with_reducible refine Kd.C_drew ?_))); (case side2 => exact (Kd.V_reads' HO_10.out).2.1); (case side3 => repeat (first | exact (Kd.R_reads' HO370.out).2.2 | (with_reducible refine Kd.C_alloc ?_ _) | (with_reducible refine Kd.C_drewN ?_ _) | (with_reducible refine Kd.C_drew ?_))); (case side4 => exact (Kd.R_reads' HO370.out).2.1); rintro e w58 ⟨rfl, hb⟩; have n0_ := Aside0.mk (Kd.R_below (by (with_reducible repeat (first | apply Kd.R_alloc | apply Kd.R_drewN | apply Kd.R_drew)); exact HO_5.out) hb); have n1_ := Aside0.mk (Kd.R_below (by (with_reducible repeat (first | apply Kd.R_alloc | apply Kd.R_drewN | apply Kd.R_drew)); exact HO_6.out) hb); have n2_ := Aside0.mk (Kd.R_below (by (with_reducible repeat (first | apply Kd.R_alloc | apply Kd.R_drewN | apply Kd.R_drew)); exact HO_7.out) hb); have n3_ := Aside0.mk (Kd.R_below (by (with_reducible repeat (first | apply Kd.R_alloc | apply Kd.R_drewN | apply Kd.R_drew)); exact HO_8.out) hb); have n4_ := Aside0.mk (Kd.V_below (by (with_reducible repeat (first | apply Kd.V_alloc | apply Kd.V_drewN | apply Kd.V_drew)); exact HO_10.out) hb); have n5_ := Aside0.mk (Kd.R_below (by (with_reducible repeat (first | apply Kd.R_alloc | apply Kd.R_drewN | apply Kd.R_drew)); exact HO370.out) hb); have n6_ := Aside0.mk (below_step (by repeat (first | (with_reducible first | exact HB.out | apply below_alloc | apply pw_below_drewN | apply below_drew1) | exact HB.out)) hb); clear HO_5; clear HO_6; clear HO_7; clear HO_8; clear HO_10; clear HO370; clear HB; have HO_5 := n0_; have HO_6 := n1_; have HO_7 := n2_; have HO_8 := n3_; have HO_10 := n4_; have HO370 := n5_; have HB := n6_; clear n0_ n1_ n2_ n3_ n4_ n5_ n6_; (try clear hb); (try clear hb2); (try clear hk); (try clear hi)) | (go_at_call 28; (with_reducible refine (roundellaw02_same.calls kj17 _ _ t343 _ _ l0 false _ ?side1 ?side2 ?side3 ?side4 A48.out).mono ?_); (case side1 => repeat (first | exact (Kd.R_reads' HO_5.out).2.2 | (with_reducible refine Kd.C_alloc ?_ _) | (with_reducible refine Kd.C_drewN ?_ _) | (with_reducible refine Kd.C_drew ?_))); (case side2 => exact (Kd.R_reads' HO_5.out).2.1); (case side3 => repeat (first | exact (Kd.C_below HR0.out HB.out) | (with_reducible refine Kd.C_alloc ?_ _) | (with_reducible refine Kd.C_drewN ?_ _) | (with_reducible refine Kd.C_drew ?_))); (case side4 => exact HC0.out); rintro e w' ⟨rfl, ⟨nd, rfl⟩⟩))
                      go_ret
                      exact ⟨by first | rfl | (simp [errW_none, errW_some] <;> rfl) | (simp [*, errW_none, errW_some] <;> rfl), by repeat (first | (with_reducible first | exact HB.out | apply below_alloc | apply pw_below_drewN | apply below_drew1) | exact HB.out)⟩
                  · replace c47 := Bool.eq_false_iff.mpr c47
                    subst c47
                    have H1 : (some false) = some r := by rw [if_neg (show ¬ (false = true) by decide)] at H; exact H
                    clear H
                    have H := H1
                    clear H1
                    obtain rfl := Option.some.inj H
                    go_wp2_with (first | (go_at_call 27; (with_reducible refine (roundelref02_Sub.calls kj17 _ _ t349 _ _ t352 t368 _ ?side1 ?side2 ?side3 ?side4 A45.out).mono ?_); (case side1 => repeat (first | exact (Kd.R_reads' HO_7.out).2.2 | (with_reducible refine Kd.C_alloc ?_ _) | (with_reducible refine Kd.C_drewN ?_ _) | (with_reducible refine Kd.C_drew ?_))); (case side2 => exact (Kd.R_reads' HO_7.out).2.1); (case side3 => repeat (first | exact (Kd.R_reads' HO_8.out).2.2 | (with_reducible refine Kd.C_alloc ?_ _) | (with_reducible refine Kd.C_drewN ?_ _) | (with_reducible refine Kd.C_drew ?_))); (case side4 => exact (Kd.R_reads' HO_8.out).2.1); rintro e w59 ⟨v369, rfl, ho0, hb⟩; have n0_ := Aside0.mk (Kd.R_below (by (with_reducible repeat (first | apply Kd.R_alloc | apply Kd.R_drewN | apply Kd.R_drew)); exact HO_5.out) hb); have n1_ := Aside0.mk (Kd.R_below (by (with_reducible repeat (first | apply Kd.R_alloc | apply Kd.R_drewN | apply Kd.R_drew)); exact HO_6.out) hb); have n2_ := Aside0.mk (Kd.R_elder' (by (with_reducible repeat (first | apply Kd.R_alloc | apply Kd.R_drewN | apply Kd.R_drew)); exact HO_7.out) (Kd.R_base ho0) hb); have n3_ := Aside0.mk (Kd.R_elder' (by (with_reducible repeat (first | apply Kd.R_alloc | apply Kd.R_drewN | apply Kd.R_drew)); exact HO_8.out) (Kd.R_base ho0) hb); have n4_ := Aside0.mk (Kd.V_elder' (by (with_reducible repeat (first | apply Kd.V_alloc | apply Kd.V_drewN | apply Kd.V_drew)); exact HO_10.out) (Kd.R_base ho0) hb); have n5_ := Aside0.mk (Kd.R_lower (Kd.R_new' (Kd.R_new' ho0 (Kd.R_lt (by (with_reducible repeat (first | apply Kd.R_alloc | apply Kd.R_drewN | apply Kd.R_drew)); exact HO_7.out))) (Kd.R_lt (by (with_reducible repeat (first | apply Kd.R_alloc | apply Kd.R_drewN | apply Kd.R_drew)); exact HO_8.out))) (below_size (by repeat (first | (with_reducible first | exact HB.out | apply below_alloc | apply pw_below_drewN | apply below_drew1) | exact HB.out)))); have n6_ := Aside0.mk (below_step (by repeat (first | (with_reducible first | exact HB.out | apply below_alloc | apply pw_below_drewN | apply below_drew1) | exact HB.out)) hb); clear HO_5; clear HO_6; clear HO_7; clear HO_8; clear HO_10; clear HB; have HO_5 := n0_; have HO_6 := n1_; have HO_7 := n2_; have HO_8 := n3_; have HO_10 := n4_; have HO370 := n5_; have HB := n6_; clear n0_ n1_ n2_ n3_ n4_ n5_ n6_; (try clear hb); (try clear hb2); (try clear hk); (try clear hi); (try clear ho0); obtain ⟨Ao60, co60, eo60⟩ := Kd.V_slice HO_10.out; subst eo60; obtain ⟨Ao61, co61, eo61⟩ := Kd.R_slice HO370.out; subst eo61) | (go_at_call 16; (with_reducible refine (roundellaw02_Is.calls kj17 _ _ t356 _ _ t368 false _ ?side1 ?side2 ?side3 ?side4 A46.out).mono ?_); (case side1 => repeat (first | exact (Kd.V_reads' HO_10.out).2.2 | (with_reducible refine Kd.C_alloc ?_ _) | (with_reducible refine Kd.C_drewN ?_ _) | (with_reducible refine Kd.C_drew ?_))); (case side2 => exact (Kd.V_reads' HO_10.out).2.1); (case side3 => repeat (first | exact (Kd.R_reads' HO370.out).2.2 | (with_reducible refine Kd.C_alloc ?_ _) | (with_reducible refine Kd.C_drewN ?_ _) | (with_reducible refine Kd.C_drew ?_))); (case side4 => exact (Kd.R_reads' HO370.out).2.1); rintro e w62 ⟨rfl, hb⟩; have n0_ := Aside0.mk (Kd.R_below (by (with_reducible repeat (first | apply Kd.R_alloc | apply Kd.R_drewN | apply Kd.R_drew)); exact HO_5.out) hb); have n1_ := Aside0.mk (Kd.R_below (by (with_reducible repeat (first | apply Kd.R_alloc | apply Kd.R_drewN | apply Kd.R_drew)); exact HO_6.out) hb); have n2_ := Aside0.mk (Kd.R_below (by (with_reducible repeat (first | apply Kd.R_alloc | apply Kd.R_drewN | apply Kd.R_drew)); exact HO_7.out) hb); have n3_ := Aside0.mk (Kd.R_below (by (with_reducible repeat (first | apply Kd.R_alloc | apply Kd.R_drewN | apply Kd.R_drew)); exact HO_8.out) hb); have n4_ := Aside0.mk (Kd.V_below (by (with_reducible repeat (first | apply Kd.V_alloc | apply Kd.V_drewN | apply Kd.V_drew)); exact HO_10.out) hb); have n5_ := Aside0.mk (Kd.R_below (by (with_reducible repeat (first | apply Kd.R_alloc | apply Kd.R_drewN | apply Kd.R_drew)); exact HO370.out) hb); have n6_ := Aside0.mk (below_step (by repeat (first | (with_reducible first | exact HB.out | apply below_alloc | apply pw_below_drewN | apply below_drew1) | exact HB.out)) hb); clear HO_5; clear HO_6; clear HO_7; clear HO_8; clear HO_10; clear HO370; clear HB; have HO_5 := n0_; have HO_6 := n1_; have HO_7 := n2_; have HO_8 := n3_; have HO_10 := n4_; have HO370 := n5_; have HB := n6_; clear n0_ n1_ n2_ n3_ n4_ n5_ n6_; (try clear hb); (try clear hb2); (try clear hk); (try clear hi)))
                    go_ret
                    exact ⟨by first | rfl | (simp [errW_none, errW_some] <;> rfl) | (simp [*, errW_none, errW_some] <;> rfl), by repeat (first | (with_reducible first | exact HB.out | apply below_alloc | apply pw_below_drewN | apply below_drew1) | exact HB.out)⟩
                · rw [if_neg c44] at H
                  have c44b0 : (t359 == 0) = false := beq_eq_false_iff_ne.mpr c44
                  have c44b1 : (t359 != 0) = true := bne_iff_ne.mpr c44
                  obtain rfl := Option.some.inj H
                  go_wp2
                  go_ret
                  exact ⟨by first | rfl | (simp [errW_none, errW_some] <;> rfl) | (simp [*, errW_none, errW_some] <;> rfl), by repeat (first | (with_reducible first | exact HB.out | apply below_alloc | apply pw_below_drewN | apply below_drew1) | exact HB.out)⟩

/-- THE ONE PURE STATEMENT of roundellaw02_NatSums: yours. -/
def roundellaw02_NatSums.Pure : Prop := ∀ (l0 : List Int) (l1 : List Int), l0.length ≤ maxLen → l0.length * 8 ≤ 140737488351232 → (∀ x ∈ l0, (Lit.int .u64 x).wf = true) → l1.length ≤ maxLen → l1.length * 8 ≤ 140737488351232 → (∀ x ∈ l1, (Lit.int .u64 x).wf = true) → ∃ k, roundellaw02_NatSums.f k l0 l1 = some true
theorem roundellaw02_NatSums.walk (P : roundellaw02_NatSums.Pure) (a0 : Option Addr) (len0 cap0 : Nat) (z0 : List Int) (a1 : Option Addr) (len1 cap1 : Nat) (z1 : List Int) (w : World) (w0 : (a0 = none ∧ len0 = 0 ∧ cap0 = 0 ∧ z0 = []) ∨ ∃ x, a0 = some x ∧ len0 ≤ cap0 ∧ cap0 ≤ maxLen ∧ z0.length = cap0 ∧ (∀ i, i < z0.length → w.cell? (x.add i) = some (.int .u64 (z0.getD i 0))) ∧ ∀ n ∈ z0, (Lit.int .u64 n).wf = true) (y0 : len0 * 8 ≤ 140737488351232) (w1 : (a1 = none ∧ len1 = 0 ∧ cap1 = 0 ∧ z1 = []) ∨ ∃ x, a1 = some x ∧ len1 ≤ cap1 ∧ cap1 ≤ maxLen ∧ z1.length = cap1 ∧ (∀ i, i < z1.length → w.cell? (x.add i) = some (.int .u64 (z1.getD i 0))) ∧ ∀ n ∈ z1, (Lit.int .u64 n).wf = true) (y1 : len1 * 8 ≤ 140737488351232) (hG : Glob w) :
    Calls Tryd.prog 5 #[.slice a0 len0 cap0, .slice a1 len1 cap1] w fun e w' => e = .returned (.bool true) ∧ Below w.heap.size w w' := by
  obtain ⟨l0, rfl, hr0, hm0, hw0, hc0⟩ := ReadsInt.ofRowC w0
  obtain ⟨l1, rfl, hr1, hm1, hw1, hc1⟩ := ReadsInt.ofRowC w1
  obtain ⟨k, h⟩ := P l0 l1 hm0 y0 hw0 hm1 y1 hw1
  refine (roundellaw02_NatSums.calls k _ _ l0 _ _ l1 true w (Kd.C_of_reads (d := (0 : Int)) (h1 := fun _ => rfl) hr0) hc0 (Kd.C_of_reads (d := (0 : Int)) (h1 := fun _ => rfl) hr1) hc1 hG h).mono ?_
  rintro e w' ⟨rfl, hd⟩
  exact ⟨rfl, hd⟩

end Go.Proofs.YtcoipojikmgdmaaDoor.P
