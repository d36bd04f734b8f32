-- Written by a program of this session (wip/tools/shake.py) out of its own texts and of the kit's printed ones; not trusted: Lean checks it.
import Derived.Test.YthiicmanfpmipaaGreatDoorZFillCaps8
set_option maxHeartbeats 8000000
set_option maxRecDepth 100000
set_option linter.unusedVariables false
set_option linter.unusedSimpArgs false
section
namespace Go.Proofs.YthiicmanfpmipaaGreatDoor.P
open Go.RowKit Go.Proofs.YthiicmanfpmipaaGreatDoorW.PrintWords Go.Proofs.YthiicmanfpmipaaGreatDoorW.PrintLast Go.Proofs.YthiicmanfpmipaaGreatDoorW.PrintMore
attribute [local go_sem] zcf zci zcu zct zb6 zb2 zch zce
def zbz.l0 : Nat → List (S29) → List (S90) → Int → Int → List Int → List Int → Option ((List (S29)) × Int)
 | 0, _, _, _, _, _, _ => none
 | k + 1, x11, x27, x28, x29, x336000, x336001 => if x29 < x28 then (if 0 ≤ x29 then (if x29 < (x27.length : Int) then ((zc5.f k ((rd_T90 x27 x29).f0) ((rd_T90 x27 x29).f1) x336000 x336001).bind fun bt338 => (if x11.length < 2932031007402 then (zbz.l0 k (x11 ++ [(⟨bt338.1, bt338.2⟩ : S29)]) x27 x28 (wrap64 (x29 + 1)) x336000 x336001) else (none))) else (none)) else (none)) else (some (x11, 0))
def zbz.f (k : Nat) (l0_0 : List Int) (l0_1 : List Int) (l1 : List Int) (l2 : List Int) : Option ((List (S29)) × Int) := (zc2.f k l0_0 l0_1 l1 l2).bind fun bt325 => (if bt325.2 = 0 then ((fill_level.f k l0_0 l0_1 bt325.1).bind fun bt329 => (zbz.l0 k ([] : List (S29)) bt325.1 (bt325.1.length : Int) 0 bt329.1 bt329.2)) else (some (([] : List (S29)), bt325.2)))
theorem zbz.calls (k : Nat) (A0_0 : Option Addr) (c0_0 : Nat) (l0_0 : List Int) (A0_1 : Option Addr) (c0_1 : Nat) (l0_1 : List Int) (A1 : Option Addr) (c1 : Nat) (l1 : List Int) (A2 : Option Addr) (c2 : Nat) (l2 : List Int) (r1 : List (S29)) (r2 : Int) (w : World) (hr0_0 : Kd.C (Kd.int .u64) w A0_0 l0_0.length l0_0) (hc0_0 : l0_0.length ≤ c0_0) (hr0_1 : Kd.C (Kd.int .u64) w A0_1 l0_1.length l0_1) (hc0_1 : l0_1.length ≤ c0_1) (hr1 : Kd.C (Kd.int .i64) w A1 l1.length l1) (hc1 : l1.length ≤ c1) (hr2 : Kd.C (Kd.int .i64) w A2 l2.length l2) (hc2 : l2.length ≤ c2) (h : zbz.f k l0_0 l0_1 l1 l2 = some (r1, r2)) :
  Calls Tryz.prog 16 #[.agg #[.slice A0_0 l0_0.length c0_0, .slice A0_1 l0_1.length c0_1], .slice A1 l1.length c1, .slice A2 l2.length c2] w fun e w' => ∃ v0_ : Value, e = .returned (.tuple #[v0_, .int .i64 r2]) ∧ Kd.N k29 29 w' w.heap.size (fun k_ => (w.heap.size ≤ k_)) v0_ r1 ∧ Below w.heap.size w w' := by
 have hu29 := Tryz.underlying29
 have hu90 := Tryz.underlying90
 have HR0_0 := zA hr0_0
 have HC0_0 := zA hc0_0
 clear hr0_0 hc0_0
 have HR0_1 := zA hr0_1
 have HC0_1 := zA hc0_1
 clear hr0_1 hc0_1
 have HR1 := zA hr1
 have HC1 := zA hc1
 clear hr1 hc1
 have HR2 := zA hr2
 have HC2 := zA hc2
 clear hr2 hc2
 have HB := zA (Below.refl w.heap.size w)
 have H : ((zc2.f k l0_0 l0_1 l1 l2).bind fun bt325 => (if bt325.2 = 0 then ((fill_level.f k l0_0 l0_1 bt325.1).bind fun bt329 => (zbz.l0 k ([] : List (S29)) bt325.1 (bt325.1.length : Int) 0 bt329.1 bt329.2)) else (some (([] : List (S29)), bt325.2)))) = some (r1, r2) := h
 clear h
 replace H := zO H
 obtain ⟨⟨t325, t328⟩, A40, H⟩ := H
 try dsimp only at H
 have A4 := zA A40
 clear A40
 by_cases c5 : t328 = 0
 ·
  rw [if_pos c5] at H
  have c5b0 : (t328 == 0) = true := beq_iff_eq.mpr c5
  have c5b1 : (t328 != 0) = false := bne_eq_false_iff_eq.mpr c5
  clear c5
  replace H := zO H
  obtain ⟨⟨t329, t332⟩, A60, H⟩ := H
  try dsimp only at H
  have A6 := zA A60
  clear A60
  have H' := zA H
  clear H
  go_enter Tryz.func16, Tryz.ntmps16
  go_wp2_with (first | ((with_reducible refine za8 (N := 3) rfl ?_); refine zbd ?hg (N := 3) ?hd (cs := #[.slice A0_0 l0_0.length c0_0, .slice A0_1 l0_1.length c0_1]) (t := 29) ?hr ?_; (case hd => rfl); (case hg => rfl); (case hr => first | (go_simp; done) | (go_simp; rfl)); intro gb324 hg w7 hbox hb; have n0_ := zA (zaa (zB HB) hb); have n1_ := zA (hbox); have n3_ := zA ((by rw [hg]; exact (za (zB HB)) : w.heap.size ≤ gb324)); clear HB; have HB := n0_; have BK324 := n1_; have GE324 := n3_; clear n0_ n1_ n3_ hb hbox hg; have hcz8_0 : w7.cell? ⟨gb324, 0, none⟩ = some (.slice A0_0 l0_0.length c0_0) := (zab BK324.out 0).trans rfl; have hcz8_1 : w7.cell? ⟨gb324, 1, none⟩ = some (.slice A0_1 l0_1.length c0_1) := (zab BK324.out 1).trans rfl; have hfz8_0 := zal BK324.out 0; have hfz8_1 := zal BK324.out 1) | ((with_reducible refine zae (f := 38) rfl ?_); refine za2 (some 18) rfl rfl Tryz.func38 (by kernel_rfl) rfl #[.agg #[.slice A0_0 l0_0.length c0_0, .slice A0_1 l0_1.length c0_1], .slice A1 l1.length c1, .slice A2 l2.length c2] rfl (zE) ?_; (with_reducible refine (zc2.calls k _ _ l0_0 _ _ l0_1 _ _ l1 _ _ l2 t325 t328 _ ?side1 ?side2 ?side3 ?side4 ?side5 ?side6 ?side7 ?side8 A4.out).mono ?_); (case side1 => exact zJ (Kd.zas HR0_0.out HB.out)); (case side2 => exact HC0_0.out); (case side3 => exact zJ (Kd.zas HR0_1.out HB.out)); (case side4 => exact HC0_1.out); (case side5 => exact zJ (Kd.zas HR1.out HB.out)); (case side6 => exact HC1.out); (case side7 => exact zJ (Kd.zas HR2.out HB.out)); (case side8 => exact HC2.out); rintro e w9 ⟨v326, rfl, ho0, hb⟩; refine ⟨_, rfl, ?_⟩; have n0_ := zA (Kd.zaz (Kd.zam (ok' := fun k_ => (w.heap.size ≤ k_) ∧ k_ ≠ gb324) ho0 (fun k_ hk_ => ⟨(Nat.le_trans (za (zB HB)) hk_), (Kd.freshB (g := gb324) (o := .cells #[.slice A0_0 l0_0.length c0_0, .slice A0_1 l0_1.length c0_1] 29 (0, 0)) (zK BK324) k_ hk_)⟩)) (za (zB HB))); have n1_ := zA (zad (g := gb324) (o := .cells #[.slice A0_0 l0_0.length c0_0, .slice A0_1 l0_1.length c0_1] 29 (0, 0)) (zK BK324) hb); have n2_ := zA (zaa (zB HB) hb); clear BK324 HB; have HO327 := n0_; have BK324 := n1_; have HB := n2_; clear n0_ n1_ n2_; (try clear hb); (try clear hb2); (try clear hk); (try clear hi); (try clear ho0); have hcz10_0 : w9.cell? ⟨gb324, 0, none⟩ = some (.slice A0_0 l0_0.length c0_0) := (zab BK324.out 0).trans rfl; have hcz10_1 : w9.cell? ⟨gb324, 1, none⟩ = some (.slice A0_1 l0_1.length c0_1) := (zab BK324.out 1).trans rfl; have hfz10_0 := zal BK324.out 0; have hfz10_1 := zal BK324.out 1; obtain ⟨Ao11, co11, eo11⟩ := Kd.za1 HO327.out; subst eo11) | ((with_reducible refine zae (f := 39) rfl ?_); refine za2 (some 26) rfl rfl Tryz.func39 (by kernel_rfl) rfl #[.agg #[.slice A0_0 l0_0.length c0_0, .slice A0_1 l0_1.length c0_1], .slice Ao11 t325.length co11] rfl (zE) ?_; (with_reducible refine (fill_level.calls k _ _ l0_0 _ _ l0_1 _ _ t325 t329 t332 _ ?side1 ?side2 ?side3 ?side4 ?side5 ?side6 A6.out).mono ?_); (case side1 => exact zJ (Kd.zas HR0_0.out HB.out)); (case side2 => exact HC0_0.out); (case side3 => exact zJ (Kd.zas HR0_1.out HB.out)); (case side4 => exact HC0_1.out); (case side5 => exact zJ (Kd.zak HO327.out).2.2); (case side6 => exact (Kd.zak HO327.out).2.1); rintro e w12 ⟨v330, v333, rfl, ho0, ho1, hb⟩; refine ⟨_, rfl, ?_⟩; have n0_ := zA (Kd.zau (zV HO327) hb); have n1_ := zA (Kd.zaz (Kd.zam (ok' := fun k_ => (w.heap.size ≤ k_) ∧ k_ ≠ gb324) ho0 (fun k_ hk_ => ⟨(Nat.le_trans (za (zB HB)) hk_), (Kd.freshB (g := gb324) (o := .cells #[.slice A0_0 l0_0.length c0_0, .slice A0_1 l0_1.length c0_1] 29 (0, 0)) (zK BK324) k_ hk_)⟩)) (za (zB HB))); have n2_ := zA (Kd.zaz (Kd.zam (ok' := fun k_ => (w.heap.size ≤ k_) ∧ k_ ≠ gb324) ho1 (fun k_ hk_ => ⟨(Nat.le_trans (za (zB HB)) hk_), (Kd.freshB (g := gb324) (o := .cells #[.slice A0_0 l0_0.length c0_0, .slice A0_1 l0_1.length c0_1] 29 (0, 0)) (zK BK324) k_ hk_)⟩)) (za (zB HB))); have n3_ := zA (zad (g := gb324) (o := .cells #[.slice A0_0 l0_0.length c0_0, .slice A0_1 l0_1.length c0_1] 29 (0, 0)) (zK BK324) hb); have n4_ := zA (zaa (zB HB) hb); clear HO327 BK324 HB; have HO327 := n0_; have HO331 := n1_; have HO334 := n2_; have BK324 := n3_; have HB := n4_; clear n0_ n1_ n2_ n3_ n4_; (try clear hb); (try clear hb2); (try clear hk); (try clear hi); (try clear ho0); (try clear ho1)) | ((with_reducible refine za8 (N := 10) rfl ?_); refine zbd ?hg (N := 10) ?hd (cs := #[.slice none 0 0, .slice none 0 0]) (t := 29) ?hr ?_; (case hd => rfl); (case hg => rfl); (case hr => first | (go_simp; done) | (go_simp; rfl)); intro gb335 hg w13 hbox hb; have n0_ := zA (Kd.zau (Kd.zcz (zV HO327) gb335 (Nat.le_of_eq hg.symm)) hb); have n1_ := zA (Kd.zau (Kd.zcz (zV HO331) gb335 (Nat.le_of_eq hg.symm)) hb); have n2_ := zA (Kd.zau (Kd.zcz (zV HO334) gb335 (Nat.le_of_eq hg.symm)) hb); have n3_ := zA (zad (g := gb324) (o := .cells #[.slice A0_0 l0_0.length c0_0, .slice A0_1 l0_1.length c0_1] 29 (0, 0)) (zK BK324) hb); have n4_ := zA (zaa (zB HB) hb); have n5_ := zA (hbox); have n7_ := zA ((by rw [hg]; exact (za (zB HB)) : w.heap.size ≤ gb335)); have n8_ := zA ((by rw [hg]; exact Nat.ne_of_lt (zax (g := gb324) (o := .cells #[.slice A0_0 l0_0.length c0_0, .slice A0_1 l0_1.length c0_1] 29 (0, 0)) (zK BK324)) : gb324 ≠ gb335)); have n9_ := zA ((by rw [hg]; exact Nat.ne_of_gt (zax (g := gb324) (o := .cells #[.slice A0_0 l0_0.length c0_0, .slice A0_1 l0_1.length c0_1] 29 (0, 0)) (zK BK324)) : gb335 ≠ gb324)); clear HO327 HO331 HO334 BK324 HB; have HO327 := n0_; have HO331 := n1_; have HO334 := n2_; have BK324 := n3_; have HB := n4_; have BK335 := n5_; have GE335 := n7_; have NB324_335 := n8_; have NB335_324 := n9_; clear n0_ n1_ n2_ n3_ n4_ n5_ n7_ n8_ n9_ hb hbox hg; obtain ⟨Ao14, co14, eo14⟩ := Kd.za1 HO331.out; subst eo14; have hnb15 := NB335_324.out; have hnc15 := NB324_335.out; have hcz16_0 : w13.cell? ⟨gb335, 0, none⟩ = some (.slice none 0 0) := (zab BK335.out 0).trans rfl; have hcz16_1 : w13.cell? ⟨gb335, 1, none⟩ = some (.slice none 0 0) := (zab BK335.out 1).trans rfl; have hfz16_0 := zal BK335.out 0; have hfz16_1 := zal BK335.out 1; obtain ⟨Ao17, co17, eo17⟩ := Kd.za1 HO334.out; subst eo17))
  go_loopg [11, 29] k (fun kq v11 v29 w' => ∃ (x11_1 : List (S29)) (x29_1 : Int), v29 = .int .i64 x29_1 ∧ Aside0 (zbz.l0 kq x11_1 t325 (t325.length : Int) x29_1 t329 t332 = some (r1, r2)) ∧ Aside0 (kq ≤ k) ∧ Aside0 (Kd.N k29 29 w' w.heap.size (fun k_ => (w.heap.size ≤ k_) ∧ k_ ≠ gb324 ∧ k_ ≠ gb335) v11 x11_1) ∧ Aside0 (Kd.V k90 90 w' w.heap.size (fun k_ => (w.heap.size ≤ k_) ∧ some k_ ≠ (v11 : Value).ownBlock ∧ k_ ≠ gb324 ∧ k_ ≠ gb335) (.slice Ao11 t325.length co11) t325) ∧ Aside0 (Kd.V (Kd.int .u64) 82 w' w.heap.size (fun k_ => (w.heap.size ≤ k_) ∧ some k_ ≠ (v11 : Value).ownBlock ∧ k_ ≠ gb324 ∧ k_ ≠ gb335) (.slice Ao14 t329.length co14) t329) ∧ Aside0 (Kd.V (Kd.int .u64) 82 w' w.heap.size (fun k_ => (w.heap.size ≤ k_) ∧ some k_ ≠ (v11 : Value).ownBlock ∧ k_ ≠ gb324 ∧ k_ ≠ gb335) (.slice Ao17 t332.length co17) t332) ∧ Aside0 (w'.heap[gb324]? = some (.cells #[(.slice A0_0 l0_0.length c0_0), (.slice A0_1 l0_1.length c0_1)] 29 (0, 0))) ∧ Aside0 (w'.heap[gb335]? = some (.cells #[(.slice Ao14 t329.length co14), (.slice Ao17 t332.length co17)] 29 (0, 0))) ∧ Aside0 (Below w.heap.size w w'))
  case atStart => exact ⟨(([] : List (S29))), (0), (zF), H', ⟨Nat.le_refl _⟩, ⟨by first | exact Kd.S_nil _ _ _ _ _ | exact Kd.N_nil _ _ _ _ _ | exact Kd.V_nil _ _ _ _ _ | exact Kd.Q_nil _ _ _ _ _ | exact Kd.R_nil _ _ _ _ _⟩, ⟨by (with_reducible repeat (first | apply Kd.zbr | apply Kd.zbq | apply Kd.zbt)); exact Kd.zam (Kd.V_far (p := ⟨gb335, 1, none⟩) (Kd.V_far (p := ⟨gb335, 0, none⟩) (Kd.zam HO327.out (fun k_ hk => (⟨hk, hk.2⟩ : _ ∧ k_ ≠ gb335))) (fun _ hk => hk.2) (.slice Ao14 t329.length co14)) (fun _ hk => hk.2) (.slice Ao17 t332.length co17)) (fun _ hk => ⟨hk.1.1.1, ⟨(by simp [Value.ownBlock]), ⟨hk.1.1.2, hk.1.2⟩⟩⟩)⟩, ⟨by (with_reducible repeat (first | apply Kd.zbr | apply Kd.zbq | apply Kd.zbt)); exact Kd.zam (Kd.V_far (p := ⟨gb335, 1, none⟩) (Kd.V_far (p := ⟨gb335, 0, none⟩) (Kd.zam HO331.out (fun k_ hk => (⟨hk, hk.2⟩ : _ ∧ k_ ≠ gb335))) (fun _ hk => hk.2) (.slice Ao14 t329.length co14)) (fun _ hk => hk.2) (.slice Ao17 t332.length co17)) (fun _ hk => ⟨hk.1.1.1, ⟨(by simp [Value.ownBlock]), ⟨hk.1.1.2, hk.1.2⟩⟩⟩)⟩, ⟨by (with_reducible repeat (first | apply Kd.zbr | apply Kd.zbq | apply Kd.zbt)); exact Kd.zam (Kd.V_far (p := ⟨gb335, 1, none⟩) (Kd.V_far (p := ⟨gb335, 0, none⟩) (Kd.zam HO334.out (fun k_ hk => (⟨hk, hk.2⟩ : _ ∧ k_ ≠ gb335))) (fun _ hk => hk.2) (.slice Ao14 t329.length co14)) (fun _ hk => hk.2) (.slice Ao17 t332.length co17)) (fun _ hk => ⟨hk.1.1.1, ⟨(by simp [Value.ownBlock]), ⟨hk.1.1.2, hk.1.2⟩⟩⟩)⟩, ⟨by (with_reducible repeat (first | refine zaj ?_ _ | refine zai ?_ | refine zah ?_ _)); refine zby ?_ NB324_335.out _; (with_reducible repeat (first | refine zaj ?_ _ | refine zai ?_ | refine zah ?_ _)); refine zby ?_ NB324_335.out _; (with_reducible repeat (first | refine zaj ?_ _ | refine zai ?_ | refine zah ?_ _)); exact BK324.out⟩, ⟨by (with_reducible repeat (first | refine zaj ?_ _ | refine zai ?_ | refine zah ?_ _)); refine zbc (cs := #[.slice Ao14 t329.length co14, .slice none 0 0]) ?_ 1 _ rfl; (with_reducible repeat (first | refine zaj ?_ _ | refine zai ?_ | refine zah ?_ _)); refine zbc (cs := #[.slice none 0 0, .slice none 0 0]) ?_ 0 _ rfl; (with_reducible repeat (first | refine zaj ?_ _ | refine zai ?_ | refine zah ?_ _)); exact BK335.out⟩, ⟨zB HB⟩⟩
  case round =>
   clear H'
   try clear c1
   try clear c2
   try clear p2
   try clear c3
   try clear c5
   try clear c5b0
   try clear c5b1
   try clear p6
   try clear c15
   try clear c16
   try clear hcz10_0
   try clear hcz10_1
   try clear hcz16_0
   try clear hcz16_1
   try clear hcz8_0
   try clear hcz8_1
   try clear hfz10_0
   try clear hfz10_1
   try clear hfz16_0
   try clear hfz16_1
   try clear hfz8_0
   try clear hfz8_1
   obtain ⟨x11_1, x29_1, rfl, HA, HK1, HO_11, HO_27, HO_336000, HO_336001, BK324, BK335, HB⟩ := hrel
   cases gk with
   | zero => exact absurd HA.out (by simp [zbz.l0])
   | succ k1 =>
    have H := HA.out
    clear HA
    simp only [zbz.l0] at H
    by_cases c18 : x29_1 < (t325.length : Int)
    ·
     rw [if_pos c18] at H
     have c18b0 : decide (x29_1 < (t325.length : Int)) = true := decide_eq_true c18
     clear c18
     by_cases c19 : 0 ≤ x29_1
     ·
      rw [if_pos c19] at H
      have c19b0 : decide (0 ≤ x29_1) = true := decide_eq_true c19
      clear c19
      by_cases c20 : x29_1 < (t325.length : Int)
      ·
       rw [if_pos c20] at H
       have c20b0 : decide (x29_1 < (t325.length : Int)) = true := decide_eq_true c20
       clear c20
       replace H := zO H
       obtain ⟨⟨t338, t341⟩, A210, H⟩ := H
       try dsimp only at H
       have A21 := zA A210
       clear A210
       by_cases c22 : x11_1.length < 2932031007402
       ·
        rw [if_pos c22] at H
        have LMc22 := zA c22
        clear c22
        obtain ⟨y344, hy344⟩ : ∃ y_ : List (S29), y_ = (x11_1 ++ [(⟨t338, t341⟩ : S29)]) := ⟨_, rfl⟩
        replace H : (zbz.l0 k1 y344 t325 (t325.length : Int) (wrap64 (x29_1 + 1)) t329 t332) = some (r1, r2) := by first | (rw [hy344]; with_reducible exact H) | (have H2_ := (Option.bind_some _ _).symm.trans H; rw [hy344]; with_reducible exact H2_) | (have H2_ := (Option.bind_some _ _).symm.trans H; with_reducible exact H2_) | with_reducible exact H | (rw [hy344]; exact H) | exact H
        have Ny344 := zA hy344
        clear hy344
        have H' := zA H
        clear H
        have p336 : 0 ≤ (x29_1 : Int) := of_decide_eq_true (by first | (with_reducible assumption) | assumption)
        have q336 : x29_1 < (t325.length : Int) := of_decide_eq_true (by first | (with_reducible assumption) | assumption)
        obtain ⟨ad336, e336, hx336_0, hx336_1⟩ := at_T90 (Kd.zak HO_27.out).2.2 x29_1 p336 q336
        cases e336
        replace p336 := eq_true p336
        replace q336 := eq_true q336
        go_wp2_with (first | ((with_reducible refine za8 (N := 13) rfl ?_); refine zbd ?hg (N := 13) ?hd (cs := #[.int .i64 0, .int .i64 0]) (t := 90) ?hr ?_; (case hd => rfl); (case hg => rfl); (case hr => first | (go_simp; done) | (go_simp; rfl)); intro gb337 hg w23 hbox hb; have n0_ := zA (Kd.zdb (Kd.N_elderB (zN HO_11) gb337 (Nat.le_of_eq hg.symm)) hb); have n1_ := zA (Kd.zau (Kd.zcz (zV HO_27) gb337 (Nat.le_of_eq hg.symm)) hb); have n2_ := zA (Kd.zau (Kd.zcz (zV HO_336000) gb337 (Nat.le_of_eq hg.symm)) hb); have n3_ := zA (Kd.zau (Kd.zcz (zV HO_336001) gb337 (Nat.le_of_eq hg.symm)) hb); have n4_ := zA (zad (g := gb324) (o := .cells #[.slice A0_0 l0_0.length c0_0, .slice A0_1 l0_1.length c0_1] 29 (0, 0)) (zK BK324) hb); have n5_ := zA (zad (g := gb335) (o := .cells #[.slice Ao14 t329.length co14, .slice Ao17 t332.length co17] 29 (0, 0)) (zK BK335) hb); have n6_ := zA (zaa (zB HB) hb); have n7_ := zA (hbox); have n9_ := zA ((by rw [hg]; exact (za (zB HB)) : w.heap.size ≤ gb337)); have n10_ := zA ((by rw [hg]; exact Nat.ne_of_lt (zax (g := gb324) (o := .cells #[.slice A0_0 l0_0.length c0_0, .slice A0_1 l0_1.length c0_1] 29 (0, 0)) (zK BK324)) : gb324 ≠ gb337)); have n11_ := zA ((by rw [hg]; exact Nat.ne_of_gt (zax (g := gb324) (o := .cells #[.slice A0_0 l0_0.length c0_0, .slice A0_1 l0_1.length c0_1] 29 (0, 0)) (zK BK324)) : gb337 ≠ gb324)); have n12_ := zA ((by rw [hg]; exact Nat.ne_of_lt (zax (g := gb335) (o := .cells #[.slice Ao14 t329.length co14, .slice Ao17 t332.length co17] 29 (0, 0)) (zK BK335)) : gb335 ≠ gb337)); have n13_ := zA ((by rw [hg]; exact Nat.ne_of_gt (zax (g := gb335) (o := .cells #[.slice Ao14 t329.length co14, .slice Ao17 t332.length co17] 29 (0, 0)) (zK BK335)) : gb337 ≠ gb335)); clear HO_11 HO_27 HO_336000 HO_336001 BK324 BK335 HB; have HO_11 := n0_; have HO_27 := n1_; have HO_336000 := n2_; have HO_336001 := n3_; have BK324 := n4_; have BK335 := n5_; have HB := n6_; have BK337 := n7_; have GE337 := n9_; have NB324_337 := n10_; have NB337_324 := n11_; have NB335_337 := n12_; have NB337_335 := n13_; clear n0_ n1_ n2_ n3_ n4_ n5_ n6_ n7_ n9_ n10_ n11_ n12_ n13_ hb hbox hg; have hnb24 := NB337_324.out; have hnc24 := NB324_337.out; have hnb25 := NB337_335.out; have hnc25 := NB335_337.out; have hcz26_0 : w23.cell? ⟨gb337, 0, none⟩ = some (.int .i64 0) := (zab BK337.out 0).trans rfl; have hcz26_1 : w23.cell? ⟨gb337, 1, none⟩ = some (.int .i64 0) := (zab BK337.out 1).trans rfl; have hfz26_0 := zal BK337.out 0; have hfz26_1 := zal BK337.out 1; have hnb27 := NB335_324.out; have hnc27 := NB324_335.out; have hcz28_0 : w23.cell? ⟨gb335, 0, none⟩ = some (.slice Ao14 t329.length co14) := (zab BK335.out 0).trans rfl; have hcz28_1 : w23.cell? ⟨gb335, 1, none⟩ = some (.slice Ao17 t332.length co17) := (zab BK335.out 1).trans rfl; have hfz28_0 := zal BK335.out 0; have hfz28_1 := zal BK335.out 1) | ((with_reducible refine zae (f := 40) rfl ?_); refine za2 (some 36) rfl rfl Tryz.func40 (by kernel_rfl) rfl #[.agg #[.int .i64 ((rd_T90 t325 x29_1).f0), .int .i64 ((rd_T90 t325 x29_1).f1)], .agg #[.slice Ao14 t329.length co14, .slice Ao17 t332.length co17]] rfl (zE) ?_; (with_reducible refine (zc5.calls k1 ((rd_T90 t325 x29_1).f0) ((rd_T90 t325 x29_1).f1) _ _ t329 _ _ t332 t338 t341 _ ?side1 ?side2 ?side3 ?side4 A21.out).mono ?_); (case side1 => refine (Kd.zak (e := 82) (base := w.heap.size) (ok := fun k_ => (((w.heap.size ≤ k_) ∧ (some k_ ≠ (u11 : Value).ownBlock ∧ (k_ ≠ gb324 ∧ k_ ≠ gb335))) ∧ k_ ≠ gb337)) (n := t329.length) (c := co14) ?_).2.2; exact (by (with_reducible repeat (first | apply Kd.zbr | apply Kd.zbq | apply Kd.zbt)); exact (Kd.zam (Kd.V_far (p := ⟨gb337, 1, none⟩) (Kd.V_far (p := ⟨gb337, 0, none⟩) (Kd.zam HO_336000.out (fun k_ hk => (⟨hk, hk.2⟩ : _ ∧ k_ ≠ gb337))) (fun _ hk => hk.2) (.int .i64 ((rd_T90 t325 x29_1).f0))) (fun _ hk => hk.2) (.int .i64 ((rd_T90 t325 x29_1).f1))) (fun _ h_ => h_.1)))); (case side2 => exact (Kd.zak HO_336000.out).2.1); (case side3 => refine (Kd.zak (e := 82) (base := w.heap.size) (ok := fun k_ => (((w.heap.size ≤ k_) ∧ (some k_ ≠ (u11 : Value).ownBlock ∧ (k_ ≠ gb324 ∧ k_ ≠ gb335))) ∧ k_ ≠ gb337)) (n := t332.length) (c := co17) ?_).2.2; exact (by (with_reducible repeat (first | apply Kd.zbr | apply Kd.zbq | apply Kd.zbt)); exact (Kd.zam (Kd.V_far (p := ⟨gb337, 1, none⟩) (Kd.V_far (p := ⟨gb337, 0, none⟩) (Kd.zam HO_336001.out (fun k_ hk => (⟨hk, hk.2⟩ : _ ∧ k_ ≠ gb337))) (fun _ hk => hk.2) (.int .i64 ((rd_T90 t325 x29_1).f0))) (fun _ hk => hk.2) (.int .i64 ((rd_T90 t325 x29_1).f1))) (fun _ h_ => h_.1)))); (case side4 => exact (Kd.zak HO_336001.out).2.1); rintro e w29 ⟨v339, v342, rfl, ho0, ho1, hb⟩; refine ⟨_, rfl, ?_⟩; have n0_ := zA (Kd.zdb (by (with_reducible repeat (first | apply Kd.N_alloc | apply Kd.N_drewN | apply Kd.N_drew)); exact (Kd.N_mono (Kd.N_far (p := ⟨gb337, 1, none⟩) (Kd.N_far (p := ⟨gb337, 0, none⟩) (Kd.N_mono HO_11.out (fun k_ hk => (⟨hk, hk.2⟩ : _ ∧ k_ ≠ gb337))) (fun _ hk => hk.2) (.int .i64 ((rd_T90 t325 x29_1).f0))) (fun _ hk => hk.2) (.int .i64 ((rd_T90 t325 x29_1).f1))) (fun _ h_ => h_.1))) hb); have n1_ := zA (Kd.zau (by (with_reducible repeat (first | apply Kd.zbr | apply Kd.zbq | apply Kd.zbt)); exact (Kd.zam (Kd.V_far (p := ⟨gb337, 1, none⟩) (Kd.V_far (p := ⟨gb337, 0, none⟩) (Kd.zam HO_27.out (fun k_ hk => (⟨hk, hk.2⟩ : _ ∧ k_ ≠ gb337))) (fun _ hk => hk.2) (.int .i64 ((rd_T90 t325 x29_1).f0))) (fun _ hk => hk.2) (.int .i64 ((rd_T90 t325 x29_1).f1))) (fun _ h_ => h_.1))) hb); have n2_ := zA (Kd.zau (by (with_reducible repeat (first | apply Kd.zbr | apply Kd.zbq | apply Kd.zbt)); exact (Kd.zam (Kd.V_far (p := ⟨gb337, 1, none⟩) (Kd.V_far (p := ⟨gb337, 0, none⟩) (Kd.zam HO_336000.out (fun k_ hk => (⟨hk, hk.2⟩ : _ ∧ k_ ≠ gb337))) (fun _ hk => hk.2) (.int .i64 ((rd_T90 t325 x29_1).f0))) (fun _ hk => hk.2) (.int .i64 ((rd_T90 t325 x29_1).f1))) (fun _ h_ => h_.1))) hb); have n3_ := zA (Kd.zau (by (with_reducible repeat (first | apply Kd.zbr | apply Kd.zbq | apply Kd.zbt)); exact (Kd.zam (Kd.V_far (p := ⟨gb337, 1, none⟩) (Kd.V_far (p := ⟨gb337, 0, none⟩) (Kd.zam HO_336001.out (fun k_ hk => (⟨hk, hk.2⟩ : _ ∧ k_ ≠ gb337))) (fun _ hk => hk.2) (.int .i64 ((rd_T90 t325 x29_1).f0))) (fun _ hk => hk.2) (.int .i64 ((rd_T90 t325 x29_1).f1))) (fun _ h_ => h_.1))) hb); have n4_ := zA (Kd.zaz (Kd.zam (ok' := fun k_ => (w.heap.size ≤ k_) ∧ some k_ ≠ (u11 : Value).ownBlock ∧ k_ ≠ gb324 ∧ k_ ≠ gb335 ∧ k_ ≠ gb337) ho0 (fun k_ hk_ => ⟨(Nat.le_trans (za (zB HB)) hk_), (Kd.fresh' (Kd.N_lt (by (with_reducible repeat (first | apply Kd.N_alloc | apply Kd.N_drewN | apply Kd.N_drew)); exact (Kd.N_mono (Kd.N_far (p := ⟨gb337, 1, none⟩) (Kd.N_far (p := ⟨gb337, 0, none⟩) (Kd.N_mono HO_11.out (fun k_ hk => (⟨hk, hk.2⟩ : _ ∧ k_ ≠ gb337))) (fun _ hk => hk.2) (.int .i64 ((rd_T90 t325 x29_1).f0))) (fun _ hk => hk.2) (.int .i64 ((rd_T90 t325 x29_1).f1))) (fun _ h_ => h_.1)))) k_ hk_), (Kd.freshB (g := gb324) (o := .cells #[.slice A0_0 l0_0.length c0_0, .slice A0_1 l0_1.length c0_1] 29 (0, 0)) (by (with_reducible repeat (first | refine zaj ?_ _ | refine zai ?_ | refine zah ?_ _)); refine zby ?_ NB324_337.out _; (with_reducible repeat (first | refine zaj ?_ _ | refine zai ?_ | refine zah ?_ _)); refine zby ?_ NB324_337.out _; (with_reducible repeat (first | refine zaj ?_ _ | refine zai ?_ | refine zah ?_ _)); exact BK324.out) k_ hk_), (Kd.freshB (g := gb335) (o := .cells #[.slice Ao14 t329.length co14, .slice Ao17 t332.length co17] 29 (0, 0)) (by (with_reducible repeat (first | refine zaj ?_ _ | refine zai ?_ | refine zah ?_ _)); refine zby ?_ NB335_337.out _; (with_reducible repeat (first | refine zaj ?_ _ | refine zai ?_ | refine zah ?_ _)); refine zby ?_ NB335_337.out _; (with_reducible repeat (first | refine zaj ?_ _ | refine zai ?_ | refine zah ?_ _)); exact BK335.out) k_ hk_), (Kd.freshB (g := gb337) (o := .cells #[.int .i64 ((rd_T90 t325 x29_1).f0), .int .i64 ((rd_T90 t325 x29_1).f1)] 90 (0, 0)) (by (with_reducible repeat (first | refine zaj ?_ _ | refine zai ?_ | refine zah ?_ _)); refine zbc (cs := #[.int .i64 ((rd_T90 t325 x29_1).f0), .int .i64 0]) ?_ 1 _ rfl; (with_reducible repeat (first | refine zaj ?_ _ | refine zai ?_ | refine zah ?_ _)); refine zbc (cs := #[.int .i64 0, .int .i64 0]) ?_ 0 _ rfl; (with_reducible repeat (first | refine zaj ?_ _ | refine zai ?_ | refine zah ?_ _)); exact BK337.out) k_ hk_)⟩)) (za (zB HB))); have n5_ := zA (Kd.zaz (Kd.zam (ok' := fun k_ => (w.heap.size ≤ k_) ∧ some k_ ≠ (u11 : Value).ownBlock ∧ k_ ≠ gb324 ∧ k_ ≠ gb335 ∧ k_ ≠ gb337) ho1 (fun k_ hk_ => ⟨(Nat.le_trans (za (zB HB)) hk_), (Kd.fresh' (Kd.N_lt (by (with_reducible repeat (first | apply Kd.N_alloc | apply Kd.N_drewN | apply Kd.N_drew)); exact (Kd.N_mono (Kd.N_far (p := ⟨gb337, 1, none⟩) (Kd.N_far (p := ⟨gb337, 0, none⟩) (Kd.N_mono HO_11.out (fun k_ hk => (⟨hk, hk.2⟩ : _ ∧ k_ ≠ gb337))) (fun _ hk => hk.2) (.int .i64 ((rd_T90 t325 x29_1).f0))) (fun _ hk => hk.2) (.int .i64 ((rd_T90 t325 x29_1).f1))) (fun _ h_ => h_.1)))) k_ hk_), (Kd.freshB (g := gb324) (o := .cells #[.slice A0_0 l0_0.length c0_0, .slice A0_1 l0_1.length c0_1] 29 (0, 0)) (by (with_reducible repeat (first | refine zaj ?_ _ | refine zai ?_ | refine zah ?_ _)); refine zby ?_ NB324_337.out _; (with_reducible repeat (first | refine zaj ?_ _ | refine zai ?_ | refine zah ?_ _)); refine zby ?_ NB324_337.out _; (with_reducible repeat (first | refine zaj ?_ _ | refine zai ?_ | refine zah ?_ _)); exact BK324.out) k_ hk_), (Kd.freshB (g := gb335) (o := .cells #[.slice Ao14 t329.length co14, .slice Ao17 t332.length co17] 29 (0, 0)) (by (with_reducible repeat (first | refine zaj ?_ _ | refine zai ?_ | refine zah ?_ _)); refine zby ?_ NB335_337.out _; (with_reducible repeat (first | refine zaj ?_ _ | refine zai ?_ | refine zah ?_ _)); refine zby ?_ NB335_337.out _; (with_reducible repeat (first | refine zaj ?_ _ | refine zai ?_ | refine zah ?_ _)); exact BK335.out) k_ hk_), (Kd.freshB (g := gb337) (o := .cells #[.int .i64 ((rd_T90 t325 x29_1).f0), .int .i64 ((rd_T90 t325 x29_1).f1)] 90 (0, 0)) (by (with_reducible repeat (first | refine zaj ?_ _ | refine zai ?_ | refine zah ?_ _)); refine zbc (cs := #[.int .i64 ((rd_T90 t325 x29_1).f0), .int .i64 0]) ?_ 1 _ rfl; (with_reducible repeat (first | refine zaj ?_ _ | refine zai ?_ | refine zah ?_ _)); refine zbc (cs := #[.int .i64 0, .int .i64 0]) ?_ 0 _ rfl; (with_reducible repeat (first | refine zaj ?_ _ | refine zai ?_ | refine zah ?_ _)); exact BK337.out) k_ hk_)⟩)) (za (zB HB))); have n6_ := zA (zad (g := gb324) (o := .cells #[.slice A0_0 l0_0.length c0_0, .slice A0_1 l0_1.length c0_1] 29 (0, 0)) (by (with_reducible repeat (first | refine zaj ?_ _ | refine zai ?_ | refine zah ?_ _)); refine zby ?_ NB324_337.out _; (with_reducible repeat (first | refine zaj ?_ _ | refine zai ?_ | refine zah ?_ _)); refine zby ?_ NB324_337.out _; (with_reducible repeat (first | refine zaj ?_ _ | refine zai ?_ | refine zah ?_ _)); exact BK324.out) hb); have n7_ := zA (zad (g := gb335) (o := .cells #[.slice Ao14 t329.length co14, .slice Ao17 t332.length co17] 29 (0, 0)) (by (with_reducible repeat (first | refine zaj ?_ _ | refine zai ?_ | refine zah ?_ _)); refine zby ?_ NB335_337.out _; (with_reducible repeat (first | refine zaj ?_ _ | refine zai ?_ | refine zah ?_ _)); refine zby ?_ NB335_337.out _; (with_reducible repeat (first | refine zaj ?_ _ | refine zai ?_ | refine zah ?_ _)); exact BK335.out) hb); have n8_ := zA (zad (g := gb337) (o := .cells #[.int .i64 ((rd_T90 t325 x29_1).f0), .int .i64 ((rd_T90 t325 x29_1).f1)] 90 (0, 0)) (by (with_reducible repeat (first | refine zaj ?_ _ | refine zai ?_ | refine zah ?_ _)); refine zbc (cs := #[.int .i64 ((rd_T90 t325 x29_1).f0), .int .i64 0]) ?_ 1 _ rfl; (with_reducible repeat (first | refine zaj ?_ _ | refine zai ?_ | refine zah ?_ _)); refine zbc (cs := #[.int .i64 0, .int .i64 0]) ?_ 0 _ rfl; (with_reducible repeat (first | refine zaj ?_ _ | refine zai ?_ | refine zah ?_ _)); exact BK337.out) hb); have n9_ := zA (zaa (zB HB) hb); clear HO_11 HO_27 HO_336000 HO_336001 BK324 BK335 BK337 HB; have HO_11 := n0_; have HO_27 := n1_; have HO_336000 := n2_; have HO_336001 := n3_; have HO340 := n4_; have HO343 := n5_; have BK324 := n6_; have BK335 := n7_; have BK337 := n8_; have HB := n9_; clear n0_ n1_ n2_ n3_ n4_ n5_ n6_ n7_ n8_ n9_; (try clear hb); (try clear hb2); (try clear hk); (try clear hi); (try clear ho0); (try clear ho1); obtain ⟨Ao31, co31, eo31⟩ := Kd.za1 HO340.out; subst eo31; obtain ⟨Ao32, co32, eo32⟩ := Kd.za1 HO343.out; subst eo32) | ((with_reducible refine zb3 (b := .append) (xs := #[.tmp 33, .tmp 37]) rfl ?_); at_builtin; refine Kd.N_append k29 (w0 := w) w.heap.size rfl (.tmp 33) (.tmp 37) 35 29 (.agg #[(.slice none 0 0), (.slice none 0 0)]) 48 rfl Tryz.underlying35 info29 rfl (by decide) (by omega) u11 x11_1 (⟨t338, t341⟩ : S29) [.slice Ao31 t338.length co31, .slice Ao32 t341.length co32] (fun k_ => (w.heap.size ≤ k_) ∧ k_ ≠ gb324 ∧ k_ ≠ gb335 ∧ k_ ≠ gb337) (fun k_ => ((fun k_ => (w.heap.size ≤ k_) ∧ k_ ≠ gb324 ∧ k_ ≠ gb335 ∧ k_ ≠ gb337)) k_ ∧ some k_ ≠ (u11 : Value).ownBlock) rfl rfl ?aP (fun _ hk => hk) ?aF ?aO ?aB ?aS ?aL ?_; (case aP => exact (k29_mkF _ _ (⟨t338, t341⟩ : S29) (Kd.zak (Kd.zam (ok' := (fun k_ => ((fun k_ => (w.heap.size ≤ k_) ∧ k_ ≠ gb324 ∧ k_ ≠ gb335 ∧ k_ ≠ gb337)) k_ ∧ some k_ ≠ (u11 : Value).ownBlock)) (HO340.out) (fun k_ hk => ⟨⟨hk.1, ⟨hk.2.2.1, ⟨hk.2.2.2.1, hk.2.2.2.2⟩⟩⟩, hk.2.1⟩))).2.1 (Kd.V_F (Kd.zam (ok' := (fun k_ => ((fun k_ => (w.heap.size ≤ k_) ∧ k_ ≠ gb324 ∧ k_ ≠ gb335 ∧ k_ ≠ gb337)) k_ ∧ some k_ ≠ (u11 : Value).ownBlock)) (HO340.out) (fun k_ hk => ⟨⟨hk.1, ⟨hk.2.2.1, ⟨hk.2.2.2.1, hk.2.2.2.2⟩⟩⟩, hk.2.1⟩))) (Kd.zak (Kd.zam (ok' := (fun k_ => ((fun k_ => (w.heap.size ≤ k_) ∧ k_ ≠ gb324 ∧ k_ ≠ gb335 ∧ k_ ≠ gb337)) k_ ∧ some k_ ≠ (u11 : Value).ownBlock)) (HO343.out) (fun k_ hk => ⟨⟨hk.1, ⟨hk.2.2.1, ⟨hk.2.2.2.1, hk.2.2.2.2⟩⟩⟩, hk.2.1⟩))).2.1 (Kd.V_F (Kd.zam (ok' := (fun k_ => ((fun k_ => (w.heap.size ≤ k_) ∧ k_ ≠ gb324 ∧ k_ ≠ gb335 ∧ k_ ≠ gb337)) k_ ∧ some k_ ≠ (u11 : Value).ownBlock)) (HO343.out) (fun k_ hk => ⟨⟨hk.1, ⟨hk.2.2.1, ⟨hk.2.2.2.1, hk.2.2.2.2⟩⟩⟩, hk.2.1⟩))))); (case aB => exact (zB HB)); (case aF => exact (fun k_ hk => ⟨(Nat.le_trans (za (zB HB)) hk), Kd.freshB (g := gb324) (o := .cells #[.slice A0_0 l0_0.length c0_0, .slice A0_1 l0_1.length c0_1] 29 (0, 0)) (zK BK324) k_ hk, Kd.freshB (g := gb335) (o := .cells #[.slice Ao14 t329.length co14, .slice Ao17 t332.length co17] 29 (0, 0)) (zK BK335) k_ hk, Kd.freshB (g := gb337) (o := .cells #[.int .i64 ((rd_T90 t325 x29_1).f0), .int .i64 ((rd_T90 t325 x29_1).f1)] 90 (0, 0)) (zK BK337) k_ hk⟩)); (case aO => exact (by (with_reducible repeat (first | apply Kd.N_alloc | apply Kd.N_drewN | apply Kd.N_drew)); exact Kd.N_mono HO_11.out (fun _ hk => ⟨hk.1.1, ⟨hk.1.2.1, ⟨hk.1.2.2, hk.2⟩⟩⟩))); (case aS => exact (za (zB HB))); (case aL => have := LMc22.out; omega); intro v345 w30 ho hb hg hat; rw [← Ny344.out] at ho; have n0_ := zA (Kd.V_afterv (ok := (fun k_ => (w.heap.size ≤ k_) ∧ k_ ≠ gb324 ∧ k_ ≠ gb335 ∧ k_ ≠ gb337)) (by (with_reducible repeat (first | apply Kd.zbr | apply Kd.zbq | apply Kd.zbt)); exact Kd.zam HO_27.out (fun _ hk => ⟨⟨hk.1.1, ⟨hk.1.2.2.1, ⟨hk.1.2.2.2, hk.2⟩⟩⟩, hk.1.2.1⟩)) hg hat); have n1_ := zA (Kd.V_afterv (ok := (fun k_ => (w.heap.size ≤ k_) ∧ k_ ≠ gb324 ∧ k_ ≠ gb335 ∧ k_ ≠ gb337)) (by (with_reducible repeat (first | apply Kd.zbr | apply Kd.zbq | apply Kd.zbt)); exact Kd.zam HO_336000.out (fun _ hk => ⟨⟨hk.1.1, ⟨hk.1.2.2.1, ⟨hk.1.2.2.2, hk.2⟩⟩⟩, hk.1.2.1⟩)) hg hat); have n2_ := zA (Kd.V_afterv (ok := (fun k_ => (w.heap.size ≤ k_) ∧ k_ ≠ gb324 ∧ k_ ≠ gb335 ∧ k_ ≠ gb337)) (by (with_reducible repeat (first | apply Kd.zbr | apply Kd.zbq | apply Kd.zbt)); exact Kd.zam HO_336001.out (fun _ hk => ⟨⟨hk.1.1, ⟨hk.1.2.2.1, ⟨hk.1.2.2.2, hk.2⟩⟩⟩, hk.1.2.1⟩)) hg hat); have n3_ := zA (blk_grown (g := gb324) (o := .cells #[.slice A0_0 l0_0.length c0_0, .slice A0_1 l0_1.length c0_1] 29 (0, 0)) (zK BK324) hg (Kd.N_away HO_11.out (fun _ hk => hk.1.2.1))); have n4_ := zA (blk_grown (g := gb335) (o := .cells #[.slice Ao14 t329.length co14, .slice Ao17 t332.length co17] 29 (0, 0)) (zK BK335) hg (Kd.N_away HO_11.out (fun _ hk => hk.1.2.2))); have n8_ := zA (hb); have n9_ := zA (ho); clear HO_27 HO_336000 HO_336001 BK324 BK335 HB HO_11; have HO_27 := n0_; have HO_336000 := n1_; have HO_336001 := n2_; have BK324 := n3_; have BK335 := n4_; have HB := n8_; have HO346 := n9_; clear n0_ n1_ n2_ n3_ n4_ n8_ n9_ ho hb hg hat))
        go_roundg k1
        case measure => have := HK1.out; omega
        case rel => exact ⟨(y344), (wrap64 (x29_1 + 1)), (zF), H', ⟨by have := HK1.out; omega⟩, ⟨by (with_reducible repeat (first | apply Kd.N_alloc | apply Kd.N_drewN | apply Kd.N_drew)); exact Kd.N_mono HO346.out (fun _ hk => ⟨hk.1, ⟨hk.2.1, hk.2.2.1⟩⟩)⟩, ⟨by (with_reducible repeat (first | apply Kd.zbr | apply Kd.zbq | apply Kd.zbt)); exact Kd.zam HO_27.out (fun _ hk => ⟨hk.1.1, ⟨hk.2, ⟨hk.1.2.1, hk.1.2.2.1⟩⟩⟩)⟩, ⟨by (with_reducible repeat (first | apply Kd.zbr | apply Kd.zbq | apply Kd.zbt)); exact Kd.zam HO_336000.out (fun _ hk => ⟨hk.1.1, ⟨hk.2, ⟨hk.1.2.1, hk.1.2.2.1⟩⟩⟩)⟩, ⟨by (with_reducible repeat (first | apply Kd.zbr | apply Kd.zbq | apply Kd.zbt)); exact Kd.zam HO_336001.out (fun _ hk => ⟨hk.1.1, ⟨hk.2, ⟨hk.1.2.1, hk.1.2.2.1⟩⟩⟩)⟩, ⟨zK BK324⟩, ⟨zK BK335⟩, ⟨zB HB⟩⟩
       ·
        rw [if_neg c22] at H
        exact absurd H (by simp)
      ·
       rw [if_neg c20] at H
       exact absurd H (by simp)
     ·
      rw [if_neg c19] at H
      exact absurd H (by simp)
    ·
     rw [if_neg c18] at H
     have c18b0 : decide (x29_1 < (t325.length : Int)) = false := decide_eq_false c18
     clear c18
     simp only [Option.some.injEq, Prod.mk.injEq] at H
     obtain ⟨rfl, rfl⟩ := H
     go_wp2
     go_ret2
     exact ⟨_, zW, by (with_reducible repeat (first | apply Kd.N_alloc | apply Kd.N_drewN | apply Kd.N_drew)); exact Kd.N_mono HO_11.out (fun _ hk => hk.1), zB HB⟩
 ·
  rw [if_neg c5] at H
  have c5b0 : (t328 == 0) = false := beq_eq_false_iff_ne.mpr c5
  have c5b1 : (t328 != 0) = true := bne_iff_ne.mpr c5
  simp only [Option.some.injEq, Prod.mk.injEq] at H
  obtain ⟨rfl, rfl⟩ := H
  go_enter Tryz.func16, Tryz.ntmps16
  go_wp2_with (first | ((with_reducible refine za8 (N := 3) rfl ?_); refine zbd ?hg (N := 3) ?hd (cs := #[.slice A0_0 l0_0.length c0_0, .slice A0_1 l0_1.length c0_1]) (t := 29) ?hr ?_; (case hd => rfl); (case hg => rfl); (case hr => first | (go_simp; done) | (go_simp; rfl)); intro gb324 hg w33 hbox hb; have n0_ := zA (zaa (zB HB) hb); have n1_ := zA (hbox); have n3_ := zA ((by rw [hg]; exact (za (zB HB)) : w.heap.size ≤ gb324)); clear HB; have HB := n0_; have BK324 := n1_; have GE324 := n3_; clear n0_ n1_ n3_ hb hbox hg; have hcz34_0 : w33.cell? ⟨gb324, 0, none⟩ = some (.slice A0_0 l0_0.length c0_0) := (zab BK324.out 0).trans rfl; have hcz34_1 : w33.cell? ⟨gb324, 1, none⟩ = some (.slice A0_1 l0_1.length c0_1) := (zab BK324.out 1).trans rfl; have hfz34_0 := zal BK324.out 0; have hfz34_1 := zal BK324.out 1) | ((with_reducible refine zae (f := 38) rfl ?_); refine za2 (some 18) rfl rfl Tryz.func38 (by kernel_rfl) rfl #[.agg #[.slice A0_0 l0_0.length c0_0, .slice A0_1 l0_1.length c0_1], .slice A1 l1.length c1, .slice A2 l2.length c2] rfl (zE) ?_; (with_reducible refine (zc2.calls k _ _ l0_0 _ _ l0_1 _ _ l1 _ _ l2 t325 t328 _ ?side1 ?side2 ?side3 ?side4 ?side5 ?side6 ?side7 ?side8 A4.out).mono ?_); (case side1 => exact zJ (Kd.zas HR0_0.out HB.out)); (case side2 => exact HC0_0.out); (case side3 => exact zJ (Kd.zas HR0_1.out HB.out)); (case side4 => exact HC0_1.out); (case side5 => exact zJ (Kd.zas HR1.out HB.out)); (case side6 => exact HC1.out); (case side7 => exact zJ (Kd.zas HR2.out HB.out)); (case side8 => exact HC2.out); rintro e w35 ⟨v326, rfl, ho0, hb⟩; refine ⟨_, rfl, ?_⟩; have n2_ := zA (zaa (zB HB) hb); clear HB; have HB := n2_; clear n2_; (try clear hb); (try clear hb2); (try clear hk); (try clear hi); (try clear ho0)))
  go_ret2
  exact ⟨_, zW, by first | exact Kd.S_nil _ _ _ _ _ | exact Kd.N_nil _ _ _ _ _ | exact Kd.V_nil _ _ _ _ _ | exact Kd.Q_nil _ _ _ _ _ | exact Kd.R_nil _ _ _ _ _, zB HB⟩
def zbw.f (k : Nat)  : Option (Bool) := (zb9.f k 2).bind fun bt375 => ((zbz.f k bt375.1 bt375.2 (([1, 1, 8] : List Int)) (([1, 1, 1] : List Int))).bind fun bt387 => (if bt387.2 = 0 then (if (bt387.1.length : Int) = 3 then (if 0 < (bt387.1.length : Int) then ((za0.f k ((rd_T29 bt387.1 0).f0) ((rd_T29 bt387.1 0).f1)).bind fun t392 => (if t392.toList = ([49, 47, 50] : List UInt8) then (if 2 < (bt387.1.length : Int) then ((za0.f k ((rd_T29 bt387.1 2).f0) ((rd_T29 bt387.1 2).f1)).bind fun t394 => (some (t394.toList == ([49] : List UInt8)))) else (none)) else (some false))) else (none)) else (some false)) else (some false)))
theorem zbw.calls (k : Nat)  (r : Bool) (w : World) (hG : Glob w) (h : zbw.f k  = some r) :
  Calls Tryz.prog 14 #[] w fun e w' => e = .returned (.bool r) ∧ Below w.heap.size w w' := by
 have hu29 := Tryz.underlying29
 have HG := zA hG
 clear hG
 have HB := zA (Below.refl w.heap.size w)
 have H : ((zb9.f k 2).bind fun bt375 => ((zbz.f k bt375.1 bt375.2 (([1, 1, 8] : List Int)) (([1, 1, 1] : List Int))).bind fun bt387 => (if bt387.2 = 0 then (if (bt387.1.length : Int) = 3 then (if 0 < (bt387.1.length : Int) then ((za0.f k ((rd_T29 bt387.1 0).f0) ((rd_T29 bt387.1 0).f1)).bind fun t392 => (if t392.toList = ([49, 47, 50] : List UInt8) then (if 2 < (bt387.1.length : Int) then ((za0.f k ((rd_T29 bt387.1 2).f0) ((rd_T29 bt387.1 2).f1)).bind fun t394 => (some (t394.toList == ([49] : List UInt8)))) else (none)) else (some false))) else (none)) else (some false)) else (some false)))) = some r := h
 clear h
 replace H := zO H
 obtain ⟨⟨t375, t378⟩, A10, H⟩ := H
 try dsimp only at H
 have A1 := zA A10
 clear A10
 obtain ⟨y381, hy381⟩ : ∃ y_ : List Int, y_ = (([1, 1, 8] : List Int)) := ⟨_, rfl⟩
 replace H : ((zbz.f k t375 t378 y381 (([1, 1, 1] : List Int))).bind fun bt387 => (if bt387.2 = 0 then (if (bt387.1.length : Int) = 3 then (if 0 < (bt387.1.length : Int) then ((za0.f k ((rd_T29 bt387.1 0).f0) ((rd_T29 bt387.1 0).f1)).bind fun t392 => (if t392.toList = ([49, 47, 50] : List UInt8) then (if 2 < (bt387.1.length : Int) then ((za0.f k ((rd_T29 bt387.1 2).f0) ((rd_T29 bt387.1 2).f1)).bind fun t394 => (some (t394.toList == ([49] : List UInt8)))) else (none)) else (some false))) else (none)) else (some false)) else (some false))) = some r := by first | (rw [hy381]; with_reducible exact H) | (have H2_ := (Option.bind_some _ _).symm.trans H; rw [hy381]; with_reducible exact H2_) | (have H2_ := (Option.bind_some _ _).symm.trans H; with_reducible exact H2_) | with_reducible exact H | (rw [hy381]; exact H) | exact H
 have Ny381 := zA hy381
 clear hy381
 obtain ⟨y384, hy384⟩ : ∃ y_ : List Int, y_ = (([1, 1, 1] : List Int)) := ⟨_, rfl⟩
 replace H : ((zbz.f k t375 t378 y381 y384).bind fun bt387 => (if bt387.2 = 0 then (if (bt387.1.length : Int) = 3 then (if 0 < (bt387.1.length : Int) then ((za0.f k ((rd_T29 bt387.1 0).f0) ((rd_T29 bt387.1 0).f1)).bind fun t392 => (if t392.toList = ([49, 47, 50] : List UInt8) then (if 2 < (bt387.1.length : Int) then ((za0.f k ((rd_T29 bt387.1 2).f0) ((rd_T29 bt387.1 2).f1)).bind fun t394 => (some (t394.toList == ([49] : List UInt8)))) else (none)) else (some false))) else (none)) else (some false)) else (some false))) = some r := by first | (rw [hy384]; with_reducible exact H) | (have H2_ := (Option.bind_some _ _).symm.trans H; rw [hy384]; with_reducible exact H2_) | (have H2_ := (Option.bind_some _ _).symm.trans H; with_reducible exact H2_) | with_reducible exact H | (rw [hy384]; exact H) | exact H
 have Ny384 := zA hy384
 clear hy384
 replace H := zO H
 obtain ⟨⟨t387, t390⟩, A20, H⟩ := H
 try dsimp only at H
 have A2 := zA A20
 clear A20
 by_cases c3 : t390 = 0
 ·
  rw [if_pos c3] at H
  have c3b0 : (t390 == 0) = true := beq_iff_eq.mpr c3
  have c3b1 : (t390 != 0) = false := bne_eq_false_iff_eq.mpr c3
  clear c3
  by_cases c4 : (t387.length : Int) = 3
  ·
   rw [if_pos c4] at H
   have c4b0 : ((t387.length : Int) == 3) = true := beq_iff_eq.mpr c4
   have c4b1 : ((t387.length : Int) != 3) = false := bne_eq_false_iff_eq.mpr c4
   clear c4
   by_cases c5 : 0 < (t387.length : Int)
   ·
    rw [if_pos c5] at H
    have c5b0 : decide (0 < (t387.length : Int)) = true := decide_eq_true c5
    have c5b1 : decide (0 < t387.length) = true := decide_eq_true (by omega)
    clear c5
    replace H := zO H
    obtain ⟨t392, A60, H⟩ := H
    try dsimp only at H
    have A6 := zA A60
    clear A60
    by_cases c7 : t392.toList = ([49, 47, 50] : List UInt8)
    ·
     rw [if_pos c7] at H
     have c7b0 : (t392.toList == ([49, 47, 50] : List UInt8)) = true := beq_iff_eq.mpr c7
     have c7b1 : (t392.toList != ([49, 47, 50] : List UInt8)) = false := bne_eq_false_iff_eq.mpr c7
     clear c7
     by_cases c8 : 2 < (t387.length : Int)
     ·
      rw [if_pos c8] at H
      have c8b0 : decide (2 < (t387.length : Int)) = true := decide_eq_true c8
      have c8b1 : decide (2 < t387.length) = true := decide_eq_true (by omega)
      clear c8
      replace H := zO H
      obtain ⟨t394, A90, H⟩ := H
      try dsimp only at H
      have A9 := zA A90
      clear A90
      obtain rfl := Option.some.inj H
      go_enter Tryz.func14, Tryz.ntmps14
      go_wp2_with (first | ((with_reducible refine zae (f := 18) rfl ?_); refine za2 (some 4) rfl rfl Tryz.func18 (by kernel_rfl) rfl #[.int .i64 2] rfl (zE) ?_; (with_reducible refine (zb9.calls k 2 t375 t378 _ A1.out).mono ?_); rintro e w10 ⟨v376, v379, rfl, ho0, ho1, hb⟩; refine ⟨_, rfl, ?_⟩; have n0_ := zA (Kd.zaz (Kd.zam (ok' := fun k_ => True) ho0 (fun k_ hk_ => trivial)) (za (zB HB))); have n1_ := zA (Kd.zaz (Kd.zam (ok' := fun k_ => True) ho1 (fun k_ hk_ => trivial)) (za (zB HB))); have n2_ := zA (zaa (zB HB) hb); clear HB; have HO377 := n0_; have HO380 := n1_; have HB := n2_; clear n0_ n1_ n2_; (try clear hb); (try clear hb2); (try clear hk); (try clear hi); (try clear ho0); (try clear ho1)) | ((with_reducible refine za8 (N := 5) rfl ?_); (try (refine zcd (by rfl) ?_; dsimp only)); refine Kd.R_lit (Kd.int .i64) _ 3 ?hg (N := 5) ?hd (xs := ([1, 1, 8] : List Int)) (inner := [.int .i64 1, .int .i64 1, .int .i64 8]) (ok := fun _ => True) (okp := fun _ => True) ?hr ?hp (fun _ hk => hk) trivial (Below.refl _ _) (Nat.le_refl _) (by simp) ?_; (case hd => rfl); (case hg => rfl); (case hr => first | (go_simp; done) | (go_simp; rfl)); (case hp => exact (Reps.one (show Kd.M (Kd.int .i64) _ _ _ 1 [.int .i64 1] from rfl) (Reps.one (show Kd.M (Kd.int .i64) _ _ _ 1 [.int .i64 1] from rfl) (Reps.one (show Kd.M (Kd.int .i64) _ _ _ 8 [.int .i64 8] from rfl) (Reps.none _ _))))); intro v382 w11 ho12 hb hg_ hnew_; clear hg_ hnew_; (first | rw [← Ny381.out] at ho12 | (simp only [Int.reduceToNat] at ho12; rw [← Ny381.out] at ho12)); have n0_ := zA (Kd.zb8 (zV HO377) (Kd.zbj ho12) hb); have n1_ := zA (Kd.zb8 (zV HO380) (Kd.zbj ho12) hb); have n2_ := zA (Kd.zbs ho12 (za (zB HB))); have n3_ := zA (zaa (zB HB) hb); clear HO377 HO380 HB; have HO377 := n0_; have HO380 := n1_; have HO383 := n2_; have HB := n3_; clear n0_ n1_ n2_ n3_ hb ho12) | ((with_reducible refine za8 (N := 6) rfl ?_); (try (refine zcd (by rfl) ?_; dsimp only)); refine Kd.R_lit (Kd.int .i64) _ 3 ?hg (N := 6) ?hd (xs := ([1, 1, 1] : List Int)) (inner := [.int .i64 1, .int .i64 1, .int .i64 1]) (ok := fun _ => True) (okp := fun _ => True) ?hr ?hp (fun _ hk => hk) trivial (Below.refl _ _) (Nat.le_refl _) (by simp) ?_; (case hd => rfl); (case hg => rfl); (case hr => first | (go_simp; done) | (go_simp; rfl)); (case hp => exact (Reps.one (show Kd.M (Kd.int .i64) _ _ _ 1 [.int .i64 1] from rfl) (Reps.one (show Kd.M (Kd.int .i64) _ _ _ 1 [.int .i64 1] from rfl) (Reps.one (show Kd.M (Kd.int .i64) _ _ _ 1 [.int .i64 1] from rfl) (Reps.none _ _))))); intro v385 w13 ho14 hb hg_ hnew_; clear hg_ hnew_; (first | rw [← Ny384.out] at ho14 | (simp only [Int.reduceToNat] at ho14; rw [← Ny384.out] at ho14)); have n0_ := zA (Kd.zb8 (zV HO377) (Kd.zbj ho14) hb); have n1_ := zA (Kd.zb8 (zV HO380) (Kd.zbj ho14) hb); have n2_ := zA (Kd.zb1 (zR HO383) (Kd.zbj ho14) hb); have n3_ := zA (Kd.zbs (Kd.zcm ho14 (Kd.R_lt (zR HO383))) (za (zB HB))); have n4_ := zA (zaa (zB HB) hb); clear HO377 HO380 HO383 HB; have HO377 := n0_; have HO380 := n1_; have HO383 := n2_; have HO386 := n3_; have HB := n4_; clear n0_ n1_ n2_ n3_ n4_ hb ho14; obtain ⟨Ao15, co15, eo15⟩ := Kd.za1 HO377.out; subst eo15; obtain ⟨Ao16, co16, eo16⟩ := Kd.za1 HO380.out; subst eo16; obtain ⟨Ao17, co17, eo17⟩ := Kd.zbm HO383.out; subst eo17; obtain ⟨Ao18, co18, eo18⟩ := Kd.zbm HO386.out; subst eo18) | ((with_reducible refine zae (f := 16) rfl ?_); refine za2 (some 7) rfl rfl Tryz.func16 (by kernel_rfl) rfl #[.agg #[.slice Ao15 t375.length co15, .slice Ao16 t378.length co16], .slice Ao17 y381.length co17, .slice Ao18 y384.length co18] rfl (zE) ?_; (with_reducible refine (zbz.calls k _ _ t375 _ _ t378 _ _ y381 _ _ y384 t387 t390 _ ?side1 ?side2 ?side3 ?side4 ?side5 ?side6 ?side7 ?side8 A2.out).mono ?_); (case side1 => exact zJ (Kd.zak HO377.out).2.2); (case side2 => exact (Kd.zak HO377.out).2.1); (case side3 => exact zJ (Kd.zak HO380.out).2.2); (case side4 => exact (Kd.zak HO380.out).2.1); (case side5 => exact zJ (Kd.zay HO383.out).2.2); (case side6 => exact (Kd.zay HO383.out).2.1); (case side7 => exact zJ (Kd.zay HO386.out).2.2); (case side8 => exact (Kd.zay HO386.out).2.1); rintro e w19 ⟨v388, rfl, ho0, hb⟩; refine ⟨_, rfl, ?_⟩; have n4_ := zA (Kd.N_lower (Kd.N_mono (ok' := fun k_ => some k_ ≠ (.slice Ao17 y381.length co17 : Value).ownBlock ∧ some k_ ≠ (.slice Ao18 y384.length co18 : Value).ownBlock) ho0 (fun k_ hk_ => ⟨(Kd.fresh' (Kd.R_lt (zR HO383)) k_ hk_), (Kd.fresh' (Kd.R_lt (zR HO386)) k_ hk_)⟩)) (za (zB HB))); have n5_ := zA (zaa (zB HB) hb); clear HB; have HO389 := n4_; have HB := n5_; clear n4_ n5_; (try clear hb); (try clear hb2); (try clear hk); (try clear hi); (try clear ho0); obtain ⟨Ao20, co20, eo20⟩ := Kd.N_slice HO389.out; subst eo20; have p391 : 0 ≤ (0 : Int) := (by omega); have q391 : 0 < (t387.length : Int) := of_decide_eq_true (by first | (with_reducible assumption) | assumption); obtain ⟨ad391, A391_0, c391_0, A391_1, c391_1, e391, hx391_0, hx391_1, hl391_0, hi391_0, hl391_1, hi391_1⟩ := at_T29 (Kd.zcy HO389.out).2.2 0 p391 q391; cases e391; obtain ⟨ce391, hce391, hMe391, hcc391⟩ := Kd.N_get HO389.out z29 0 p391 (by first | exact q391 | exact of_decide_eq_true (by first | (with_reducible assumption) | assumption) | (have e_ := (Kd.zcy HO389.out).1; omega)); obtain ⟨ua391_0, uc391_0, ua391_1, uc391_1, rfl, ul391_0, ge391_0, ul391_1, ge391_1⟩ := k29_openF hMe391; have hv391_0 := hcc391 0 _ rfl; rw [Nat.add_zero] at hv391_0; replace hv391_0 := Option.some.inj (hv391_0.symm.trans hx391_0); injection hv391_0 with hva_ hvn_ hvc_; rw [hva_] at ge391_0; rw [hvc_] at ul391_0; have HL391_0 := zA (show Kd.V (Kd.int .u64) 82 _ w.heap.size _ _ ((rd_T29 t387 0).f0) from Kd.V_mk ul391_0 ge391_0); clear hva_ hvn_ hvc_ ge391_0 ul391_0; have hv391_1 := hcc391 1 _ rfl; rw [zdh _ _ 1 (by omega)] at hv391_1; replace hv391_1 := Option.some.inj (hv391_1.symm.trans hx391_1); injection hv391_1 with hva_ hvn_ hvc_; rw [hva_] at ge391_1; rw [hvc_] at ul391_1; have HL391_1 := zA (show Kd.V (Kd.int .u64) 82 _ w.heap.size _ _ ((rd_T29 t387 0).f1) from Kd.V_mk ul391_1 ge391_1); clear hva_ hvn_ hvc_ ge391_1 ul391_1 hcc391 hce391; have qi391 : (0 < t387.length) = True := eq_true (by omega); (try rw [show ((0 : Int)).toNat = 0 from rfl] at hx391_0); (try rw [show 0 * 2 = 0 from rfl] at hx391_0); (try rw [Addr.add_zero'] at hx391_0); (try rw [show ((0 : Int)).toNat = 0 from rfl] at hx391_1); (try rw [show 0 * 2 = 0 from rfl] at hx391_1); (try rw [Addr.add_zero'] at hx391_1); have HR391_0 := zA hi391_0; have HC391_0 := zA hl391_0; clear hi391_0 hl391_0; have HR391_1 := zA hi391_1; have HC391_1 := zA hl391_1; clear hi391_1 hl391_1; replace p391 := eq_true p391; replace q391 := eq_true q391) | (go_at_call 33; (with_reducible refine (za0.calls k _ _ ((rd_T29 t387 0).f0) _ _ ((rd_T29 t387 0).f1) t392 _ ?side1 ?side2 ?side3 ?side4 ?side5 A6.out).mono ?_); (case side1 => repeat (first | exact (by repeat (first | (with_reducible exact HR391_0.out) | (with_reducible refine Kd.za6 ?_ _) | (with_reducible refine Kd.za5 ?_ _) | (with_reducible refine Kd.zbe ?_) | exact HR391_0.out)) | (with_reducible refine Kd.za6 ?_ _) | (with_reducible refine Kd.za5 ?_ _) | (with_reducible refine Kd.zbe ?_))); (case side2 => exact HC391_0.out); (case side3 => repeat (first | exact (by repeat (first | (with_reducible exact HR391_1.out) | (with_reducible refine Kd.za6 ?_ _) | (with_reducible refine Kd.za5 ?_ _) | (with_reducible refine Kd.zbe ?_) | exact HR391_1.out)) | (with_reducible refine Kd.za6 ?_ _) | (with_reducible refine Kd.za5 ?_ _) | (with_reducible refine Kd.zbe ?_))); (case side4 => exact HC391_1.out); (case side5 => exact Glob.below HG.out (zB HB)); rintro e w21 ⟨rfl, hb⟩; have n4_ := zA (Kd.zdb (zN HO389) hb); have n9_ := zA (zaa (zB HB) hb); clear HO389 HB; have HO389 := n4_; have HB := n9_; clear n4_ n9_; (try clear hb); (try clear hb2); (try clear hk); (try clear hi); have p393 : 0 ≤ (2 : Int) := (by omega); have q393 : 2 < (t387.length : Int) := of_decide_eq_true (by first | (with_reducible assumption) | assumption); obtain ⟨ad393, A393_0, c393_0, A393_1, c393_1, e393, hx393_0, hx393_1, hl393_0, hi393_0, hl393_1, hi393_1⟩ := at_T29 (Kd.zcy HO389.out).2.2 2 p393 q393; obtain rfl : ad391 = ad393 := (by injection e393); obtain ⟨ce393, hce393, hMe393, hcc393⟩ := Kd.N_get HO389.out z29 2 p393 (by first | exact q393 | exact of_decide_eq_true (by first | (with_reducible assumption) | assumption) | (have e_ := (Kd.zcy HO389.out).1; omega)); obtain ⟨ua393_0, uc393_0, ua393_1, uc393_1, rfl, ul393_0, ge393_0, ul393_1, ge393_1⟩ := k29_openF hMe393; have hv393_0 := hcc393 0 _ rfl; rw [Nat.add_zero] at hv393_0; replace hv393_0 := Option.some.inj (hv393_0.symm.trans hx393_0); injection hv393_0 with hva_ hvn_ hvc_; rw [hva_] at ge393_0; rw [hvc_] at ul393_0; have HL393_0 := zA (show Kd.V (Kd.int .u64) 82 _ w.heap.size _ _ ((rd_T29 t387 2).f0) from Kd.V_mk ul393_0 ge393_0); clear hva_ hvn_ hvc_ ge393_0 ul393_0; have hv393_1 := hcc393 1 _ rfl; rw [zdh _ _ 1 (by omega)] at hv393_1; replace hv393_1 := Option.some.inj (hv393_1.symm.trans hx393_1); injection hv393_1 with hva_ hvn_ hvc_; rw [hva_] at ge393_1; rw [hvc_] at ul393_1; have HL393_1 := zA (show Kd.V (Kd.int .u64) 82 _ w.heap.size _ _ ((rd_T29 t387 2).f1) from Kd.V_mk ul393_1 ge393_1); clear hva_ hvn_ hvc_ ge393_1 ul393_1 hcc393 hce393; (try simp only [show (2 : Int).toNat = 2 from rfl, Nat.reduceMul, Nat.reduceEqDiff, Go.Addr.add, ↓reduceIte] at hx393_0); (try simp only [show (2 : Int).toNat = 2 from rfl, Nat.reduceMul, Nat.reduceEqDiff, Go.Addr.add, ↓reduceIte] at hx393_1); have qi393 : (2 < t387.length) = True := eq_true (by omega); (try rw [show ((2 : Int)).toNat = 2 from rfl] at hx393_0); (try rw [show 2 * 2 = 4 from rfl] at hx393_0); (try rw [show ((2 : Int)).toNat = 2 from rfl] at hx393_1); (try rw [show 2 * 2 = 4 from rfl] at hx393_1); have HR393_0 := zA hi393_0; have HC393_0 := zA hl393_0; clear hi393_0 hl393_0; have HR393_1 := zA hi393_1; have HC393_1 := zA hl393_1; clear hi393_1 hl393_1; replace p393 := eq_true p393; replace q393 := eq_true q393) | (go_at_call 33; (with_reducible refine (za0.calls k _ _ ((rd_T29 t387 2).f0) _ _ ((rd_T29 t387 2).f1) t394 _ ?side1 ?side2 ?side3 ?side4 ?side5 A9.out).mono ?_); (case side1 => repeat (first | exact (by repeat (first | (with_reducible exact HR393_0.out) | (with_reducible refine Kd.za6 ?_ _) | (with_reducible refine Kd.za5 ?_ _) | (with_reducible refine Kd.zbe ?_) | exact HR393_0.out)) | (with_reducible refine Kd.za6 ?_ _) | (with_reducible refine Kd.za5 ?_ _) | (with_reducible refine Kd.zbe ?_))); (case side2 => exact HC393_0.out); (case side3 => repeat (first | exact (by repeat (first | (with_reducible exact HR393_1.out) | (with_reducible refine Kd.za6 ?_ _) | (with_reducible refine Kd.za5 ?_ _) | (with_reducible refine Kd.zbe ?_) | exact HR393_1.out)) | (with_reducible refine Kd.za6 ?_ _) | (with_reducible refine Kd.za5 ?_ _) | (with_reducible refine Kd.zbe ?_))); (case side4 => exact HC393_1.out); (case side5 => exact Glob.below HG.out (zB HB)); rintro e w22 ⟨rfl, hb⟩; have n13_ := zA (zaa (zB HB) hb); clear HB; have HB := n13_; clear n13_; (try clear hb); (try clear hb2); (try clear hk); (try clear hi)))
      go_ret
      exact ⟨zW, zB HB⟩
     ·
      rw [if_neg c8] at H
      exact absurd H (by simp)
    ·
     rw [if_neg c7] at H
     have c7b0 : (t392.toList == ([49, 47, 50] : List UInt8)) = false := beq_eq_false_iff_ne.mpr c7
     have c7b1 : (t392.toList != ([49, 47, 50] : List UInt8)) = true := bne_iff_ne.mpr c7
     obtain rfl := Option.some.inj H
     go_enter Tryz.func14, Tryz.ntmps14
     go_wp2_with (first | ((with_reducible refine zae (f := 18) rfl ?_); refine za2 (some 4) rfl rfl Tryz.func18 (by kernel_rfl) rfl #[.int .i64 2] rfl (zE) ?_; (with_reducible refine (zb9.calls k 2 t375 t378 _ A1.out).mono ?_); rintro e w23 ⟨v376, v379, rfl, ho0, ho1, hb⟩; refine ⟨_, rfl, ?_⟩; have n0_ := zA (Kd.zaz (Kd.zam (ok' := fun k_ => True) ho0 (fun k_ hk_ => trivial)) (za (zB HB))); have n1_ := zA (Kd.zaz (Kd.zam (ok' := fun k_ => True) ho1 (fun k_ hk_ => trivial)) (za (zB HB))); have n2_ := zA (zaa (zB HB) hb); clear HB; have HO377 := n0_; have HO380 := n1_; have HB := n2_; clear n0_ n1_ n2_; (try clear hb); (try clear hb2); (try clear hk); (try clear hi); (try clear ho0); (try clear ho1)) | ((with_reducible refine za8 (N := 5) rfl ?_); (try (refine zcd (by rfl) ?_; dsimp only)); refine Kd.R_lit (Kd.int .i64) _ 3 ?hg (N := 5) ?hd (xs := ([1, 1, 8] : List Int)) (inner := [.int .i64 1, .int .i64 1, .int .i64 8]) (ok := fun _ => True) (okp := fun _ => True) ?hr ?hp (fun _ hk => hk) trivial (Below.refl _ _) (Nat.le_refl _) (by simp) ?_; (case hd => rfl); (case hg => rfl); (case hr => first | (go_simp; done) | (go_simp; rfl)); (case hp => exact (Reps.one (show Kd.M (Kd.int .i64) _ _ _ 1 [.int .i64 1] from rfl) (Reps.one (show Kd.M (Kd.int .i64) _ _ _ 1 [.int .i64 1] from rfl) (Reps.one (show Kd.M (Kd.int .i64) _ _ _ 8 [.int .i64 8] from rfl) (Reps.none _ _))))); intro v382 w24 ho25 hb hg_ hnew_; clear hg_ hnew_; (first | rw [← Ny381.out] at ho25 | (simp only [Int.reduceToNat] at ho25; rw [← Ny381.out] at ho25)); have n0_ := zA (Kd.zb8 (zV HO377) (Kd.zbj ho25) hb); have n1_ := zA (Kd.zb8 (zV HO380) (Kd.zbj ho25) hb); have n2_ := zA (Kd.zbs ho25 (za (zB HB))); have n3_ := zA (zaa (zB HB) hb); clear HO377 HO380 HB; have HO377 := n0_; have HO380 := n1_; have HO383 := n2_; have HB := n3_; clear n0_ n1_ n2_ n3_ hb ho25) | ((with_reducible refine za8 (N := 6) rfl ?_); (try (refine zcd (by rfl) ?_; dsimp only)); refine Kd.R_lit (Kd.int .i64) _ 3 ?hg (N := 6) ?hd (xs := ([1, 1, 1] : List Int)) (inner := [.int .i64 1, .int .i64 1, .int .i64 1]) (ok := fun _ => True) (okp := fun _ => True) ?hr ?hp (fun _ hk => hk) trivial (Below.refl _ _) (Nat.le_refl _) (by simp) ?_; (case hd => rfl); (case hg => rfl); (case hr => first | (go_simp; done) | (go_simp; rfl)); (case hp => exact (Reps.one (show Kd.M (Kd.int .i64) _ _ _ 1 [.int .i64 1] from rfl) (Reps.one (show Kd.M (Kd.int .i64) _ _ _ 1 [.int .i64 1] from rfl) (Reps.one (show Kd.M (Kd.int .i64) _ _ _ 1 [.int .i64 1] from rfl) (Reps.none _ _))))); intro v385 w26 ho27 hb hg_ hnew_; clear hg_ hnew_; (first | rw [← Ny384.out] at ho27 | (simp only [Int.reduceToNat] at ho27; rw [← Ny384.out] at ho27)); have n0_ := zA (Kd.zb8 (zV HO377) (Kd.zbj ho27) hb); have n1_ := zA (Kd.zb8 (zV HO380) (Kd.zbj ho27) hb); have n2_ := zA (Kd.zb1 (zR HO383) (Kd.zbj ho27) hb); have n3_ := zA (Kd.zbs (Kd.zcm ho27 (Kd.R_lt (zR HO383))) (za (zB HB))); have n4_ := zA (zaa (zB HB) hb); clear HO377 HO380 HO383 HB; have HO377 := n0_; have HO380 := n1_; have HO383 := n2_; have HO386 := n3_; have HB := n4_; clear n0_ n1_ n2_ n3_ n4_ hb ho27; obtain ⟨Ao28, co28, eo28⟩ := Kd.za1 HO377.out; subst eo28; obtain ⟨Ao29, co29, eo29⟩ := Kd.za1 HO380.out; subst eo29; obtain ⟨Ao30, co30, eo30⟩ := Kd.zbm HO383.out; subst eo30; obtain ⟨Ao31, co31, eo31⟩ := Kd.zbm HO386.out; subst eo31) | ((with_reducible refine zae (f := 16) rfl ?_); refine za2 (some 7) rfl rfl Tryz.func16 (by kernel_rfl) rfl #[.agg #[.slice Ao28 t375.length co28, .slice Ao29 t378.length co29], .slice Ao30 y381.length co30, .slice Ao31 y384.length co31] rfl (zE) ?_; (with_reducible refine (zbz.calls k _ _ t375 _ _ t378 _ _ y381 _ _ y384 t387 t390 _ ?side1 ?side2 ?side3 ?side4 ?side5 ?side6 ?side7 ?side8 A2.out).mono ?_); (case side1 => exact zJ (Kd.zak HO377.out).2.2); (case side2 => exact (Kd.zak HO377.out).2.1); (case side3 => exact zJ (Kd.zak HO380.out).2.2); (case side4 => exact (Kd.zak HO380.out).2.1); (case side5 => exact zJ (Kd.zay HO383.out).2.2); (case side6 => exact (Kd.zay HO383.out).2.1); (case side7 => exact zJ (Kd.zay HO386.out).2.2); (case side8 => exact (Kd.zay HO386.out).2.1); rintro e w32 ⟨v388, rfl, ho0, hb⟩; refine ⟨_, rfl, ?_⟩; have n4_ := zA (Kd.N_lower (Kd.N_mono (ok' := fun k_ => some k_ ≠ (.slice Ao30 y381.length co30 : Value).ownBlock ∧ some k_ ≠ (.slice Ao31 y384.length co31 : Value).ownBlock) ho0 (fun k_ hk_ => ⟨(Kd.fresh' (Kd.R_lt (zR HO383)) k_ hk_), (Kd.fresh' (Kd.R_lt (zR HO386)) k_ hk_)⟩)) (za (zB HB))); have n5_ := zA (zaa (zB HB) hb); clear HB; have HO389 := n4_; have HB := n5_; clear n4_ n5_; (try clear hb); (try clear hb2); (try clear hk); (try clear hi); (try clear ho0); obtain ⟨Ao33, co33, eo33⟩ := Kd.N_slice HO389.out; subst eo33; have p391 : 0 ≤ (0 : Int) := (by omega); have q391 : 0 < (t387.length : Int) := of_decide_eq_true (by first | (with_reducible assumption) | assumption); obtain ⟨ad391, A391_0, c391_0, A391_1, c391_1, e391, hx391_0, hx391_1, hl391_0, hi391_0, hl391_1, hi391_1⟩ := at_T29 (Kd.zcy HO389.out).2.2 0 p391 q391; cases e391; obtain ⟨ce391, hce391, hMe391, hcc391⟩ := Kd.N_get HO389.out z29 0 p391 (by first | exact q391 | exact of_decide_eq_true (by first | (with_reducible assumption) | assumption) | (have e_ := (Kd.zcy HO389.out).1; omega)); obtain ⟨ua391_0, uc391_0, ua391_1, uc391_1, rfl, ul391_0, ge391_0, ul391_1, ge391_1⟩ := k29_openF hMe391; have hv391_0 := hcc391 0 _ rfl; rw [Nat.add_zero] at hv391_0; replace hv391_0 := Option.some.inj (hv391_0.symm.trans hx391_0); injection hv391_0 with hva_ hvn_ hvc_; rw [hva_] at ge391_0; rw [hvc_] at ul391_0; have HL391_0 := zA (show Kd.V (Kd.int .u64) 82 _ w.heap.size _ _ ((rd_T29 t387 0).f0) from Kd.V_mk ul391_0 ge391_0); clear hva_ hvn_ hvc_ ge391_0 ul391_0; have hv391_1 := hcc391 1 _ rfl; rw [zdh _ _ 1 (by omega)] at hv391_1; replace hv391_1 := Option.some.inj (hv391_1.symm.trans hx391_1); injection hv391_1 with hva_ hvn_ hvc_; rw [hva_] at ge391_1; rw [hvc_] at ul391_1; have HL391_1 := zA (show Kd.V (Kd.int .u64) 82 _ w.heap.size _ _ ((rd_T29 t387 0).f1) from Kd.V_mk ul391_1 ge391_1); clear hva_ hvn_ hvc_ ge391_1 ul391_1 hcc391 hce391; have qi391 : (0 < t387.length) = True := eq_true (by omega); (try rw [show ((0 : Int)).toNat = 0 from rfl] at hx391_0); (try rw [show 0 * 2 = 0 from rfl] at hx391_0); (try rw [Addr.add_zero'] at hx391_0); (try rw [show ((0 : Int)).toNat = 0 from rfl] at hx391_1); (try rw [show 0 * 2 = 0 from rfl] at hx391_1); (try rw [Addr.add_zero'] at hx391_1); have HR391_0 := zA hi391_0; have HC391_0 := zA hl391_0; clear hi391_0 hl391_0; have HR391_1 := zA hi391_1; have HC391_1 := zA hl391_1; clear hi391_1 hl391_1; replace p391 := eq_true p391; replace q391 := eq_true q391) | (go_at_call 33; (with_reducible refine (za0.calls k _ _ ((rd_T29 t387 0).f0) _ _ ((rd_T29 t387 0).f1) t392 _ ?side1 ?side2 ?side3 ?side4 ?side5 A6.out).mono ?_); (case side1 => repeat (first | exact (by repeat (first | (with_reducible exact HR391_0.out) | (with_reducible refine Kd.za6 ?_ _) | (with_reducible refine Kd.za5 ?_ _) | (with_reducible refine Kd.zbe ?_) | exact HR391_0.out)) | (with_reducible refine Kd.za6 ?_ _) | (with_reducible refine Kd.za5 ?_ _) | (with_reducible refine Kd.zbe ?_))); (case side2 => exact HC391_0.out); (case side3 => repeat (first | exact (by repeat (first | (with_reducible exact HR391_1.out) | (with_reducible refine Kd.za6 ?_ _) | (with_reducible refine Kd.za5 ?_ _) | (with_reducible refine Kd.zbe ?_) | exact HR391_1.out)) | (with_reducible refine Kd.za6 ?_ _) | (with_reducible refine Kd.za5 ?_ _) | (with_reducible refine Kd.zbe ?_))); (case side4 => exact HC391_1.out); (case side5 => exact Glob.below HG.out (zB HB)); rintro e w34 ⟨rfl, hb⟩; have n9_ := zA (zaa (zB HB) hb); clear HB; have HB := n9_; clear n9_; (try clear hb); (try clear hb2); (try clear hk); (try clear hi)))
     go_ret
     exact ⟨zW, zB HB⟩
   ·
    rw [if_neg c5] at H
    exact absurd H (by simp)
  ·
   rw [if_neg c4] at H
   have c4b0 : ((t387.length : Int) == 3) = false := beq_eq_false_iff_ne.mpr c4
   have c4b1 : ((t387.length : Int) != 3) = true := bne_iff_ne.mpr c4
   obtain rfl := Option.some.inj H
   go_enter Tryz.func14, Tryz.ntmps14
   go_wp2_with (first | ((with_reducible refine zae (f := 18) rfl ?_); refine za2 (some 4) rfl rfl Tryz.func18 (by kernel_rfl) rfl #[.int .i64 2] rfl (zE) ?_; (with_reducible refine (zb9.calls k 2 t375 t378 _ A1.out).mono ?_); rintro e w35 ⟨v376, v379, rfl, ho0, ho1, hb⟩; refine ⟨_, rfl, ?_⟩; have n0_ := zA (Kd.zaz (Kd.zam (ok' := fun k_ => True) ho0 (fun k_ hk_ => trivial)) (za (zB HB))); have n1_ := zA (Kd.zaz (Kd.zam (ok' := fun k_ => True) ho1 (fun k_ hk_ => trivial)) (za (zB HB))); have n2_ := zA (zaa (zB HB) hb); clear HB; have HO377 := n0_; have HO380 := n1_; have HB := n2_; clear n0_ n1_ n2_; (try clear hb); (try clear hb2); (try clear hk); (try clear hi); (try clear ho0); (try clear ho1)) | ((with_reducible refine za8 (N := 5) rfl ?_); (try (refine zcd (by rfl) ?_; dsimp only)); refine Kd.R_lit (Kd.int .i64) _ 3 ?hg (N := 5) ?hd (xs := ([1, 1, 8] : List Int)) (inner := [.int .i64 1, .int .i64 1, .int .i64 8]) (ok := fun _ => True) (okp := fun _ => True) ?hr ?hp (fun _ hk => hk) trivial (Below.refl _ _) (Nat.le_refl _) (by simp) ?_; (case hd => rfl); (case hg => rfl); (case hr => first | (go_simp; done) | (go_simp; rfl)); (case hp => exact (Reps.one (show Kd.M (Kd.int .i64) _ _ _ 1 [.int .i64 1] from rfl) (Reps.one (show Kd.M (Kd.int .i64) _ _ _ 1 [.int .i64 1] from rfl) (Reps.one (show Kd.M (Kd.int .i64) _ _ _ 8 [.int .i64 8] from rfl) (Reps.none _ _))))); intro v382 w36 ho37 hb hg_ hnew_; clear hg_ hnew_; (first | rw [← Ny381.out] at ho37 | (simp only [Int.reduceToNat] at ho37; rw [← Ny381.out] at ho37)); have n0_ := zA (Kd.zb8 (zV HO377) (Kd.zbj ho37) hb); have n1_ := zA (Kd.zb8 (zV HO380) (Kd.zbj ho37) hb); have n2_ := zA (Kd.zbs ho37 (za (zB HB))); have n3_ := zA (zaa (zB HB) hb); clear HO377 HO380 HB; have HO377 := n0_; have HO380 := n1_; have HO383 := n2_; have HB := n3_; clear n0_ n1_ n2_ n3_ hb ho37) | ((with_reducible refine za8 (N := 6) rfl ?_); (try (refine zcd (by rfl) ?_; dsimp only)); refine Kd.R_lit (Kd.int .i64) _ 3 ?hg (N := 6) ?hd (xs := ([1, 1, 1] : List Int)) (inner := [.int .i64 1, .int .i64 1, .int .i64 1]) (ok := fun _ => True) (okp := fun _ => True) ?hr ?hp (fun _ hk => hk) trivial (Below.refl _ _) (Nat.le_refl _) (by simp) ?_; (case hd => rfl); (case hg => rfl); (case hr => first | (go_simp; done) | (go_simp; rfl)); (case hp => exact (Reps.one (show Kd.M (Kd.int .i64) _ _ _ 1 [.int .i64 1] from rfl) (Reps.one (show Kd.M (Kd.int .i64) _ _ _ 1 [.int .i64 1] from rfl) (Reps.one (show Kd.M (Kd.int .i64) _ _ _ 1 [.int .i64 1] from rfl) (Reps.none _ _))))); intro v385 w38 ho39 hb hg_ hnew_; clear hg_ hnew_; (first | rw [← Ny384.out] at ho39 | (simp only [Int.reduceToNat] at ho39; rw [← Ny384.out] at ho39)); have n0_ := zA (Kd.zb8 (zV HO377) (Kd.zbj ho39) hb); have n1_ := zA (Kd.zb8 (zV HO380) (Kd.zbj ho39) hb); have n2_ := zA (Kd.zb1 (zR HO383) (Kd.zbj ho39) hb); have n3_ := zA (Kd.zbs (Kd.zcm ho39 (Kd.R_lt (zR HO383))) (za (zB HB))); have n4_ := zA (zaa (zB HB) hb); clear HO377 HO380 HO383 HB; have HO377 := n0_; have HO380 := n1_; have HO383 := n2_; have HO386 := n3_; have HB := n4_; clear n0_ n1_ n2_ n3_ n4_ hb ho39; obtain ⟨Ao40, co40, eo40⟩ := Kd.za1 HO377.out; subst eo40; obtain ⟨Ao41, co41, eo41⟩ := Kd.za1 HO380.out; subst eo41; obtain ⟨Ao42, co42, eo42⟩ := Kd.zbm HO383.out; subst eo42; obtain ⟨Ao43, co43, eo43⟩ := Kd.zbm HO386.out; subst eo43) | ((with_reducible refine zae (f := 16) rfl ?_); refine za2 (some 7) rfl rfl Tryz.func16 (by kernel_rfl) rfl #[.agg #[.slice Ao40 t375.length co40, .slice Ao41 t378.length co41], .slice Ao42 y381.length co42, .slice Ao43 y384.length co43] rfl (zE) ?_; (with_reducible refine (zbz.calls k _ _ t375 _ _ t378 _ _ y381 _ _ y384 t387 t390 _ ?side1 ?side2 ?side3 ?side4 ?side5 ?side6 ?side7 ?side8 A2.out).mono ?_); (case side1 => exact zJ (Kd.zak HO377.out).2.2); (case side2 => exact (Kd.zak HO377.out).2.1); (case side3 => exact zJ (Kd.zak HO380.out).2.2); (case side4 => exact (Kd.zak HO380.out).2.1); (case side5 => exact zJ (Kd.zay HO383.out).2.2); (case side6 => exact (Kd.zay HO383.out).2.1); (case side7 => exact zJ (Kd.zay HO386.out).2.2); (case side8 => exact (Kd.zay HO386.out).2.1); rintro e w44 ⟨v388, rfl, ho0, hb⟩; refine ⟨_, rfl, ?_⟩; have n4_ := zA (Kd.N_lower (Kd.N_mono (ok' := fun k_ => some k_ ≠ (.slice Ao42 y381.length co42 : Value).ownBlock ∧ some k_ ≠ (.slice Ao43 y384.length co43 : Value).ownBlock) ho0 (fun k_ hk_ => ⟨(Kd.fresh' (Kd.R_lt (zR HO383)) k_ hk_), (Kd.fresh' (Kd.R_lt (zR HO386)) k_ hk_)⟩)) (za (zB HB))); have n5_ := zA (zaa (zB HB) hb); clear HB; have HO389 := n4_; have HB := n5_; clear n4_ n5_; (try clear hb); (try clear hb2); (try clear hk); (try clear hi); (try clear ho0); obtain ⟨Ao45, co45, eo45⟩ := Kd.N_slice HO389.out; subst eo45))
   go_ret
   exact ⟨zW, zB HB⟩
 ·
  rw [if_neg c3] at H
  have c3b0 : (t390 == 0) = false := beq_eq_false_iff_ne.mpr c3
  have c3b1 : (t390 != 0) = true := bne_iff_ne.mpr c3
  obtain rfl := Option.some.inj H
  go_enter Tryz.func14, Tryz.ntmps14
  go_wp2_with (first | ((with_reducible refine zae (f := 18) rfl ?_); refine za2 (some 4) rfl rfl Tryz.func18 (by kernel_rfl) rfl #[.int .i64 2] rfl (zE) ?_; (with_reducible refine (zb9.calls k 2 t375 t378 _ A1.out).mono ?_); rintro e w46 ⟨v376, v379, rfl, ho0, ho1, hb⟩; refine ⟨_, rfl, ?_⟩; have n0_ := zA (Kd.zaz (Kd.zam (ok' := fun k_ => True) ho0 (fun k_ hk_ => trivial)) (za (zB HB))); have n1_ := zA (Kd.zaz (Kd.zam (ok' := fun k_ => True) ho1 (fun k_ hk_ => trivial)) (za (zB HB))); have n2_ := zA (zaa (zB HB) hb); clear HB; have HO377 := n0_; have HO380 := n1_; have HB := n2_; clear n0_ n1_ n2_; (try clear hb); (try clear hb2); (try clear hk); (try clear hi); (try clear ho0); (try clear ho1)) | ((with_reducible refine za8 (N := 5) rfl ?_); (try (refine zcd (by rfl) ?_; dsimp only)); refine Kd.R_lit (Kd.int .i64) _ 3 ?hg (N := 5) ?hd (xs := ([1, 1, 8] : List Int)) (inner := [.int .i64 1, .int .i64 1, .int .i64 8]) (ok := fun _ => True) (okp := fun _ => True) ?hr ?hp (fun _ hk => hk) trivial (Below.refl _ _) (Nat.le_refl _) (by simp) ?_; (case hd => rfl); (case hg => rfl); (case hr => first | (go_simp; done) | (go_simp; rfl)); (case hp => exact (Reps.one (show Kd.M (Kd.int .i64) _ _ _ 1 [.int .i64 1] from rfl) (Reps.one (show Kd.M (Kd.int .i64) _ _ _ 1 [.int .i64 1] from rfl) (Reps.one (show Kd.M (Kd.int .i64) _ _ _ 8 [.int .i64 8] from rfl) (Reps.none _ _))))); intro v382 w47 ho48 hb hg_ hnew_; clear hg_ hnew_; (first | rw [← Ny381.out] at ho48 | (simp only [Int.reduceToNat] at ho48; rw [← Ny381.out] at ho48)); have n0_ := zA (Kd.zb8 (zV HO377) (Kd.zbj ho48) hb); have n1_ := zA (Kd.zb8 (zV HO380) (Kd.zbj ho48) hb); have n2_ := zA (Kd.zbs ho48 (za (zB HB))); have n3_ := zA (zaa (zB HB) hb); clear HO377 HO380 HB; have HO377 := n0_; have HO380 := n1_; have HO383 := n2_; have HB := n3_; clear n0_ n1_ n2_ n3_ hb ho48) | ((with_reducible refine za8 (N := 6) rfl ?_); (try (refine zcd (by rfl) ?_; dsimp only)); refine Kd.R_lit (Kd.int .i64) _ 3 ?hg (N := 6) ?hd (xs := ([1, 1, 1] : List Int)) (inner := [.int .i64 1, .int .i64 1, .int .i64 1]) (ok := fun _ => True) (okp := fun _ => True) ?hr ?hp (fun _ hk => hk) trivial (Below.refl _ _) (Nat.le_refl _) (by simp) ?_; (case hd => rfl); (case hg => rfl); (case hr => first | (go_simp; done) | (go_simp; rfl)); (case hp => exact (Reps.one (show Kd.M (Kd.int .i64) _ _ _ 1 [.int .i64 1] from rfl) (Reps.one (show Kd.M (Kd.int .i64) _ _ _ 1 [.int .i64 1] from rfl) (Reps.one (show Kd.M (Kd.int .i64) _ _ _ 1 [.int .i64 1] from rfl) (Reps.none _ _))))); intro v385 w49 ho50 hb hg_ hnew_; clear hg_ hnew_; (first | rw [← Ny384.out] at ho50 | (simp only [Int.reduceToNat] at ho50; rw [← Ny384.out] at ho50)); have n0_ := zA (Kd.zb8 (zV HO377) (Kd.zbj ho50) hb); have n1_ := zA (Kd.zb8 (zV HO380) (Kd.zbj ho50) hb); have n2_ := zA (Kd.zb1 (zR HO383) (Kd.zbj ho50) hb); have n3_ := zA (Kd.zbs (Kd.zcm ho50 (Kd.R_lt (zR HO383))) (za (zB HB))); have n4_ := zA (zaa (zB HB) hb); clear HO377 HO380 HO383 HB; have HO377 := n0_; have HO380 := n1_; have HO383 := n2_; have HO386 := n3_; have HB := n4_; clear n0_ n1_ n2_ n3_ n4_ hb ho50; obtain ⟨Ao51, co51, eo51⟩ := Kd.za1 HO377.out; subst eo51; obtain ⟨Ao52, co52, eo52⟩ := Kd.za1 HO380.out; subst eo52; obtain ⟨Ao53, co53, eo53⟩ := Kd.zbm HO383.out; subst eo53; obtain ⟨Ao54, co54, eo54⟩ := Kd.zbm HO386.out; subst eo54) | ((with_reducible refine zae (f := 16) rfl ?_); refine za2 (some 7) rfl rfl Tryz.func16 (by kernel_rfl) rfl #[.agg #[.slice Ao51 t375.length co51, .slice Ao52 t378.length co52], .slice Ao53 y381.length co53, .slice Ao54 y384.length co54] rfl (zE) ?_; (with_reducible refine (zbz.calls k _ _ t375 _ _ t378 _ _ y381 _ _ y384 t387 t390 _ ?side1 ?side2 ?side3 ?side4 ?side5 ?side6 ?side7 ?side8 A2.out).mono ?_); (case side1 => exact zJ (Kd.zak HO377.out).2.2); (case side2 => exact (Kd.zak HO377.out).2.1); (case side3 => exact zJ (Kd.zak HO380.out).2.2); (case side4 => exact (Kd.zak HO380.out).2.1); (case side5 => exact zJ (Kd.zay HO383.out).2.2); (case side6 => exact (Kd.zay HO383.out).2.1); (case side7 => exact zJ (Kd.zay HO386.out).2.2); (case side8 => exact (Kd.zay HO386.out).2.1); rintro e w55 ⟨v388, rfl, ho0, hb⟩; refine ⟨_, rfl, ?_⟩; have n5_ := zA (zaa (zB HB) hb); clear HB; have HB := n5_; clear n5_; (try clear hb); (try clear hb2); (try clear hk); (try clear hi); (try clear ho0)))
  go_ret
  exact ⟨zW, zB HB⟩
def zaw.f (k : Nat) (a0_0 : Int) (a0_1 : Int) : Option (List Int × List Int × List Int × List Int) := (zdd.f k (IntKind.u64.wrap (mx a0_0 0))).bind fun t491 => ((zdd.f k (IntKind.u64.wrap (mx a0_1 1))).bind fun t494 => ((zdi.f k t491 t494).bind fun bt497 => ((zav.f k (mx a0_0 0)).bind fun t505 => ((zav.f k (mx a0_1 1)).bind fun t508 => ((zcj.f k t505 t508).bind fun bt511 => (some (bt497.1, bt497.2.1, bt511.1, bt511.2)))))))
def zaw.T1 : Bool × List (List Nat × List Nat) := (true, [([], []), ([0], [0]), ([1], [1]), ([], []), ([3], [3]), ([4], [4]), ([2, 0, 1, 2], [2]), ([5, 6, 0, 1, 2, 3, 4, 5, 6], [5])])
def zaw.B1 : List Nat := [0, 1, 3, 0, 8, 24, 7, 127]
theorem zaw.tab1 : rtab .any (opsOf Tryz.f15 1) = zaw.T1 := by kernel_rfl
theorem zaw.bits1 : waitsOk zaw.T1.2 zaw.B1 = true := by kernel_rfl
def zaw.T3 : Bool × List (List Nat × List Nat) := (true, [([], []), ([], []), ([1], [1]), ([], []), ([3, 2], [3]), ([2, 4, 4], [2, 4]), ([0, 5, 0], [0]), ([5, 6, 0, 1, 2, 3, 4, 5, 6], [5])])
def zaw.B3 : List Nat := [0, 0, 2, 0, 14, 30, 63, 127]
theorem zaw.tab3 : rtab .any (opsOf Tryz.f15 3) = zaw.T3 := by kernel_rfl
theorem zaw.bits3 : waitsOk zaw.T3.2 zaw.B3 = true := by kernel_rfl
theorem zaw.calls (k : Nat) (a0_0 : Int) (a0_1 : Int) (r1 : List Int) (r2 : List Int) (r3 : List Int) (r4 : List Int) (w : World) (h : zaw.f k a0_0 a0_1 = some (r1, r2, r3, r4)) :
  Calls Tryz.prog 15 #[.agg #[.int .i64 a0_0, .int .i64 a0_1]] w fun e w' => ∃ v0_ v1_ v2_ v3_ : Value, e = .returned (.tuple #[.agg #[v0_, v1_], .agg #[v2_, v3_]]) ∧ Kd.V (Kd.int .u64) 82 w' w.heap.size (fun k_ => (w.heap.size ≤ k_) ∧ some k_ ≠ (v2_ : Value).ownBlock ∧ some k_ ≠ (v3_ : Value).ownBlock) v0_ r1 ∧ Kd.V (Kd.int .u64) 82 w' w.heap.size (fun k_ => (w.heap.size ≤ k_) ∧ some k_ ≠ (v2_ : Value).ownBlock ∧ some k_ ≠ (v3_ : Value).ownBlock) v1_ r2 ∧ Kd.R (Kd.int .i64) 3 w' w.heap.size (fun k_ => (w.heap.size ≤ k_) ∧ some k_ ≠ (v3_ : Value).ownBlock) v2_ r3 ∧ Kd.R (Kd.int .i64) 3 w' w.heap.size (fun k_ => (w.heap.size ≤ k_) ∧ some k_ ≠ (v2_ : Value).ownBlock) v3_ r4 ∧ Below w.heap.size w w' := by
 have hu23 := Tryz.underlying23
 have hu29 := Tryz.underlying29
 have hu32 := Tryz.underlying32
 have HB := zA (Below.refl w.heap.size w)
 have H : ((zdd.f k (IntKind.u64.wrap (mx a0_0 0))).bind fun t491 => ((zdd.f k (IntKind.u64.wrap (mx a0_1 1))).bind fun t494 => ((zdi.f k t491 t494).bind fun bt497 => ((zav.f k (mx a0_0 0)).bind fun t505 => ((zav.f k (mx a0_1 1)).bind fun t508 => ((zcj.f k t505 t508).bind fun bt511 => (some (bt497.1, bt497.2.1, bt511.1, bt511.2)))))))) = some (r1, r2, r3, r4) := h
 clear h
 obtain ⟨ji2, hji2⟩ : ∃ j_ : Int, (mx a0_0 0) = j_ := ⟨_, rfl⟩
 replace H : ((zdd.f k (IntKind.u64.wrap (ji2))).bind fun t491 => ((zdd.f k (IntKind.u64.wrap (mx a0_1 1))).bind fun t494 => ((zdi.f k t491 t494).bind fun bt497 => ((zav.f k (ji2)).bind fun t505 => ((zav.f k (mx a0_1 1)).bind fun t508 => ((zcj.f k t505 t508).bind fun bt511 => (some (bt497.1, bt497.2.1, bt511.1, bt511.2)))))))) = some (r1, r2, r3, r4) := by first | (rw [hji2] at H; exact H) | (simp only [hji2] at H ⊢; exact H)
 (try (have hji2l : 0 ≤ ji2 := by (rw [← hji2]; unfold mx; (repeat' split) <;> omega)))
 (try (have hji2m : 0 ≤ ji2 := by omega))
 have hji2_ : (if a0_0 < 0 then 0 else a0_0) = ji2 := hji2
 (try (have hji2n_ := hji2_; simp only [Int.ofNat_lt] at hji2n_))
 obtain ⟨ji3, hji3⟩ : ∃ j_ : Int, (mx a0_1 1) = j_ := ⟨_, rfl⟩
 replace H : ((zdd.f k (IntKind.u64.wrap (ji2))).bind fun t491 => ((zdd.f k (IntKind.u64.wrap (ji3))).bind fun t494 => ((zdi.f k t491 t494).bind fun bt497 => ((zav.f k (ji2)).bind fun t505 => ((zav.f k (ji3)).bind fun t508 => ((zcj.f k t505 t508).bind fun bt511 => (some (bt497.1, bt497.2.1, bt511.1, bt511.2)))))))) = some (r1, r2, r3, r4) := by first | (rw [hji3] at H; exact H) | (simp only [hji3] at H ⊢; exact H)
 (try (have hji3l : 1 ≤ ji3 := by (rw [← hji3]; unfold mx; (repeat' split) <;> omega)))
 (try (have hji3m : 0 ≤ ji3 := by omega))
 have hji3_ : (if a0_1 < 1 then 1 else a0_1) = ji3 := hji3
 (try (have hji3n_ := hji3_; simp only [Int.ofNat_lt] at hji3n_))
 replace H := zO H
 obtain ⟨t491, A40, H⟩ := H
 try dsimp only at H
 have A4 := zA A40
 clear A40
 replace H := zO H
 obtain ⟨t494, A50, H⟩ := H
 try dsimp only at H
 have A5 := zA A50
 clear A50
 replace H := zO H
 obtain ⟨⟨t497, t500, t503⟩, A60, H⟩ := H
 try dsimp only at H
 have A6 := zA A60
 clear A60
 replace H := zO H
 obtain ⟨t505, A70, H⟩ := H
 try dsimp only at H
 have A7 := zA A70
 clear A70
 replace H := zO H
 obtain ⟨t508, A80, H⟩ := H
 try dsimp only at H
 have A8 := zA A80
 clear A80
 replace H := zO H
 obtain ⟨⟨t511, t514⟩, A90, H⟩ := H
 try dsimp only at H
 have A9 := zA A90
 clear A90
 simp only [Option.some.injEq, Prod.mk.injEq] at H
 obtain ⟨rfl, rfl, rfl, rfl⟩ := H
 go_enter Tryz.func15, Tryz.ntmps15
 try go_wp2_with (first | ((with_reducible refine za8 (N := 1) rfl ?_); refine zbd ?hg (N := 1) ?hd (cs := #[.int .i64 a0_0, .int .i64 a0_1]) (t := 23) ?hr ?_; (case hd => rfl); (case hg => rfl); (case hr => first | (go_simp; done) | (go_simp; rfl)); intro gb488 hg w10 hbox hb; have n0_ := zA (zaa (zB HB) hb); have n1_ := zA (hbox); have n3_ := zA ((by rw [hg]; exact (za (zB HB)) : w.heap.size ≤ gb488)); clear HB; have HB := n0_; have BK488 := n1_; have GE488 := n3_; clear n0_ n1_ n3_ hb hbox hg) | ((with_reducible refine za8 (N := 2) rfl ?_); refine zbd ?hg (N := 2) ?hd (cs := #[.slice none 0 0, .slice none 0 0]) (t := 29) ?hr ?_; (case hd => rfl); (case hg => rfl); (case hr => first | (go_simp; done) | (go_simp; rfl)); intro gb489 hg w11 hbox hb; have n0_ := zA (zad (g := gb488) (o := .cells #[.int .i64 a0_0, .int .i64 a0_1] 23 (0, 0)) (zK BK488) hb); have n1_ := zA (zaa (zB HB) hb); have n2_ := zA (hbox); have n4_ := zA ((by rw [hg]; exact (za (zB HB)) : w.heap.size ≤ gb489)); have n5_ := zA ((by rw [hg]; exact Nat.ne_of_lt (zax (g := gb488) (o := .cells #[.int .i64 a0_0, .int .i64 a0_1] 23 (0, 0)) (zK BK488)) : gb488 ≠ gb489)); have n6_ := zA ((by rw [hg]; exact Nat.ne_of_gt (zax (g := gb488) (o := .cells #[.int .i64 a0_0, .int .i64 a0_1] 23 (0, 0)) (zK BK488)) : gb489 ≠ gb488)); clear BK488 HB; have BK488 := n0_; have HB := n1_; have BK489 := n2_; have GE489 := n4_; have NB488_489 := n5_; have NB489_488 := n6_; clear n0_ n1_ n2_ n4_ n5_ n6_ hb hbox hg) | ((with_reducible refine za8 (N := 3) rfl ?_); refine zbd ?hg (N := 3) ?hd (cs := #[.slice none 0 0, .slice none 0 0]) (t := 32) ?hr ?_; (case hd => rfl); (case hg => rfl); (case hr => first | (go_simp; done) | (go_simp; rfl)); intro gb490 hg w12 hbox hb; have n0_ := zA (zad (g := gb488) (o := .cells #[.int .i64 a0_0, .int .i64 a0_1] 23 (0, 0)) (zK BK488) hb); have n1_ := zA (zad (g := gb489) (o := .cells #[.slice none 0 0, .slice none 0 0] 29 (0, 0)) (zK BK489) hb); have n2_ := zA (zaa (zB HB) hb); have n3_ := zA (hbox); have n5_ := zA ((by rw [hg]; exact (za (zB HB)) : w.heap.size ≤ gb490)); have n6_ := zA ((by rw [hg]; exact Nat.ne_of_lt (zax (g := gb488) (o := .cells #[.int .i64 a0_0, .int .i64 a0_1] 23 (0, 0)) (zK BK488)) : gb488 ≠ gb490)); have n7_ := zA ((by rw [hg]; exact Nat.ne_of_gt (zax (g := gb488) (o := .cells #[.int .i64 a0_0, .int .i64 a0_1] 23 (0, 0)) (zK BK488)) : gb490 ≠ gb488)); have n8_ := zA ((by rw [hg]; exact Nat.ne_of_lt (zax (g := gb489) (o := .cells #[.slice none 0 0, .slice none 0 0] 29 (0, 0)) (zK BK489)) : gb489 ≠ gb490)); have n9_ := zA ((by rw [hg]; exact Nat.ne_of_gt (zax (g := gb489) (o := .cells #[.slice none 0 0, .slice none 0 0] 29 (0, 0)) (zK BK489)) : gb490 ≠ gb489)); clear BK488 BK489 HB; have BK488 := n0_; have BK489 := n1_; have HB := n2_; have BK490 := n3_; have GE490 := n5_; have NB488_490 := n6_; have NB490_488 := n7_; have NB489_490 := n8_; have NB490_489 := n9_; clear n0_ n1_ n2_ n3_ n5_ n6_ n7_ n8_ n9_ hb hbox hg))
 have n0_ := zA (zai BK488.out)
 have n1_ := zA (zai BK489.out)
 have n2_ := zA (zai BK490.out)
 have n3_ := zA (zbo HB.out)
 clear BK488 BK489 BK490 HB
 have BK488 := n0_
 have BK489 := n1_
 have BK490 := n2_
 have HB := n3_
 clear n0_ n1_ n2_ n3_
 refine start_ (n := 8) (S := fun w' => w'.cell? ⟨gb488, 0, none⟩ = some (.int .i64 a0_0) ∧ w'.cell? ⟨gb488, 1, none⟩ = some (.int .i64 a0_1)) (ds := []) #[false, false, false, false, false, false, false, false] (by kernel_rfl) rfl rfl ⟨(zab BK488.out 0).trans rfl, (zab BK488.out 1).trans rfl⟩ (fun hHeld => ?_); refine zcq zaw.tab1 zaw.bits1 (fun HT_ HW_ => ?_)
 generalize w12.drew = w13 at BK488 BK489 BK490 HB hHeld ⊢
 refine pure_ (i := 0) (N := some 8) (v := ?_) (a' := ?_) #[true, false, false, false, false, false, false, false] rfl rfl (zat HT_.out (by kernel_rfl)) (fun _ _ _ h => h) (Or.inl ⟨by rfl, ?_⟩) ?_ ?_
 rotate_left
 ·
  intro w'
  go_simp
  with_reducible rfl
 rotate_left
 ·
  simp only [Act.put, zs1, zs2, zs3, i64_w, i32_w]
  rfl
 refine pure_ (i := 3) (N := some 11) (v := ?_) (a' := ?_) #[true, false, false, true, false, false, false, false] rfl rfl (zat HT_.out (by kernel_rfl)) (fun _ _ _ h => h) (Or.inl ⟨by rfl, ?_⟩) ?_ ?_
 rotate_left
 ·
  intro w'
  go_simp
  with_reducible rfl
 rotate_left
 ·
  simp only [Act.put, zs1, zs2, zs3, i64_w, i32_w]
  rfl
 refine take_ (i := 1) (N := some 9) (v := ?_) (a' := ?_) #[true, true, false, true, false, false, false, false] rfl rfl (zbk HT_.out HW_.out (by kernel_rfl)) (fun _ _ _ h => h) (Or.inl ⟨by rfl, ?_⟩) hHeld ?_ ?_
 rotate_left
 ·
  rintro w' ⟨s0, s1⟩
  go_simp
  with_reducible rfl
 rotate_left
 ·
  simp only [Act.put, zs1, zs2, zs3, i64_w, i32_w]
  rfl
 refine pure_ (i := 2) (N := some 10) (v := ?_) (a' := ?_) #[true, true, true, true, false, false, false, false] rfl rfl (zat HT_.out (by kernel_rfl)) (fun _ _ _ h => h) (Or.inl ⟨by rfl, ?_⟩) ?_ ?_
 rotate_left
 ·
  intro w'
  go_simp
  with_reducible rfl
 rotate_left
 ·
  simp only [Act.put, zs1, zs2, zs3, i64_w, i32_w]
  rfl
 refine pure_ (i := 6) (N := some 4) (v := ?_) (a' := ?_) #[true, true, true, true, false, false, true, false] rfl rfl (zat HT_.out (by kernel_rfl)) (fun _ _ _ h => h) (Or.inl ⟨by rfl, ?_⟩) ?_ ?_
 rotate_left
 ·
  intro w'
  go_simp
  with_reducible rfl
 rotate_left
 ·
  simp only [Act.put, zs1, zs2, zs3, i64_w, i32_w]
  rfl
 refine take_ (i := 4) (N := some 12) (v := ?_) (a' := ?_) #[true, true, true, true, true, false, true, false] rfl rfl (zbk HT_.out HW_.out (by kernel_rfl)) (fun _ _ _ h => h) (Or.inl ⟨by rfl, ?_⟩) hHeld ?_ ?_
 rotate_left
 ·
  rintro w' ⟨s0, s1⟩
  go_simp
  with_reducible rfl
 rotate_left
 ·
  simp only [Act.put, zs1, zs2, zs3, i64_w, i32_w]
  rfl
 refine pure_ (i := 5) (N := some 13) (v := ?_) (a' := ?_) #[true, true, true, true, true, true, true, false] rfl rfl (zat HT_.out (by kernel_rfl)) (fun _ _ _ h => h) (Or.inl ⟨by rfl, ?_⟩) ?_ ?_
 rotate_left
 ·
  intro w'
  go_simp
  with_reducible rfl
 rotate_left
 ·
  simp only [Act.put, zs1, zs2, zs3, i64_w, i32_w]
  rfl
 refine pure_ (i := 7) (N := some 5) (v := ?_) (a' := ?_) #[true, true, true, true, true, true, true, true] rfl rfl (zat HT_.out (by kernel_rfl)) (fun _ _ _ h => h) (Or.inl ⟨by rfl, ?_⟩) ?_ ?_
 rotate_left
 ·
  intro w'
  go_simp
  with_reducible rfl
 rotate_left
 ·
  simp only [Act.put, zs1, zs2, zs3, i64_w, i32_w]
  rfl
 refine done_ (zdf HT_.out (by kernel_rfl)) ?_
 try go_wp2_with (first | ((with_reducible refine zae (f := 35) rfl ?_); refine za2 (some 17) rfl rfl Tryz.func35 (by kernel_rfl) rfl #[.int .u64 (IntKind.u64.wrap (ji2))] rfl (by (try simp only [List.map_toArray, List.map_cons, List.map_nil]); first | done | (simp only [hji2]; rfl) | rfl | (simp only [List.length_drop, List.length_take]; rfl) | ((simp [Act.eval, wrap64]) <;> omega) | ((simp [Act.eval, wrap64, IntKind.wrap, IntKind.bits, IntKind.signed]) <;> omega)) ?_; (with_reducible refine (zdd.calls k (IntKind.u64.wrap (ji2)) t491 _ A4.out).mono ?_); rintro e w14 ⟨v492, rfl, ho0, hb⟩; refine ⟨_, rfl, ?_⟩; have n0_ := zA (Kd.zaz (Kd.zam (ok' := fun k_ => (w.heap.size ≤ k_) ∧ k_ ≠ gb488 ∧ k_ ≠ gb489 ∧ k_ ≠ gb490) ho0 (fun k_ hk_ => ⟨(Nat.le_trans (za (zB HB)) hk_), (Kd.freshB (g := gb488) (o := .cells #[.int .i64 a0_0, .int .i64 a0_1] 23 (0, 0)) (zK BK488) k_ hk_), (Kd.freshB (g := gb489) (o := .cells #[.slice none 0 0, .slice none 0 0] 29 (0, 0)) (zK BK489) k_ hk_), (Kd.freshB (g := gb490) (o := .cells #[.slice none 0 0, .slice none 0 0] 32 (0, 0)) (zK BK490) k_ hk_)⟩)) (za (zB HB))); have n1_ := zA (zad (g := gb488) (o := .cells #[.int .i64 a0_0, .int .i64 a0_1] 23 (0, 0)) (zK BK488) hb); have n2_ := zA (zad (g := gb489) (o := .cells #[.slice none 0 0, .slice none 0 0] 29 (0, 0)) (zK BK489) hb); have n3_ := zA (zad (g := gb490) (o := .cells #[.slice none 0 0, .slice none 0 0] 32 (0, 0)) (zK BK490) hb); have n4_ := zA (zaa (zB HB) hb); clear BK488 BK489 BK490 HB; have HO493 := n0_; have BK488 := n1_; have BK489 := n2_; have BK490 := n3_; have HB := n4_; clear n0_ n1_ n2_ n3_ n4_; (try clear hb); (try clear hb2); (try clear hk); (try clear hi); (try clear ho0)) | ((with_reducible refine zae (f := 35) rfl ?_); refine za2 (some 20) rfl rfl Tryz.func35 (by kernel_rfl) rfl #[.int .u64 (IntKind.u64.wrap (ji3))] rfl (by (try simp only [List.map_toArray, List.map_cons, List.map_nil]); first | done | (simp only [hji3]; rfl) | rfl | (simp only [List.length_drop, List.length_take]; rfl) | ((simp [Act.eval, wrap64]) <;> omega) | ((simp [Act.eval, wrap64, IntKind.wrap, IntKind.bits, IntKind.signed]) <;> omega)) ?_; (with_reducible refine (zdd.calls k (IntKind.u64.wrap (ji3)) t494 _ A5.out).mono ?_); rintro e w15 ⟨v495, rfl, ho0, hb⟩; refine ⟨_, rfl, ?_⟩; have n0_ := zA (Kd.zau (zV HO493) hb); have n1_ := zA (Kd.zaz (Kd.zam (ok' := fun k_ => (w.heap.size ≤ k_) ∧ k_ ≠ gb488 ∧ k_ ≠ gb489 ∧ k_ ≠ gb490) ho0 (fun k_ hk_ => ⟨(Nat.le_trans (za (zB HB)) hk_), (Kd.freshB (g := gb488) (o := .cells #[.int .i64 a0_0, .int .i64 a0_1] 23 (0, 0)) (zK BK488) k_ hk_), (Kd.freshB (g := gb489) (o := .cells #[.slice none 0 0, .slice none 0 0] 29 (0, 0)) (zK BK489) k_ hk_), (Kd.freshB (g := gb490) (o := .cells #[.slice none 0 0, .slice none 0 0] 32 (0, 0)) (zK BK490) k_ hk_)⟩)) (za (zB HB))); have n2_ := zA (zad (g := gb488) (o := .cells #[.int .i64 a0_0, .int .i64 a0_1] 23 (0, 0)) (zK BK488) hb); have n3_ := zA (zad (g := gb489) (o := .cells #[.slice none 0 0, .slice none 0 0] 29 (0, 0)) (zK BK489) hb); have n4_ := zA (zad (g := gb490) (o := .cells #[.slice none 0 0, .slice none 0 0] 32 (0, 0)) (zK BK490) hb); have n5_ := zA (zaa (zB HB) hb); clear HO493 BK488 BK489 BK490 HB; have HO493 := n0_; have HO496 := n1_; have BK488 := n2_; have BK489 := n3_; have BK490 := n4_; have HB := n5_; clear n0_ n1_ n2_ n3_ n4_ n5_; (try clear hb); (try clear hb2); (try clear hk); (try clear hi); (try clear ho0); obtain ⟨Ao16, co16, eo16⟩ := Kd.za1 HO493.out; subst eo16; obtain ⟨Ao17, co17, eo17⟩ := Kd.za1 HO496.out; subst eo17) | ((with_reducible refine zae (f := 34) rfl ?_); refine za2 (some 21) rfl rfl Tryz.func34 (by kernel_rfl) rfl #[.slice Ao16 t491.length co16, .slice Ao17 t494.length co17] rfl (zE) ?_; (with_reducible refine (zdi.calls k _ _ t491 _ _ t494 t497 t500 t503 _ ?side1 ?side2 ?side3 ?side4 A6.out).mono ?_); (case side1 => exact zJ (Kd.zak HO493.out).2.2); (case side2 => exact (Kd.zak HO493.out).2.1); (case side3 => exact zJ (Kd.zak HO496.out).2.2); (case side4 => exact (Kd.zak HO496.out).2.1); rintro e w18 ⟨v498, v501, rfl, ho0, ho1, hb⟩; refine ⟨_, rfl, ?_⟩; have n2_ := zA (Kd.zaz (Kd.zam (ok' := fun k_ => (w.heap.size ≤ k_) ∧ k_ ≠ gb488 ∧ k_ ≠ gb489 ∧ k_ ≠ gb490) ho0 (fun k_ hk_ => ⟨(Nat.le_trans (za (zB HB)) hk_), (Kd.freshB (g := gb488) (o := .cells #[.int .i64 a0_0, .int .i64 a0_1] 23 (0, 0)) (zK BK488) k_ hk_), (Kd.freshB (g := gb489) (o := .cells #[.slice none 0 0, .slice none 0 0] 29 (0, 0)) (zK BK489) k_ hk_), (Kd.freshB (g := gb490) (o := .cells #[.slice none 0 0, .slice none 0 0] 32 (0, 0)) (zK BK490) k_ hk_)⟩)) (za (zB HB))); have n3_ := zA (Kd.zaz (Kd.zam (ok' := fun k_ => (w.heap.size ≤ k_) ∧ k_ ≠ gb488 ∧ k_ ≠ gb489 ∧ k_ ≠ gb490) ho1 (fun k_ hk_ => ⟨(Nat.le_trans (za (zB HB)) hk_), (Kd.freshB (g := gb488) (o := .cells #[.int .i64 a0_0, .int .i64 a0_1] 23 (0, 0)) (zK BK488) k_ hk_), (Kd.freshB (g := gb489) (o := .cells #[.slice none 0 0, .slice none 0 0] 29 (0, 0)) (zK BK489) k_ hk_), (Kd.freshB (g := gb490) (o := .cells #[.slice none 0 0, .slice none 0 0] 32 (0, 0)) (zK BK490) k_ hk_)⟩)) (za (zB HB))); have n4_ := zA (zad (g := gb488) (o := .cells #[.int .i64 a0_0, .int .i64 a0_1] 23 (0, 0)) (zK BK488) hb); have n5_ := zA (zad (g := gb489) (o := .cells #[.slice none 0 0, .slice none 0 0] 29 (0, 0)) (zK BK489) hb); have n6_ := zA (zad (g := gb490) (o := .cells #[.slice none 0 0, .slice none 0 0] 32 (0, 0)) (zK BK490) hb); have n7_ := zA (zaa (zB HB) hb); clear BK488 BK489 BK490 HB; have HO499 := n2_; have HO502 := n3_; have BK488 := n4_; have BK489 := n5_; have BK490 := n6_; have HB := n7_; clear n2_ n3_ n4_ n5_ n6_ n7_; (try clear hb); (try clear hb2); (try clear hk); (try clear hi); (try clear ho0); (try clear ho1)) | ((with_reducible refine za8 (N := 6) rfl ?_); refine zbd ?hg (N := 6) ?hd (cs := #[.slice none 0 0, .slice none 0 0]) (t := 29) ?hr ?_; (case hd => rfl); (case hg => rfl); (case hr => first | (go_simp; done) | (go_simp; rfl)); intro gb504 hg w19 hbox hb; have n2_ := zA (Kd.zau (Kd.zcz (zV HO499) gb504 (Nat.le_of_eq hg.symm)) hb); have n3_ := zA (Kd.zau (Kd.zcz (zV HO502) gb504 (Nat.le_of_eq hg.symm)) hb); have n5_ := zA (zad (g := gb489) (o := .cells #[.slice none 0 0, .slice none 0 0] 29 (0, 0)) (zK BK489) hb); have n6_ := zA (zad (g := gb490) (o := .cells #[.slice none 0 0, .slice none 0 0] 32 (0, 0)) (zK BK490) hb); have n7_ := zA (zaa (zB HB) hb); have n8_ := zA (hbox); have n10_ := zA ((by rw [hg]; exact (za (zB HB)) : w.heap.size ≤ gb504)); have n11_ := zA ((by rw [hg]; exact Nat.ne_of_lt (zax (g := gb488) (o := .cells #[.int .i64 a0_0, .int .i64 a0_1] 23 (0, 0)) (zK BK488)) : gb488 ≠ gb504)); have n12_ := zA ((by rw [hg]; exact Nat.ne_of_gt (zax (g := gb488) (o := .cells #[.int .i64 a0_0, .int .i64 a0_1] 23 (0, 0)) (zK BK488)) : gb504 ≠ gb488)); have n13_ := zA ((by rw [hg]; exact Nat.ne_of_lt (zax (g := gb489) (o := .cells #[.slice none 0 0, .slice none 0 0] 29 (0, 0)) (zK BK489)) : gb489 ≠ gb504)); have n14_ := zA ((by rw [hg]; exact Nat.ne_of_gt (zax (g := gb489) (o := .cells #[.slice none 0 0, .slice none 0 0] 29 (0, 0)) (zK BK489)) : gb504 ≠ gb489)); have n15_ := zA ((by rw [hg]; exact Nat.ne_of_lt (zax (g := gb490) (o := .cells #[.slice none 0 0, .slice none 0 0] 32 (0, 0)) (zK BK490)) : gb490 ≠ gb504)); have n16_ := zA ((by rw [hg]; exact Nat.ne_of_gt (zax (g := gb490) (o := .cells #[.slice none 0 0, .slice none 0 0] 32 (0, 0)) (zK BK490)) : gb504 ≠ gb490)); clear HO499 HO502 BK489 BK490 HB; have HO499 := n2_; have HO502 := n3_; have BK489 := n5_; have BK490 := n6_; have HB := n7_; have BK504 := n8_; have GE504 := n10_; have NB488_504 := n11_; have NB504_488 := n12_; have NB489_504 := n13_; have NB504_489 := n14_; have NB490_504 := n15_; have NB504_490 := n16_; clear n2_ n3_ n5_ n6_ n7_ n8_ n10_ n11_ n12_ n13_ n14_ n15_ n16_ hb hbox hg; obtain ⟨Ao20, co20, eo20⟩ := Kd.za1 HO499.out; subst eo20; have hnb21 := NB504_488.out; have hnc21 := NB488_504.out; have hnb22 := NB504_489.out; have hnc22 := NB489_504.out; have hnb23 := NB504_490.out; have hnc23 := NB490_504.out; have hcz24_0 : w19.cell? ⟨gb504, 0, none⟩ = some (.slice none 0 0) := (zab BK504.out 0).trans rfl; have hcz24_1 : w19.cell? ⟨gb504, 1, none⟩ = some (.slice none 0 0) := (zab BK504.out 1).trans rfl; have hfz24_0 := zal BK504.out 0; have hfz24_1 := zal BK504.out 1; obtain ⟨Ao25, co25, eo25⟩ := Kd.za1 HO502.out; subst eo25))
 have n2_ : Aside0 (Kd.V (Kd.int .u64) 82 ((w19.setCell ⟨gb504, 0, none⟩ (.slice Ao20 t497.length co20)).setCell ⟨gb504, 1, none⟩ (.slice Ao25 t500.length co25)) w.heap.size (fun k_ => (w.heap.size ≤ k_) ∧ k_ ≠ gb488 ∧ k_ ≠ gb489 ∧ k_ ≠ gb490 ∧ k_ ≠ gb504) (.slice Ao20 t497.length co20) t497) := ⟨by (with_reducible repeat (first | apply Kd.zbr | apply Kd.zbq | apply Kd.zbt)); exact Kd.zam (Kd.V_far (p := ⟨gb504, 1, none⟩) (Kd.V_far (p := ⟨gb504, 0, none⟩) (Kd.zam HO499.out (fun k_ hk => (⟨hk, hk.2⟩ : _ ∧ k_ ≠ gb504))) (fun _ hk => hk.2) (.slice Ao20 t497.length co20)) (fun _ hk => hk.2) (.slice Ao25 t500.length co25)) (fun _ hk => ⟨hk.1.1.1, ⟨hk.1.1.2.1, ⟨hk.1.1.2.2.1, ⟨hk.1.1.2.2.2, hk.1.2⟩⟩⟩⟩)⟩
 have n3_ : Aside0 (Kd.V (Kd.int .u64) 82 ((w19.setCell ⟨gb504, 0, none⟩ (.slice Ao20 t497.length co20)).setCell ⟨gb504, 1, none⟩ (.slice Ao25 t500.length co25)) w.heap.size (fun k_ => (w.heap.size ≤ k_) ∧ k_ ≠ gb488 ∧ k_ ≠ gb489 ∧ k_ ≠ gb490 ∧ k_ ≠ gb504) (.slice Ao25 t500.length co25) t500) := ⟨by (with_reducible repeat (first | apply Kd.zbr | apply Kd.zbq | apply Kd.zbt)); exact Kd.zam (Kd.V_far (p := ⟨gb504, 1, none⟩) (Kd.V_far (p := ⟨gb504, 0, none⟩) (Kd.zam HO502.out (fun k_ hk => (⟨hk, hk.2⟩ : _ ∧ k_ ≠ gb504))) (fun _ hk => hk.2) (.slice Ao20 t497.length co20)) (fun _ hk => hk.2) (.slice Ao25 t500.length co25)) (fun _ hk => ⟨hk.1.1.1, ⟨hk.1.1.2.1, ⟨hk.1.1.2.2.1, ⟨hk.1.1.2.2.2, hk.1.2⟩⟩⟩⟩)⟩
 have n5_ : Aside0 (((w19.setCell ⟨gb504, 0, none⟩ (.slice Ao20 t497.length co20)).setCell ⟨gb504, 1, none⟩ (.slice Ao25 t500.length co25)).heap[gb489]? = some (.cells #[.slice none 0 0, .slice none 0 0] 29 (0, 0))) := ⟨by (with_reducible repeat (first | refine zaj ?_ _ | refine zai ?_ | refine zah ?_ _)); refine zby ?_ NB489_504.out _; (with_reducible repeat (first | refine zaj ?_ _ | refine zai ?_ | refine zah ?_ _)); refine zby ?_ NB489_504.out _; (with_reducible repeat (first | refine zaj ?_ _ | refine zai ?_ | refine zah ?_ _)); exact BK489.out⟩
 have n6_ : Aside0 (((w19.setCell ⟨gb504, 0, none⟩ (.slice Ao20 t497.length co20)).setCell ⟨gb504, 1, none⟩ (.slice Ao25 t500.length co25)).heap[gb490]? = some (.cells #[.slice none 0 0, .slice none 0 0] 32 (0, 0))) := ⟨by (with_reducible repeat (first | refine zaj ?_ _ | refine zai ?_ | refine zah ?_ _)); refine zby ?_ NB490_504.out _; (with_reducible repeat (first | refine zaj ?_ _ | refine zai ?_ | refine zah ?_ _)); refine zby ?_ NB490_504.out _; (with_reducible repeat (first | refine zaj ?_ _ | refine zai ?_ | refine zah ?_ _)); exact BK490.out⟩
 have n7_ : Aside0 (((w19.setCell ⟨gb504, 0, none⟩ (.slice Ao20 t497.length co20)).setCell ⟨gb504, 1, none⟩ (.slice Ao25 t500.length co25)).heap[gb504]? = some (.cells #[.slice Ao20 t497.length co20, .slice Ao25 t500.length co25] 29 (0, 0))) := ⟨by (with_reducible repeat (first | refine zaj ?_ _ | refine zai ?_ | refine zah ?_ _)); refine zbc (cs := #[.slice Ao20 t497.length co20, .slice none 0 0]) ?_ 1 _ rfl; (with_reducible repeat (first | refine zaj ?_ _ | refine zai ?_ | refine zah ?_ _)); refine zbc (cs := #[.slice none 0 0, .slice none 0 0]) ?_ 0 _ rfl; (with_reducible repeat (first | refine zaj ?_ _ | refine zai ?_ | refine zah ?_ _)); exact BK504.out⟩
 have n8_ : Aside0 (Below w.heap.size w ((w19.setCell ⟨gb504, 0, none⟩ (.slice Ao20 t497.length co20)).setCell ⟨gb504, 1, none⟩ (.slice Ao25 t500.length co25))) := ⟨zB HB⟩
 (try skip)
 (try skip)
 (try clear HO499)
 (try clear HO502)
 (try skip)
 (try clear BK489)
 (try clear BK490)
 (try clear BK504)
 (try clear HB)
 generalize ((w19.setCell ⟨gb504, 0, none⟩ (.slice Ao20 t497.length co20)).setCell ⟨gb504, 1, none⟩ (.slice Ao25 t500.length co25)) = w26 at n2_ n3_ n5_ n6_ n7_ n8_ ⊢
 have HO499 := n2_
 have HO502 := n3_
 have BK489 := n5_
 have BK490 := n6_
 have BK504 := n7_
 have HB := n8_
 clear n2_ n3_ n5_ n6_ n7_ n8_
 have n2_ := zA (Kd.zbt HO499.out)
 have n3_ := zA (Kd.zbt HO502.out)
 have n5_ := zA (zai BK489.out)
 have n6_ := zA (zai BK490.out)
 have n7_ := zA (zai BK504.out)
 have n8_ := zA (zbo HB.out)
 clear HO499 HO502 BK489 BK490 BK504 HB
 have HO499 := n2_
 have HO502 := n3_
 have BK489 := n5_
 have BK490 := n6_
 have BK504 := n7_
 have HB := n8_
 clear n2_ n3_ n5_ n6_ n7_ n8_
 refine start_ (n := 8) (S := fun w' => w'.cell? ⟨gb504, 0, none⟩ = some (.slice Ao20 t497.length co20) ∧ w'.cell? ⟨gb504, 1, none⟩ = some (.slice Ao25 t500.length co25)) (ds := []) #[false, false, false, false, false, false, false, false] (by kernel_rfl) rfl rfl ⟨(zab BK504.out 0).trans rfl, (zab BK504.out 1).trans rfl⟩ (fun hHeld => ?_); refine zcq zaw.tab3 zaw.bits3 (fun HT_ HW_ => ?_)
 generalize w26.drew = w27 at HO499 HO502 BK489 BK490 BK504 HB hHeld ⊢
 refine pure_ (i := 1) (N := some 25) (v := ?_) (a' := ?_) #[false, true, false, false, false, false, false, false] rfl rfl (zat HT_.out (by kernel_rfl)) (fun _ _ _ h => h) (Or.inl ⟨by rfl, ?_⟩) ?_ ?_
 rotate_left
 ·
  intro w'
  go_simp
  with_reducible rfl
 rotate_left
 ·
  simp only [Act.put, zs1, zs2, zs3, i64_w, i32_w]
  rfl
 refine pure_ (i := 3) (N := some 27) (v := ?_) (a' := ?_) #[false, true, false, true, false, false, false, false] rfl rfl (zat HT_.out (by kernel_rfl)) (fun _ _ _ h => h) (Or.inl ⟨by rfl, ?_⟩) ?_ ?_
 rotate_left
 ·
  intro w'
  go_simp
  with_reducible rfl
 rotate_left
 ·
  simp only [Act.put, zs1, zs2, zs3, i64_w, i32_w]
  rfl
 refine take_ (i := 0) (N := some 24) (v := ?_) (a' := ?_) #[true, true, false, true, false, false, false, false] rfl rfl (zbk HT_.out HW_.out (by kernel_rfl)) (fun _ _ _ h => h) (Or.inl ⟨by rfl, ?_⟩) hHeld ?_ ?_
 rotate_left
 ·
  rintro w' ⟨s0, s1⟩
  go_simp
  with_reducible rfl
 rotate_left
 ·
  simp only [Act.put, zs1, zs2, zs3, i64_w, i32_w]
  rfl
 refine one_ (i := 2) (N := some 26) #[true, true, true, true, false, false, false, false] rfl rfl (zbu HT_.out (by kernel_rfl)) (by decide) (fun K hK => ?_)
 refine goes_ Tryz.func37 (by kernel_rfl) rfl #[.int .i64 ji2] (by rfl) rfl rfl (by (try simp only [List.map_toArray, List.map_cons, List.map_nil]); first | done | (simp only [hji2]; rfl) | rfl | (simp only [List.length_drop, List.length_take]; rfl) | ((simp [Act.eval, wrap64]) <;> omega) | ((simp [Act.eval, wrap64, IntKind.wrap, IntKind.bits, IntKind.signed]) <;> omega)) ?_
 with_reducible refine (zav.calls k ji2 t505 _ A7.out).mono ?_
 rintro e w28 ⟨v506, rfl, ho0, hb⟩
 refine ⟨_, rfl, ?_⟩
 have n2_ := zA (Kd.zb8 (zV HO499) (Kd.zbj ho0) hb)
 have n3_ := zA (Kd.zb8 (zV HO502) (Kd.zbj ho0) hb)
 have n4_ := zA (Kd.zbs (Kd.R_newM (M := fun k_ => (w.heap.size ≤ k_)) ho0 (za (zB HB)) (fun k_ h_ => h_)) (za (zB HB)))
 have n6_ := zA (zad (g := gb489) (o := .cells #[.slice none 0 0, .slice none 0 0] 29 (0, 0)) (zK BK489) hb)
 have n7_ := zA (zad (g := gb490) (o := .cells #[.slice none 0 0, .slice none 0 0] 32 (0, 0)) (zK BK490) hb)
 have n8_ := zA (zad (g := gb504) (o := .cells #[.slice Ao20 t497.length co20, .slice Ao25 t500.length co25] 29 (0, 0)) (zK BK504) hb)
 have n9_ := zA (zaa (zB HB) hb)
 clear HO499 HO502 BK489 BK490 BK504 HB
 have HO499 := n2_
 have HO502 := n3_
 have HO507 := n4_
 have BK489 := n6_
 have BK490 := n7_
 have BK504 := n8_
 have HB := n9_
 clear n2_ n3_ n4_ n6_ n7_ n8_ n9_
 (try clear hb)
 (try clear hb2)
 (try clear hk)
 (try clear hi)
 (try clear ho0)
 refine hK.out _ _ ⟨(zab BK504.out 0).trans rfl, (zab BK504.out 1).trans rfl⟩ (fun hHeld => ?_)
 clear hK K
 refine norm_ (a' := ?_) ?_ ?_
 rotate_left
 ·
  show Act.put _ (some 26) _ = _
  simp only [Act.put, zs1, zs2, zs3, i64_w, i32_w]
  rfl
 refine one_ (i := 4) (N := some 28) #[true, true, true, true, true, false, false, false] rfl rfl (zbu HT_.out (by kernel_rfl)) (by decide) (fun K hK => ?_)
 refine goes_ Tryz.func37 (by kernel_rfl) rfl #[.int .i64 ji3] (by rfl) rfl rfl (by (try simp only [List.map_toArray, List.map_cons, List.map_nil]); first | done | (simp only [hji3]; rfl) | rfl | (simp only [List.length_drop, List.length_take]; rfl) | ((simp [Act.eval, wrap64]) <;> omega) | ((simp [Act.eval, wrap64, IntKind.wrap, IntKind.bits, IntKind.signed]) <;> omega)) ?_
 with_reducible refine (zav.calls k ji3 t508 _ A8.out).mono ?_
 rintro e w29 ⟨v509, rfl, ho0, hb⟩
 refine ⟨_, rfl, ?_⟩
 have n2_ := zA (Kd.zb8 (zV HO499) (Kd.zbj ho0) hb)
 have n3_ := zA (Kd.zb8 (zV HO502) (Kd.zbj ho0) hb)
 have n4_ := zA (Kd.zb1 (zR HO507) (Kd.zbj ho0) hb)
 have n5_ := zA (Kd.zbs (Kd.zcm (Kd.R_newM (M := fun k_ => (w.heap.size ≤ k_)) ho0 (za (zB HB)) (fun k_ h_ => h_)) (Kd.R_lt (zR HO507))) (za (zB HB)))
 have n7_ := zA (zad (g := gb489) (o := .cells #[.slice none 0 0, .slice none 0 0] 29 (0, 0)) (zK BK489) hb)
 have n8_ := zA (zad (g := gb490) (o := .cells #[.slice none 0 0, .slice none 0 0] 32 (0, 0)) (zK BK490) hb)
 have n9_ := zA (zad (g := gb504) (o := .cells #[.slice Ao20 t497.length co20, .slice Ao25 t500.length co25] 29 (0, 0)) (zK BK504) hb)
 have n10_ := zA (zaa (zB HB) hb)
 clear HO499 HO502 HO507 BK489 BK490 BK504 HB
 have HO499 := n2_
 have HO502 := n3_
 have HO507 := n4_
 have HO510 := n5_
 have BK489 := n7_
 have BK490 := n8_
 have BK504 := n9_
 have HB := n10_
 clear n2_ n3_ n4_ n5_ n7_ n8_ n9_ n10_
 (try clear hb)
 (try clear hb2)
 (try clear hk)
 (try clear hi)
 (try clear ho0)
 obtain ⟨Ao30, co30, eo30⟩ := Kd.zbm HO507.out
 (first | subst eo30 | (injection eo30 with f1_ f2_ f3_; have f4_ := f1_.symm; have f5_ := f3_.symm; clear f1_ f2_ f3_; subst f4_; subst f5_))
 obtain ⟨Ao31, co31, eo31⟩ := Kd.zbm HO510.out
 (first | subst eo31 | (injection eo31 with f1_ f2_ f3_; have f4_ := f1_.symm; have f5_ := f3_.symm; clear f1_ f2_ f3_; subst f4_; subst f5_))
 refine hK.out _ _ ⟨(zab BK504.out 0).trans rfl, (zab BK504.out 1).trans rfl⟩ (fun hHeld => ?_)
 clear hK K
 refine norm_ (a' := ?_) ?_ ?_
 rotate_left
 ·
  show Act.put _ (some 28) _ = _
  simp only [Act.put, zs1, zs2, zs3, i64_w, i32_w]
  rfl
 refine one_ (i := 5) (N := some 29) #[true, true, true, true, true, true, false, false] rfl rfl (zbu HT_.out (by kernel_rfl)) (by decide) (fun K hK => ?_)
 refine goes_ Tryz.func36 (by kernel_rfl) rfl #[.slice Ao30 t505.length co30, .slice Ao31 t508.length co31] (by rfl) rfl rfl (zE) ?_
 with_reducible refine (zcj.calls k _ _ t505 _ _ t508 t511 t514 _ ?side1 ?side2 ?side3 ?side4 A9.out).mono ?_
 (case side1 => exact zJ (Kd.zay HO507.out).2.2)
 (case side2 => exact (Kd.zay HO507.out).2.1)
 (case side3 => exact zJ (Kd.zay HO510.out).2.2)
 (case side4 => exact (Kd.zay HO510.out).2.1)
 rintro e w32 ⟨v512, v515, rfl, ho0, ho1, hb⟩
 refine ⟨_, rfl, ?_⟩
 have n2_ := zA (Kd.zam (Kd.V_told (Kd.V_told (Kd.V_old (zV HO499) hb) (Kd.zbj ho0)) (Kd.zbj ho1)) (fun _ h_ => h_.1))
 have n3_ := zA (Kd.zam (Kd.V_told (Kd.V_told (Kd.V_old (zV HO502) hb) (Kd.zbj ho0)) (Kd.zbj ho1)) (fun _ h_ => h_.1))
 have n6_ := zA (Kd.zbs (Kd.zcm (Kd.zcm (Kd.R_newM (M := fun k_ => (w.heap.size ≤ k_)) ho0 (za (zB HB)) (fun k_ h_ => h_)) (Kd.R_lt (zR HO507))) (Kd.R_lt (zR HO510))) (za (zB HB)))
 have n7_ := zA (Kd.zbs (Kd.zcm (Kd.zcm (Kd.R_newM (M := fun k_ => (w.heap.size ≤ k_)) ho1 (za (zB HB)) (fun k_ h_ => h_)) (Kd.R_lt (zR HO507))) (Kd.R_lt (zR HO510))) (za (zB HB)))
 have n9_ := zA (zad (g := gb489) (o := .cells #[.slice none 0 0, .slice none 0 0] 29 (0, 0)) (zK BK489) hb)
 have n10_ := zA (zad (g := gb490) (o := .cells #[.slice none 0 0, .slice none 0 0] 32 (0, 0)) (zK BK490) hb)
 have n11_ := zA (zad (g := gb504) (o := .cells #[.slice Ao20 t497.length co20, .slice Ao25 t500.length co25] 29 (0, 0)) (zK BK504) hb)
 have n12_ := zA (zaa (zB HB) hb)
 clear HO499 HO502 BK489 BK490 BK504 HB
 have HO499 := n2_
 have HO502 := n3_
 have HO513 := n6_
 have HO516 := n7_
 have BK489 := n9_
 have BK490 := n10_
 have BK504 := n11_
 have HB := n12_
 clear n2_ n3_ n6_ n7_ n9_ n10_ n11_ n12_
 (try clear hb)
 (try clear hb2)
 (try clear hk)
 (try clear hi)
 (try clear ho0)
 (try clear ho1)
 obtain ⟨Ao35, co35, eo35⟩ := Kd.zbm HO513.out
 (first | subst eo35 | (injection eo35 with f1_ f2_ f3_; have f4_ := f1_.symm; have f5_ := f3_.symm; clear f1_ f2_ f3_; subst f4_; subst f5_))
 obtain ⟨Ao37, co37, eo37⟩ := Kd.zbm HO516.out
 (first | subst eo37 | (injection eo37 with f1_ f2_ f3_; have f4_ := f1_.symm; have f5_ := f3_.symm; clear f1_ f2_ f3_; subst f4_; subst f5_))
 refine hK.out _ _ ⟨(zab BK504.out 0).trans rfl, (zab BK504.out 1).trans rfl⟩ (fun hHeld => ?_)
 clear hK K
 refine norm_ (a' := ?_) ?_ ?_
 rotate_left
 ·
  show Act.put _ (some 29) _ = _
  simp only [Act.put, zs1, zs2, zs3, i64_w, i32_w]
  rfl
 refine one_ (i := 6) (N := none) #[true, true, true, true, true, true, true, false] rfl rfl (zbu HT_.out (by kernel_rfl)) (by decide) (fun K hK => ?_)
 have hs33 : w32.cell? ⟨gb489, 0, none⟩ = some (.slice none 0 0) := (zab BK489.out 0).trans rfl
 have hfs33 := zal BK489.out 0
 have hns33_0 := NB488_489.out
 have hns33_2 := NB490_489.out
 have hns33_3 := NB504_489.out
 have hms33_0 := NB489_488.out
 have hms33_2 := NB489_490.out
 have hms33_3 := NB489_504.out
 have hs34 : w32.cell? ⟨gb489, 1, none⟩ = some (.slice none 0 0) := (zab BK489.out 1).trans rfl
 have hfs34 := zal BK489.out 1
 have hns34_0 := NB488_489.out
 have hns34_2 := NB490_489.out
 have hns34_3 := NB504_489.out
 have hms34_0 := NB489_488.out
 have hms34_2 := NB489_490.out
 have hms34_3 := NB489_504.out
 refine skip_ (w1 := ?_) (by rfl) rfl ?_ ?_
 rotate_left
 ·
  go_simp
  rfl
 refine hK.out _ _ ⟨((cell_far (p := ⟨gb489, _, none⟩) NB504_489.out _).trans (((cell_far (p := ⟨gb489, _, none⟩) NB504_489.out _).trans (hHeld.1)))), ((cell_far (p := ⟨gb489, _, none⟩) NB504_489.out _).trans (((cell_far (p := ⟨gb489, _, none⟩) NB504_489.out _).trans (hHeld.2))))⟩ (fun hHeld => ?_)
 clear hK K
 refine one_ (i := 7) (N := none) #[true, true, true, true, true, true, true, true] rfl rfl (zbu HT_.out (by kernel_rfl)) (by decide) (fun K hK => ?_)
 have hs36 : w32.cell? ⟨gb490, 0, none⟩ = some (.slice none 0 0) := (zab BK490.out 0).trans rfl
 have hfs36 := zal BK490.out 0
 have hns36_0 := NB488_490.out
 have hns36_1 := NB489_490.out
 have hns36_3 := NB504_490.out
 have hms36_0 := NB490_488.out
 have hms36_1 := NB490_489.out
 have hms36_3 := NB490_504.out
 have hs38 : w32.cell? ⟨gb490, 1, none⟩ = some (.slice none 0 0) := (zab BK490.out 1).trans rfl
 have hfs38 := zal BK490.out 1
 have hns38_0 := NB488_490.out
 have hns38_1 := NB489_490.out
 have hns38_3 := NB504_490.out
 have hms38_0 := NB490_488.out
 have hms38_1 := NB490_489.out
 have hms38_3 := NB490_504.out
 refine skip_ (w1 := ?_) (by rfl) rfl ?_ ?_
 rotate_left
 ·
  go_simp
  rfl
 refine hK.out _ _ ⟨((cell_far (p := ⟨gb490, _, none⟩) NB504_490.out _).trans (((cell_far (p := ⟨gb490, _, none⟩) NB504_490.out _).trans (hHeld.1)))), ((cell_far (p := ⟨gb490, _, none⟩) NB504_490.out _).trans (((cell_far (p := ⟨gb490, _, none⟩) NB504_490.out _).trans (hHeld.2))))⟩ (fun hHeld => ?_)
 clear hK K
 refine done_ (zdf HT_.out (by kernel_rfl)) ?_
 try go_wp2
 refine bodyPost_ret (results_cc rfl _ _ gb489 gb490 29 32 #[.slice Ao20 t497.length co20, .slice Ao25 t500.length co25] #[.slice Ao35 t511.length co35, .slice Ao37 t514.length co37] (0, 0) (0, 0) _ _ rfl (by (with_reducible repeat (first | refine zaj ?_ _ | refine zai ?_ | refine zah ?_ _)); refine zby ?_ NB489_490.out _; (with_reducible repeat (first | refine zaj ?_ _ | refine zai ?_ | refine zah ?_ _)); refine zby ?_ NB489_490.out _; (with_reducible repeat (first | refine zaj ?_ _ | refine zai ?_ | refine zah ?_ _)); refine zbc (cs := #[.slice Ao20 t497.length co20, .slice none 0 0]) ?_ 1 _ rfl; (with_reducible repeat (first | refine zaj ?_ _ | refine zai ?_ | refine zah ?_ _)); refine zbc (cs := #[.slice none 0 0, .slice none 0 0]) ?_ 0 _ rfl; (with_reducible repeat (first | refine zaj ?_ _ | refine zai ?_ | refine zah ?_ _)); exact BK489.out) Tryz.underlying29 rfl (by kernel_rfl) rfl (by (with_reducible repeat (first | refine zaj ?_ _ | refine zai ?_ | refine zah ?_ _)); refine zbc (cs := #[.slice Ao35 t511.length co35, .slice none 0 0]) ?_ 1 _ rfl; (with_reducible repeat (first | refine zaj ?_ _ | refine zai ?_ | refine zah ?_ _)); refine zbc (cs := #[.slice none 0 0, .slice none 0 0]) ?_ 0 _ rfl; (with_reducible repeat (first | refine zaj ?_ _ | refine zai ?_ | refine zah ?_ _)); refine zby ?_ NB490_489.out _; (with_reducible repeat (first | refine zaj ?_ _ | refine zai ?_ | refine zah ?_ _)); refine zby ?_ NB490_489.out _; (with_reducible repeat (first | refine zaj ?_ _ | refine zai ?_ | refine zah ?_ _)); exact BK490.out) Tryz.underlying32 rfl (by kernel_rfl)) rfl ?_
 exact ⟨_, _, _, _, by first | rfl | (simp [zb7, zb4] <;> rfl) | (simp only [← hji2, ← hji3]; first | rfl | (simp [zb7, zb4] <;> rfl)) | (simp [*, zb7, zb4] <;> rfl), by (with_reducible repeat (first | apply Kd.zbr | apply Kd.zbq | apply Kd.zbt)); exact Kd.zam (Kd.V_far (p := ⟨gb490, 1, none⟩) (Kd.V_far (p := ⟨gb490, 0, none⟩) (Kd.V_far (p := ⟨gb489, 1, none⟩) (Kd.V_far (p := ⟨gb489, 0, none⟩) (Kd.zam (Kd.zam HO499.out (fun k_ hk => (⟨hk, hk.1.1.1.1.2.2.1⟩ : _ ∧ k_ ≠ gb489))) (fun k_ hk => (⟨hk, hk.1.1.1.1.1.2.2.2.1⟩ : _ ∧ k_ ≠ gb490))) (fun _ hk => hk.1.2) (.slice Ao20 t497.length co20)) (fun _ hk => hk.1.2) (.slice Ao25 t500.length co25)) (fun _ hk => hk.2) (.slice Ao35 t511.length co35)) (fun _ hk => hk.2) (.slice Ao37 t514.length co37)) (fun _ hk => ⟨hk.1.1.1.1.1.1.1, ⟨hk.1.1.1.2, hk.1.1.2⟩⟩), by (with_reducible repeat (first | apply Kd.zbr | apply Kd.zbq | apply Kd.zbt)); exact Kd.zam (Kd.V_far (p := ⟨gb490, 1, none⟩) (Kd.V_far (p := ⟨gb490, 0, none⟩) (Kd.V_far (p := ⟨gb489, 1, none⟩) (Kd.V_far (p := ⟨gb489, 0, none⟩) (Kd.zam (Kd.zam HO502.out (fun k_ hk => (⟨hk, hk.1.1.1.1.2.2.1⟩ : _ ∧ k_ ≠ gb489))) (fun k_ hk => (⟨hk, hk.1.1.1.1.1.2.2.2.1⟩ : _ ∧ k_ ≠ gb490))) (fun _ hk => hk.1.2) (.slice Ao20 t497.length co20)) (fun _ hk => hk.1.2) (.slice Ao25 t500.length co25)) (fun _ hk => hk.2) (.slice Ao35 t511.length co35)) (fun _ hk => hk.2) (.slice Ao37 t514.length co37)) (fun _ hk => ⟨hk.1.1.1.1.1.1.1, ⟨hk.1.1.1.2, hk.1.1.2⟩⟩), by (with_reducible repeat (first | apply Kd.zca | apply Kd.zcb | apply Kd.zcl)); exact Kd.zbp (Kd.R_far (p := ⟨gb490, 1, none⟩) (Kd.R_far (p := ⟨gb490, 0, none⟩) (Kd.R_far (p := ⟨gb489, 1, none⟩) (Kd.R_far (p := ⟨gb489, 0, none⟩) (Kd.zdk (Kd.zdk HO513.out BK489.out (by decide)) BK490.out (by decide)) (fun _ hk => hk.1.2) (.slice Ao20 t497.length co20)) (fun _ hk => hk.1.2) (.slice Ao25 t500.length co25)) (fun _ hk => hk.2) (.slice Ao35 t511.length co35)) (fun _ hk => hk.2) (.slice Ao37 t514.length co37)) (fun _ hk => ⟨hk.1.1.1.1.1, hk.1.1.1.1.2⟩), by (with_reducible repeat (first | apply Kd.zca | apply Kd.zcb | apply Kd.zcl)); exact Kd.zbp (Kd.R_far (p := ⟨gb490, 1, none⟩) (Kd.R_far (p := ⟨gb490, 0, none⟩) (Kd.R_far (p := ⟨gb489, 1, none⟩) (Kd.R_far (p := ⟨gb489, 0, none⟩) (Kd.zdk (Kd.zdk HO516.out BK489.out (by decide)) BK490.out (by decide)) (fun _ hk => hk.1.2) (.slice Ao20 t497.length co20)) (fun _ hk => hk.1.2) (.slice Ao25 t500.length co25)) (fun _ hk => hk.2) (.slice Ao35 t511.length co35)) (fun _ hk => hk.2) (.slice Ao37 t514.length co37)) (fun _ hk => ⟨hk.1.1.1.1.1, hk.1.1.1.1.2⟩), zB HB⟩
end Go.Proofs.YthiicmanfpmipaaGreatDoor.P
end
