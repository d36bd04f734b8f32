-- Written by a program of this session (wip/tools/shake.py) out of its own texts and of the kit's printed ones; not trusted: Lean checks it.
import Derived.Test.YthiicmanfpmipaaGreatDoorZFillScales8
set_option maxHeartbeats 8000000
set_option maxRecDepth 100000
set_option linter.unusedVariables false
set_option linter.unusedSimpArgs false
section
namespace Go.Proofs.YthiicmanfpmipaaGreatDoor.P
open Go.RowKit Go.Proofs.YthiicmanfpmipaaGreatDoorW.PrintWords Go.Proofs.YthiicmanfpmipaaGreatDoorW.PrintLast Go.Proofs.YthiicmanfpmipaaGreatDoorW.PrintMore
attribute [local go_sem] zci zcj zcs zcr zb9 zca zcg zch
def zbq.f (k : Nat)  : Option (Bool) := (zc3.f k 2).bind fun bt375 => ((zbu.f k bt375.1 bt375.2 (([1, 1, 8] : List Int)) (([1, 1, 1] : List Int))).bind fun bt387 => (if bt387.2 = 0 then (if (bt387.1.length : Int) = 3 then (if 0 < (bt387.1.length : Int) then ((zay.f k ((rd_T29 bt387.1 0).f0) ((rd_T29 bt387.1 0).f1)).bind fun t392 => (if t392.toList = ([49, 47, 50] : List UInt8) then (if 2 < (bt387.1.length : Int) then ((zay.f k ((rd_T29 bt387.1 2).f0) ((rd_T29 bt387.1 2).f1)).bind fun t394 => (some (t394.toList == ([49] : List UInt8)))) else (none)) else (some false))) else (none)) else (some false)) else (some false)))
theorem zbq.calls (k : Nat)  (r : Bool) (w : World) (hG : Glob w) (h : zbq.f k  = some r) :
  Calls Tryz.prog 14 #[] w fun e w' => e = .returned (.bool r) ∧ Below w.heap.size w w' := by
 have hu29 := Tryz.underlying29
 have HG := zA hG
 clear hG
 have HB := zA (Below.refl w.heap.size w)
 have H : ((zc3.f k 2).bind fun bt375 => ((zbu.f k bt375.1 bt375.2 (([1, 1, 8] : List Int)) (([1, 1, 1] : List Int))).bind fun bt387 => (if bt387.2 = 0 then (if (bt387.1.length : Int) = 3 then (if 0 < (bt387.1.length : Int) then ((zay.f k ((rd_T29 bt387.1 0).f0) ((rd_T29 bt387.1 0).f1)).bind fun t392 => (if t392.toList = ([49, 47, 50] : List UInt8) then (if 2 < (bt387.1.length : Int) then ((zay.f k ((rd_T29 bt387.1 2).f0) ((rd_T29 bt387.1 2).f1)).bind fun t394 => (some (t394.toList == ([49] : List UInt8)))) else (none)) else (some false))) else (none)) else (some false)) else (some false)))) = some r := h
 clear h
 replace H := zO H
 obtain ⟨⟨t375, t378⟩, A10, H⟩ := H
 try dsimp only at H
 have A1 := zA A10
 clear A10
 obtain ⟨y381, hy381⟩ : ∃ y_ : List Int, y_ = (([1, 1, 8] : List Int)) := ⟨_, rfl⟩
 replace H : ((zbu.f k t375 t378 y381 (([1, 1, 1] : List Int))).bind fun bt387 => (if bt387.2 = 0 then (if (bt387.1.length : Int) = 3 then (if 0 < (bt387.1.length : Int) then ((zay.f k ((rd_T29 bt387.1 0).f0) ((rd_T29 bt387.1 0).f1)).bind fun t392 => (if t392.toList = ([49, 47, 50] : List UInt8) then (if 2 < (bt387.1.length : Int) then ((zay.f k ((rd_T29 bt387.1 2).f0) ((rd_T29 bt387.1 2).f1)).bind fun t394 => (some (t394.toList == ([49] : List UInt8)))) else (none)) else (some false))) else (none)) else (some false)) else (some false))) = some r := by first | (rw [hy381]; with_reducible exact H) | (have H2_ := (Option.bind_some _ _).symm.trans H; rw [hy381]; with_reducible exact H2_) | (have H2_ := (Option.bind_some _ _).symm.trans H; with_reducible exact H2_) | with_reducible exact H | (rw [hy381]; exact H) | exact H
 have Ny381 := zA hy381
 clear hy381
 obtain ⟨y384, hy384⟩ : ∃ y_ : List Int, y_ = (([1, 1, 1] : List Int)) := ⟨_, rfl⟩
 replace H : ((zbu.f k t375 t378 y381 y384).bind fun bt387 => (if bt387.2 = 0 then (if (bt387.1.length : Int) = 3 then (if 0 < (bt387.1.length : Int) then ((zay.f k ((rd_T29 bt387.1 0).f0) ((rd_T29 bt387.1 0).f1)).bind fun t392 => (if t392.toList = ([49, 47, 50] : List UInt8) then (if 2 < (bt387.1.length : Int) then ((zay.f k ((rd_T29 bt387.1 2).f0) ((rd_T29 bt387.1 2).f1)).bind fun t394 => (some (t394.toList == ([49] : List UInt8)))) else (none)) else (some false))) else (none)) else (some false)) else (some false))) = some r := by first | (rw [hy384]; with_reducible exact H) | (have H2_ := (Option.bind_some _ _).symm.trans H; rw [hy384]; with_reducible exact H2_) | (have H2_ := (Option.bind_some _ _).symm.trans H; with_reducible exact H2_) | with_reducible exact H | (rw [hy384]; exact H) | exact H
 have Ny384 := zA hy384
 clear hy384
 replace H := zO H
 obtain ⟨⟨t387, t390⟩, A20, H⟩ := H
 try dsimp only at H
 have A2 := zA A20
 clear A20
 by_cases c3 : t390 = 0
 ·
  rw [if_pos c3] at H
  have c3b0 : (t390 == 0) = true := beq_iff_eq.mpr c3
  have c3b1 : (t390 != 0) = false := bne_eq_false_iff_eq.mpr c3
  clear c3
  by_cases c4 : (t387.length : Int) = 3
  ·
   rw [if_pos c4] at H
   have c4b0 : ((t387.length : Int) == 3) = true := beq_iff_eq.mpr c4
   have c4b1 : ((t387.length : Int) != 3) = false := bne_eq_false_iff_eq.mpr c4
   clear c4
   by_cases c5 : 0 < (t387.length : Int)
   ·
    rw [if_pos c5] at H
    have c5b0 : decide (0 < (t387.length : Int)) = true := decide_eq_true c5
    have c5b1 : decide (0 < t387.length) = true := decide_eq_true (by omega)
    clear c5
    replace H := zO H
    obtain ⟨t392, A60, H⟩ := H
    try dsimp only at H
    have A6 := zA A60
    clear A60
    by_cases c7 : t392.toList = ([49, 47, 50] : List UInt8)
    ·
     rw [if_pos c7] at H
     have c7b0 : (t392.toList == ([49, 47, 50] : List UInt8)) = true := beq_iff_eq.mpr c7
     have c7b1 : (t392.toList != ([49, 47, 50] : List UInt8)) = false := bne_eq_false_iff_eq.mpr c7
     clear c7
     by_cases c8 : 2 < (t387.length : Int)
     ·
      rw [if_pos c8] at H
      have c8b0 : decide (2 < (t387.length : Int)) = true := decide_eq_true c8
      have c8b1 : decide (2 < t387.length) = true := decide_eq_true (by omega)
      clear c8
      replace H := zO H
      obtain ⟨t394, A90, H⟩ := H
      try dsimp only at H
      have A9 := zA A90
      clear A90
      obtain rfl := Option.some.inj H
      go_enter Tryz.func14, Tryz.ntmps14
      go_wp2_with (first | ((with_reducible refine zad (f := 18) rfl ?_); refine zaz (some 4) rfl rfl Tryz.func18 (by kernel_rfl) rfl #[.int .i64 2] rfl (zE) ?_; (with_reducible refine (zc3.calls k 2 t375 t378 _ A1.out).mono ?_); rintro e w10 ⟨v376, v379, rfl, ho0, ho1, hb⟩; refine ⟨_, rfl, ?_⟩; have n0_ := zA (Kd.za6 (Kd.zaq (ok' := fun k_ => True) ho0 (fun k_ hk_ => trivial)) (za (zB HB))); have n1_ := zA (Kd.za6 (Kd.zaq (ok' := fun k_ => True) ho1 (fun k_ hk_ => trivial)) (za (zB HB))); have n2_ := zA (zab (zB HB) hb); clear HB; have HO377 := n0_; have HO380 := n1_; have HB := n2_; clear n0_ n1_ n2_; (try clear hb); (try clear hb2); (try clear hk); (try clear hi); (try clear ho0); (try clear ho1)) | ((with_reducible refine za4 (N := 5) rfl ?_); (try (refine zcb (by rfl) ?_; dsimp only)); refine Kd.R_lit (Kd.int .i64) _ 3 ?hg (N := 5) ?hd (xs := ([1, 1, 8] : List Int)) (inner := [.int .i64 1, .int .i64 1, .int .i64 8]) (ok := fun _ => True) (okp := fun _ => True) ?hr ?hp (fun _ hk => hk) trivial (Below.refl _ _) (Nat.le_refl _) (by simp) ?_; (case hd => rfl); (case hg => rfl); (case hr => first | (go_simp; done) | (go_simp; rfl)); (case hp => exact (Reps.one (show Kd.M (Kd.int .i64) _ _ _ 1 [.int .i64 1] from rfl) (Reps.one (show Kd.M (Kd.int .i64) _ _ _ 1 [.int .i64 1] from rfl) (Reps.one (show Kd.M (Kd.int .i64) _ _ _ 8 [.int .i64 8] from rfl) (Reps.none _ _))))); intro v382 w11 ho12 hb hg_ hnew_; clear hg_ hnew_; (first | rw [← Ny381.out] at ho12 | (simp only [Int.reduceToNat] at ho12; rw [← Ny381.out] at ho12)); have n0_ := zA (Kd.zb2 (zV HO377) (Kd.zbg ho12) hb); have n1_ := zA (Kd.zb2 (zV HO380) (Kd.zbg ho12) hb); have n2_ := zA (Kd.zbo ho12 (za (zB HB))); have n3_ := zA (zab (zB HB) hb); clear HO377 HO380 HB; have HO377 := n0_; have HO380 := n1_; have HO383 := n2_; have HB := n3_; clear n0_ n1_ n2_ n3_ hb ho12) | ((with_reducible refine za4 (N := 6) rfl ?_); (try (refine zcb (by rfl) ?_; dsimp only)); refine Kd.R_lit (Kd.int .i64) _ 3 ?hg (N := 6) ?hd (xs := ([1, 1, 1] : List Int)) (inner := [.int .i64 1, .int .i64 1, .int .i64 1]) (ok := fun _ => True) (okp := fun _ => True) ?hr ?hp (fun _ hk => hk) trivial (Below.refl _ _) (Nat.le_refl _) (by simp) ?_; (case hd => rfl); (case hg => rfl); (case hr => first | (go_simp; done) | (go_simp; rfl)); (case hp => exact (Reps.one (show Kd.M (Kd.int .i64) _ _ _ 1 [.int .i64 1] from rfl) (Reps.one (show Kd.M (Kd.int .i64) _ _ _ 1 [.int .i64 1] from rfl) (Reps.one (show Kd.M (Kd.int .i64) _ _ _ 1 [.int .i64 1] from rfl) (Reps.none _ _))))); intro v385 w13 ho14 hb hg_ hnew_; clear hg_ hnew_; (first | rw [← Ny384.out] at ho14 | (simp only [Int.reduceToNat] at ho14; rw [← Ny384.out] at ho14)); have n0_ := zA (Kd.zb2 (zV HO377) (Kd.zbg ho14) hb); have n1_ := zA (Kd.zb2 (zV HO380) (Kd.zbg ho14) hb); have n2_ := zA (Kd.zb1 (zR HO383) (Kd.zbg ho14) hb); have n3_ := zA (Kd.zbo (Kd.zcl ho14 (Kd.R_lt (zR HO383))) (za (zB HB))); have n4_ := zA (zab (zB HB) hb); clear HO377 HO380 HO383 HB; have HO377 := n0_; have HO380 := n1_; have HO383 := n2_; have HO386 := n3_; have HB := n4_; clear n0_ n1_ n2_ n3_ n4_ hb ho14; obtain ⟨Ao15, co15, eo15⟩ := Kd.za9 HO377.out; subst eo15; obtain ⟨Ao16, co16, eo16⟩ := Kd.za9 HO380.out; subst eo16; obtain ⟨Ao17, co17, eo17⟩ := Kd.zbm HO383.out; subst eo17; obtain ⟨Ao18, co18, eo18⟩ := Kd.zbm HO386.out; subst eo18) | ((with_reducible refine zad (f := 16) rfl ?_); refine zaz (some 7) rfl rfl Tryz.func16 (by kernel_rfl) rfl #[.agg #[.slice Ao15 t375.length co15, .slice Ao16 t378.length co16], .slice Ao17 y381.length co17, .slice Ao18 y384.length co18] rfl (zE) ?_; (with_reducible refine (zbu.calls k _ _ t375 _ _ t378 _ _ y381 _ _ y384 t387 t390 _ ?side1 ?side2 ?side3 ?side4 ?side5 ?side6 ?side7 ?side8 A2.out).mono ?_); (case side1 => exact zJ (Kd.zan HO377.out).2.2); (case side2 => exact (Kd.zan HO377.out).2.1); (case side3 => exact zJ (Kd.zan HO380.out).2.2); (case side4 => exact (Kd.zan HO380.out).2.1); (case side5 => exact zJ (Kd.zav HO383.out).2.2); (case side6 => exact (Kd.zav HO383.out).2.1); (case side7 => exact zJ (Kd.zav HO386.out).2.2); (case side8 => exact (Kd.zav HO386.out).2.1); rintro e w19 ⟨v388, rfl, ho0, hb⟩; refine ⟨_, rfl, ?_⟩; have n4_ := zA (Kd.N_lower (Kd.zdh (ok' := fun k_ => some k_ ≠ (.slice Ao17 y381.length co17 : Value).ownBlock ∧ some k_ ≠ (.slice Ao18 y384.length co18 : Value).ownBlock) ho0 (fun k_ hk_ => ⟨(Kd.fresh' (Kd.R_lt (zR HO383)) k_ hk_), (Kd.fresh' (Kd.R_lt (zR HO386)) k_ hk_)⟩)) (za (zB HB))); have n5_ := zA (zab (zB HB) hb); clear HB; have HO389 := n4_; have HB := n5_; clear n4_ n5_; (try clear hb); (try clear hb2); (try clear hk); (try clear hi); (try clear ho0); obtain ⟨Ao20, co20, eo20⟩ := Kd.N_slice HO389.out; subst eo20; have p391 : 0 ≤ (0 : Int) := (by omega); have q391 : 0 < (t387.length : Int) := of_decide_eq_true (by first | (with_reducible assumption) | assumption); obtain ⟨ad391, A391_0, c391_0, A391_1, c391_1, e391, hx391_0, hx391_1, hl391_0, hi391_0, hl391_1, hi391_1⟩ := at_T29 (Kd.zde HO389.out).2.2 0 p391 q391; cases e391; obtain ⟨ce391, hce391, hMe391, hcc391⟩ := Kd.N_get HO389.out z29 0 p391 (by first | exact q391 | exact of_decide_eq_true (by first | (with_reducible assumption) | assumption) | (have e_ := (Kd.zde HO389.out).1; omega)); obtain ⟨ua391_0, uc391_0, ua391_1, uc391_1, rfl, ul391_0, ge391_0, ul391_1, ge391_1⟩ := k29_openF hMe391; have hv391_0 := hcc391 0 _ rfl; rw [Nat.add_zero] at hv391_0; replace hv391_0 := Option.some.inj (hv391_0.symm.trans hx391_0); injection hv391_0 with hva_ hvn_ hvc_; rw [hva_] at ge391_0; rw [hvc_] at ul391_0; have HL391_0 := zA (show Kd.V (Kd.int .u64) 82 _ w.heap.size _ _ ((rd_T29 t387 0).f0) from Kd.V_mk ul391_0 ge391_0); clear hva_ hvn_ hvc_ ge391_0 ul391_0; have hv391_1 := hcc391 1 _ rfl; rw [add_field _ _ 1 (by omega)] at hv391_1; replace hv391_1 := Option.some.inj (hv391_1.symm.trans hx391_1); injection hv391_1 with hva_ hvn_ hvc_; rw [hva_] at ge391_1; rw [hvc_] at ul391_1; have HL391_1 := zA (show Kd.V (Kd.int .u64) 82 _ w.heap.size _ _ ((rd_T29 t387 0).f1) from Kd.V_mk ul391_1 ge391_1); clear hva_ hvn_ hvc_ ge391_1 ul391_1 hcc391 hce391; have qi391 : (0 < t387.length) = True := eq_true (by omega); (try rw [show ((0 : Int)).toNat = 0 from rfl] at hx391_0); (try rw [show 0 * 2 = 0 from rfl] at hx391_0); (try rw [Addr.add_zero'] at hx391_0); (try rw [show ((0 : Int)).toNat = 0 from rfl] at hx391_1); (try rw [show 0 * 2 = 0 from rfl] at hx391_1); (try rw [Addr.add_zero'] at hx391_1); have HR391_0 := zA hi391_0; have HC391_0 := zA hl391_0; clear hi391_0 hl391_0; have HR391_1 := zA hi391_1; have HC391_1 := zA hl391_1; clear hi391_1 hl391_1; replace p391 := eq_true p391; replace q391 := eq_true q391) | (go_at_call 33; (with_reducible refine (zay.calls k _ _ ((rd_T29 t387 0).f0) _ _ ((rd_T29 t387 0).f1) t392 _ ?side1 ?side2 ?side3 ?side4 ?side5 A6.out).mono ?_); (case side1 => repeat (first | exact (by repeat (first | (with_reducible exact HR391_0.out) | (with_reducible refine Kd.zby ?_ _) | (with_reducible refine Kd.zb0 ?_ _) | (with_reducible refine Kd.zck ?_) | exact HR391_0.out)) | (with_reducible refine Kd.zby ?_ _) | (with_reducible refine Kd.zb0 ?_ _) | (with_reducible refine Kd.zck ?_))); (case side2 => exact HC391_0.out); (case side3 => repeat (first | exact (by repeat (first | (with_reducible exact HR391_1.out) | (with_reducible refine Kd.zby ?_ _) | (with_reducible refine Kd.zb0 ?_ _) | (with_reducible refine Kd.zck ?_) | exact HR391_1.out)) | (with_reducible refine Kd.zby ?_ _) | (with_reducible refine Kd.zb0 ?_ _) | (with_reducible refine Kd.zck ?_))); (case side4 => exact HC391_1.out); (case side5 => exact Glob.below HG.out (zB HB)); rintro e w21 ⟨rfl, hb⟩; have n4_ := zA (Kd.N_below (zN HO389) hb); have n9_ := zA (zab (zB HB) hb); clear HO389 HB; have HO389 := n4_; have HB := n9_; clear n4_ n9_; (try clear hb); (try clear hb2); (try clear hk); (try clear hi); have p393 : 0 ≤ (2 : Int) := (by omega); have q393 : 2 < (t387.length : Int) := of_decide_eq_true (by first | (with_reducible assumption) | assumption); obtain ⟨ad393, A393_0, c393_0, A393_1, c393_1, e393, hx393_0, hx393_1, hl393_0, hi393_0, hl393_1, hi393_1⟩ := at_T29 (Kd.zde HO389.out).2.2 2 p393 q393; obtain rfl : ad391 = ad393 := (by injection e393); obtain ⟨ce393, hce393, hMe393, hcc393⟩ := Kd.N_get HO389.out z29 2 p393 (by first | exact q393 | exact of_decide_eq_true (by first | (with_reducible assumption) | assumption) | (have e_ := (Kd.zde HO389.out).1; omega)); obtain ⟨ua393_0, uc393_0, ua393_1, uc393_1, rfl, ul393_0, ge393_0, ul393_1, ge393_1⟩ := k29_openF hMe393; have hv393_0 := hcc393 0 _ rfl; rw [Nat.add_zero] at hv393_0; replace hv393_0 := Option.some.inj (hv393_0.symm.trans hx393_0); injection hv393_0 with hva_ hvn_ hvc_; rw [hva_] at ge393_0; rw [hvc_] at ul393_0; have HL393_0 := zA (show Kd.V (Kd.int .u64) 82 _ w.heap.size _ _ ((rd_T29 t387 2).f0) from Kd.V_mk ul393_0 ge393_0); clear hva_ hvn_ hvc_ ge393_0 ul393_0; have hv393_1 := hcc393 1 _ rfl; rw [add_field _ _ 1 (by omega)] at hv393_1; replace hv393_1 := Option.some.inj (hv393_1.symm.trans hx393_1); injection hv393_1 with hva_ hvn_ hvc_; rw [hva_] at ge393_1; rw [hvc_] at ul393_1; have HL393_1 := zA (show Kd.V (Kd.int .u64) 82 _ w.heap.size _ _ ((rd_T29 t387 2).f1) from Kd.V_mk ul393_1 ge393_1); clear hva_ hvn_ hvc_ ge393_1 ul393_1 hcc393 hce393; (try simp only [show (2 : Int).toNat = 2 from rfl, Nat.reduceMul, Nat.reduceEqDiff, Go.Addr.add, ↓reduceIte] at hx393_0); (try simp only [show (2 : Int).toNat = 2 from rfl, Nat.reduceMul, Nat.reduceEqDiff, Go.Addr.add, ↓reduceIte] at hx393_1); have qi393 : (2 < t387.length) = True := eq_true (by omega); (try rw [show ((2 : Int)).toNat = 2 from rfl] at hx393_0); (try rw [show 2 * 2 = 4 from rfl] at hx393_0); (try rw [show ((2 : Int)).toNat = 2 from rfl] at hx393_1); (try rw [show 2 * 2 = 4 from rfl] at hx393_1); have HR393_0 := zA hi393_0; have HC393_0 := zA hl393_0; clear hi393_0 hl393_0; have HR393_1 := zA hi393_1; have HC393_1 := zA hl393_1; clear hi393_1 hl393_1; replace p393 := eq_true p393; replace q393 := eq_true q393) | (go_at_call 33; (with_reducible refine (zay.calls k _ _ ((rd_T29 t387 2).f0) _ _ ((rd_T29 t387 2).f1) t394 _ ?side1 ?side2 ?side3 ?side4 ?side5 A9.out).mono ?_); (case side1 => repeat (first | exact (by repeat (first | (with_reducible exact HR393_0.out) | (with_reducible refine Kd.zby ?_ _) | (with_reducible refine Kd.zb0 ?_ _) | (with_reducible refine Kd.zck ?_) | exact HR393_0.out)) | (with_reducible refine Kd.zby ?_ _) | (with_reducible refine Kd.zb0 ?_ _) | (with_reducible refine Kd.zck ?_))); (case side2 => exact HC393_0.out); (case side3 => repeat (first | exact (by repeat (first | (with_reducible exact HR393_1.out) | (with_reducible refine Kd.zby ?_ _) | (with_reducible refine Kd.zb0 ?_ _) | (with_reducible refine Kd.zck ?_) | exact HR393_1.out)) | (with_reducible refine Kd.zby ?_ _) | (with_reducible refine Kd.zb0 ?_ _) | (with_reducible refine Kd.zck ?_))); (case side4 => exact HC393_1.out); (case side5 => exact Glob.below HG.out (zB HB)); rintro e w22 ⟨rfl, hb⟩; have n13_ := zA (zab (zB HB) hb); clear HB; have HB := n13_; clear n13_; (try clear hb); (try clear hb2); (try clear hk); (try clear hi)))
      go_ret
      exact ⟨zW, zB HB⟩
     ·
      rw [if_neg c8] at H
      exact absurd H (by simp)
    ·
     rw [if_neg c7] at H
     have c7b0 : (t392.toList == ([49, 47, 50] : List UInt8)) = false := beq_eq_false_iff_ne.mpr c7
     have c7b1 : (t392.toList != ([49, 47, 50] : List UInt8)) = true := bne_iff_ne.mpr c7
     obtain rfl := Option.some.inj H
     go_enter Tryz.func14, Tryz.ntmps14
     go_wp2_with (first | ((with_reducible refine zad (f := 18) rfl ?_); refine zaz (some 4) rfl rfl Tryz.func18 (by kernel_rfl) rfl #[.int .i64 2] rfl (zE) ?_; (with_reducible refine (zc3.calls k 2 t375 t378 _ A1.out).mono ?_); rintro e w23 ⟨v376, v379, rfl, ho0, ho1, hb⟩; refine ⟨_, rfl, ?_⟩; have n0_ := zA (Kd.za6 (Kd.zaq (ok' := fun k_ => True) ho0 (fun k_ hk_ => trivial)) (za (zB HB))); have n1_ := zA (Kd.za6 (Kd.zaq (ok' := fun k_ => True) ho1 (fun k_ hk_ => trivial)) (za (zB HB))); have n2_ := zA (zab (zB HB) hb); clear HB; have HO377 := n0_; have HO380 := n1_; have HB := n2_; clear n0_ n1_ n2_; (try clear hb); (try clear hb2); (try clear hk); (try clear hi); (try clear ho0); (try clear ho1)) | ((with_reducible refine za4 (N := 5) rfl ?_); (try (refine zcb (by rfl) ?_; dsimp only)); refine Kd.R_lit (Kd.int .i64) _ 3 ?hg (N := 5) ?hd (xs := ([1, 1, 8] : List Int)) (inner := [.int .i64 1, .int .i64 1, .int .i64 8]) (ok := fun _ => True) (okp := fun _ => True) ?hr ?hp (fun _ hk => hk) trivial (Below.refl _ _) (Nat.le_refl _) (by simp) ?_; (case hd => rfl); (case hg => rfl); (case hr => first | (go_simp; done) | (go_simp; rfl)); (case hp => exact (Reps.one (show Kd.M (Kd.int .i64) _ _ _ 1 [.int .i64 1] from rfl) (Reps.one (show Kd.M (Kd.int .i64) _ _ _ 1 [.int .i64 1] from rfl) (Reps.one (show Kd.M (Kd.int .i64) _ _ _ 8 [.int .i64 8] from rfl) (Reps.none _ _))))); intro v382 w24 ho25 hb hg_ hnew_; clear hg_ hnew_; (first | rw [← Ny381.out] at ho25 | (simp only [Int.reduceToNat] at ho25; rw [← Ny381.out] at ho25)); have n0_ := zA (Kd.zb2 (zV HO377) (Kd.zbg ho25) hb); have n1_ := zA (Kd.zb2 (zV HO380) (Kd.zbg ho25) hb); have n2_ := zA (Kd.zbo ho25 (za (zB HB))); have n3_ := zA (zab (zB HB) hb); clear HO377 HO380 HB; have HO377 := n0_; have HO380 := n1_; have HO383 := n2_; have HB := n3_; clear n0_ n1_ n2_ n3_ hb ho25) | ((with_reducible refine za4 (N := 6) rfl ?_); (try (refine zcb (by rfl) ?_; dsimp only)); refine Kd.R_lit (Kd.int .i64) _ 3 ?hg (N := 6) ?hd (xs := ([1, 1, 1] : List Int)) (inner := [.int .i64 1, .int .i64 1, .int .i64 1]) (ok := fun _ => True) (okp := fun _ => True) ?hr ?hp (fun _ hk => hk) trivial (Below.refl _ _) (Nat.le_refl _) (by simp) ?_; (case hd => rfl); (case hg => rfl); (case hr => first | (go_simp; done) | (go_simp; rfl)); (case hp => exact (Reps.one (show Kd.M (Kd.int .i64) _ _ _ 1 [.int .i64 1] from rfl) (Reps.one (show Kd.M (Kd.int .i64) _ _ _ 1 [.int .i64 1] from rfl) (Reps.one (show Kd.M (Kd.int .i64) _ _ _ 1 [.int .i64 1] from rfl) (Reps.none _ _))))); intro v385 w26 ho27 hb hg_ hnew_; clear hg_ hnew_; (first | rw [← Ny384.out] at ho27 | (simp only [Int.reduceToNat] at ho27; rw [← Ny384.out] at ho27)); have n0_ := zA (Kd.zb2 (zV HO377) (Kd.zbg ho27) hb); have n1_ := zA (Kd.zb2 (zV HO380) (Kd.zbg ho27) hb); have n2_ := zA (Kd.zb1 (zR HO383) (Kd.zbg ho27) hb); have n3_ := zA (Kd.zbo (Kd.zcl ho27 (Kd.R_lt (zR HO383))) (za (zB HB))); have n4_ := zA (zab (zB HB) hb); clear HO377 HO380 HO383 HB; have HO377 := n0_; have HO380 := n1_; have HO383 := n2_; have HO386 := n3_; have HB := n4_; clear n0_ n1_ n2_ n3_ n4_ hb ho27; obtain ⟨Ao28, co28, eo28⟩ := Kd.za9 HO377.out; subst eo28; obtain ⟨Ao29, co29, eo29⟩ := Kd.za9 HO380.out; subst eo29; obtain ⟨Ao30, co30, eo30⟩ := Kd.zbm HO383.out; subst eo30; obtain ⟨Ao31, co31, eo31⟩ := Kd.zbm HO386.out; subst eo31) | ((with_reducible refine zad (f := 16) rfl ?_); refine zaz (some 7) rfl rfl Tryz.func16 (by kernel_rfl) rfl #[.agg #[.slice Ao28 t375.length co28, .slice Ao29 t378.length co29], .slice Ao30 y381.length co30, .slice Ao31 y384.length co31] rfl (zE) ?_; (with_reducible refine (zbu.calls k _ _ t375 _ _ t378 _ _ y381 _ _ y384 t387 t390 _ ?side1 ?side2 ?side3 ?side4 ?side5 ?side6 ?side7 ?side8 A2.out).mono ?_); (case side1 => exact zJ (Kd.zan HO377.out).2.2); (case side2 => exact (Kd.zan HO377.out).2.1); (case side3 => exact zJ (Kd.zan HO380.out).2.2); (case side4 => exact (Kd.zan HO380.out).2.1); (case side5 => exact zJ (Kd.zav HO383.out).2.2); (case side6 => exact (Kd.zav HO383.out).2.1); (case side7 => exact zJ (Kd.zav HO386.out).2.2); (case side8 => exact (Kd.zav HO386.out).2.1); rintro e w32 ⟨v388, rfl, ho0, hb⟩; refine ⟨_, rfl, ?_⟩; have n4_ := zA (Kd.N_lower (Kd.zdh (ok' := fun k_ => some k_ ≠ (.slice Ao30 y381.length co30 : Value).ownBlock ∧ some k_ ≠ (.slice Ao31 y384.length co31 : Value).ownBlock) ho0 (fun k_ hk_ => ⟨(Kd.fresh' (Kd.R_lt (zR HO383)) k_ hk_), (Kd.fresh' (Kd.R_lt (zR HO386)) k_ hk_)⟩)) (za (zB HB))); have n5_ := zA (zab (zB HB) hb); clear HB; have HO389 := n4_; have HB := n5_; clear n4_ n5_; (try clear hb); (try clear hb2); (try clear hk); (try clear hi); (try clear ho0); obtain ⟨Ao33, co33, eo33⟩ := Kd.N_slice HO389.out; subst eo33; have p391 : 0 ≤ (0 : Int) := (by omega); have q391 : 0 < (t387.length : Int) := of_decide_eq_true (by first | (with_reducible assumption) | assumption); obtain ⟨ad391, A391_0, c391_0, A391_1, c391_1, e391, hx391_0, hx391_1, hl391_0, hi391_0, hl391_1, hi391_1⟩ := at_T29 (Kd.zde HO389.out).2.2 0 p391 q391; cases e391; obtain ⟨ce391, hce391, hMe391, hcc391⟩ := Kd.N_get HO389.out z29 0 p391 (by first | exact q391 | exact of_decide_eq_true (by first | (with_reducible assumption) | assumption) | (have e_ := (Kd.zde HO389.out).1; omega)); obtain ⟨ua391_0, uc391_0, ua391_1, uc391_1, rfl, ul391_0, ge391_0, ul391_1, ge391_1⟩ := k29_openF hMe391; have hv391_0 := hcc391 0 _ rfl; rw [Nat.add_zero] at hv391_0; replace hv391_0 := Option.some.inj (hv391_0.symm.trans hx391_0); injection hv391_0 with hva_ hvn_ hvc_; rw [hva_] at ge391_0; rw [hvc_] at ul391_0; have HL391_0 := zA (show Kd.V (Kd.int .u64) 82 _ w.heap.size _ _ ((rd_T29 t387 0).f0) from Kd.V_mk ul391_0 ge391_0); clear hva_ hvn_ hvc_ ge391_0 ul391_0; have hv391_1 := hcc391 1 _ rfl; rw [add_field _ _ 1 (by omega)] at hv391_1; replace hv391_1 := Option.some.inj (hv391_1.symm.trans hx391_1); injection hv391_1 with hva_ hvn_ hvc_; rw [hva_] at ge391_1; rw [hvc_] at ul391_1; have HL391_1 := zA (show Kd.V (Kd.int .u64) 82 _ w.heap.size _ _ ((rd_T29 t387 0).f1) from Kd.V_mk ul391_1 ge391_1); clear hva_ hvn_ hvc_ ge391_1 ul391_1 hcc391 hce391; have qi391 : (0 < t387.length) = True := eq_true (by omega); (try rw [show ((0 : Int)).toNat = 0 from rfl] at hx391_0); (try rw [show 0 * 2 = 0 from rfl] at hx391_0); (try rw [Addr.add_zero'] at hx391_0); (try rw [show ((0 : Int)).toNat = 0 from rfl] at hx391_1); (try rw [show 0 * 2 = 0 from rfl] at hx391_1); (try rw [Addr.add_zero'] at hx391_1); have HR391_0 := zA hi391_0; have HC391_0 := zA hl391_0; clear hi391_0 hl391_0; have HR391_1 := zA hi391_1; have HC391_1 := zA hl391_1; clear hi391_1 hl391_1; replace p391 := eq_true p391; replace q391 := eq_true q391) | (go_at_call 33; (with_reducible refine (zay.calls k _ _ ((rd_T29 t387 0).f0) _ _ ((rd_T29 t387 0).f1) t392 _ ?side1 ?side2 ?side3 ?side4 ?side5 A6.out).mono ?_); (case side1 => repeat (first | exact (by repeat (first | (with_reducible exact HR391_0.out) | (with_reducible refine Kd.zby ?_ _) | (with_reducible refine Kd.zb0 ?_ _) | (with_reducible refine Kd.zck ?_) | exact HR391_0.out)) | (with_reducible refine Kd.zby ?_ _) | (with_reducible refine Kd.zb0 ?_ _) | (with_reducible refine Kd.zck ?_))); (case side2 => exact HC391_0.out); (case side3 => repeat (first | exact (by repeat (first | (with_reducible exact HR391_1.out) | (with_reducible refine Kd.zby ?_ _) | (with_reducible refine Kd.zb0 ?_ _) | (with_reducible refine Kd.zck ?_) | exact HR391_1.out)) | (with_reducible refine Kd.zby ?_ _) | (with_reducible refine Kd.zb0 ?_ _) | (with_reducible refine Kd.zck ?_))); (case side4 => exact HC391_1.out); (case side5 => exact Glob.below HG.out (zB HB)); rintro e w34 ⟨rfl, hb⟩; have n9_ := zA (zab (zB HB) hb); clear HB; have HB := n9_; clear n9_; (try clear hb); (try clear hb2); (try clear hk); (try clear hi)))
     go_ret
     exact ⟨zW, zB HB⟩
   ·
    rw [if_neg c5] at H
    exact absurd H (by simp)
  ·
   rw [if_neg c4] at H
   have c4b0 : ((t387.length : Int) == 3) = false := beq_eq_false_iff_ne.mpr c4
   have c4b1 : ((t387.length : Int) != 3) = true := bne_iff_ne.mpr c4
   obtain rfl := Option.some.inj H
   go_enter Tryz.func14, Tryz.ntmps14
   go_wp2_with (first | ((with_reducible refine zad (f := 18) rfl ?_); refine zaz (some 4) rfl rfl Tryz.func18 (by kernel_rfl) rfl #[.int .i64 2] rfl (zE) ?_; (with_reducible refine (zc3.calls k 2 t375 t378 _ A1.out).mono ?_); rintro e w35 ⟨v376, v379, rfl, ho0, ho1, hb⟩; refine ⟨_, rfl, ?_⟩; have n0_ := zA (Kd.za6 (Kd.zaq (ok' := fun k_ => True) ho0 (fun k_ hk_ => trivial)) (za (zB HB))); have n1_ := zA (Kd.za6 (Kd.zaq (ok' := fun k_ => True) ho1 (fun k_ hk_ => trivial)) (za (zB HB))); have n2_ := zA (zab (zB HB) hb); clear HB; have HO377 := n0_; have HO380 := n1_; have HB := n2_; clear n0_ n1_ n2_; (try clear hb); (try clear hb2); (try clear hk); (try clear hi); (try clear ho0); (try clear ho1)) | ((with_reducible refine za4 (N := 5) rfl ?_); (try (refine zcb (by rfl) ?_; dsimp only)); refine Kd.R_lit (Kd.int .i64) _ 3 ?hg (N := 5) ?hd (xs := ([1, 1, 8] : List Int)) (inner := [.int .i64 1, .int .i64 1, .int .i64 8]) (ok := fun _ => True) (okp := fun _ => True) ?hr ?hp (fun _ hk => hk) trivial (Below.refl _ _) (Nat.le_refl _) (by simp) ?_; (case hd => rfl); (case hg => rfl); (case hr => first | (go_simp; done) | (go_simp; rfl)); (case hp => exact (Reps.one (show Kd.M (Kd.int .i64) _ _ _ 1 [.int .i64 1] from rfl) (Reps.one (show Kd.M (Kd.int .i64) _ _ _ 1 [.int .i64 1] from rfl) (Reps.one (show Kd.M (Kd.int .i64) _ _ _ 8 [.int .i64 8] from rfl) (Reps.none _ _))))); intro v382 w36 ho37 hb hg_ hnew_; clear hg_ hnew_; (first | rw [← Ny381.out] at ho37 | (simp only [Int.reduceToNat] at ho37; rw [← Ny381.out] at ho37)); have n0_ := zA (Kd.zb2 (zV HO377) (Kd.zbg ho37) hb); have n1_ := zA (Kd.zb2 (zV HO380) (Kd.zbg ho37) hb); have n2_ := zA (Kd.zbo ho37 (za (zB HB))); have n3_ := zA (zab (zB HB) hb); clear HO377 HO380 HB; have HO377 := n0_; have HO380 := n1_; have HO383 := n2_; have HB := n3_; clear n0_ n1_ n2_ n3_ hb ho37) | ((with_reducible refine za4 (N := 6) rfl ?_); (try (refine zcb (by rfl) ?_; dsimp only)); refine Kd.R_lit (Kd.int .i64) _ 3 ?hg (N := 6) ?hd (xs := ([1, 1, 1] : List Int)) (inner := [.int .i64 1, .int .i64 1, .int .i64 1]) (ok := fun _ => True) (okp := fun _ => True) ?hr ?hp (fun _ hk => hk) trivial (Below.refl _ _) (Nat.le_refl _) (by simp) ?_; (case hd => rfl); (case hg => rfl); (case hr => first | (go_simp; done) | (go_simp; rfl)); (case hp => exact (Reps.one (show Kd.M (Kd.int .i64) _ _ _ 1 [.int .i64 1] from rfl) (Reps.one (show Kd.M (Kd.int .i64) _ _ _ 1 [.int .i64 1] from rfl) (Reps.one (show Kd.M (Kd.int .i64) _ _ _ 1 [.int .i64 1] from rfl) (Reps.none _ _))))); intro v385 w38 ho39 hb hg_ hnew_; clear hg_ hnew_; (first | rw [← Ny384.out] at ho39 | (simp only [Int.reduceToNat] at ho39; rw [← Ny384.out] at ho39)); have n0_ := zA (Kd.zb2 (zV HO377) (Kd.zbg ho39) hb); have n1_ := zA (Kd.zb2 (zV HO380) (Kd.zbg ho39) hb); have n2_ := zA (Kd.zb1 (zR HO383) (Kd.zbg ho39) hb); have n3_ := zA (Kd.zbo (Kd.zcl ho39 (Kd.R_lt (zR HO383))) (za (zB HB))); have n4_ := zA (zab (zB HB) hb); clear HO377 HO380 HO383 HB; have HO377 := n0_; have HO380 := n1_; have HO383 := n2_; have HO386 := n3_; have HB := n4_; clear n0_ n1_ n2_ n3_ n4_ hb ho39; obtain ⟨Ao40, co40, eo40⟩ := Kd.za9 HO377.out; subst eo40; obtain ⟨Ao41, co41, eo41⟩ := Kd.za9 HO380.out; subst eo41; obtain ⟨Ao42, co42, eo42⟩ := Kd.zbm HO383.out; subst eo42; obtain ⟨Ao43, co43, eo43⟩ := Kd.zbm HO386.out; subst eo43) | ((with_reducible refine zad (f := 16) rfl ?_); refine zaz (some 7) rfl rfl Tryz.func16 (by kernel_rfl) rfl #[.agg #[.slice Ao40 t375.length co40, .slice Ao41 t378.length co41], .slice Ao42 y381.length co42, .slice Ao43 y384.length co43] rfl (zE) ?_; (with_reducible refine (zbu.calls k _ _ t375 _ _ t378 _ _ y381 _ _ y384 t387 t390 _ ?side1 ?side2 ?side3 ?side4 ?side5 ?side6 ?side7 ?side8 A2.out).mono ?_); (case side1 => exact zJ (Kd.zan HO377.out).2.2); (case side2 => exact (Kd.zan HO377.out).2.1); (case side3 => exact zJ (Kd.zan HO380.out).2.2); (case side4 => exact (Kd.zan HO380.out).2.1); (case side5 => exact zJ (Kd.zav HO383.out).2.2); (case side6 => exact (Kd.zav HO383.out).2.1); (case side7 => exact zJ (Kd.zav HO386.out).2.2); (case side8 => exact (Kd.zav HO386.out).2.1); rintro e w44 ⟨v388, rfl, ho0, hb⟩; refine ⟨_, rfl, ?_⟩; have n4_ := zA (Kd.N_lower (Kd.zdh (ok' := fun k_ => some k_ ≠ (.slice Ao42 y381.length co42 : Value).ownBlock ∧ some k_ ≠ (.slice Ao43 y384.length co43 : Value).ownBlock) ho0 (fun k_ hk_ => ⟨(Kd.fresh' (Kd.R_lt (zR HO383)) k_ hk_), (Kd.fresh' (Kd.R_lt (zR HO386)) k_ hk_)⟩)) (za (zB HB))); have n5_ := zA (zab (zB HB) hb); clear HB; have HO389 := n4_; have HB := n5_; clear n4_ n5_; (try clear hb); (try clear hb2); (try clear hk); (try clear hi); (try clear ho0); obtain ⟨Ao45, co45, eo45⟩ := Kd.N_slice HO389.out; subst eo45))
   go_ret
   exact ⟨zW, zB HB⟩
 ·
  rw [if_neg c3] at H
  have c3b0 : (t390 == 0) = false := beq_eq_false_iff_ne.mpr c3
  have c3b1 : (t390 != 0) = true := bne_iff_ne.mpr c3
  obtain rfl := Option.some.inj H
  go_enter Tryz.func14, Tryz.ntmps14
  go_wp2_with (first | ((with_reducible refine zad (f := 18) rfl ?_); refine zaz (some 4) rfl rfl Tryz.func18 (by kernel_rfl) rfl #[.int .i64 2] rfl (zE) ?_; (with_reducible refine (zc3.calls k 2 t375 t378 _ A1.out).mono ?_); rintro e w46 ⟨v376, v379, rfl, ho0, ho1, hb⟩; refine ⟨_, rfl, ?_⟩; have n0_ := zA (Kd.za6 (Kd.zaq (ok' := fun k_ => True) ho0 (fun k_ hk_ => trivial)) (za (zB HB))); have n1_ := zA (Kd.za6 (Kd.zaq (ok' := fun k_ => True) ho1 (fun k_ hk_ => trivial)) (za (zB HB))); have n2_ := zA (zab (zB HB) hb); clear HB; have HO377 := n0_; have HO380 := n1_; have HB := n2_; clear n0_ n1_ n2_; (try clear hb); (try clear hb2); (try clear hk); (try clear hi); (try clear ho0); (try clear ho1)) | ((with_reducible refine za4 (N := 5) rfl ?_); (try (refine zcb (by rfl) ?_; dsimp only)); refine Kd.R_lit (Kd.int .i64) _ 3 ?hg (N := 5) ?hd (xs := ([1, 1, 8] : List Int)) (inner := [.int .i64 1, .int .i64 1, .int .i64 8]) (ok := fun _ => True) (okp := fun _ => True) ?hr ?hp (fun _ hk => hk) trivial (Below.refl _ _) (Nat.le_refl _) (by simp) ?_; (case hd => rfl); (case hg => rfl); (case hr => first | (go_simp; done) | (go_simp; rfl)); (case hp => exact (Reps.one (show Kd.M (Kd.int .i64) _ _ _ 1 [.int .i64 1] from rfl) (Reps.one (show Kd.M (Kd.int .i64) _ _ _ 1 [.int .i64 1] from rfl) (Reps.one (show Kd.M (Kd.int .i64) _ _ _ 8 [.int .i64 8] from rfl) (Reps.none _ _))))); intro v382 w47 ho48 hb hg_ hnew_; clear hg_ hnew_; (first | rw [← Ny381.out] at ho48 | (simp only [Int.reduceToNat] at ho48; rw [← Ny381.out] at ho48)); have n0_ := zA (Kd.zb2 (zV HO377) (Kd.zbg ho48) hb); have n1_ := zA (Kd.zb2 (zV HO380) (Kd.zbg ho48) hb); have n2_ := zA (Kd.zbo ho48 (za (zB HB))); have n3_ := zA (zab (zB HB) hb); clear HO377 HO380 HB; have HO377 := n0_; have HO380 := n1_; have HO383 := n2_; have HB := n3_; clear n0_ n1_ n2_ n3_ hb ho48) | ((with_reducible refine za4 (N := 6) rfl ?_); (try (refine zcb (by rfl) ?_; dsimp only)); refine Kd.R_lit (Kd.int .i64) _ 3 ?hg (N := 6) ?hd (xs := ([1, 1, 1] : List Int)) (inner := [.int .i64 1, .int .i64 1, .int .i64 1]) (ok := fun _ => True) (okp := fun _ => True) ?hr ?hp (fun _ hk => hk) trivial (Below.refl _ _) (Nat.le_refl _) (by simp) ?_; (case hd => rfl); (case hg => rfl); (case hr => first | (go_simp; done) | (go_simp; rfl)); (case hp => exact (Reps.one (show Kd.M (Kd.int .i64) _ _ _ 1 [.int .i64 1] from rfl) (Reps.one (show Kd.M (Kd.int .i64) _ _ _ 1 [.int .i64 1] from rfl) (Reps.one (show Kd.M (Kd.int .i64) _ _ _ 1 [.int .i64 1] from rfl) (Reps.none _ _))))); intro v385 w49 ho50 hb hg_ hnew_; clear hg_ hnew_; (first | rw [← Ny384.out] at ho50 | (simp only [Int.reduceToNat] at ho50; rw [← Ny384.out] at ho50)); have n0_ := zA (Kd.zb2 (zV HO377) (Kd.zbg ho50) hb); have n1_ := zA (Kd.zb2 (zV HO380) (Kd.zbg ho50) hb); have n2_ := zA (Kd.zb1 (zR HO383) (Kd.zbg ho50) hb); have n3_ := zA (Kd.zbo (Kd.zcl ho50 (Kd.R_lt (zR HO383))) (za (zB HB))); have n4_ := zA (zab (zB HB) hb); clear HO377 HO380 HO383 HB; have HO377 := n0_; have HO380 := n1_; have HO383 := n2_; have HO386 := n3_; have HB := n4_; clear n0_ n1_ n2_ n3_ n4_ hb ho50; obtain ⟨Ao51, co51, eo51⟩ := Kd.za9 HO377.out; subst eo51; obtain ⟨Ao52, co52, eo52⟩ := Kd.za9 HO380.out; subst eo52; obtain ⟨Ao53, co53, eo53⟩ := Kd.zbm HO383.out; subst eo53; obtain ⟨Ao54, co54, eo54⟩ := Kd.zbm HO386.out; subst eo54) | ((with_reducible refine zad (f := 16) rfl ?_); refine zaz (some 7) rfl rfl Tryz.func16 (by kernel_rfl) rfl #[.agg #[.slice Ao51 t375.length co51, .slice Ao52 t378.length co52], .slice Ao53 y381.length co53, .slice Ao54 y384.length co54] rfl (zE) ?_; (with_reducible refine (zbu.calls k _ _ t375 _ _ t378 _ _ y381 _ _ y384 t387 t390 _ ?side1 ?side2 ?side3 ?side4 ?side5 ?side6 ?side7 ?side8 A2.out).mono ?_); (case side1 => exact zJ (Kd.zan HO377.out).2.2); (case side2 => exact (Kd.zan HO377.out).2.1); (case side3 => exact zJ (Kd.zan HO380.out).2.2); (case side4 => exact (Kd.zan HO380.out).2.1); (case side5 => exact zJ (Kd.zav HO383.out).2.2); (case side6 => exact (Kd.zav HO383.out).2.1); (case side7 => exact zJ (Kd.zav HO386.out).2.2); (case side8 => exact (Kd.zav HO386.out).2.1); rintro e w55 ⟨v388, rfl, ho0, hb⟩; refine ⟨_, rfl, ?_⟩; have n5_ := zA (zab (zB HB) hb); clear HB; have HB := n5_; clear n5_; (try clear hb); (try clear hb2); (try clear hk); (try clear hi); (try clear ho0)))
  go_ret
  exact ⟨zW, zB HB⟩
def zau.f (k : Nat) (a0_0 : Int) (a0_1 : Int) : Option (List Int × List Int × List Int × List Int) := (zdb.f k (IntKind.u64.wrap (mx a0_0 0))).bind fun t491 => ((zdb.f k (IntKind.u64.wrap (mx a0_1 1))).bind fun t494 => ((zdg.f k t491 t494).bind fun bt497 => ((zat.f k (mx a0_0 0)).bind fun t505 => ((zat.f k (mx a0_1 1)).bind fun t508 => ((zcd.f k t505 t508).bind fun bt511 => (some (bt497.1, bt497.2.1, bt511.1, bt511.2)))))))
def zau.T1 : Bool × List (List Nat × List Nat) := (true, [([], []), ([0], [0]), ([1], [1]), ([], []), ([3], [3]), ([4], [4]), ([2, 0, 1, 2], [2]), ([5, 6, 0, 1, 2, 3, 4, 5, 6], [5])])
def zau.B1 : List Nat := [0, 1, 3, 0, 8, 24, 7, 127]
theorem zau.tab1 : rtab .any (opsOf Tryz.f15 1) = zau.T1 := by kernel_rfl
theorem zau.bits1 : waitsOk zau.T1.2 zau.B1 = true := by kernel_rfl
def zau.T3 : Bool × List (List Nat × List Nat) := (true, [([], []), ([], []), ([1], [1]), ([], []), ([3, 2], [3]), ([2, 4, 4], [2, 4]), ([0, 5, 0], [0]), ([5, 6, 0, 1, 2, 3, 4, 5, 6], [5])])
def zau.B3 : List Nat := [0, 0, 2, 0, 14, 30, 63, 127]
theorem zau.tab3 : rtab .any (opsOf Tryz.f15 3) = zau.T3 := by kernel_rfl
theorem zau.bits3 : waitsOk zau.T3.2 zau.B3 = true := by kernel_rfl
theorem zau.calls (k : Nat) (a0_0 : Int) (a0_1 : Int) (r1 : List Int) (r2 : List Int) (r3 : List Int) (r4 : List Int) (w : World) (h : zau.f k a0_0 a0_1 = some (r1, r2, r3, r4)) :
  Calls Tryz.prog 15 #[.agg #[.int .i64 a0_0, .int .i64 a0_1]] w fun e w' => ∃ v0_ v1_ v2_ v3_ : Value, e = .returned (.tuple #[.agg #[v0_, v1_], .agg #[v2_, v3_]]) ∧ Kd.V (Kd.int .u64) 82 w' w.heap.size (fun k_ => (w.heap.size ≤ k_) ∧ some k_ ≠ (v2_ : Value).ownBlock ∧ some k_ ≠ (v3_ : Value).ownBlock) v0_ r1 ∧ Kd.V (Kd.int .u64) 82 w' w.heap.size (fun k_ => (w.heap.size ≤ k_) ∧ some k_ ≠ (v2_ : Value).ownBlock ∧ some k_ ≠ (v3_ : Value).ownBlock) v1_ r2 ∧ Kd.R (Kd.int .i64) 3 w' w.heap.size (fun k_ => (w.heap.size ≤ k_) ∧ some k_ ≠ (v3_ : Value).ownBlock) v2_ r3 ∧ Kd.R (Kd.int .i64) 3 w' w.heap.size (fun k_ => (w.heap.size ≤ k_) ∧ some k_ ≠ (v2_ : Value).ownBlock) v3_ r4 ∧ Below w.heap.size w w' := by
 have hu23 := Tryz.underlying23
 have hu29 := Tryz.underlying29
 have hu32 := Tryz.underlying32
 have HB := zA (Below.refl w.heap.size w)
 have H : ((zdb.f k (IntKind.u64.wrap (mx a0_0 0))).bind fun t491 => ((zdb.f k (IntKind.u64.wrap (mx a0_1 1))).bind fun t494 => ((zdg.f k t491 t494).bind fun bt497 => ((zat.f k (mx a0_0 0)).bind fun t505 => ((zat.f k (mx a0_1 1)).bind fun t508 => ((zcd.f k t505 t508).bind fun bt511 => (some (bt497.1, bt497.2.1, bt511.1, bt511.2)))))))) = some (r1, r2, r3, r4) := h
 clear h
 obtain ⟨ji2, hji2⟩ : ∃ j_ : Int, (mx a0_0 0) = j_ := ⟨_, rfl⟩
 replace H : ((zdb.f k (IntKind.u64.wrap (ji2))).bind fun t491 => ((zdb.f k (IntKind.u64.wrap (mx a0_1 1))).bind fun t494 => ((zdg.f k t491 t494).bind fun bt497 => ((zat.f k (ji2)).bind fun t505 => ((zat.f k (mx a0_1 1)).bind fun t508 => ((zcd.f k t505 t508).bind fun bt511 => (some (bt497.1, bt497.2.1, bt511.1, bt511.2)))))))) = some (r1, r2, r3, r4) := by first | (rw [hji2] at H; exact H) | (simp only [hji2] at H ⊢; exact H)
 (try (have hji2l : 0 ≤ ji2 := by (rw [← hji2]; unfold mx; (repeat' split) <;> omega)))
 (try (have hji2m : 0 ≤ ji2 := by omega))
 have hji2_ : (if a0_0 < 0 then 0 else a0_0) = ji2 := hji2
 (try (have hji2n_ := hji2_; simp only [Int.ofNat_lt] at hji2n_))
 obtain ⟨ji3, hji3⟩ : ∃ j_ : Int, (mx a0_1 1) = j_ := ⟨_, rfl⟩
 replace H : ((zdb.f k (IntKind.u64.wrap (ji2))).bind fun t491 => ((zdb.f k (IntKind.u64.wrap (ji3))).bind fun t494 => ((zdg.f k t491 t494).bind fun bt497 => ((zat.f k (ji2)).bind fun t505 => ((zat.f k (ji3)).bind fun t508 => ((zcd.f k t505 t508).bind fun bt511 => (some (bt497.1, bt497.2.1, bt511.1, bt511.2)))))))) = some (r1, r2, r3, r4) := by first | (rw [hji3] at H; exact H) | (simp only [hji3] at H ⊢; exact H)
 (try (have hji3l : 1 ≤ ji3 := by (rw [← hji3]; unfold mx; (repeat' split) <;> omega)))
 (try (have hji3m : 0 ≤ ji3 := by omega))
 have hji3_ : (if a0_1 < 1 then 1 else a0_1) = ji3 := hji3
 (try (have hji3n_ := hji3_; simp only [Int.ofNat_lt] at hji3n_))
 replace H := zO H
 obtain ⟨t491, A40, H⟩ := H
 try dsimp only at H
 have A4 := zA A40
 clear A40
 replace H := zO H
 obtain ⟨t494, A50, H⟩ := H
 try dsimp only at H
 have A5 := zA A50
 clear A50
 replace H := zO H
 obtain ⟨⟨t497, t500, t503⟩, A60, H⟩ := H
 try dsimp only at H
 have A6 := zA A60
 clear A60
 replace H := zO H
 obtain ⟨t505, A70, H⟩ := H
 try dsimp only at H
 have A7 := zA A70
 clear A70
 replace H := zO H
 obtain ⟨t508, A80, H⟩ := H
 try dsimp only at H
 have A8 := zA A80
 clear A80
 replace H := zO H
 obtain ⟨⟨t511, t514⟩, A90, H⟩ := H
 try dsimp only at H
 have A9 := zA A90
 clear A90
 simp only [Option.some.injEq, Prod.mk.injEq] at H
 obtain ⟨rfl, rfl, rfl, rfl⟩ := H
 go_enter Tryz.func15, Tryz.ntmps15
 try go_wp2_with (first | ((with_reducible refine za4 (N := 1) rfl ?_); refine zba ?hg (N := 1) ?hd (cs := #[.int .i64 a0_0, .int .i64 a0_1]) (t := 23) ?hr ?_; (case hd => rfl); (case hg => rfl); (case hr => first | (go_simp; done) | (go_simp; rfl)); intro gb488 hg w10 hbox hb; have n0_ := zA (zab (zB HB) hb); have n1_ := zA (hbox); have n3_ := zA ((by rw [hg]; exact (za (zB HB)) : w.heap.size ≤ gb488)); clear HB; have HB := n0_; have BK488 := n1_; have GE488 := n3_; clear n0_ n1_ n3_ hb hbox hg) | ((with_reducible refine za4 (N := 2) rfl ?_); refine zba ?hg (N := 2) ?hd (cs := #[.slice none 0 0, .slice none 0 0]) (t := 29) ?hr ?_; (case hd => rfl); (case hg => rfl); (case hr => first | (go_simp; done) | (go_simp; rfl)); intro gb489 hg w11 hbox hb; have n0_ := zA (zae (g := gb488) (o := .cells #[.int .i64 a0_0, .int .i64 a0_1] 23 (0, 0)) (zK BK488) hb); have n1_ := zA (zab (zB HB) hb); have n2_ := zA (hbox); have n4_ := zA ((by rw [hg]; exact (za (zB HB)) : w.heap.size ≤ gb489)); have n5_ := zA ((by rw [hg]; exact Nat.ne_of_lt (zaw (g := gb488) (o := .cells #[.int .i64 a0_0, .int .i64 a0_1] 23 (0, 0)) (zK BK488)) : gb488 ≠ gb489)); have n6_ := zA ((by rw [hg]; exact Nat.ne_of_gt (zaw (g := gb488) (o := .cells #[.int .i64 a0_0, .int .i64 a0_1] 23 (0, 0)) (zK BK488)) : gb489 ≠ gb488)); clear BK488 HB; have BK488 := n0_; have HB := n1_; have BK489 := n2_; have GE489 := n4_; have NB488_489 := n5_; have NB489_488 := n6_; clear n0_ n1_ n2_ n4_ n5_ n6_ hb hbox hg) | ((with_reducible refine za4 (N := 3) rfl ?_); refine zba ?hg (N := 3) ?hd (cs := #[.slice none 0 0, .slice none 0 0]) (t := 32) ?hr ?_; (case hd => rfl); (case hg => rfl); (case hr => first | (go_simp; done) | (go_simp; rfl)); intro gb490 hg w12 hbox hb; have n0_ := zA (zae (g := gb488) (o := .cells #[.int .i64 a0_0, .int .i64 a0_1] 23 (0, 0)) (zK BK488) hb); have n1_ := zA (zae (g := gb489) (o := .cells #[.slice none 0 0, .slice none 0 0] 29 (0, 0)) (zK BK489) hb); have n2_ := zA (zab (zB HB) hb); have n3_ := zA (hbox); have n5_ := zA ((by rw [hg]; exact (za (zB HB)) : w.heap.size ≤ gb490)); have n6_ := zA ((by rw [hg]; exact Nat.ne_of_lt (zaw (g := gb488) (o := .cells #[.int .i64 a0_0, .int .i64 a0_1] 23 (0, 0)) (zK BK488)) : gb488 ≠ gb490)); have n7_ := zA ((by rw [hg]; exact Nat.ne_of_gt (zaw (g := gb488) (o := .cells #[.int .i64 a0_0, .int .i64 a0_1] 23 (0, 0)) (zK BK488)) : gb490 ≠ gb488)); have n8_ := zA ((by rw [hg]; exact Nat.ne_of_lt (zaw (g := gb489) (o := .cells #[.slice none 0 0, .slice none 0 0] 29 (0, 0)) (zK BK489)) : gb489 ≠ gb490)); have n9_ := zA ((by rw [hg]; exact Nat.ne_of_gt (zaw (g := gb489) (o := .cells #[.slice none 0 0, .slice none 0 0] 29 (0, 0)) (zK BK489)) : gb490 ≠ gb489)); clear BK488 BK489 HB; have BK488 := n0_; have BK489 := n1_; have HB := n2_; have BK490 := n3_; have GE490 := n5_; have NB488_490 := n6_; have NB490_488 := n7_; have NB489_490 := n8_; have NB490_489 := n9_; clear n0_ n1_ n2_ n3_ n5_ n6_ n7_ n8_ n9_ hb hbox hg))
 have n0_ := zA (zah BK488.out)
 have n1_ := zA (zah BK489.out)
 have n2_ := zA (zah BK490.out)
 have n3_ := zA (zbe HB.out)
 clear BK488 BK489 BK490 HB
 have BK488 := n0_
 have BK489 := n1_
 have BK490 := n2_
 have HB := n3_
 clear n0_ n1_ n2_ n3_
 refine zdi (n := 8) (S := fun w' => w'.cell? ⟨gb488, 0, none⟩ = some (.int .i64 a0_0) ∧ w'.cell? ⟨gb488, 1, none⟩ = some (.int .i64 a0_1)) (ds := []) #[false, false, false, false, false, false, false, false] (by kernel_rfl) rfl rfl ⟨(zac BK488.out 0).trans rfl, (zac BK488.out 1).trans rfl⟩ (fun hHeld => ?_); refine zcn zau.tab1 zau.bits1 (fun HT_ HW_ => ?_)
 generalize w12.drew = w13 at BK488 BK489 BK490 HB hHeld ⊢
 refine pure_ (i := 0) (N := some 8) (v := ?_) (a' := ?_) #[true, false, false, false, false, false, false, false] rfl rfl (zas HT_.out (by kernel_rfl)) (fun _ _ _ h => h) (Or.inl ⟨by rfl, ?_⟩) ?_ ?_
 rotate_left
 ·
  intro w'
  go_simp
  with_reducible rfl
 rotate_left
 ·
  simp only [Act.put, zs1, zs2, zs3, i64_w, i32_w]
  rfl
 refine pure_ (i := 3) (N := some 11) (v := ?_) (a' := ?_) #[true, false, false, true, false, false, false, false] rfl rfl (zas HT_.out (by kernel_rfl)) (fun _ _ _ h => h) (Or.inl ⟨by rfl, ?_⟩) ?_ ?_
 rotate_left
 ·
  intro w'
  go_simp
  with_reducible rfl
 rotate_left
 ·
  simp only [Act.put, zs1, zs2, zs3, i64_w, i32_w]
  rfl
 refine take_ (i := 1) (N := some 9) (v := ?_) (a' := ?_) #[true, true, false, true, false, false, false, false] rfl rfl (zbp HT_.out HW_.out (by kernel_rfl)) (fun _ _ _ h => h) (Or.inl ⟨by rfl, ?_⟩) hHeld ?_ ?_
 rotate_left
 ·
  rintro w' ⟨s0, s1⟩
  go_simp
  with_reducible rfl
 rotate_left
 ·
  simp only [Act.put, zs1, zs2, zs3, i64_w, i32_w]
  rfl
 refine pure_ (i := 2) (N := some 10) (v := ?_) (a' := ?_) #[true, true, true, true, false, false, false, false] rfl rfl (zas HT_.out (by kernel_rfl)) (fun _ _ _ h => h) (Or.inl ⟨by rfl, ?_⟩) ?_ ?_
 rotate_left
 ·
  intro w'
  go_simp
  with_reducible rfl
 rotate_left
 ·
  simp only [Act.put, zs1, zs2, zs3, i64_w, i32_w]
  rfl
 refine pure_ (i := 6) (N := some 4) (v := ?_) (a' := ?_) #[true, true, true, true, false, false, true, false] rfl rfl (zas HT_.out (by kernel_rfl)) (fun _ _ _ h => h) (Or.inl ⟨by rfl, ?_⟩) ?_ ?_
 rotate_left
 ·
  intro w'
  go_simp
  with_reducible rfl
 rotate_left
 ·
  simp only [Act.put, zs1, zs2, zs3, i64_w, i32_w]
  rfl
 refine take_ (i := 4) (N := some 12) (v := ?_) (a' := ?_) #[true, true, true, true, true, false, true, false] rfl rfl (zbp HT_.out HW_.out (by kernel_rfl)) (fun _ _ _ h => h) (Or.inl ⟨by rfl, ?_⟩) hHeld ?_ ?_
 rotate_left
 ·
  rintro w' ⟨s0, s1⟩
  go_simp
  with_reducible rfl
 rotate_left
 ·
  simp only [Act.put, zs1, zs2, zs3, i64_w, i32_w]
  rfl
 refine pure_ (i := 5) (N := some 13) (v := ?_) (a' := ?_) #[true, true, true, true, true, true, true, false] rfl rfl (zas HT_.out (by kernel_rfl)) (fun _ _ _ h => h) (Or.inl ⟨by rfl, ?_⟩) ?_ ?_
 rotate_left
 ·
  intro w'
  go_simp
  with_reducible rfl
 rotate_left
 ·
  simp only [Act.put, zs1, zs2, zs3, i64_w, i32_w]
  rfl
 refine pure_ (i := 7) (N := some 5) (v := ?_) (a' := ?_) #[true, true, true, true, true, true, true, true] rfl rfl (zas HT_.out (by kernel_rfl)) (fun _ _ _ h => h) (Or.inl ⟨by rfl, ?_⟩) ?_ ?_
 rotate_left
 ·
  intro w'
  go_simp
  with_reducible rfl
 rotate_left
 ·
  simp only [Act.put, zs1, zs2, zs3, i64_w, i32_w]
  rfl
 refine done_ (zc7 HT_.out (by kernel_rfl)) ?_
 try go_wp2_with (first | ((with_reducible refine zad (f := 35) rfl ?_); refine zaz (some 17) rfl rfl Tryz.func35 (by kernel_rfl) rfl #[.int .u64 (IntKind.u64.wrap (ji2))] rfl (by (try simp only [List.map_toArray, List.map_cons, List.map_nil]); first | done | (simp only [hji2]; rfl) | rfl | (simp only [List.length_drop, List.length_take]; rfl) | ((simp [Act.eval, wrap64]) <;> omega) | ((simp [Act.eval, wrap64, IntKind.wrap, IntKind.bits, IntKind.signed]) <;> omega)) ?_; (with_reducible refine (zdb.calls k (IntKind.u64.wrap (ji2)) t491 _ A4.out).mono ?_); rintro e w14 ⟨v492, rfl, ho0, hb⟩; refine ⟨_, rfl, ?_⟩; have n0_ := zA (Kd.za6 (Kd.zaq (ok' := fun k_ => (w.heap.size ≤ k_) ∧ k_ ≠ gb488 ∧ k_ ≠ gb489 ∧ k_ ≠ gb490) ho0 (fun k_ hk_ => ⟨(Nat.le_trans (za (zB HB)) hk_), (Kd.freshB (g := gb488) (o := .cells #[.int .i64 a0_0, .int .i64 a0_1] 23 (0, 0)) (zK BK488) k_ hk_), (Kd.freshB (g := gb489) (o := .cells #[.slice none 0 0, .slice none 0 0] 29 (0, 0)) (zK BK489) k_ hk_), (Kd.freshB (g := gb490) (o := .cells #[.slice none 0 0, .slice none 0 0] 32 (0, 0)) (zK BK490) k_ hk_)⟩)) (za (zB HB))); have n1_ := zA (zae (g := gb488) (o := .cells #[.int .i64 a0_0, .int .i64 a0_1] 23 (0, 0)) (zK BK488) hb); have n2_ := zA (zae (g := gb489) (o := .cells #[.slice none 0 0, .slice none 0 0] 29 (0, 0)) (zK BK489) hb); have n3_ := zA (zae (g := gb490) (o := .cells #[.slice none 0 0, .slice none 0 0] 32 (0, 0)) (zK BK490) hb); have n4_ := zA (zab (zB HB) hb); clear BK488 BK489 BK490 HB; have HO493 := n0_; have BK488 := n1_; have BK489 := n2_; have BK490 := n3_; have HB := n4_; clear n0_ n1_ n2_ n3_ n4_; (try clear hb); (try clear hb2); (try clear hk); (try clear hi); (try clear ho0)) | ((with_reducible refine zad (f := 35) rfl ?_); refine zaz (some 20) rfl rfl Tryz.func35 (by kernel_rfl) rfl #[.int .u64 (IntKind.u64.wrap (ji3))] rfl (by (try simp only [List.map_toArray, List.map_cons, List.map_nil]); first | done | (simp only [hji3]; rfl) | rfl | (simp only [List.length_drop, List.length_take]; rfl) | ((simp [Act.eval, wrap64]) <;> omega) | ((simp [Act.eval, wrap64, IntKind.wrap, IntKind.bits, IntKind.signed]) <;> omega)) ?_; (with_reducible refine (zdb.calls k (IntKind.u64.wrap (ji3)) t494 _ A5.out).mono ?_); rintro e w15 ⟨v495, rfl, ho0, hb⟩; refine ⟨_, rfl, ?_⟩; have n0_ := zA (Kd.za1 (zV HO493) hb); have n1_ := zA (Kd.za6 (Kd.zaq (ok' := fun k_ => (w.heap.size ≤ k_) ∧ k_ ≠ gb488 ∧ k_ ≠ gb489 ∧ k_ ≠ gb490) ho0 (fun k_ hk_ => ⟨(Nat.le_trans (za (zB HB)) hk_), (Kd.freshB (g := gb488) (o := .cells #[.int .i64 a0_0, .int .i64 a0_1] 23 (0, 0)) (zK BK488) k_ hk_), (Kd.freshB (g := gb489) (o := .cells #[.slice none 0 0, .slice none 0 0] 29 (0, 0)) (zK BK489) k_ hk_), (Kd.freshB (g := gb490) (o := .cells #[.slice none 0 0, .slice none 0 0] 32 (0, 0)) (zK BK490) k_ hk_)⟩)) (za (zB HB))); have n2_ := zA (zae (g := gb488) (o := .cells #[.int .i64 a0_0, .int .i64 a0_1] 23 (0, 0)) (zK BK488) hb); have n3_ := zA (zae (g := gb489) (o := .cells #[.slice none 0 0, .slice none 0 0] 29 (0, 0)) (zK BK489) hb); have n4_ := zA (zae (g := gb490) (o := .cells #[.slice none 0 0, .slice none 0 0] 32 (0, 0)) (zK BK490) hb); have n5_ := zA (zab (zB HB) hb); clear HO493 BK488 BK489 BK490 HB; have HO493 := n0_; have HO496 := n1_; have BK488 := n2_; have BK489 := n3_; have BK490 := n4_; have HB := n5_; clear n0_ n1_ n2_ n3_ n4_ n5_; (try clear hb); (try clear hb2); (try clear hk); (try clear hi); (try clear ho0); obtain ⟨Ao16, co16, eo16⟩ := Kd.za9 HO493.out; subst eo16; obtain ⟨Ao17, co17, eo17⟩ := Kd.za9 HO496.out; subst eo17) | ((with_reducible refine zad (f := 34) rfl ?_); refine zaz (some 21) rfl rfl Tryz.func34 (by kernel_rfl) rfl #[.slice Ao16 t491.length co16, .slice Ao17 t494.length co17] rfl (zE) ?_; (with_reducible refine (zdg.calls k _ _ t491 _ _ t494 t497 t500 t503 _ ?side1 ?side2 ?side3 ?side4 A6.out).mono ?_); (case side1 => exact zJ (Kd.zan HO493.out).2.2); (case side2 => exact (Kd.zan HO493.out).2.1); (case side3 => exact zJ (Kd.zan HO496.out).2.2); (case side4 => exact (Kd.zan HO496.out).2.1); rintro e w18 ⟨v498, v501, rfl, ho0, ho1, hb⟩; refine ⟨_, rfl, ?_⟩; have n2_ := zA (Kd.za6 (Kd.zaq (ok' := fun k_ => (w.heap.size ≤ k_) ∧ k_ ≠ gb488 ∧ k_ ≠ gb489 ∧ k_ ≠ gb490) ho0 (fun k_ hk_ => ⟨(Nat.le_trans (za (zB HB)) hk_), (Kd.freshB (g := gb488) (o := .cells #[.int .i64 a0_0, .int .i64 a0_1] 23 (0, 0)) (zK BK488) k_ hk_), (Kd.freshB (g := gb489) (o := .cells #[.slice none 0 0, .slice none 0 0] 29 (0, 0)) (zK BK489) k_ hk_), (Kd.freshB (g := gb490) (o := .cells #[.slice none 0 0, .slice none 0 0] 32 (0, 0)) (zK BK490) k_ hk_)⟩)) (za (zB HB))); have n3_ := zA (Kd.za6 (Kd.zaq (ok' := fun k_ => (w.heap.size ≤ k_) ∧ k_ ≠ gb488 ∧ k_ ≠ gb489 ∧ k_ ≠ gb490) ho1 (fun k_ hk_ => ⟨(Nat.le_trans (za (zB HB)) hk_), (Kd.freshB (g := gb488) (o := .cells #[.int .i64 a0_0, .int .i64 a0_1] 23 (0, 0)) (zK BK488) k_ hk_), (Kd.freshB (g := gb489) (o := .cells #[.slice none 0 0, .slice none 0 0] 29 (0, 0)) (zK BK489) k_ hk_), (Kd.freshB (g := gb490) (o := .cells #[.slice none 0 0, .slice none 0 0] 32 (0, 0)) (zK BK490) k_ hk_)⟩)) (za (zB HB))); have n4_ := zA (zae (g := gb488) (o := .cells #[.int .i64 a0_0, .int .i64 a0_1] 23 (0, 0)) (zK BK488) hb); have n5_ := zA (zae (g := gb489) (o := .cells #[.slice none 0 0, .slice none 0 0] 29 (0, 0)) (zK BK489) hb); have n6_ := zA (zae (g := gb490) (o := .cells #[.slice none 0 0, .slice none 0 0] 32 (0, 0)) (zK BK490) hb); have n7_ := zA (zab (zB HB) hb); clear BK488 BK489 BK490 HB; have HO499 := n2_; have HO502 := n3_; have BK488 := n4_; have BK489 := n5_; have BK490 := n6_; have HB := n7_; clear n2_ n3_ n4_ n5_ n6_ n7_; (try clear hb); (try clear hb2); (try clear hk); (try clear hi); (try clear ho0); (try clear ho1)) | ((with_reducible refine za4 (N := 6) rfl ?_); refine zba ?hg (N := 6) ?hd (cs := #[.slice none 0 0, .slice none 0 0]) (t := 29) ?hr ?_; (case hd => rfl); (case hg => rfl); (case hr => first | (go_simp; done) | (go_simp; rfl)); intro gb504 hg w19 hbox hb; have n2_ := zA (Kd.za1 (Kd.zdf (zV HO499) gb504 (Nat.le_of_eq hg.symm)) hb); have n3_ := zA (Kd.za1 (Kd.zdf (zV HO502) gb504 (Nat.le_of_eq hg.symm)) hb); have n5_ := zA (zae (g := gb489) (o := .cells #[.slice none 0 0, .slice none 0 0] 29 (0, 0)) (zK BK489) hb); have n6_ := zA (zae (g := gb490) (o := .cells #[.slice none 0 0, .slice none 0 0] 32 (0, 0)) (zK BK490) hb); have n7_ := zA (zab (zB HB) hb); have n8_ := zA (hbox); have n10_ := zA ((by rw [hg]; exact (za (zB HB)) : w.heap.size ≤ gb504)); have n11_ := zA ((by rw [hg]; exact Nat.ne_of_lt (zaw (g := gb488) (o := .cells #[.int .i64 a0_0, .int .i64 a0_1] 23 (0, 0)) (zK BK488)) : gb488 ≠ gb504)); have n12_ := zA ((by rw [hg]; exact Nat.ne_of_gt (zaw (g := gb488) (o := .cells #[.int .i64 a0_0, .int .i64 a0_1] 23 (0, 0)) (zK BK488)) : gb504 ≠ gb488)); have n13_ := zA ((by rw [hg]; exact Nat.ne_of_lt (zaw (g := gb489) (o := .cells #[.slice none 0 0, .slice none 0 0] 29 (0, 0)) (zK BK489)) : gb489 ≠ gb504)); have n14_ := zA ((by rw [hg]; exact Nat.ne_of_gt (zaw (g := gb489) (o := .cells #[.slice none 0 0, .slice none 0 0] 29 (0, 0)) (zK BK489)) : gb504 ≠ gb489)); have n15_ := zA ((by rw [hg]; exact Nat.ne_of_lt (zaw (g := gb490) (o := .cells #[.slice none 0 0, .slice none 0 0] 32 (0, 0)) (zK BK490)) : gb490 ≠ gb504)); have n16_ := zA ((by rw [hg]; exact Nat.ne_of_gt (zaw (g := gb490) (o := .cells #[.slice none 0 0, .slice none 0 0] 32 (0, 0)) (zK BK490)) : gb504 ≠ gb490)); clear HO499 HO502 BK489 BK490 HB; have HO499 := n2_; have HO502 := n3_; have BK489 := n5_; have BK490 := n6_; have HB := n7_; have BK504 := n8_; have GE504 := n10_; have NB488_504 := n11_; have NB504_488 := n12_; have NB489_504 := n13_; have NB504_489 := n14_; have NB490_504 := n15_; have NB504_490 := n16_; clear n2_ n3_ n5_ n6_ n7_ n8_ n10_ n11_ n12_ n13_ n14_ n15_ n16_ hb hbox hg; obtain ⟨Ao20, co20, eo20⟩ := Kd.za9 HO499.out; subst eo20; have hnb21 := NB504_488.out; have hnc21 := NB488_504.out; have hnb22 := NB504_489.out; have hnc22 := NB489_504.out; have hnb23 := NB504_490.out; have hnc23 := NB490_504.out; have hcz24_0 : w19.cell? ⟨gb504, 0, none⟩ = some (.slice none 0 0) := (zac BK504.out 0).trans rfl; have hcz24_1 : w19.cell? ⟨gb504, 1, none⟩ = some (.slice none 0 0) := (zac BK504.out 1).trans rfl; have hfz24_0 := zaj BK504.out 0; have hfz24_1 := zaj BK504.out 1; obtain ⟨Ao25, co25, eo25⟩ := Kd.za9 HO502.out; subst eo25))
 have n2_ : Aside0 (Kd.V (Kd.int .u64) 82 ((w19.setCell ⟨gb504, 0, none⟩ (.slice Ao20 t497.length co20)).setCell ⟨gb504, 1, none⟩ (.slice Ao25 t500.length co25)) w.heap.size (fun k_ => (w.heap.size ≤ k_) ∧ k_ ≠ gb488 ∧ k_ ≠ gb489 ∧ k_ ≠ gb490 ∧ k_ ≠ gb504) (.slice Ao20 t497.length co20) t497) := ⟨by (with_reducible repeat (first | apply Kd.zbi | apply Kd.zbk | apply Kd.zbn)); exact Kd.zaq (Kd.V_far (p := ⟨gb504, 1, none⟩) (Kd.V_far (p := ⟨gb504, 0, none⟩) (Kd.zaq HO499.out (fun k_ hk => (⟨hk, hk.2⟩ : _ ∧ k_ ≠ gb504))) (fun _ hk => hk.2) (.slice Ao20 t497.length co20)) (fun _ hk => hk.2) (.slice Ao25 t500.length co25)) (fun _ hk => ⟨hk.1.1.1, ⟨hk.1.1.2.1, ⟨hk.1.1.2.2.1, ⟨hk.1.1.2.2.2, hk.1.2⟩⟩⟩⟩)⟩
 have n3_ : Aside0 (Kd.V (Kd.int .u64) 82 ((w19.setCell ⟨gb504, 0, none⟩ (.slice Ao20 t497.length co20)).setCell ⟨gb504, 1, none⟩ (.slice Ao25 t500.length co25)) w.heap.size (fun k_ => (w.heap.size ≤ k_) ∧ k_ ≠ gb488 ∧ k_ ≠ gb489 ∧ k_ ≠ gb490 ∧ k_ ≠ gb504) (.slice Ao25 t500.length co25) t500) := ⟨by (with_reducible repeat (first | apply Kd.zbi | apply Kd.zbk | apply Kd.zbn)); exact Kd.zaq (Kd.V_far (p := ⟨gb504, 1, none⟩) (Kd.V_far (p := ⟨gb504, 0, none⟩) (Kd.zaq HO502.out (fun k_ hk => (⟨hk, hk.2⟩ : _ ∧ k_ ≠ gb504))) (fun _ hk => hk.2) (.slice Ao20 t497.length co20)) (fun _ hk => hk.2) (.slice Ao25 t500.length co25)) (fun _ hk => ⟨hk.1.1.1, ⟨hk.1.1.2.1, ⟨hk.1.1.2.2.1, ⟨hk.1.1.2.2.2, hk.1.2⟩⟩⟩⟩)⟩
 have n5_ : Aside0 (((w19.setCell ⟨gb504, 0, none⟩ (.slice Ao20 t497.length co20)).setCell ⟨gb504, 1, none⟩ (.slice Ao25 t500.length co25)).heap[gb489]? = some (.cells #[.slice none 0 0, .slice none 0 0] 29 (0, 0))) := ⟨by (with_reducible repeat (first | refine zak ?_ _ | refine zah ?_ | refine zai ?_ _)); refine zb8 ?_ NB489_504.out _; (with_reducible repeat (first | refine zak ?_ _ | refine zah ?_ | refine zai ?_ _)); refine zb8 ?_ NB489_504.out _; (with_reducible repeat (first | refine zak ?_ _ | refine zah ?_ | refine zai ?_ _)); exact BK489.out⟩
 have n6_ : Aside0 (((w19.setCell ⟨gb504, 0, none⟩ (.slice Ao20 t497.length co20)).setCell ⟨gb504, 1, none⟩ (.slice Ao25 t500.length co25)).heap[gb490]? = some (.cells #[.slice none 0 0, .slice none 0 0] 32 (0, 0))) := ⟨by (with_reducible repeat (first | refine zak ?_ _ | refine zah ?_ | refine zai ?_ _)); refine zb8 ?_ NB490_504.out _; (with_reducible repeat (first | refine zak ?_ _ | refine zah ?_ | refine zai ?_ _)); refine zb8 ?_ NB490_504.out _; (with_reducible repeat (first | refine zak ?_ _ | refine zah ?_ | refine zai ?_ _)); exact BK490.out⟩
 have n7_ : Aside0 (((w19.setCell ⟨gb504, 0, none⟩ (.slice Ao20 t497.length co20)).setCell ⟨gb504, 1, none⟩ (.slice Ao25 t500.length co25)).heap[gb504]? = some (.cells #[.slice Ao20 t497.length co20, .slice Ao25 t500.length co25] 29 (0, 0))) := ⟨by (with_reducible repeat (first | refine zak ?_ _ | refine zah ?_ | refine zai ?_ _)); refine zbb (cs := #[.slice Ao20 t497.length co20, .slice none 0 0]) ?_ 1 _ rfl; (with_reducible repeat (first | refine zak ?_ _ | refine zah ?_ | refine zai ?_ _)); refine zbb (cs := #[.slice none 0 0, .slice none 0 0]) ?_ 0 _ rfl; (with_reducible repeat (first | refine zak ?_ _ | refine zah ?_ | refine zai ?_ _)); exact BK504.out⟩
 have n8_ : Aside0 (Below w.heap.size w ((w19.setCell ⟨gb504, 0, none⟩ (.slice Ao20 t497.length co20)).setCell ⟨gb504, 1, none⟩ (.slice Ao25 t500.length co25))) := ⟨zB HB⟩
 (try skip)
 (try skip)
 (try clear HO499)
 (try clear HO502)
 (try skip)
 (try clear BK489)
 (try clear BK490)
 (try clear BK504)
 (try clear HB)
 generalize ((w19.setCell ⟨gb504, 0, none⟩ (.slice Ao20 t497.length co20)).setCell ⟨gb504, 1, none⟩ (.slice Ao25 t500.length co25)) = w26 at n2_ n3_ n5_ n6_ n7_ n8_ ⊢
 have HO499 := n2_
 have HO502 := n3_
 have BK489 := n5_
 have BK490 := n6_
 have BK504 := n7_
 have HB := n8_
 clear n2_ n3_ n5_ n6_ n7_ n8_
 have n2_ := zA (Kd.zbn HO499.out)
 have n3_ := zA (Kd.zbn HO502.out)
 have n5_ := zA (zah BK489.out)
 have n6_ := zA (zah BK490.out)
 have n7_ := zA (zah BK504.out)
 have n8_ := zA (zbe HB.out)
 clear HO499 HO502 BK489 BK490 BK504 HB
 have HO499 := n2_
 have HO502 := n3_
 have BK489 := n5_
 have BK490 := n6_
 have BK504 := n7_
 have HB := n8_
 clear n2_ n3_ n5_ n6_ n7_ n8_
 refine zdi (n := 8) (S := fun w' => w'.cell? ⟨gb504, 0, none⟩ = some (.slice Ao20 t497.length co20) ∧ w'.cell? ⟨gb504, 1, none⟩ = some (.slice Ao25 t500.length co25)) (ds := []) #[false, false, false, false, false, false, false, false] (by kernel_rfl) rfl rfl ⟨(zac BK504.out 0).trans rfl, (zac BK504.out 1).trans rfl⟩ (fun hHeld => ?_); refine zcn zau.tab3 zau.bits3 (fun HT_ HW_ => ?_)
 generalize w26.drew = w27 at HO499 HO502 BK489 BK490 BK504 HB hHeld ⊢
 refine pure_ (i := 1) (N := some 25) (v := ?_) (a' := ?_) #[false, true, false, false, false, false, false, false] rfl rfl (zas HT_.out (by kernel_rfl)) (fun _ _ _ h => h) (Or.inl ⟨by rfl, ?_⟩) ?_ ?_
 rotate_left
 ·
  intro w'
  go_simp
  with_reducible rfl
 rotate_left
 ·
  simp only [Act.put, zs1, zs2, zs3, i64_w, i32_w]
  rfl
 refine pure_ (i := 3) (N := some 27) (v := ?_) (a' := ?_) #[false, true, false, true, false, false, false, false] rfl rfl (zas HT_.out (by kernel_rfl)) (fun _ _ _ h => h) (Or.inl ⟨by rfl, ?_⟩) ?_ ?_
 rotate_left
 ·
  intro w'
  go_simp
  with_reducible rfl
 rotate_left
 ·
  simp only [Act.put, zs1, zs2, zs3, i64_w, i32_w]
  rfl
 refine take_ (i := 0) (N := some 24) (v := ?_) (a' := ?_) #[true, true, false, true, false, false, false, false] rfl rfl (zbp HT_.out HW_.out (by kernel_rfl)) (fun _ _ _ h => h) (Or.inl ⟨by rfl, ?_⟩) hHeld ?_ ?_
 rotate_left
 ·
  rintro w' ⟨s0, s1⟩
  go_simp
  with_reducible rfl
 rotate_left
 ·
  simp only [Act.put, zs1, zs2, zs3, i64_w, i32_w]
  rfl
 refine one_ (i := 2) (N := some 26) #[true, true, true, true, false, false, false, false] rfl rfl (zb6 HT_.out (by kernel_rfl)) (by decide) (fun K hK => ?_)
 refine goes_ Tryz.func37 (by kernel_rfl) rfl #[.int .i64 ji2] (by rfl) rfl rfl (by (try simp only [List.map_toArray, List.map_cons, List.map_nil]); first | done | (simp only [hji2]; rfl) | rfl | (simp only [List.length_drop, List.length_take]; rfl) | ((simp [Act.eval, wrap64]) <;> omega) | ((simp [Act.eval, wrap64, IntKind.wrap, IntKind.bits, IntKind.signed]) <;> omega)) ?_
 with_reducible refine (zat.calls k ji2 t505 _ A7.out).mono ?_
 rintro e w28 ⟨v506, rfl, ho0, hb⟩
 refine ⟨_, rfl, ?_⟩
 have n2_ := zA (Kd.zb2 (zV HO499) (Kd.zbg ho0) hb)
 have n3_ := zA (Kd.zb2 (zV HO502) (Kd.zbg ho0) hb)
 have n4_ := zA (Kd.zbo (Kd.R_newM (M := fun k_ => (w.heap.size ≤ k_)) ho0 (za (zB HB)) (fun k_ h_ => h_)) (za (zB HB)))
 have n6_ := zA (zae (g := gb489) (o := .cells #[.slice none 0 0, .slice none 0 0] 29 (0, 0)) (zK BK489) hb)
 have n7_ := zA (zae (g := gb490) (o := .cells #[.slice none 0 0, .slice none 0 0] 32 (0, 0)) (zK BK490) hb)
 have n8_ := zA (zae (g := gb504) (o := .cells #[.slice Ao20 t497.length co20, .slice Ao25 t500.length co25] 29 (0, 0)) (zK BK504) hb)
 have n9_ := zA (zab (zB HB) hb)
 clear HO499 HO502 BK489 BK490 BK504 HB
 have HO499 := n2_
 have HO502 := n3_
 have HO507 := n4_
 have BK489 := n6_
 have BK490 := n7_
 have BK504 := n8_
 have HB := n9_
 clear n2_ n3_ n4_ n6_ n7_ n8_ n9_
 (try clear hb)
 (try clear hb2)
 (try clear hk)
 (try clear hi)
 (try clear ho0)
 refine hK.out _ _ ⟨(zac BK504.out 0).trans rfl, (zac BK504.out 1).trans rfl⟩ (fun hHeld => ?_)
 clear hK K
 refine norm_ (a' := ?_) ?_ ?_
 rotate_left
 ·
  show Act.put _ (some 26) _ = _
  simp only [Act.put, zs1, zs2, zs3, i64_w, i32_w]
  rfl
 refine one_ (i := 4) (N := some 28) #[true, true, true, true, true, false, false, false] rfl rfl (zb6 HT_.out (by kernel_rfl)) (by decide) (fun K hK => ?_)
 refine goes_ Tryz.func37 (by kernel_rfl) rfl #[.int .i64 ji3] (by rfl) rfl rfl (by (try simp only [List.map_toArray, List.map_cons, List.map_nil]); first | done | (simp only [hji3]; rfl) | rfl | (simp only [List.length_drop, List.length_take]; rfl) | ((simp [Act.eval, wrap64]) <;> omega) | ((simp [Act.eval, wrap64, IntKind.wrap, IntKind.bits, IntKind.signed]) <;> omega)) ?_
 with_reducible refine (zat.calls k ji3 t508 _ A8.out).mono ?_
 rintro e w29 ⟨v509, rfl, ho0, hb⟩
 refine ⟨_, rfl, ?_⟩
 have n2_ := zA (Kd.zb2 (zV HO499) (Kd.zbg ho0) hb)
 have n3_ := zA (Kd.zb2 (zV HO502) (Kd.zbg ho0) hb)
 have n4_ := zA (Kd.zb1 (zR HO507) (Kd.zbg ho0) hb)
 have n5_ := zA (Kd.zbo (Kd.zcl (Kd.R_newM (M := fun k_ => (w.heap.size ≤ k_)) ho0 (za (zB HB)) (fun k_ h_ => h_)) (Kd.R_lt (zR HO507))) (za (zB HB)))
 have n7_ := zA (zae (g := gb489) (o := .cells #[.slice none 0 0, .slice none 0 0] 29 (0, 0)) (zK BK489) hb)
 have n8_ := zA (zae (g := gb490) (o := .cells #[.slice none 0 0, .slice none 0 0] 32 (0, 0)) (zK BK490) hb)
 have n9_ := zA (zae (g := gb504) (o := .cells #[.slice Ao20 t497.length co20, .slice Ao25 t500.length co25] 29 (0, 0)) (zK BK504) hb)
 have n10_ := zA (zab (zB HB) hb)
 clear HO499 HO502 HO507 BK489 BK490 BK504 HB
 have HO499 := n2_
 have HO502 := n3_
 have HO507 := n4_
 have HO510 := n5_
 have BK489 := n7_
 have BK490 := n8_
 have BK504 := n9_
 have HB := n10_
 clear n2_ n3_ n4_ n5_ n7_ n8_ n9_ n10_
 (try clear hb)
 (try clear hb2)
 (try clear hk)
 (try clear hi)
 (try clear ho0)
 obtain ⟨Ao30, co30, eo30⟩ := Kd.zbm HO507.out
 (first | subst eo30 | (injection eo30 with f1_ f2_ f3_; have f4_ := f1_.symm; have f5_ := f3_.symm; clear f1_ f2_ f3_; subst f4_; subst f5_))
 obtain ⟨Ao31, co31, eo31⟩ := Kd.zbm HO510.out
 (first | subst eo31 | (injection eo31 with f1_ f2_ f3_; have f4_ := f1_.symm; have f5_ := f3_.symm; clear f1_ f2_ f3_; subst f4_; subst f5_))
 refine hK.out _ _ ⟨(zac BK504.out 0).trans rfl, (zac BK504.out 1).trans rfl⟩ (fun hHeld => ?_)
 clear hK K
 refine norm_ (a' := ?_) ?_ ?_
 rotate_left
 ·
  show Act.put _ (some 28) _ = _
  simp only [Act.put, zs1, zs2, zs3, i64_w, i32_w]
  rfl
 refine one_ (i := 5) (N := some 29) #[true, true, true, true, true, true, false, false] rfl rfl (zb6 HT_.out (by kernel_rfl)) (by decide) (fun K hK => ?_)
 refine goes_ Tryz.func36 (by kernel_rfl) rfl #[.slice Ao30 t505.length co30, .slice Ao31 t508.length co31] (by rfl) rfl rfl (zE) ?_
 with_reducible refine (zcd.calls k _ _ t505 _ _ t508 t511 t514 _ ?side1 ?side2 ?side3 ?side4 A9.out).mono ?_
 (case side1 => exact zJ (Kd.zav HO507.out).2.2)
 (case side2 => exact (Kd.zav HO507.out).2.1)
 (case side3 => exact zJ (Kd.zav HO510.out).2.2)
 (case side4 => exact (Kd.zav HO510.out).2.1)
 rintro e w32 ⟨v512, v515, rfl, ho0, ho1, hb⟩
 refine ⟨_, rfl, ?_⟩
 have n2_ := zA (Kd.zaq (Kd.V_told (Kd.V_told (Kd.V_old (zV HO499) hb) (Kd.zbg ho0)) (Kd.zbg ho1)) (fun _ h_ => h_.1))
 have n3_ := zA (Kd.zaq (Kd.V_told (Kd.V_told (Kd.V_old (zV HO502) hb) (Kd.zbg ho0)) (Kd.zbg ho1)) (fun _ h_ => h_.1))
 have n6_ := zA (Kd.zbo (Kd.zcl (Kd.zcl (Kd.R_newM (M := fun k_ => (w.heap.size ≤ k_)) ho0 (za (zB HB)) (fun k_ h_ => h_)) (Kd.R_lt (zR HO507))) (Kd.R_lt (zR HO510))) (za (zB HB)))
 have n7_ := zA (Kd.zbo (Kd.zcl (Kd.zcl (Kd.R_newM (M := fun k_ => (w.heap.size ≤ k_)) ho1 (za (zB HB)) (fun k_ h_ => h_)) (Kd.R_lt (zR HO507))) (Kd.R_lt (zR HO510))) (za (zB HB)))
 have n9_ := zA (zae (g := gb489) (o := .cells #[.slice none 0 0, .slice none 0 0] 29 (0, 0)) (zK BK489) hb)
 have n10_ := zA (zae (g := gb490) (o := .cells #[.slice none 0 0, .slice none 0 0] 32 (0, 0)) (zK BK490) hb)
 have n11_ := zA (zae (g := gb504) (o := .cells #[.slice Ao20 t497.length co20, .slice Ao25 t500.length co25] 29 (0, 0)) (zK BK504) hb)
 have n12_ := zA (zab (zB HB) hb)
 clear HO499 HO502 BK489 BK490 BK504 HB
 have HO499 := n2_
 have HO502 := n3_
 have HO513 := n6_
 have HO516 := n7_
 have BK489 := n9_
 have BK490 := n10_
 have BK504 := n11_
 have HB := n12_
 clear n2_ n3_ n6_ n7_ n9_ n10_ n11_ n12_
 (try clear hb)
 (try clear hb2)
 (try clear hk)
 (try clear hi)
 (try clear ho0)
 (try clear ho1)
 obtain ⟨Ao35, co35, eo35⟩ := Kd.zbm HO513.out
 (first | subst eo35 | (injection eo35 with f1_ f2_ f3_; have f4_ := f1_.symm; have f5_ := f3_.symm; clear f1_ f2_ f3_; subst f4_; subst f5_))
 obtain ⟨Ao37, co37, eo37⟩ := Kd.zbm HO516.out
 (first | subst eo37 | (injection eo37 with f1_ f2_ f3_; have f4_ := f1_.symm; have f5_ := f3_.symm; clear f1_ f2_ f3_; subst f4_; subst f5_))
 refine hK.out _ _ ⟨(zac BK504.out 0).trans rfl, (zac BK504.out 1).trans rfl⟩ (fun hHeld => ?_)
 clear hK K
 refine norm_ (a' := ?_) ?_ ?_
 rotate_left
 ·
  show Act.put _ (some 29) _ = _
  simp only [Act.put, zs1, zs2, zs3, i64_w, i32_w]
  rfl
 refine one_ (i := 6) (N := none) #[true, true, true, true, true, true, true, false] rfl rfl (zb6 HT_.out (by kernel_rfl)) (by decide) (fun K hK => ?_)
 have hs33 : w32.cell? ⟨gb489, 0, none⟩ = some (.slice none 0 0) := (zac BK489.out 0).trans rfl
 have hfs33 := zaj BK489.out 0
 have hns33_0 := NB488_489.out
 have hns33_2 := NB490_489.out
 have hns33_3 := NB504_489.out
 have hms33_0 := NB489_488.out
 have hms33_2 := NB489_490.out
 have hms33_3 := NB489_504.out
 have hs34 : w32.cell? ⟨gb489, 1, none⟩ = some (.slice none 0 0) := (zac BK489.out 1).trans rfl
 have hfs34 := zaj BK489.out 1
 have hns34_0 := NB488_489.out
 have hns34_2 := NB490_489.out
 have hns34_3 := NB504_489.out
 have hms34_0 := NB489_488.out
 have hms34_2 := NB489_490.out
 have hms34_3 := NB489_504.out
 refine skip_ (w1 := ?_) (by rfl) rfl ?_ ?_
 rotate_left
 ·
  go_simp
  rfl
 refine hK.out _ _ ⟨((cell_far (p := ⟨gb489, _, none⟩) NB504_489.out _).trans (((cell_far (p := ⟨gb489, _, none⟩) NB504_489.out _).trans (hHeld.1)))), ((cell_far (p := ⟨gb489, _, none⟩) NB504_489.out _).trans (((cell_far (p := ⟨gb489, _, none⟩) NB504_489.out _).trans (hHeld.2))))⟩ (fun hHeld => ?_)
 clear hK K
 refine one_ (i := 7) (N := none) #[true, true, true, true, true, true, true, true] rfl rfl (zb6 HT_.out (by kernel_rfl)) (by decide) (fun K hK => ?_)
 have hs36 : w32.cell? ⟨gb490, 0, none⟩ = some (.slice none 0 0) := (zac BK490.out 0).trans rfl
 have hfs36 := zaj BK490.out 0
 have hns36_0 := NB488_490.out
 have hns36_1 := NB489_490.out
 have hns36_3 := NB504_490.out
 have hms36_0 := NB490_488.out
 have hms36_1 := NB490_489.out
 have hms36_3 := NB490_504.out
 have hs38 : w32.cell? ⟨gb490, 1, none⟩ = some (.slice none 0 0) := (zac BK490.out 1).trans rfl
 have hfs38 := zaj BK490.out 1
 have hns38_0 := NB488_490.out
 have hns38_1 := NB489_490.out
 have hns38_3 := NB504_490.out
 have hms38_0 := NB490_488.out
 have hms38_1 := NB490_489.out
 have hms38_3 := NB490_504.out
 refine skip_ (w1 := ?_) (by rfl) rfl ?_ ?_
 rotate_left
 ·
  go_simp
  rfl
 refine hK.out _ _ ⟨((cell_far (p := ⟨gb490, _, none⟩) NB504_490.out _).trans (((cell_far (p := ⟨gb490, _, none⟩) NB504_490.out _).trans (hHeld.1)))), ((cell_far (p := ⟨gb490, _, none⟩) NB504_490.out _).trans (((cell_far (p := ⟨gb490, _, none⟩) NB504_490.out _).trans (hHeld.2))))⟩ (fun hHeld => ?_)
 clear hK K
 refine done_ (zc7 HT_.out (by kernel_rfl)) ?_
 try go_wp2
 refine bodyPost_ret (results_cc rfl _ _ gb489 gb490 29 32 #[.slice Ao20 t497.length co20, .slice Ao25 t500.length co25] #[.slice Ao35 t511.length co35, .slice Ao37 t514.length co37] (0, 0) (0, 0) _ _ rfl (by (with_reducible repeat (first | refine zak ?_ _ | refine zah ?_ | refine zai ?_ _)); refine zb8 ?_ NB489_490.out _; (with_reducible repeat (first | refine zak ?_ _ | refine zah ?_ | refine zai ?_ _)); refine zb8 ?_ NB489_490.out _; (with_reducible repeat (first | refine zak ?_ _ | refine zah ?_ | refine zai ?_ _)); refine zbb (cs := #[.slice Ao20 t497.length co20, .slice none 0 0]) ?_ 1 _ rfl; (with_reducible repeat (first | refine zak ?_ _ | refine zah ?_ | refine zai ?_ _)); refine zbb (cs := #[.slice none 0 0, .slice none 0 0]) ?_ 0 _ rfl; (with_reducible repeat (first | refine zak ?_ _ | refine zah ?_ | refine zai ?_ _)); exact BK489.out) Tryz.underlying29 rfl (by kernel_rfl) rfl (by (with_reducible repeat (first | refine zak ?_ _ | refine zah ?_ | refine zai ?_ _)); refine zbb (cs := #[.slice Ao35 t511.length co35, .slice none 0 0]) ?_ 1 _ rfl; (with_reducible repeat (first | refine zak ?_ _ | refine zah ?_ | refine zai ?_ _)); refine zbb (cs := #[.slice none 0 0, .slice none 0 0]) ?_ 0 _ rfl; (with_reducible repeat (first | refine zak ?_ _ | refine zah ?_ | refine zai ?_ _)); refine zb8 ?_ NB490_489.out _; (with_reducible repeat (first | refine zak ?_ _ | refine zah ?_ | refine zai ?_ _)); refine zb8 ?_ NB490_489.out _; (with_reducible repeat (first | refine zak ?_ _ | refine zah ?_ | refine zai ?_ _)); exact BK490.out) Tryz.underlying32 rfl (by kernel_rfl)) rfl ?_
 exact ⟨_, _, _, _, by first | rfl | (simp [zb4, zb3] <;> rfl) | (simp only [← hji2, ← hji3]; first | rfl | (simp [zb4, zb3] <;> rfl)) | (simp [*, zb4, zb3] <;> rfl), by (with_reducible repeat (first | apply Kd.zbi | apply Kd.zbk | apply Kd.zbn)); exact Kd.zaq (Kd.V_far (p := ⟨gb490, 1, none⟩) (Kd.V_far (p := ⟨gb490, 0, none⟩) (Kd.V_far (p := ⟨gb489, 1, none⟩) (Kd.V_far (p := ⟨gb489, 0, none⟩) (Kd.zaq (Kd.zaq HO499.out (fun k_ hk => (⟨hk, hk.1.1.1.1.2.2.1⟩ : _ ∧ k_ ≠ gb489))) (fun k_ hk => (⟨hk, hk.1.1.1.1.1.2.2.2.1⟩ : _ ∧ k_ ≠ gb490))) (fun _ hk => hk.1.2) (.slice Ao20 t497.length co20)) (fun _ hk => hk.1.2) (.slice Ao25 t500.length co25)) (fun _ hk => hk.2) (.slice Ao35 t511.length co35)) (fun _ hk => hk.2) (.slice Ao37 t514.length co37)) (fun _ hk => ⟨hk.1.1.1.1.1.1.1, ⟨hk.1.1.1.2, hk.1.1.2⟩⟩), by (with_reducible repeat (first | apply Kd.zbi | apply Kd.zbk | apply Kd.zbn)); exact Kd.zaq (Kd.V_far (p := ⟨gb490, 1, none⟩) (Kd.V_far (p := ⟨gb490, 0, none⟩) (Kd.V_far (p := ⟨gb489, 1, none⟩) (Kd.V_far (p := ⟨gb489, 0, none⟩) (Kd.zaq (Kd.zaq HO502.out (fun k_ hk => (⟨hk, hk.1.1.1.1.2.2.1⟩ : _ ∧ k_ ≠ gb489))) (fun k_ hk => (⟨hk, hk.1.1.1.1.1.2.2.2.1⟩ : _ ∧ k_ ≠ gb490))) (fun _ hk => hk.1.2) (.slice Ao20 t497.length co20)) (fun _ hk => hk.1.2) (.slice Ao25 t500.length co25)) (fun _ hk => hk.2) (.slice Ao35 t511.length co35)) (fun _ hk => hk.2) (.slice Ao37 t514.length co37)) (fun _ hk => ⟨hk.1.1.1.1.1.1.1, ⟨hk.1.1.1.2, hk.1.1.2⟩⟩), by (with_reducible repeat (first | apply Kd.zbv | apply Kd.zbz | apply Kd.zb7)); exact Kd.zbl (Kd.R_far (p := ⟨gb490, 1, none⟩) (Kd.R_far (p := ⟨gb490, 0, none⟩) (Kd.R_far (p := ⟨gb489, 1, none⟩) (Kd.R_far (p := ⟨gb489, 0, none⟩) (Kd.R_types (Kd.R_types HO513.out BK489.out (by decide)) BK490.out (by decide)) (fun _ hk => hk.1.2) (.slice Ao20 t497.length co20)) (fun _ hk => hk.1.2) (.slice Ao25 t500.length co25)) (fun _ hk => hk.2) (.slice Ao35 t511.length co35)) (fun _ hk => hk.2) (.slice Ao37 t514.length co37)) (fun _ hk => ⟨hk.1.1.1.1.1, hk.1.1.1.1.2⟩), by (with_reducible repeat (first | apply Kd.zbv | apply Kd.zbz | apply Kd.zb7)); exact Kd.zbl (Kd.R_far (p := ⟨gb490, 1, none⟩) (Kd.R_far (p := ⟨gb490, 0, none⟩) (Kd.R_far (p := ⟨gb489, 1, none⟩) (Kd.R_far (p := ⟨gb489, 0, none⟩) (Kd.R_types (Kd.R_types HO516.out BK489.out (by decide)) BK490.out (by decide)) (fun _ hk => hk.1.2) (.slice Ao20 t497.length co20)) (fun _ hk => hk.1.2) (.slice Ao25 t500.length co25)) (fun _ hk => hk.2) (.slice Ao35 t511.length co35)) (fun _ hk => hk.2) (.slice Ao37 t514.length co37)) (fun _ hk => ⟨hk.1.1.1.1.1, hk.1.1.1.1.2⟩), zB HB⟩
end Go.Proofs.YthiicmanfpmipaaGreatDoor.P
end
