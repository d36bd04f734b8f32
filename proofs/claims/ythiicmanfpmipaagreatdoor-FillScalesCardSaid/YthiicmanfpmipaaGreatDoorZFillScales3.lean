-- Written by a program of this session (wip/tools/shake.py) out of its own texts and of the kit's printed ones; not trusted: Lean checks it.
import Derived.Test.YthiicmanfpmipaaGreatDoorZFillScales2
set_option maxHeartbeats 8000000
set_option maxRecDepth 100000
set_option linter.unusedVariables false
set_option linter.unusedSimpArgs false
section
namespace Go.Proofs.YthiicmanfpmipaaGreatDoor.P
open Go.RowKit Go.Proofs.YthiicmanfpmipaaGreatDoorW.PrintWords Go.Proofs.YthiicmanfpmipaaGreatDoorW.PrintLast Go.Proofs.YthiicmanfpmipaaGreatDoorW.PrintMore
attribute [local go_sem] zci zcj zcs zcr zb9 zca zcg zch
def zcw.l0 : Nat → List Int → List Int → Option (List Int)
 | 0, _, _ => none
 | k + 1, x0, x1 => if (x1.length : Int) > 0 then ((za3.f k x0 x1).bind fun bt217 => ((za5.f x1).bind fun t224 => (zcw.l0 k t224 bt217.2.1))) else (some x0)
def zcw.f (k : Nat) (l0 : List Int) (l1 : List Int) : Option (List Int) := (za5.f l0).bind fun t214 => (zcw.l0 k t214 l1)
theorem zcw.calls (k : Nat) (A0 : Option Addr) (c0 : Nat) (l0 : List Int) (P1_ : Nat → Prop) (A1 : Option Addr) (c1 : Nat) (l1 : List Int) (r : List Int) (w : World) (hr0 : Kd.C (Kd.int .u64) w A0 l0.length l0) (hc0 : l0.length ≤ c0) (hs1 : Kd.V (Kd.int .u64) 82 w w.heap.size (fun k_ => P1_ k_) (.slice A1 l1.length c1) l1) (h : zcw.f k l0 l1 = some r) :
  Calls Tryz.prog 82 #[.slice A0 l0.length c0, .slice A1 l1.length c1] w fun e w' => ∃ v0_ : Value, e = .returned (v0_) ∧ Kd.R (Kd.int .u64) 82 w' w.heap.size (fun k_ => (w.heap.size ≤ k_)) v0_ r ∧ Below w.heap.size w w' := by
 have HR0 := zA hr0
 have HC0 := zA hc0
 clear hr0 hc0
 have HO1 := zA (show Kd.V (Kd.int .u64) 82 w w.heap.size (fun k_ => (P1_ k_ ∨ w.heap.size ≤ k_)) (.slice A1 l1.length c1) l1 from Kd.zaq hs1 (fun k_ hk => .inl hk))
 have HB := zA (Below.refl w.heap.size w)
 have H : ((za5.f l0).bind fun t214 => (zcw.l0 k t214 l1)) = some r := h
 clear h
 replace H := zO H
 obtain ⟨t214, A30, H⟩ := H
 try dsimp only at H
 have A3 := zA A30
 clear A30
 have H' := zA H
 clear H
 go_enter Tryz.func82, Tryz.ntmps82
 go_wp2_with (first | ((with_reducible refine zad (f := 130) rfl ?_); refine zaz (some 9) rfl rfl Tryz.func130 (by kernel_rfl) rfl #[.slice A0 l0.length c0] rfl (zE) ?_; (with_reducible refine (za5.calls _ _ l0 t214 _ ?side1 ?side2 A3.out).mono ?_); (case side1 => repeat (first | exact HR0.out | (with_reducible refine Kd.zby ?_ _) | (with_reducible refine Kd.zb0 ?_ _) | (with_reducible refine Kd.zck ?_))); (case side2 => exact HC0.out); rintro e w4 ⟨v215, rfl, ho0, hb⟩; refine ⟨_, rfl, ?_⟩; have n0_ := zA (Kd.zb2 (zV HO1) (Kd.zbg ho0) hb); have n1_ := zA (Kd.zbo (Kd.R_newM (M := fun k_ => (w.heap.size ≤ k_)) ho0 (za (zB HB)) (fun k_ h_ => h_)) (za (zB HB))); have n2_ := zA (zab (zB HB) hb); clear HO1 HB; have HO1 := n0_; have HO216 := n1_; have HB := n2_; clear n0_ n1_ n2_; (try clear hb); (try clear hb2); (try clear hk); (try clear hi); (try clear ho0)))
 go_loopg [0, 1] k (fun kq v0 v1 w' => ∃ (x0_1 : List Int) (x1_1 : List Int), Aside0 (zcw.l0 kq x0_1 x1_1 = some r) ∧ Aside0 (kq ≤ k) ∧ Aside0 (Kd.R (Kd.int .u64) 82 w' w.heap.size (fun k_ => (w.heap.size ≤ k_)) v0 x0_1) ∧ Aside0 (Kd.V (Kd.int .u64) 82 w' w.heap.size (fun k_ => (P1_ k_ ∨ w.heap.size ≤ k_) ∧ some k_ ≠ (v0 : Value).ownBlock) v1 x1_1) ∧ Aside0 (Below w.heap.size w w'))
 case atStart => exact ⟨(t214), (l1), H', ⟨Nat.le_refl _⟩, ⟨by (with_reducible repeat (first | apply Kd.zbv | apply Kd.zbz | apply Kd.zb7)); exact Kd.zbl HO216.out (fun _ hk => hk.1)⟩, ⟨zV HO1⟩, ⟨zB HB⟩⟩
 case round =>
  clear H'
  try clear c1
  try clear p2
  obtain ⟨x0_1, x1_1, HA, HK1, HO_0, HO_1, HB⟩ := hrel
  cases gk with
  | zero => exact absurd HA.out (by simp [zcw.l0])
  | succ k1 =>
   have H := HA.out
   clear HA
   simp only [zcw.l0] at H
   by_cases c5 : (x1_1.length : Int) > 0
   ·
    rw [if_pos c5] at H
    have c5b0 : decide (0 < (x1_1.length : Int)) = true := decide_eq_true c5
    have c5b1 : decide (0 < x1_1.length) = true := decide_eq_true (by omega)
    clear c5
    replace H := zO H
    obtain ⟨⟨t217, t220, t223⟩, A60, H⟩ := H
    try dsimp only at H
    have A6 := zA A60
    clear A60
    replace H := zO H
    obtain ⟨t224, A70, H⟩ := H
    try dsimp only at H
    have A7 := zA A70
    clear A70
    have H' := zA H
    clear H
    obtain ⟨Ao8, co8, eo8⟩ := Kd.za9 HO_1.out
    subst eo8
    obtain ⟨Ao9, co9, eo9⟩ := Kd.zbm HO_0.out
    subst eo9
    go_wp2_with (first | ((with_reducible refine zad (f := 83) rfl ?_); refine zaz (some 16) rfl rfl Tryz.func83 (by kernel_rfl) rfl #[.slice Ao9 x0_1.length co9, .slice Ao8 x1_1.length co8] rfl (zE) ?_; (with_reducible refine (za3.calls k1 _ _ x0_1 _ _ x1_1 t217 t220 t223 _ ?side1 ?side2 ?side3 ?side4 A6.out).mono ?_); (case side1 => exact zJ (Kd.zav HO_0.out).2.2); (case side2 => exact (Kd.zav HO_0.out).2.1); (case side3 => exact zJ (Kd.zan HO_1.out).2.2); (case side4 => exact (Kd.zan HO_1.out).2.1); rintro e w10 ⟨v218, v221, rfl, ho0, ho1, hb⟩; refine ⟨_, rfl, ?_⟩; have n0_ := zA (Kd.zbt (zR HO_0) hb); have n1_ := zA (Kd.za1 (zV HO_1) hb); have n2_ := zA (Kd.za6 (Kd.zaq (ok' := fun k_ => (P1_ k_ ∨ w.heap.size ≤ k_) ∧ some k_ ≠ (.slice Ao9 x0_1.length co9 : Value).ownBlock) ho0 (fun k_ hk_ => ⟨(.inr (Nat.le_trans (za (zB HB)) hk_)), (Kd.fresh' (Kd.R_lt (zR HO_0)) k_ hk_)⟩)) (za (zB HB))); have n3_ := zA (Kd.za6 (Kd.zaq (ok' := fun k_ => (P1_ k_ ∨ w.heap.size ≤ k_) ∧ some k_ ≠ (.slice Ao9 x0_1.length co9 : Value).ownBlock) ho1 (fun k_ hk_ => ⟨(.inr (Nat.le_trans (za (zB HB)) hk_)), (Kd.fresh' (Kd.R_lt (zR HO_0)) k_ hk_)⟩)) (za (zB HB))); have n4_ := zA (zab (zB HB) hb); clear HO_0 HO_1 HB; have HO_0 := n0_; have HO_1 := n1_; have HO219 := n2_; have HO222 := n3_; have HB := n4_; clear n0_ n1_ n2_ n3_ n4_; (try clear hb); (try clear hb2); (try clear hk); (try clear hi); (try clear ho0); (try clear ho1)) | ((with_reducible refine zad (f := 130) rfl ?_); refine zaz (some 21) rfl rfl Tryz.func130 (by kernel_rfl) rfl #[.slice Ao8 x1_1.length co8] rfl (zE) ?_; (with_reducible refine (za5.calls _ _ x1_1 t224 _ ?side1 ?side2 A7.out).mono ?_); (case side1 => exact zJ (Kd.zan HO_1.out).2.2); (case side2 => exact (Kd.zan HO_1.out).2.1); rintro e w11 ⟨v225, rfl, ho0, hb⟩; refine ⟨_, rfl, ?_⟩; have n0_ := zA (Kd.zb1 (zR HO_0) (Kd.zbg ho0) hb); have n1_ := zA (Kd.zb2 (zV HO_1) (Kd.zbg ho0) hb); have n2_ := zA (Kd.zb2 (zV HO219) (Kd.zbg ho0) hb); have n3_ := zA (Kd.zb2 (zV HO222) (Kd.zbg ho0) hb); have n4_ := zA (Kd.zbo (Kd.zcl (Kd.R_newM (M := fun k_ => (w.heap.size ≤ k_)) ho0 (za (zB HB)) (fun k_ h_ => h_)) (Kd.R_lt (zR HO_0))) (za (zB HB))); have n5_ := zA (zab (zB HB) hb); clear HO_0 HO_1 HO219 HO222 HB; have HO_0 := n0_; have HO_1 := n1_; have HO219 := n2_; have HO222 := n3_; have HO226 := n4_; have HB := n5_; clear n0_ n1_ n2_ n3_ n4_ n5_; (try clear hb); (try clear hb2); (try clear hk); (try clear hi); (try clear ho0)))
    go_roundg k1
    case measure => have := HK1.out; omega
    case rel => exact ⟨(t224), (t220), H', ⟨by have := HK1.out; omega⟩, ⟨by (with_reducible repeat (first | apply Kd.zbv | apply Kd.zbz | apply Kd.zb7)); exact Kd.zbl HO226.out (fun _ hk => hk.1.1)⟩, ⟨by (with_reducible repeat (first | apply Kd.zbi | apply Kd.zbk | apply Kd.zbn)); exact Kd.zaq HO222.out (fun _ hk => ⟨hk.1.1, hk.2⟩)⟩, ⟨zB HB⟩⟩
   ·
    rw [if_neg c5] at H
    have c5b0 : decide (0 < (x1_1.length : Int)) = false := decide_eq_false c5
    have c5b1 : decide (0 < x1_1.length) = false := decide_eq_false (by omega)
    clear c5
    obtain rfl := Option.some.inj H
    obtain ⟨Ao12, co12, eo12⟩ := Kd.za9 HO_1.out
    subst eo12
    go_wp2
    go_ret
    exact ⟨_, zW, zR HO_0, zB HB⟩
def zc1.f (l0 : List Int) : Option (Bool) := if (l0.length : Int) = 0 then (some true) else (if 0 ≤ (wrap64 ((l0.length : Int) - 1)) then (if (wrap64 ((l0.length : Int) - 1)) < (l0.length : Int) then (some ((rd l0 (wrap64 ((l0.length : Int) - 1))) != 0)) else (none)) else (none))
theorem zc1.calls (A0 : Option Addr) (c0 : Nat) (l0 : List Int) (r : Bool) (w : World) (hr0 : Kd.C (Kd.int .u64) w A0 l0.length l0) (hc0 : l0.length ≤ c0) (h : zc1.f l0 = some r) :
  Calls Tryz.prog 121 #[.slice A0 l0.length c0] w fun e w' => e = .returned (.bool r) ∧ Drawn0 w w' := by
 have HR0 := zA hr0
 have HC0 := zA hc0
 clear hr0 hc0
 have H : (if (l0.length : Int) = 0 then (some true) else (if 0 ≤ (wrap64 ((l0.length : Int) - 1)) then (if (wrap64 ((l0.length : Int) - 1)) < (l0.length : Int) then (some ((rd l0 (wrap64 ((l0.length : Int) - 1))) != 0)) else (none)) else (none))) = some r := h
 clear h
 by_cases c2 : (l0.length : Int) = 0
 ·
  rw [if_pos c2] at H
  have c2b0 : ((l0.length : Int) == 0) = true := beq_iff_eq.mpr c2
  have c2b1 : ((l0.length : Int) != 0) = false := bne_eq_false_iff_eq.mpr c2
  clear c2
  obtain rfl := Option.some.inj H
  go_enter Tryz.func121, Tryz.ntmps121
  go_wp2
  go_ret
  exact ⟨zF, by repeat (first | exact Drawn0.refl _ | apply Drawn0.step)⟩
 ·
  rw [if_neg c2] at H
  have c2b0 : ((l0.length : Int) == 0) = false := beq_eq_false_iff_ne.mpr c2
  have c2b1 : ((l0.length : Int) != 0) = true := bne_iff_ne.mpr c2
  have c2b2 : ¬ (l0 = []) := fun h_ => c2 (by rw [h_]; rfl)
  obtain ⟨ji3, hji3⟩ : ∃ j_ : Int, (wrap64 ((l0.length : Int) - 1)) = j_ := ⟨_, rfl⟩
  replace H : (if 0 ≤ (ji3) then (if (ji3) < (l0.length : Int) then (some ((rd l0 (ji3)) != 0)) else (none)) else (none)) = some r := by first | (rw [hji3] at H; exact H) | (simp only [hji3] at H ⊢; exact H)
  have hji3w : (IntKind.i64.wrap ((l0.length : Int) - 1)) = ji3 := (i64_w _).trans hji3
  by_cases c4 : 0 ≤ (ji3)
  ·
   rw [if_pos c4] at H
   have c4b0 : decide (0 ≤ (ji3)) = true := decide_eq_true c4
   clear c4
   by_cases c5 : (ji3) < (l0.length : Int)
   ·
    rw [if_pos c5] at H
    have c5b0 : decide ((ji3) < (l0.length : Int)) = true := decide_eq_true c5
    clear c5
    obtain rfl := Option.some.inj H
    have p227 : 0 ≤ ((ji3) : Int) := of_decide_eq_true (by first | (with_reducible assumption) | assumption)
    have q227 : (ji3) < (l0.length : Int) := of_decide_eq_true (by first | (with_reducible assumption) | assumption)
    obtain ⟨ad227, e227, hx227_0⟩ := Kd.at_int HR0.out (ji3) p227 q227
    cases e227
    replace p227 := eq_true p227
    replace q227 := eq_true q227
    go_enter Tryz.func121, Tryz.ntmps121
    go_wp2
    go_ret
    exact ⟨by first | rfl | (simp; done) | (simp only [← hji3] <;> (first | rfl | simp)) | (simp [*]; done), by repeat (first | exact Drawn0.refl _ | apply Drawn0.step)⟩
   ·
    rw [if_neg c5] at H
    exact absurd H (by simp)
  ·
   rw [if_neg c4] at H
   exact absurd H (by simp)
def zc2.f (k : Nat) (l0_0 : List Int) (l0_1 : List Int) : Option (Bool) := (zc1.f l0_0).bind fun t229 => (if t229 = true then ((zc1.f l0_1).bind fun t230 => (if t230 = true then (if (l0_1.length : Int) > 0 then ((zcw.f k l0_0 l0_1).bind fun t231 => ((zcq.f k).bind fun t234 => ((zco.f t231 t234).bind fun t237 => (some (t237 == 0))))) else (some false)) else (some false))) else (some false))
theorem zc2.calls (k : Nat) (A0_0 : Option Addr) (c0_0 : Nat) (l0_0 : List Int) (A0_1 : Option Addr) (c0_1 : Nat) (l0_1 : List Int) (r : Bool) (w : World) (hr0_0 : Kd.C (Kd.int .u64) w A0_0 l0_0.length l0_0) (hc0_0 : l0_0.length ≤ c0_0) (hr0_1 : Kd.C (Kd.int .u64) w A0_1 l0_1.length l0_1) (hc0_1 : l0_1.length ≤ c0_1) (h : zc2.f k l0_0 l0_1 = some r) :
  Calls Tryz.prog 72 #[.agg #[.slice A0_0 l0_0.length c0_0, .slice A0_1 l0_1.length c0_1]] w fun e w' => e = .returned (.bool r) ∧ Below w.heap.size w w' := by
 have hu29 := Tryz.underlying29
 have HR0_0 := zA hr0_0
 have HC0_0 := zA hc0_0
 clear hr0_0 hc0_0
 have HR0_1 := zA hr0_1
 have HC0_1 := zA hc0_1
 clear hr0_1 hc0_1
 have HB := zA (Below.refl w.heap.size w)
 have H : ((zc1.f l0_0).bind fun t229 => (if t229 = true then ((zc1.f l0_1).bind fun t230 => (if t230 = true then (if (l0_1.length : Int) > 0 then ((zcw.f k l0_0 l0_1).bind fun t231 => ((zcq.f k).bind fun t234 => ((zco.f t231 t234).bind fun t237 => (some (t237 == 0))))) else (some false)) else (some false))) else (some false))) = some r := h
 clear h
 replace H := zO H
 obtain ⟨t229, A20, H⟩ := H
 try dsimp only at H
 have A2 := zA A20
 clear A20
 by_cases c3 : t229 = true
 ·
  subst c3
  rw [if_pos rfl] at H
  replace H := zO H
  obtain ⟨t230, A40, H⟩ := H
  try dsimp only at H
  have A4 := zA A40
  clear A40
  by_cases c5 : t230 = true
  ·
   subst c5
   rw [if_pos rfl] at H
   by_cases c6 : (l0_1.length : Int) > 0
   ·
    rw [if_pos c6] at H
    have c6b0 : decide (0 < (l0_1.length : Int)) = true := decide_eq_true c6
    have c6b1 : decide (0 < l0_1.length) = true := decide_eq_true (by omega)
    clear c6
    replace H := zO H
    obtain ⟨t231, A70, H⟩ := H
    try dsimp only at H
    have A7 := zA A70
    clear A70
    replace H := zO H
    obtain ⟨t234, A80, H⟩ := H
    try dsimp only at H
    have A8 := zA A80
    clear A80
    replace H := zO H
    obtain ⟨t237, A90, H⟩ := H
    try dsimp only at H
    have A9 := zA A90
    clear A90
    obtain rfl := Option.some.inj H
    go_enter Tryz.func72, Tryz.ntmps72
    go_wp2_with (first | ((with_reducible refine za4 (N := 1) rfl ?_); (try (refine zcb (by rfl) ?_; dsimp only)); refine zba ?hg (N := 1) ?hd (cs := #[.slice A0_0 l0_0.length c0_0, .slice A0_1 l0_1.length c0_1]) (t := 29) ?hr ?_; (case hd => rfl); (case hg => rfl); (case hr => first | (go_simp; done) | (go_simp; rfl)); intro gb228 hg w10 hbox hb; have n0_ := zA (zab (zB HB) hb); have n1_ := zA (hbox); have n2_ := zA ((by rw [hg]; exact (za (zB HB)) : w.heap.size ≤ gb228)); have n3_ := zA ((by rw [hg]; exact (za (zB HB)) : w.heap.size ≤ gb228)); clear HB; have HB := n0_; have BK228 := n1_; have GW228 := n2_; have GE228 := n3_; clear n0_ n1_ n2_ n3_ hb hbox hg; have hcz11_0 : w10.cell? ⟨gb228, 0, none⟩ = some (.slice A0_0 l0_0.length c0_0) := (zac BK228.out 0).trans rfl; have hcz11_1 : w10.cell? ⟨gb228, 1, none⟩ = some (.slice A0_1 l0_1.length c0_1) := (zac BK228.out 1).trans rfl; have hfz11_0 := zaj BK228.out 0; have hfz11_1 := zaj BK228.out 1) | ((with_reducible refine zad (f := 121) rfl ?_); refine zaz (some 5) rfl rfl Tryz.func121 (by kernel_rfl) rfl #[.slice A0_0 l0_0.length c0_0] rfl (zE) ?_; (with_reducible refine (zc1.calls _ _ l0_0 true _ ?side1 ?side2 A2.out).mono ?_); (case side1 => exact zJ (Kd.zax HR0_0.out HB.out)); (case side2 => exact HC0_0.out); rintro e w' ⟨rfl, ⟨nd, rfl⟩⟩; refine ⟨_, rfl, ?_⟩) | (go_at_call 121; (with_reducible refine (zc1.calls _ _ l0_1 true _ ?side1 ?side2 A4.out).mono ?_); (case side1 => exact zJ (Kd.zax HR0_1.out (zB HB))); (case side2 => exact HC0_1.out); rintro e w' ⟨rfl, ⟨nd, rfl⟩⟩) | (go_at_call 82; (with_reducible refine (zcw.calls k _ _ l0_0 (fun k_ => k_ < w.heap.size) _ _ l0_1 t231 _ ?side1 ?side2 ?side3 A7.out).mono ?_); (case side1 => exact zJ (Kd.zax HR0_0.out (zB HB))); (case side2 => exact HC0_0.out); (case side3 => exact Kd.V_mk HC0_1.out (Kd.F_below (Kd.C_F (Kd.heap_int .u64) HR0_1.out) (zB HB))); rintro e w12 ⟨v232, rfl, ho0, hb⟩; have n0_ := zA (Kd.zbo (Kd.zbl (ok' := fun k_ => True) ho0 (fun _ hk_ => trivial)) (za (zB HB))); have n1_ := zA (zae (g := gb228) (o := .cells #[.slice A0_0 l0_0.length c0_0, .slice A0_1 l0_1.length c0_1] 29 (0, 0)) (zK BK228) hb); have n2_ := zA (zab (zB HB) hb); clear BK228 HB; have HO233 := n0_; have BK228 := n1_; have HB := n2_; clear n0_ n1_ n2_; (try clear hb); (try clear hb2); (try clear hk); (try clear hi); (try clear ho0)) | (go_at_call 43; (with_reducible refine (zcq.calls k  t234 _ A8.out).mono ?_); rintro e w13 ⟨v235, rfl, ho0, hb⟩; have n0_ := zA (Kd.zbt (zR HO233) hb); have n1_ := zA (Kd.za6 (Kd.zaq (ok' := fun k_ => some k_ ≠ (v232 : Value).ownBlock ∧ k_ ≠ gb228) ho0 (fun k_ hk_ => ⟨(Kd.fresh' (Kd.R_lt (zR HO233)) k_ hk_), (Kd.freshB (g := gb228) (o := .cells #[.slice A0_0 l0_0.length c0_0, .slice A0_1 l0_1.length c0_1] 29 (0, 0)) (zK BK228) k_ hk_)⟩)) (za (zB HB))); have n2_ := zA (zae (g := gb228) (o := .cells #[.slice A0_0 l0_0.length c0_0, .slice A0_1 l0_1.length c0_1] 29 (0, 0)) (zK BK228) hb); have n3_ := zA (zab (zB HB) hb); clear HO233 BK228 HB; have HO233 := n0_; have HO236 := n1_; have BK228 := n2_; have HB := n3_; clear n0_ n1_ n2_ n3_; (try clear hb); (try clear hb2); (try clear hk); (try clear hi); (try clear ho0); obtain ⟨Ao14, co14, eo14⟩ := Kd.zbm HO233.out; subst eo14; obtain ⟨Ao15, co15, eo15⟩ := Kd.za9 HO236.out; subst eo15) | (go_at_call 42; (with_reducible refine (zco.calls _ _ t231 _ _ t234 t237 _ ?side1 ?side2 ?side3 ?side4 A9.out).mono ?_); (case side1 => exact zJ (Kd.zav HO233.out).2.2); (case side2 => exact (Kd.zav HO233.out).2.1); (case side3 => exact zJ (Kd.zan HO236.out).2.2); (case side4 => exact (Kd.zan HO236.out).2.1); rintro e w16 ⟨rfl, hb⟩; have n0_ := zA (Kd.zbt (zR HO233) hb); have n1_ := zA (Kd.za1 (zV HO236) hb); have n2_ := zA (zae (g := gb228) (o := .cells #[.slice A0_0 l0_0.length c0_0, .slice A0_1 l0_1.length c0_1] 29 (0, 0)) (zK BK228) hb); have n3_ := zA (zab (zB HB) hb); clear HO233 HO236 BK228 HB; have HO233 := n0_; have HO236 := n1_; have BK228 := n2_; have HB := n3_; clear n0_ n1_ n2_ n3_; (try clear hb); (try clear hb2); (try clear hk); (try clear hi)))
    go_ret
    exact ⟨zW, zB HB⟩
   ·
    rw [if_neg c6] at H
    have c6b0 : decide (0 < (l0_1.length : Int)) = false := decide_eq_false c6
    have c6b1 : decide (0 < l0_1.length) = false := decide_eq_false (by omega)
    clear c6
    obtain rfl := Option.some.inj H
    go_enter Tryz.func72, Tryz.ntmps72
    go_wp2_with (first | ((with_reducible refine za4 (N := 1) rfl ?_); (try (refine zcb (by rfl) ?_; dsimp only)); refine zba ?hg (N := 1) ?hd (cs := #[.slice A0_0 l0_0.length c0_0, .slice A0_1 l0_1.length c0_1]) (t := 29) ?hr ?_; (case hd => rfl); (case hg => rfl); (case hr => first | (go_simp; done) | (go_simp; rfl)); intro gb228 hg w17 hbox hb; have n0_ := zA (zab (zB HB) hb); have n1_ := zA (hbox); have n2_ := zA ((by rw [hg]; exact (za (zB HB)) : w.heap.size ≤ gb228)); have n3_ := zA ((by rw [hg]; exact (za (zB HB)) : w.heap.size ≤ gb228)); clear HB; have HB := n0_; have BK228 := n1_; have GW228 := n2_; have GE228 := n3_; clear n0_ n1_ n2_ n3_ hb hbox hg; have hcz18_0 : w17.cell? ⟨gb228, 0, none⟩ = some (.slice A0_0 l0_0.length c0_0) := (zac BK228.out 0).trans rfl; have hcz18_1 : w17.cell? ⟨gb228, 1, none⟩ = some (.slice A0_1 l0_1.length c0_1) := (zac BK228.out 1).trans rfl; have hfz18_0 := zaj BK228.out 0; have hfz18_1 := zaj BK228.out 1) | ((with_reducible refine zad (f := 121) rfl ?_); refine zaz (some 5) rfl rfl Tryz.func121 (by kernel_rfl) rfl #[.slice A0_0 l0_0.length c0_0] rfl (zE) ?_; (with_reducible refine (zc1.calls _ _ l0_0 true _ ?side1 ?side2 A2.out).mono ?_); (case side1 => exact zJ (Kd.zax HR0_0.out HB.out)); (case side2 => exact HC0_0.out); rintro e w' ⟨rfl, ⟨nd, rfl⟩⟩; refine ⟨_, rfl, ?_⟩) | (go_at_call 121; (with_reducible refine (zc1.calls _ _ l0_1 true _ ?side1 ?side2 A4.out).mono ?_); (case side1 => exact zJ (Kd.zax HR0_1.out (zB HB))); (case side2 => exact HC0_1.out); rintro e w' ⟨rfl, ⟨nd, rfl⟩⟩))
    go_ret
    exact ⟨zW, zB HB⟩
  ·
   replace c5 := Bool.eq_false_iff.mpr c5
   subst c5
   rw [if_neg (show ¬ (false = true) by decide)] at H
   obtain rfl := Option.some.inj H
   go_enter Tryz.func72, Tryz.ntmps72
   go_wp2_with (first | ((with_reducible refine za4 (N := 1) rfl ?_); (try (refine zcb (by rfl) ?_; dsimp only)); refine zba ?hg (N := 1) ?hd (cs := #[.slice A0_0 l0_0.length c0_0, .slice A0_1 l0_1.length c0_1]) (t := 29) ?hr ?_; (case hd => rfl); (case hg => rfl); (case hr => first | (go_simp; done) | (go_simp; rfl)); intro gb228 hg w19 hbox hb; have n0_ := zA (zab (zB HB) hb); have n1_ := zA (hbox); have n2_ := zA ((by rw [hg]; exact (za (zB HB)) : w.heap.size ≤ gb228)); have n3_ := zA ((by rw [hg]; exact (za (zB HB)) : w.heap.size ≤ gb228)); clear HB; have HB := n0_; have BK228 := n1_; have GW228 := n2_; have GE228 := n3_; clear n0_ n1_ n2_ n3_ hb hbox hg; have hcz20_0 : w19.cell? ⟨gb228, 0, none⟩ = some (.slice A0_0 l0_0.length c0_0) := (zac BK228.out 0).trans rfl; have hcz20_1 : w19.cell? ⟨gb228, 1, none⟩ = some (.slice A0_1 l0_1.length c0_1) := (zac BK228.out 1).trans rfl; have hfz20_0 := zaj BK228.out 0; have hfz20_1 := zaj BK228.out 1) | ((with_reducible refine zad (f := 121) rfl ?_); refine zaz (some 5) rfl rfl Tryz.func121 (by kernel_rfl) rfl #[.slice A0_0 l0_0.length c0_0] rfl (zE) ?_; (with_reducible refine (zc1.calls _ _ l0_0 true _ ?side1 ?side2 A2.out).mono ?_); (case side1 => exact zJ (Kd.zax HR0_0.out HB.out)); (case side2 => exact HC0_0.out); rintro e w' ⟨rfl, ⟨nd, rfl⟩⟩; refine ⟨_, rfl, ?_⟩) | (go_at_call 121; (with_reducible refine (zc1.calls _ _ l0_1 false _ ?side1 ?side2 A4.out).mono ?_); (case side1 => exact zJ (Kd.zax HR0_1.out (zB HB))); (case side2 => exact HC0_1.out); rintro e w' ⟨rfl, ⟨nd, rfl⟩⟩))
   go_ret
   exact ⟨zW, zB HB⟩
 ·
  replace c3 := Bool.eq_false_iff.mpr c3
  subst c3
  rw [if_neg (show ¬ (false = true) by decide)] at H
  obtain rfl := Option.some.inj H
  go_enter Tryz.func72, Tryz.ntmps72
  go_wp2_with (first | ((with_reducible refine za4 (N := 1) rfl ?_); (try (refine zcb (by rfl) ?_; dsimp only)); refine zba ?hg (N := 1) ?hd (cs := #[.slice A0_0 l0_0.length c0_0, .slice A0_1 l0_1.length c0_1]) (t := 29) ?hr ?_; (case hd => rfl); (case hg => rfl); (case hr => first | (go_simp; done) | (go_simp; rfl)); intro gb228 hg w21 hbox hb; have n0_ := zA (zab (zB HB) hb); have n1_ := zA (hbox); have n2_ := zA ((by rw [hg]; exact (za (zB HB)) : w.heap.size ≤ gb228)); have n3_ := zA ((by rw [hg]; exact (za (zB HB)) : w.heap.size ≤ gb228)); clear HB; have HB := n0_; have BK228 := n1_; have GW228 := n2_; have GE228 := n3_; clear n0_ n1_ n2_ n3_ hb hbox hg; have hcz22_0 : w21.cell? ⟨gb228, 0, none⟩ = some (.slice A0_0 l0_0.length c0_0) := (zac BK228.out 0).trans rfl; have hcz22_1 : w21.cell? ⟨gb228, 1, none⟩ = some (.slice A0_1 l0_1.length c0_1) := (zac BK228.out 1).trans rfl; have hfz22_0 := zaj BK228.out 0; have hfz22_1 := zaj BK228.out 1) | ((with_reducible refine zad (f := 121) rfl ?_); refine zaz (some 5) rfl rfl Tryz.func121 (by kernel_rfl) rfl #[.slice A0_0 l0_0.length c0_0] rfl (zE) ?_; (with_reducible refine (zc1.calls _ _ l0_0 false _ ?side1 ?side2 A2.out).mono ?_); (case side1 => exact zJ (Kd.zax HR0_0.out HB.out)); (case side2 => exact HC0_0.out); rintro e w' ⟨rfl, ⟨nd, rfl⟩⟩; refine ⟨_, rfl, ?_⟩))
  go_ret
  exact ⟨zW, zB HB⟩
def zaf.l0 : Nat → List ByteArray → Int → Int → Option (List ByteArray)
 | 0, _, _, _ => none
 | k + 1, x0, x2, x3 => if x2 < x3 then (if 0 ≤ x3 then (if x3 < (x0.length : Int) then (if 0 ≤ x2 then (if x2 < (x0.length : Int) then (zaf.l0 k ((x0.set (x2 : Int).toNat (rdOf ByteArray.empty x0 x3)).set (x3 : Int).toNat (rdOf ByteArray.empty x0 x2)) (wrap64 (x2 + 1)) (wrap64 (x3 - 1))) else (none)) else (none)) else (none)) else (none)) else (some x0)
def zaf.f (k : Nat) (l0 : List ByteArray) : Option (List ByteArray) := zaf.l0 k l0 0 (wrap64 ((l0.length : Int) - 1))
def zaf.T3 : Bool × List (List Nat × List Nat) := (true, [([], []), ([], []), ([], []), ([], []), ([], []), ([], []), ([4, 5], [4, 5]), ([6], [6]), ([], []), ([], []), ([8, 9], [8, 9]), ([10], [10]), ([0, 1, 0, 1, 4, 5, 6, 7, 11], [0, 1]), ([12, 7, 0, 1, 4, 5, 6, 7, 11], [7, 12]), ([2, 3, 0, 1, 2, 3, 4, 5, 6, 7, 8, 9, 10, 11, 12, 13], [2, 3]), ([14, 11, 13, 0, 1, 2, 3, 4, 5, 6, 7, 8, 9, 10, 11, 12, 13], [11, 14])])
def zaf.B3 : List Nat := [0, 0, 0, 0, 0, 0, 48, 112, 0, 0, 768, 1792, 4083, 8179, 16383, 32767]
theorem zaf.tab3 : rtab .any (opsOf Tryz.f118 3) = zaf.T3 := by kernel_rfl
theorem zaf.bits3 : waitsOk zaf.T3.2 zaf.B3 = true := by kernel_rfl
theorem zaf.calls (k : Nat) (P0_ : Nat → Prop) (u9000_ : Value) (l0 : List ByteArray) (r : List ByteArray) (w0 w : World) (hB : Below w0.heap.size w0 w) (ho0 : Kd.R Kd.string 9 w w0.heap.size P0_ u9000_ l0) (h : zaf.f k l0 = some r) :
  Calls Tryz.prog 118 #[u9000_] w fun e w' => e = .returned (.tuple #[]) ∧ Kd.R Kd.string 9 w' w0.heap.size (fun k_ => (P0_ k_ ∨ w.heap.size ≤ k_)) u9000_ r ∧ Below w0.heap.size w0 w' ∧ Kept w w' (fun k_ => P0_ k_) := by
 have HO0 := zA (show Kd.R Kd.string 9 w w0.heap.size (fun k_ => (P0_ k_ ∨ w.heap.size ≤ k_)) u9000_ l0 from Kd.zbl ho0 (fun k_ hk => (.inl hk)))
 have HK := zA (Kept.refl w (fun k_ => P0_ k_))
 have HW0 := zA hB.size
 have HB := zA hB
 clear hB
 have H : (zaf.l0 k l0 0 (wrap64 ((l0.length : Int) - 1))) = some r := h
 clear h
 have H' := zA H
 clear H
 obtain ⟨Ao2, co2, eo2⟩ := Kd.zbm HO0.out
 subst eo2
 go_enter Tryz.func118, Tryz.ntmps118
 go_wp2
 go_loopg [2, 3] k (fun kq v2 v3 w' => ∃ (x0_1 : List ByteArray) (x2_1 : Int) (x3_1 : Int), v2 = .int .i64 x2_1 ∧ v3 = .int .i64 x3_1 ∧ Aside0 (zaf.l0 kq x0_1 x2_1 x3_1 = some r) ∧ Aside0 (kq ≤ k) ∧ Aside0 (Kd.R Kd.string 9 w' w0.heap.size (fun k_ => (P0_ k_ ∨ w.heap.size ≤ k_)) (.slice Ao2 l0.length co2) x0_1) ∧ Aside0 (Kept w w' (fun k_ => P0_ k_)) ∧ Aside0 (Below w0.heap.size w0 w'))
 case atStart => exact ⟨(l0), (0), (wrap64 ((l0.length : Int) - 1)), (zF), (zF), H', ⟨Nat.le_refl _⟩, ⟨zR HO0⟩, ⟨by repeat (first | (with_reducible first | exact HK.out | apply Kept.alloc | apply Kept.drewN | apply Kept.drew) | exact HK.out)⟩, ⟨zB HB⟩⟩
 case round =>
  clear H'
  try clear c1
  try clear p2
  obtain ⟨x0_1, x2_1, x3_1, rfl, rfl, HA, HK1, HO_0, HK, HB⟩ := hrel
  have hl0_1 := (Kd.zav HO_0.out).1
  rw [hl0_1] at HO_0
  (try simp only [hl0_1])
  cases gk with
  | zero => exact absurd HA.out (by simp [zaf.l0])
  | succ k1 =>
   have H := HA.out
   clear HA
   simp only [zaf.l0] at H
   by_cases c3 : x2_1 < x3_1
   ·
    rw [if_pos c3] at H
    have c3b0 : decide (x2_1 < x3_1) = true := decide_eq_true c3
    clear c3
    by_cases c4 : 0 ≤ x3_1
    ·
     rw [if_pos c4] at H
     have c4b0 : decide (0 ≤ x3_1) = true := decide_eq_true c4
     clear c4
     by_cases c5 : x3_1 < (x0_1.length : Int)
     ·
      rw [if_pos c5] at H
      have c5b0 : decide (x3_1 < (x0_1.length : Int)) = true := decide_eq_true c5
      clear c5
      by_cases c6 : 0 ≤ x2_1
      ·
       rw [if_pos c6] at H
       have c6b0 : decide (0 ≤ x2_1) = true := decide_eq_true c6
       clear c6
       by_cases c7 : x2_1 < (x0_1.length : Int)
       ·
        rw [if_pos c7] at H
        have c7b0 : decide (x2_1 < (x0_1.length : Int)) = true := decide_eq_true c7
        clear c7
        obtain ⟨y351, hy351⟩ : ∃ y_ : List ByteArray, y_ = (x0_1.set (x2_1 : Int).toNat (rdOf ByteArray.empty x0_1 x3_1)) := ⟨_, rfl⟩
        replace H : (zaf.l0 k1 (y351.set (x3_1 : Int).toNat (rdOf ByteArray.empty x0_1 x2_1)) (wrap64 (x2_1 + 1)) (wrap64 (x3_1 - 1))) = some r := by first | (rw [hy351]; with_reducible exact H) | (have H2_ := (Option.bind_some _ _).symm.trans H; rw [hy351]; with_reducible exact H2_) | (have H2_ := (Option.bind_some _ _).symm.trans H; with_reducible exact H2_) | with_reducible exact H | (rw [hy351]; exact H) | exact H
        have Ny351 := zA hy351
        clear hy351
        obtain ⟨y352, hy352⟩ : ∃ y_ : List ByteArray, y_ = (y351.set (x3_1 : Int).toNat (rdOf ByteArray.empty x0_1 x2_1)) := ⟨_, rfl⟩
        replace H : (zaf.l0 k1 y352 (wrap64 (x2_1 + 1)) (wrap64 (x3_1 - 1))) = some r := by first | (rw [hy352]; with_reducible exact H) | (have H2_ := (Option.bind_some _ _).symm.trans H; rw [hy352]; with_reducible exact H2_) | (have H2_ := (Option.bind_some _ _).symm.trans H; with_reducible exact H2_) | with_reducible exact H | (rw [hy352]; exact H) | exact H
        have Ny352 := zA hy352
        clear hy352
        have H' := zA H
        clear H
        try go_wp2
        have n0_ := zA (Kd.zb7 HO_0.out)
        have n1_ := zA (Kept.drew HK.out)
        have n2_ := zA (zbe HB.out)
        clear HO_0 HK HB
        have HO_0 := n0_
        have HK := n1_
        have HB := n2_
        clear n0_ n1_ n2_
        have p349 : 0 ≤ (x3_1 : Int) := of_decide_eq_true (by first | (with_reducible assumption) | assumption)
        have q349 : x3_1 < (x0_1.length : Int) := of_decide_eq_true (by first | (with_reducible assumption) | assumption)
        obtain ⟨ad349, e349, hx349_0⟩ := Kd.at_string (Kd.zav HO_0.out).2.2 x3_1 p349 q349
        cases e349
        replace p349 := eq_true p349
        replace q349 := eq_true q349
        have p350 : 0 ≤ (x2_1 : Int) := of_decide_eq_true (by first | (with_reducible assumption) | assumption)
        have q350 : x2_1 < (x0_1.length : Int) := of_decide_eq_true (by first | (with_reducible assumption) | assumption)
        obtain ⟨ad350, e350, hx350_0⟩ := Kd.at_string (Kd.zav HO_0.out).2.2 x2_1 p350 q350
        obtain rfl : ad349 = ad350 := (by injection e350)
        replace p350 := eq_true p350
        replace q350 := eq_true q350
        have p8 : 0 ≤ (x2_1 : Int) := of_decide_eq_true (by first | (with_reducible assumption) | assumption)
        have q8 : (x2_1 : Int) < ((x0_1.length : Int) : Int) := of_decide_eq_true (by first | (with_reducible assumption) | assumption)
        obtain ⟨go8, co8, eo8, gb8, gl8, cl8, HG8⟩ := Kd.R_form HO_0.out (by omega)
        (first | cases eo8 | (injection eo8 with ea_ en_ ec_; (first | subst ea_ | (injection ea_ with ea_; subst ea_)); subst ec_; clear en_))
        have GB8 := zA gb8
        have GG8 := zA HG8
        clear gb8 gl8 HG8
        have HMgo8 := zA (show (P0_ go8 ∨ w.heap.size ≤ go8) from (HO_0.out.1 _ rfl))
        (first | simp only [add_plain] at hx349_0 | skip)
        (first | simp only [add_plain] at hx350_0 | skip)
        obtain ⟨hx8_0, hf8_0⟩ := Kd.zc8 (⟨#[]⟩ : ByteArray) HO_0.out (x2_1 : Int) p8 q8
        replace p8 := eq_true p8
        replace q8 := eq_true q8
        have HP11 := Kd.R_putn HO_0.out (x2_1 : Int) (rdOf ByteArray.empty x0_1 x3_1)
        rw [← Ny351.out] at HP11
        have HQ11 := zA HP11
        clear HP11
        have p9 : 0 ≤ (x3_1 : Int) := of_decide_eq_true (by first | (with_reducible assumption) | assumption)
        have q9 : (x3_1 : Int) < ((x0_1.length : Int) : Int) := of_decide_eq_true (by first | (with_reducible assumption) | assumption)
        obtain ⟨hx9_0, hf9_0⟩ := Kd.zc8 (⟨#[]⟩ : ByteArray) HQ11.out (x3_1 : Int) p9 q9
        replace p9 := eq_true p9
        replace q9 := eq_true q9
        have HP12 := Kd.R_putn HQ11.out (x3_1 : Int) (rdOf ByteArray.empty x0_1 x2_1)
        rw [← Ny352.out] at HP12
        have HQ12 := zA HP12
        clear HP12
        refine zdi (n := 16) (S := fun w' => w'.cell? ⟨go8, (x3_1).toNat, none⟩ = some (.string (rdOf ByteArray.empty x0_1 x3_1)) ∧ w'.cell? ⟨go8, (x2_1).toNat, none⟩ = some (.string (rdOf ByteArray.empty x0_1 x2_1))) (ds := [13, 15]) #[false, false, false, false, false, false, false, false, false, false, false, false, false, false, false, false] (by kernel_rfl) rfl rfl ⟨hx349_0, hx350_0⟩ (fun hHeld => ?_); refine zcn zaf.tab3 zaf.bits3 (fun HT_ HW_ => ?_)
        generalize wr.drew = w10 at HO_0 HK HB GG8 HQ11 HQ12 hf8_0 hf9_0 hx349_0 hx350_0 hx8_0 hx9_0 hHeld ⊢
        refine pure_ (i := 0) (N := some 14) (v := ?_) (a' := ?_) #[true, false, false, false, false, false, false, false, false, false, false, false, false, false, false, false] rfl rfl (zas HT_.out (by kernel_rfl)) (fun _ _ _ h => h) (Or.inl ⟨by rfl, ?_⟩) ?_ ?_
        rotate_left
        ·
         intro w'
         go_simp
         with_reducible rfl
        rotate_left
        ·
         simp only [Act.put, zs1, zs2, zs3, i64_w, i32_w]
         rfl
        refine pure_ (i := 1) (N := some 15) (v := ?_) (a' := ?_) #[true, true, false, false, false, false, false, false, false, false, false, false, false, false, false, false] rfl rfl (zas HT_.out (by kernel_rfl)) (fun _ _ _ h => h) (Or.inl ⟨by rfl, ?_⟩) ?_ ?_
        rotate_left
        ·
         intro w'
         go_simp
         with_reducible rfl
        rotate_left
        ·
         simp only [Act.put, zs1, zs2, zs3, i64_w, i32_w]
         rfl
        refine pure_ (i := 2) (N := some 16) (v := ?_) (a' := ?_) #[true, true, true, false, false, false, false, false, false, false, false, false, false, false, false, false] rfl rfl (zas HT_.out (by kernel_rfl)) (fun _ _ _ h => h) (Or.inl ⟨by rfl, ?_⟩) ?_ ?_
        rotate_left
        ·
         intro w'
         go_simp
         with_reducible rfl
        rotate_left
        ·
         simp only [Act.put, zs1, zs2, zs3, i64_w, i32_w]
         rfl
        refine pure_ (i := 3) (N := some 17) (v := ?_) (a' := ?_) #[true, true, true, true, false, false, false, false, false, false, false, false, false, false, false, false] rfl rfl (zas HT_.out (by kernel_rfl)) (fun _ _ _ h => h) (Or.inl ⟨by rfl, ?_⟩) ?_ ?_
        rotate_left
        ·
         intro w'
         go_simp
         with_reducible rfl
        rotate_left
        ·
         simp only [Act.put, zs1, zs2, zs3, i64_w, i32_w]
         rfl
        refine pure_ (i := 4) (N := some 18) (v := ?_) (a' := ?_) #[true, true, true, true, true, false, false, false, false, false, false, false, false, false, false, false] rfl rfl (zas HT_.out (by kernel_rfl)) (fun _ _ _ h => h) (Or.inl ⟨by rfl, ?_⟩) ?_ ?_
        rotate_left
        ·
         intro w'
         go_simp
         with_reducible rfl
        rotate_left
        ·
         simp only [Act.put, zs1, zs2, zs3, i64_w, i32_w]
         rfl
        refine pure_ (i := 5) (N := some 19) (v := ?_) (a' := ?_) #[true, true, true, true, true, true, false, false, false, false, false, false, false, false, false, false] rfl rfl (zas HT_.out (by kernel_rfl)) (fun _ _ _ h => h) (Or.inl ⟨by rfl, ?_⟩) ?_ ?_
        rotate_left
        ·
         intro w'
         go_simp
         with_reducible rfl
        rotate_left
        ·
         simp only [Act.put, zs1, zs2, zs3, i64_w, i32_w]
         rfl
        refine pure_ (i := 6) (N := some 20) (v := ?_) (a' := ?_) #[true, true, true, true, true, true, true, false, false, false, false, false, false, false, false, false] rfl rfl (zas HT_.out (by kernel_rfl)) (fun _ _ _ h => h) (Or.inl ⟨by rfl, ?_⟩) ?_ ?_
        rotate_left
        ·
         intro w'
         go_simp
         with_reducible rfl
        rotate_left
        ·
         simp only [Act.put, zs1, zs2, zs3, i64_w, i32_w]
         rfl
        refine pure_ (i := 8) (N := some 22) (v := ?_) (a' := ?_) #[true, true, true, true, true, true, true, false, true, false, false, false, false, false, false, false] rfl rfl (zas HT_.out (by kernel_rfl)) (fun _ _ _ h => h) (Or.inl ⟨by rfl, ?_⟩) ?_ ?_
        rotate_left
        ·
         intro w'
         go_simp
         with_reducible rfl
        rotate_left
        ·
         simp only [Act.put, zs1, zs2, zs3, i64_w, i32_w]
         rfl
        refine pure_ (i := 9) (N := some 23) (v := ?_) (a' := ?_) #[true, true, true, true, true, true, true, false, true, true, false, false, false, false, false, false] rfl rfl (zas HT_.out (by kernel_rfl)) (fun _ _ _ h => h) (Or.inl ⟨by rfl, ?_⟩) ?_ ?_
        rotate_left
        ·
         intro w'
         go_simp
         with_reducible rfl
        rotate_left
        ·
         simp only [Act.put, zs1, zs2, zs3, i64_w, i32_w]
         rfl
        refine pure_ (i := 10) (N := some 24) (v := ?_) (a' := ?_) #[true, true, true, true, true, true, true, false, true, true, true, false, false, false, false, false] rfl rfl (zas HT_.out (by kernel_rfl)) (fun _ _ _ h => h) (Or.inl ⟨by rfl, ?_⟩) ?_ ?_
        rotate_left
        ·
         intro w'
         go_simp
         with_reducible rfl
        rotate_left
        ·
         simp only [Act.put, zs1, zs2, zs3, i64_w, i32_w]
         rfl
        refine take_ (i := 7) (N := some 21) (v := ?_) (a' := ?_) #[true, true, true, true, true, true, true, true, true, true, true, false, false, false, false, false] rfl rfl (zbp HT_.out HW_.out (by kernel_rfl)) (fun _ _ _ h => h) (Or.inl ⟨by rfl, ?_⟩) hHeld ?_ ?_
        rotate_left
        ·
         rintro w' ⟨s0, s1⟩
         go_simp
         with_reducible rfl
        rotate_left
        ·
         simp only [Act.put, zs1, zs2, zs3, i64_w, i32_w]
         rfl
        refine take_ (i := 11) (N := some 25) (v := ?_) (a' := ?_) #[true, true, true, true, true, true, true, true, true, true, true, true, false, false, false, false] rfl rfl (zbp HT_.out HW_.out (by kernel_rfl)) (fun _ _ _ h => h) (Or.inl ⟨by rfl, ?_⟩) hHeld ?_ ?_
        rotate_left
        ·
         rintro w' ⟨s0, s1⟩
         go_simp
         with_reducible rfl
        rotate_left
        ·
         simp only [Act.put, zs1, zs2, zs3, i64_w, i32_w]
         rfl
        refine pure_ (i := 12) (N := some 26) (v := ?_) (a' := ?_) #[true, true, true, true, true, true, true, true, true, true, true, true, true, false, false, false] rfl rfl (zas HT_.out (by kernel_rfl)) (fun _ _ _ h => h) (Or.inl ⟨by rfl, ?_⟩) ?_ ?_
        rotate_left
        ·
         intro w'
         go_simp
         with_reducible rfl
        rotate_left
        ·
         simp only [Act.put, zs1, zs2, zs3, i64_w, i32_w]
         rfl
        refine last_ (i := 13) (N := none) #[true, true, true, true, true, true, true, true, true, true, true, true, true, true, false, false] rfl rfl (zb6 HT_.out (by kernel_rfl)) (by decide) (fun K hK => ?_)
        refine skip_ (w1 := ?_) (by rfl) rfl ?_ ?_
        rotate_left
        ·
         go_simp
         rfl
        refine hK.out _ _ ?_
        clear hK K
        refine pure_ (i := 14) (N := some 27) (v := ?_) (a' := ?_) #[true, true, true, true, true, true, true, true, true, true, true, true, true, true, true, false] rfl rfl (zas HT_.out (by kernel_rfl)) (fun _ _ _ h => h) (Or.inl ⟨by rfl, ?_⟩) ?_ ?_
        rotate_left
        ·
         intro w'
         go_simp
         with_reducible rfl
        rotate_left
        ·
         simp only [Act.put, zs1, zs2, zs3, i64_w, i32_w]
         rfl
        refine last_ (i := 15) (N := none) #[true, true, true, true, true, true, true, true, true, true, true, true, true, true, true, true] rfl rfl (zb6 HT_.out (by kernel_rfl)) (by decide) (fun K hK => ?_)
        refine skip_ (w1 := ?_) (by rfl) rfl ?_ ?_
        rotate_left
        ·
         go_simp
         rfl
        refine hK.out _ _ ?_
        clear hK K
        refine done_ (zc7 HT_.out (by kernel_rfl)) ?_
        try go_wp2
        (try simp only [← hl0_1])
        go_roundg k1
        case measure => have := HK1.out; omega
        case rel => exact ⟨(y352), (wrap64 (x2_1 + 1)), (wrap64 (x3_1 - 1)), (zF), (zF), H', ⟨by have := HK1.out; omega⟩, ⟨by (try simp only [hl0_1]); (with_reducible repeat (first | apply Kd.zbv | apply Kd.zbz | apply Kd.zb7)); exact HQ12.out⟩, ⟨by repeat (first | (with_reducible first | exact HK.out | apply Kept.alloc | apply Kept.drewN | apply Kept.drew | refine Kept.setCell ?_ HMgo8.out _ | refine Kept.setCell ?_ HMgo8.out _) | exact HK.out)⟩, ⟨zB HB⟩⟩
       ·
        rw [if_neg c7] at H
        exact absurd H (by simp)
      ·
       rw [if_neg c6] at H
       exact absurd H (by simp)
     ·
      rw [if_neg c5] at H
      exact absurd H (by simp)
    ·
     rw [if_neg c4] at H
     exact absurd H (by simp)
   ·
    rw [if_neg c3] at H
    have c3b0 : decide (x2_1 < x3_1) = false := decide_eq_false c3
    clear c3
    obtain rfl := Option.some.inj H
    go_wp2
    first | go_end0 | ((try simp only [Exit.inBlock, Exit.then]); refine bodyPost_ret (results_none rfl _ _ _) rfl ?_)
    exact ⟨zW, (by first | exact (zR HO_0) | (simp only [hl0_1]; exact (zR HO_0))), zB HB, by repeat (first | (with_reducible first | exact HK.out | apply Kept.alloc | apply Kept.drewN | apply Kept.drew) | exact HK.out)⟩
def bits_LeadingZeros64.f (a0 : Int) : Option (Int) := (bits_Len64.f a0).bind fun t347 => (some (wrap64 (64 - t347)))
theorem bits_LeadingZeros64.calls (a0 : Int) (r : Int) (w : World) (h : bits_LeadingZeros64.f a0 = some r) :
  Calls Tryz.prog 168 #[.int .u64 a0] w fun e w' => e = .returned (.int .i64 r) ∧ Drawn0 w w' := by
 have H : ((bits_Len64.f a0).bind fun t347 => (some (wrap64 (64 - t347)))) = some r := h
 clear h
 replace H := zO H
 obtain ⟨t347, A20, H⟩ := H
 try dsimp only at H
 have A2 := zA A20
 clear A20
 obtain rfl := Option.some.inj H
 go_enter Tryz.func168, Tryz.ntmps168
 go_wp2_with (first | ((with_reducible refine zad (f := 160) rfl ?_); refine zaz (some 4) rfl rfl Tryz.func160 (by kernel_rfl) rfl #[.int .u64 a0] rfl (zE) ?_; (with_reducible refine (bits_Len64.calls a0 t347 _ A2.out).mono ?_); rintro e w' ⟨rfl, ⟨nd, rfl⟩⟩; refine ⟨_, rfl, ?_⟩))
 go_ret
 exact ⟨zF, by repeat (first | exact Drawn0.refl _ | apply Drawn0.step)⟩
mutual
def zam.j2 : Nat → Int → Int → Int → Int → Int → Int → Int → Int → Option (Int × Int)
 | 0, _, _, _, _, _, _, _, _ => none
 | k + 1, x2, x8, x9, x10, x11, x13, x14, x15 => if x9 = 0 then (none) else (zam.l1 k x2 x8 x9 x10 x14 x15 (IntKind.u64.wrap ((IntKind.u64.wrap ((IntKind.u64.wrap ((IntKind.u64.wrap (x11 * 4294967296)) + x13)) - (IntKind.u64.wrap (x15 * x2)))) - (IntKind.u64.wrap ((IntKind.u64.wrap (Int.tdiv (IntKind.u64.wrap ((IntKind.u64.wrap ((IntKind.u64.wrap (x11 * 4294967296)) + x13)) - (IntKind.u64.wrap (x15 * x2)))) x9)) * x9)))) (IntKind.u64.wrap ((IntKind.u64.wrap ((IntKind.u64.wrap (x11 * 4294967296)) + x13)) - (IntKind.u64.wrap (x15 * x2)))) (IntKind.u64.wrap (Int.tdiv (IntKind.u64.wrap ((IntKind.u64.wrap ((IntKind.u64.wrap (x11 * 4294967296)) + x13)) - (IntKind.u64.wrap (x15 * x2)))) x9)))
def zam.l1 : Nat → Int → Int → Int → Int → Int → Int → Int → Int → Int → Option (Int × Int)
 | 0, _, _, _, _, _, _, _, _, _ => none
 | k + 1, x2, x8, x9, x10, x14, x15, x16, x17, x18 => if x18 ≥ 4294967296 then (zam.j4 k x2 x8 x9 x10 x14 x15 x16 x17 x18 true) else (zam.j4 k x2 x8 x9 x10 x14 x15 x16 x17 x18 (decide ((IntKind.u64.wrap (x18 * x10)) > (IntKind.u64.wrap ((IntKind.u64.wrap (4294967296 * x16)) + x14)))))
def zam.j4 : Nat → Int → Int → Int → Int → Int → Int → Int → Int → Int → Bool → Option (Int × Int)
 | 0, _, _, _, _, _, _, _, _, _, _ => none
 | k + 1, x2, x8, x9, x10, x14, x15, x16, x17, x18, x113 => if x113 = true then (if (IntKind.u64.wrap (x16 + x9)) ≥ 4294967296 then (if 0 ≤ x8 then (some (IntKind.u64.wrap ((IntKind.u64.wrap (x15 * 4294967296)) + (IntKind.u64.wrap (x18 - 1))), shr .u64 (IntKind.u64.wrap ((IntKind.u64.wrap ((IntKind.u64.wrap (x17 * 4294967296)) + x14)) - (IntKind.u64.wrap ((IntKind.u64.wrap (x18 - 1)) * x2)))) x8)) else (none)) else (zam.l1 k x2 x8 x9 x10 x14 x15 (IntKind.u64.wrap (x16 + x9)) x17 (IntKind.u64.wrap (x18 - 1)))) else (if 0 ≤ x8 then (some (IntKind.u64.wrap ((IntKind.u64.wrap (x15 * 4294967296)) + x18), shr .u64 (IntKind.u64.wrap ((IntKind.u64.wrap ((IntKind.u64.wrap (x17 * 4294967296)) + x14)) - (IntKind.u64.wrap (x18 * x2)))) x8)) else (none))
def zam.l0 : Nat → Int → Int → Int → Int → Int → Int → Int → Int → Int → Option (Int × Int)
 | 0, _, _, _, _, _, _, _, _, _ => none
 | k + 1, x2, x8, x9, x10, x11, x13, x14, x15, x16 => if x15 ≥ 4294967296 then (zam.j1 k x2 x8 x9 x10 x11 x13 x14 x15 x16 true) else (zam.j1 k x2 x8 x9 x10 x11 x13 x14 x15 x16 (decide ((IntKind.u64.wrap (x15 * x10)) > (IntKind.u64.wrap ((IntKind.u64.wrap (4294967296 * x16)) + x13)))))
def zam.j1 : Nat → Int → Int → Int → Int → Int → Int → Int → Int → Int → Bool → Option (Int × Int)
 | 0, _, _, _, _, _, _, _, _, _, _ => none
 | k + 1, x2, x8, x9, x10, x11, x13, x14, x15, x16, x78 => if x78 = true then (if (IntKind.u64.wrap (x16 + x9)) ≥ 4294967296 then (zam.j2 k x2 x8 x9 x10 x11 x13 x14 (IntKind.u64.wrap (x15 - 1))) else (zam.l0 k x2 x8 x9 x10 x11 x13 x14 (IntKind.u64.wrap (x15 - 1)) (IntKind.u64.wrap (x16 + x9)))) else (zam.j2 k x2 x8 x9 x10 x11 x13 x14 x15)
end
def zam.f (k : Nat) (a0 : Int) (a1 : Int) (a2 : Int) : Option (Int × Int) := if a2 = 0 then (none) else (if a2 ≤ a0 then (none) else (if a0 = 0 then (some (IntKind.u64.wrap (Int.tdiv a1 a2), Int.tmod a1 a2)) else ((bits_LeadingZeros64.f a2).bind fun t348 => (if 0 ≤ (IntKind.u64.wrap (t348)) then (if 0 ≤ (IntKind.u64.wrap (64 - (IntKind.u64.wrap (t348)))) then (if ((shl .u64 a2 (IntKind.u64.wrap (t348))) / 4294967296) = 0 then (none) else (zam.l0 k (shl .u64 a2 (IntKind.u64.wrap (t348))) (IntKind.u64.wrap (t348)) ((shl .u64 a2 (IntKind.u64.wrap (t348))) / 4294967296) (Go.bits .and .u64 (shl .u64 a2 (IntKind.u64.wrap (t348))) 4294967295) (Go.bits .or .u64 (shl .u64 a0 (IntKind.u64.wrap (t348))) (shr .u64 a1 (IntKind.u64.wrap (64 - (IntKind.u64.wrap (t348)))))) ((shl .u64 a1 (IntKind.u64.wrap (t348))) / 4294967296) (Go.bits .and .u64 (shl .u64 a1 (IntKind.u64.wrap (t348))) 4294967295) (IntKind.u64.wrap (Int.tdiv (Go.bits .or .u64 (shl .u64 a0 (IntKind.u64.wrap (t348))) (shr .u64 a1 (IntKind.u64.wrap (64 - (IntKind.u64.wrap (t348)))))) ((shl .u64 a2 (IntKind.u64.wrap (t348))) / 4294967296))) (IntKind.u64.wrap ((Go.bits .or .u64 (shl .u64 a0 (IntKind.u64.wrap (t348))) (shr .u64 a1 (IntKind.u64.wrap (64 - (IntKind.u64.wrap (t348)))))) - (IntKind.u64.wrap ((IntKind.u64.wrap (Int.tdiv (Go.bits .or .u64 (shl .u64 a0 (IntKind.u64.wrap (t348))) (shr .u64 a1 (IntKind.u64.wrap (64 - (IntKind.u64.wrap (t348)))))) ((shl .u64 a2 (IntKind.u64.wrap (t348))) / 4294967296))) * ((shl .u64 a2 (IntKind.u64.wrap (t348))) / 4294967296))))))) else (none)) else (none)))))
theorem zam.calls (k : Nat) (a0 : Int) (a1 : Int) (a2 : Int) (r1 : Int) (r2 : Int) (w : World) (h : zam.f k a0 a1 a2 = some (r1, r2)) :
  Calls Tryz.prog 149 #[.int .u64 a0, .int .u64 a1, .int .u64 a2] w fun e w' => e = .returned (.tuple #[.int .u64 r1, .int .u64 r2]) ∧ Drawn0 w w' := by
 have H : (if a2 = 0 then (none) else (if a2 ≤ a0 then (none) else (if a0 = 0 then (some (IntKind.u64.wrap (Int.tdiv a1 a2), Int.tmod a1 a2)) else ((bits_LeadingZeros64.f a2).bind fun t348 => (if 0 ≤ (IntKind.u64.wrap (t348)) then (if 0 ≤ (IntKind.u64.wrap (64 - (IntKind.u64.wrap (t348)))) then (if ((shl .u64 a2 (IntKind.u64.wrap (t348))) / 4294967296) = 0 then (none) else (zam.l0 k (shl .u64 a2 (IntKind.u64.wrap (t348))) (IntKind.u64.wrap (t348)) ((shl .u64 a2 (IntKind.u64.wrap (t348))) / 4294967296) (Go.bits .and .u64 (shl .u64 a2 (IntKind.u64.wrap (t348))) 4294967295) (Go.bits .or .u64 (shl .u64 a0 (IntKind.u64.wrap (t348))) (shr .u64 a1 (IntKind.u64.wrap (64 - (IntKind.u64.wrap (t348)))))) ((shl .u64 a1 (IntKind.u64.wrap (t348))) / 4294967296) (Go.bits .and .u64 (shl .u64 a1 (IntKind.u64.wrap (t348))) 4294967295) (IntKind.u64.wrap (Int.tdiv (Go.bits .or .u64 (shl .u64 a0 (IntKind.u64.wrap (t348))) (shr .u64 a1 (IntKind.u64.wrap (64 - (IntKind.u64.wrap (t348)))))) ((shl .u64 a2 (IntKind.u64.wrap (t348))) / 4294967296))) (IntKind.u64.wrap ((Go.bits .or .u64 (shl .u64 a0 (IntKind.u64.wrap (t348))) (shr .u64 a1 (IntKind.u64.wrap (64 - (IntKind.u64.wrap (t348)))))) - (IntKind.u64.wrap ((IntKind.u64.wrap (Int.tdiv (Go.bits .or .u64 (shl .u64 a0 (IntKind.u64.wrap (t348))) (shr .u64 a1 (IntKind.u64.wrap (64 - (IntKind.u64.wrap (t348)))))) ((shl .u64 a2 (IntKind.u64.wrap (t348))) / 4294967296))) * ((shl .u64 a2 (IntKind.u64.wrap (t348))) / 4294967296))))))) else (none)) else (none)))))) = some (r1, r2) := h
 clear h
 by_cases c4 : a2 = 0
 ·
  rw [if_pos c4] at H
  exact absurd H (by simp)
 ·
  rw [if_neg c4] at H
  have c4b0 : (a2 == 0) = false := beq_eq_false_iff_ne.mpr c4
  have c4b1 : (a2 != 0) = true := bne_iff_ne.mpr c4
  by_cases c5 : a2 ≤ a0
  ·
   rw [if_pos c5] at H
   exact absurd H (by simp)
  ·
   rw [if_neg c5] at H
   have c5b0 : decide (a2 ≤ a0) = false := decide_eq_false c5
   clear c5
   by_cases c6 : a0 = 0
   ·
    rw [if_pos c6] at H
    have c6b0 : (a0 == 0) = true := beq_iff_eq.mpr c6
    have c6b1 : (a0 != 0) = false := bne_eq_false_iff_eq.mpr c6
    clear c6
    simp only [Option.some.injEq, Prod.mk.injEq] at H
    obtain ⟨rfl, rfl⟩ := H
    go_enter Tryz.func149, Tryz.ntmps149
    go_wp2
    repeat (go_quiet (fail); try go_wp2)
    go_ret2
    exact ⟨zF, by repeat (first | exact Drawn0.refl _ | apply Drawn0.step)⟩
   ·
    rw [if_neg c6] at H
    have c6b0 : (a0 == 0) = false := beq_eq_false_iff_ne.mpr c6
    have c6b1 : (a0 != 0) = true := bne_iff_ne.mpr c6
    replace H := zO H
    obtain ⟨t348, A70, H⟩ := H
    try dsimp only at H
    have A7 := zA A70
    clear A70
    obtain ⟨ji8, hji8⟩ : ∃ j_ : Int, (IntKind.u64.wrap (t348)) = j_ := ⟨_, rfl⟩
    replace H : (if 0 ≤ (ji8) then (if 0 ≤ (IntKind.u64.wrap (64 - (ji8))) then (if ((shl .u64 a2 (ji8)) / 4294967296) = 0 then (none) else (zam.l0 k (shl .u64 a2 (ji8)) ji8 ((shl .u64 a2 (ji8)) / 4294967296) (Go.bits .and .u64 (shl .u64 a2 (ji8)) 4294967295) (Go.bits .or .u64 (shl .u64 a0 (ji8)) (shr .u64 a1 (IntKind.u64.wrap (64 - (ji8))))) ((shl .u64 a1 (ji8)) / 4294967296) (Go.bits .and .u64 (shl .u64 a1 (ji8)) 4294967295) (IntKind.u64.wrap (Int.tdiv (Go.bits .or .u64 (shl .u64 a0 (ji8)) (shr .u64 a1 (IntKind.u64.wrap (64 - (ji8))))) ((shl .u64 a2 (ji8)) / 4294967296))) (IntKind.u64.wrap ((Go.bits .or .u64 (shl .u64 a0 (ji8)) (shr .u64 a1 (IntKind.u64.wrap (64 - (ji8))))) - (IntKind.u64.wrap ((IntKind.u64.wrap (Int.tdiv (Go.bits .or .u64 (shl .u64 a0 (ji8)) (shr .u64 a1 (IntKind.u64.wrap (64 - (ji8))))) ((shl .u64 a2 (ji8)) / 4294967296))) * ((shl .u64 a2 (ji8)) / 4294967296))))))) else (none)) else (none)) = some (r1, r2) := by first | (rw [hji8] at H; exact H) | (simp only [hji8] at H ⊢; exact H)
    (try rw [hji8] at A7)
    by_cases c9 : 0 ≤ (ji8)
    ·
     rw [if_pos c9] at H
     have c9b0 := eq_true c9
     have c9b1 : decide (0 ≤ (ji8)) = true := decide_eq_true c9
     clear c9
     obtain ⟨ji10, hji10⟩ : ∃ j_ : Int, (shl .u64 a2 (ji8)) = j_ := ⟨_, rfl⟩
     replace H : (if 0 ≤ (IntKind.u64.wrap (64 - (ji8))) then (if ((ji10) / 4294967296) = 0 then (none) else (zam.l0 k ji10 ji8 ((ji10) / 4294967296) (Go.bits .and .u64 (ji10) 4294967295) (Go.bits .or .u64 (shl .u64 a0 (ji8)) (shr .u64 a1 (IntKind.u64.wrap (64 - (ji8))))) ((shl .u64 a1 (ji8)) / 4294967296) (Go.bits .and .u64 (shl .u64 a1 (ji8)) 4294967295) (IntKind.u64.wrap (Int.tdiv (Go.bits .or .u64 (shl .u64 a0 (ji8)) (shr .u64 a1 (IntKind.u64.wrap (64 - (ji8))))) ((ji10) / 4294967296))) (IntKind.u64.wrap ((Go.bits .or .u64 (shl .u64 a0 (ji8)) (shr .u64 a1 (IntKind.u64.wrap (64 - (ji8))))) - (IntKind.u64.wrap ((IntKind.u64.wrap (Int.tdiv (Go.bits .or .u64 (shl .u64 a0 (ji8)) (shr .u64 a1 (IntKind.u64.wrap (64 - (ji8))))) ((ji10) / 4294967296))) * ((ji10) / 4294967296))))))) else (none)) = some (r1, r2) := by first | (rw [hji10] at H; exact H) | (simp only [hji10] at H ⊢; exact H)
     (try rw [hji10] at A7)
     have hji10_ : (IntKind.u64.wrap (a2 * 2 ^ min (ji8).toNat 64)) = ji10 := hji10
     have hji10z : (ji8) ≤ 64 → (IntKind.u64.wrap (a2 * 2 ^ (ji8).toNat)) = ji10 := shl_small hji10
     have c11b0 := eq_true (of_decide_eq_true (by first | (with_reducible assumption) | assumption) : 0 ≤ (ji8))
     obtain ⟨ji12, hji12⟩ : ∃ j_ : Int, (shl .u64 a0 (ji8)) = j_ := ⟨_, rfl⟩
     replace H : (if 0 ≤ (IntKind.u64.wrap (64 - (ji8))) then (if ((ji10) / 4294967296) = 0 then (none) else (zam.l0 k ji10 ji8 ((ji10) / 4294967296) (Go.bits .and .u64 (ji10) 4294967295) (Go.bits .or .u64 (ji12) (shr .u64 a1 (IntKind.u64.wrap (64 - (ji8))))) ((shl .u64 a1 (ji8)) / 4294967296) (Go.bits .and .u64 (shl .u64 a1 (ji8)) 4294967295) (IntKind.u64.wrap (Int.tdiv (Go.bits .or .u64 (ji12) (shr .u64 a1 (IntKind.u64.wrap (64 - (ji8))))) ((ji10) / 4294967296))) (IntKind.u64.wrap ((Go.bits .or .u64 (ji12) (shr .u64 a1 (IntKind.u64.wrap (64 - (ji8))))) - (IntKind.u64.wrap ((IntKind.u64.wrap (Int.tdiv (Go.bits .or .u64 (ji12) (shr .u64 a1 (IntKind.u64.wrap (64 - (ji8))))) ((ji10) / 4294967296))) * ((ji10) / 4294967296))))))) else (none)) = some (r1, r2) := by first | (rw [hji12] at H; exact H) | (simp only [hji12] at H ⊢; exact H)
     (try rw [hji12] at A7)
     have hji12_ : (IntKind.u64.wrap (a0 * 2 ^ min (ji8).toNat 64)) = ji12 := hji12
     have hji12z : (ji8) ≤ 64 → (IntKind.u64.wrap (a0 * 2 ^ (ji8).toNat)) = ji12 := shl_small hji12
     obtain ⟨ji13, hji13⟩ : ∃ j_ : Int, (IntKind.u64.wrap (64 - (ji8))) = j_ := ⟨_, rfl⟩
     replace H : (if 0 ≤ (ji13) then (if ((ji10) / 4294967296) = 0 then (none) else (zam.l0 k ji10 ji8 ((ji10) / 4294967296) (Go.bits .and .u64 (ji10) 4294967295) (Go.bits .or .u64 (ji12) (shr .u64 a1 (ji13))) ((shl .u64 a1 (ji8)) / 4294967296) (Go.bits .and .u64 (shl .u64 a1 (ji8)) 4294967295) (IntKind.u64.wrap (Int.tdiv (Go.bits .or .u64 (ji12) (shr .u64 a1 (ji13))) ((ji10) / 4294967296))) (IntKind.u64.wrap ((Go.bits .or .u64 (ji12) (shr .u64 a1 (ji13))) - (IntKind.u64.wrap ((IntKind.u64.wrap (Int.tdiv (Go.bits .or .u64 (ji12) (shr .u64 a1 (ji13))) ((ji10) / 4294967296))) * ((ji10) / 4294967296))))))) else (none)) = some (r1, r2) := by first | (rw [hji13] at H; exact H) | (simp only [hji13] at H ⊢; exact H)
     (try rw [hji13] at A7)
     by_cases c14 : 0 ≤ (ji13)
     ·
      rw [if_pos c14] at H
      have c14b0 := eq_true c14
      have c14b1 : decide (0 ≤ (ji13)) = true := decide_eq_true c14
      clear c14
      obtain ⟨ji15, hji15⟩ : ∃ j_ : Int, (shr .u64 a1 (ji13)) = j_ := ⟨_, rfl⟩
      replace H : (if ((ji10) / 4294967296) = 0 then (none) else (zam.l0 k ji10 ji8 ((ji10) / 4294967296) (Go.bits .and .u64 (ji10) 4294967295) (Go.bits .or .u64 (ji12) (ji15)) ((shl .u64 a1 (ji8)) / 4294967296) (Go.bits .and .u64 (shl .u64 a1 (ji8)) 4294967295) (IntKind.u64.wrap (Int.tdiv (Go.bits .or .u64 (ji12) (ji15)) ((ji10) / 4294967296))) (IntKind.u64.wrap ((Go.bits .or .u64 (ji12) (ji15)) - (IntKind.u64.wrap ((IntKind.u64.wrap (Int.tdiv (Go.bits .or .u64 (ji12) (ji15)) ((ji10) / 4294967296))) * ((ji10) / 4294967296))))))) = some (r1, r2) := by first | (rw [hji15] at H; exact H) | (simp only [hji15] at H ⊢; exact H)
      (try rw [hji15] at A7)
      have hji15_ : (a1 / 2 ^ min (ji13).toNat 64) = ji15 := hji15
      have hji15z : (ji13) ≤ 64 → (a1 / 2 ^ (ji13).toNat) = ji15 := shr_small hji15
      have c16b0 := eq_true (of_decide_eq_true (by first | (with_reducible assumption) | assumption) : 0 ≤ (ji8))
      obtain ⟨ji17, hji17⟩ : ∃ j_ : Int, (shl .u64 a1 (ji8)) = j_ := ⟨_, rfl⟩
      replace H : (if ((ji10) / 4294967296) = 0 then (none) else (zam.l0 k ji10 ji8 ((ji10) / 4294967296) (Go.bits .and .u64 (ji10) 4294967295) (Go.bits .or .u64 (ji12) (ji15)) ((ji17) / 4294967296) (Go.bits .and .u64 (ji17) 4294967295) (IntKind.u64.wrap (Int.tdiv (Go.bits .or .u64 (ji12) (ji15)) ((ji10) / 4294967296))) (IntKind.u64.wrap ((Go.bits .or .u64 (ji12) (ji15)) - (IntKind.u64.wrap ((IntKind.u64.wrap (Int.tdiv (Go.bits .or .u64 (ji12) (ji15)) ((ji10) / 4294967296))) * ((ji10) / 4294967296))))))) = some (r1, r2) := by first | (rw [hji17] at H; exact H) | (simp only [hji17] at H ⊢; exact H)
      (try rw [hji17] at A7)
      have hji17_ : (IntKind.u64.wrap (a1 * 2 ^ min (ji8).toNat 64)) = ji17 := hji17
      have hji17z : (ji8) ≤ 64 → (IntKind.u64.wrap (a1 * 2 ^ (ji8).toNat)) = ji17 := shl_small hji17
      by_cases c18 : ((ji10) / 4294967296) = 0
      ·
       rw [if_pos c18] at H
       exact absurd H (by simp)
      ·
       rw [if_neg c18] at H
       have c18b0 : (((ji10) / 4294967296) == 0) = false := beq_eq_false_iff_ne.mpr c18
       have c18b1 : (((ji10) / 4294967296) != 0) = true := bne_iff_ne.mpr c18
       have HC19 := zA H
       clear H
       go_enter Tryz.func149, Tryz.ntmps149
       go_upto_block 0 with (first | (go_at_call 168; (with_reducible refine (bits_LeadingZeros64.calls a2 t348 _ A7.out).mono ?_); rintro e w' ⟨rfl, ⟨nd, rfl⟩⟩; (try first | exact ⟨rfl, _, World.drewN_drewN _ _ _⟩ | exact ⟨rfl, _, Eq.trans (World.drewN_drewN _ _ _) (congrArg (World.drewN _) (Nat.add_assoc _ _ _))⟩)))
       repeat (go_quiet (first | (go_at_call 168; (with_reducible refine (bits_LeadingZeros64.calls a2 t348 _ A7.out).mono ?_); rintro e w' ⟨rfl, ⟨nd, rfl⟩⟩; (try first | exact ⟨rfl, _, World.drewN_drewN _ _ _⟩ | exact ⟨rfl, _, Eq.trans (World.drewN_drewN _ _ _) (congrArg (World.drewN _) (Nat.add_assoc _ _ _))⟩))); go_upto_block 0 with (first | (go_at_call 168; (with_reducible refine (bits_LeadingZeros64.calls a2 t348 _ A7.out).mono ?_); rintro e w' ⟨rfl, ⟨nd, rfl⟩⟩; (try first | exact ⟨rfl, _, World.drewN_drewN _ _ _⟩ | exact ⟨rfl, _, Eq.trans (World.drewN_drewN _ _ _) (congrArg (World.drewN _) (Nat.add_assoc _ _ _))⟩))))
       (try simp only [Act.put, zs1, zs2, zs3])
       go_cut [15] (fun v15 wc => ∃ (kq : Nat) (x15_18 : Int), v15 = .int .u64 x15_18 ∧ Aside0 (zam.j2 kq ji10 ji8 ((ji10) / 4294967296) (Go.bits .and .u64 (ji10) 4294967295) (Go.bits .or .u64 (ji12) (ji15)) ((ji17) / 4294967296) (Go.bits .and .u64 (ji17) 4294967295) x15_18 = some (r1, r2)) ∧ Aside0 (kq ≤ k) ∧ Drawn0 w wc)
       case first =>
        have H := HC19.out
        clear HC19
        have H' := zA H
        clear H
        go_wp2
        repeat (go_quiet (fail); try go_wp2)
        go_loopg [15, 16] k (fun kq v15 v16 w' => ∃ (x15_1 : Int) (x16_1 : Int), v15 = .int .u64 x15_1 ∧ v16 = .int .u64 x16_1 ∧ Aside0 (zam.l0 kq ji10 ji8 ((ji10) / 4294967296) (Go.bits .and .u64 (ji10) 4294967295) (Go.bits .or .u64 (ji12) (ji15)) ((ji17) / 4294967296) (Go.bits .and .u64 (ji17) 4294967295) x15_1 x16_1 = some (r1, r2)) ∧ Aside0 (kq ≤ k) ∧ Drawn0 w w')
        case atStart => exact ⟨(IntKind.u64.wrap (Int.tdiv (Go.bits .or .u64 (ji12) (ji15)) ((ji10) / 4294967296))), (IntKind.u64.wrap ((Go.bits .or .u64 (ji12) (ji15)) - (IntKind.u64.wrap ((IntKind.u64.wrap (Int.tdiv (Go.bits .or .u64 (ji12) (ji15)) ((ji10) / 4294967296))) * ((ji10) / 4294967296))))), (by first | rfl | (simp; done) | (simp only [← hji10, ← hji12, ← hji15] <;> (first | rfl | simp)) | (simp [*]; done)), (by first | rfl | (simp; done) | (simp only [← hji10, ← hji12, ← hji15] <;> (first | rfl | simp)) | (simp [*]; done)), H', ⟨Nat.le_refl _⟩, by repeat (first | exact Drawn0.refl _ | apply Drawn0.step)⟩
        case round =>
         clear H'
         try clear c1
         try clear p2
         try clear c4
         try clear c4b0
         try clear c4b1
         try clear c5
         try clear c5b0
         try clear c6
         try clear c6b0
         try clear c6b1
         try clear c9
         try clear c9b0
         try clear c9b1
         try clear c11
         try clear c11b0
         try clear c14
         try clear c14b0
         try clear c14b1
         try clear c16
         try clear c16b0
         try clear c18
         try clear c18b0
         try clear c18b1
         obtain ⟨x15_1, x16_1, rfl, rfl, HA, HK1, ⟨m1, rfl⟩⟩ := hrel
         cases gk with
         | zero => exact absurd HA.out (by simp [zam.l0])
         | succ k1 =>
          have H := HA.out
          clear HA
          simp only [zam.l0] at H
          have HC20 := zA H
          clear H
          go_upto_region 17 with (fail)
          repeat (go_quiet (fail); go_upto_region 17 with (fail))
          go_cut [78] (fun v78 wc => ∃ (kq : Nat) (x78_19 : Bool), v78 = .bool x78_19 ∧ Aside0 (zam.j1 kq ji10 ji8 ((ji10) / 4294967296) (Go.bits .and .u64 (ji10) 4294967295) (Go.bits .or .u64 (ji12) (ji15)) ((ji17) / 4294967296) (Go.bits .and .u64 (ji17) 4294967295) x15_1 x16_1 x78_19 = some (r1, r2)) ∧ Aside0 (kq ≤ k1) ∧ Drawn0 w wc)
          case first =>
           have H := HC20.out
           clear HC20
           by_cases c21 : x15_1 ≥ 4294967296
           ·
            rw [if_pos c21] at H
            have c21b0 : decide (4294967296 ≤ x15_1) = true := decide_eq_true c21
            clear c21
            (first | rw [c21b0] | (simp only [i64_w, i32_w]; rw [c21b0]) | skip)
            have H' := zA H
            clear H
            go_wp2
            repeat (go_quiet (fail); try go_wp2)
            go_meet
            case rel => exact ⟨_, (true), (zF), H', ⟨by have := HK1.out; first | omega | exact Nat.le_refl _⟩, by repeat (first | exact Drawn0.refl _ | apply Drawn0.step)⟩
           ·
            rw [if_neg c21] at H
            have c21b0 : decide (4294967296 ≤ x15_1) = false := decide_eq_false c21
            clear c21
            (first | rw [c21b0] | (simp only [i64_w, i32_w]; rw [c21b0]) | skip)
            have H' := zA H
            clear H
            go_wp2
            repeat (go_quiet (fail); try go_wp2)
            go_meet
            case rel => exact ⟨_, (decide ((IntKind.u64.wrap (x15_1 * (Go.bits .and .u64 (ji10) 4294967295))) > (IntKind.u64.wrap ((IntKind.u64.wrap (4294967296 * x16_1)) + ((ji17) / 4294967296))))), (by first | rfl | (simp; done) | (simp only [← hji10, ← hji17] <;> (first | rfl | simp)) | (simp [*]; done)), H', ⟨by have := HK1.out; first | omega | exact Nat.le_refl _⟩, by repeat (first | exact Drawn0.refl _ | apply Drawn0.step)⟩
          case rest =>
           clear HC20
           try clear c1
           try clear c2
           try clear p2
           try clear c4
           try clear c4b0
           try clear c4b1
           try clear c5
           try clear c5b0
           try clear c6
           try clear c6b0
           try clear c6b1
           try clear c9
           try clear c9b0
           try clear c9b1
           try clear c11
           try clear c11b0
           try clear c14
           try clear c14b0
           try clear c14b1
           try clear c16
           try clear c16b0
           try clear c18
           try clear c18b0
           try clear c18b1
           try clear c21
           try clear c21b0
           try clear p2
           obtain ⟨kq, x78_19, rfl, HA, HJ19, ⟨mc19, rfl⟩⟩ := hcut
           cases kq with
           | zero => exact absurd HA.out (by simp [zam.j1])
           | succ kj19 =>
            have H := HA.out
            clear HA
            simp only [zam.j1] at H
            by_cases c22 : x78_19 = true
            ·
             subst c22
             rw [if_pos rfl] at H
             by_cases c23 : (IntKind.u64.wrap (x16_1 + ((ji10) / 4294967296))) ≥ 4294967296
             ·
              rw [if_pos c23] at H
              have c23b0 : decide (4294967296 ≤ (IntKind.u64.wrap (x16_1 + ((ji10) / 4294967296)))) = true := decide_eq_true c23
              clear c23
              have H' := zA H
              clear H
              go_wp2
              repeat (go_quiet (fail); try go_wp2)
              go_meet
              case rel => exact ⟨_, (IntKind.u64.wrap (x15_1 - 1)), (zF), H', ⟨by have := HK1.out; have := HJ19.out; first | omega | exact Nat.le_refl _⟩, by repeat (first | exact Drawn0.refl _ | apply Drawn0.step)⟩
             ·
              rw [if_neg c23] at H
              have c23b0 : decide (4294967296 ≤ (IntKind.u64.wrap (x16_1 + ((ji10) / 4294967296)))) = false := decide_eq_false c23
              clear c23
              have H' := zA H
              clear H
              go_wp2
              repeat (go_quiet (fail); try go_wp2)
              go_roundg kj19
              case measure => have := HK1.out; have := HJ19.out; omega
              case rel => exact ⟨(IntKind.u64.wrap (x15_1 - 1)), (IntKind.u64.wrap (x16_1 + ((ji10) / 4294967296))), (zF), (by first | rfl | (simp; done) | (simp only [← hji10] <;> (first | rfl | simp)) | (simp [*]; done)), H', ⟨by have := HK1.out; have := HJ19.out; omega⟩, by repeat (first | exact Drawn0.refl _ | apply Drawn0.step)⟩
            ·
             replace c22 := Bool.eq_false_iff.mpr c22
             subst c22
             rw [if_neg (show ¬ (false = true) by decide)] at H
             have H' := zA H
             clear H
             go_wp2
             repeat (go_quiet (fail); try go_wp2)
             go_meet
             case rel => exact ⟨_, (x15_1), (zF), H', ⟨by have := HK1.out; have := HJ19.out; first | omega | exact Nat.le_refl _⟩, by repeat (first | exact Drawn0.refl _ | apply Drawn0.step)⟩
       case rest =>
        clear HC19
        try clear c1
        try clear c2
        try clear p2
        try clear c4
        try clear c4b0
        try clear c4b1
        try clear c5
        try clear c5b0
        try clear c6
        try clear c6b0
        try clear c6b1
        try clear c9
        try clear c9b0
        try clear c9b1
        try clear c11
        try clear c11b0
        try clear c14
        try clear c14b0
        try clear c14b1
        try clear c16
        try clear c16b0
        try clear c18
        try clear c18b0
        try clear c18b1
        try clear c19
        try clear c21
        try clear c21b0
        try clear c22
        try clear c23
        try clear c23b0
        try clear p2
        obtain ⟨kq, x15_18, rfl, HA, HJ18, ⟨mc18, rfl⟩⟩ := hcut
        cases kq with
        | zero => exact absurd HA.out (by simp [zam.j2])
        | succ kj18 =>
         have H := HA.out
         clear HA
         simp only [zam.j2] at H
         by_cases c24 : ((ji10) / 4294967296) = 0
         ·
          rw [if_pos c24] at H
          exact absurd H (by simp)
         ·
          rw [if_neg c24] at H
          have c24b0 : (((ji10) / 4294967296) == 0) = false := beq_eq_false_iff_ne.mpr c24
          have c24b1 : (((ji10) / 4294967296) != 0) = true := bne_iff_ne.mpr c24
          have H' := zA H
          clear H
          go_wp2
          repeat (go_quiet (fail); try go_wp2)
          go_loopg [16, 18] kj18 (fun kq v16 v18 w' => ∃ (x16_2 : Int) (x18_2 : Int), v16 = .int .u64 x16_2 ∧ v18 = .int .u64 x18_2 ∧ Aside0 (zam.l1 kq ji10 ji8 ((ji10) / 4294967296) (Go.bits .and .u64 (ji10) 4294967295) (Go.bits .and .u64 (ji17) 4294967295) x15_18 x16_2 (IntKind.u64.wrap ((IntKind.u64.wrap ((IntKind.u64.wrap ((Go.bits .or .u64 (ji12) (ji15)) * 4294967296)) + ((ji17) / 4294967296))) - (IntKind.u64.wrap (x15_18 * ji10)))) x18_2 = some (r1, r2)) ∧ Aside0 (kq ≤ kj18) ∧ Drawn0 w w')
          case atStart => exact ⟨(IntKind.u64.wrap ((IntKind.u64.wrap ((IntKind.u64.wrap ((IntKind.u64.wrap ((Go.bits .or .u64 (ji12) (ji15)) * 4294967296)) + ((ji17) / 4294967296))) - (IntKind.u64.wrap (x15_18 * ji10)))) - (IntKind.u64.wrap ((IntKind.u64.wrap (Int.tdiv (IntKind.u64.wrap ((IntKind.u64.wrap ((IntKind.u64.wrap ((Go.bits .or .u64 (ji12) (ji15)) * 4294967296)) + ((ji17) / 4294967296))) - (IntKind.u64.wrap (x15_18 * ji10)))) ((ji10) / 4294967296))) * ((ji10) / 4294967296))))), (IntKind.u64.wrap (Int.tdiv (IntKind.u64.wrap ((IntKind.u64.wrap ((IntKind.u64.wrap ((Go.bits .or .u64 (ji12) (ji15)) * 4294967296)) + ((ji17) / 4294967296))) - (IntKind.u64.wrap (x15_18 * ji10)))) ((ji10) / 4294967296))), (by first | rfl | (simp; done) | (simp only [← hji10, ← hji12, ← hji15, ← hji17] <;> (first | rfl | simp)) | (simp [*]; done)), (by first | rfl | (simp; done) | (simp only [← hji10, ← hji12, ← hji15, ← hji17] <;> (first | rfl | simp)) | (simp [*]; done)), H', ⟨Nat.le_refl _⟩, by repeat (first | exact Drawn0.refl _ | apply Drawn0.step)⟩
          case round =>
           clear H'
           try clear c1
           try clear c2
           try clear p2
           try clear c4
           try clear c4b0
           try clear c4b1
           try clear c5
           try clear c5b0
           try clear c6
           try clear c6b0
           try clear c6b1
           try clear c9
           try clear c9b0
           try clear c9b1
           try clear c11
           try clear c11b0
           try clear c14
           try clear c14b0
           try clear c14b1
           try clear c16
           try clear c16b0
           try clear c18
           try clear c18b0
           try clear c18b1
           try clear c19
           try clear c21
           try clear c21b0
           try clear c22
           try clear c23
           try clear c23b0
           try clear c24
           try clear c24b0
           try clear c24b1
           try clear p2
           obtain ⟨x16_2, x18_2, rfl, rfl, HA, HK2, ⟨m2, rfl⟩⟩ := hrel
           cases gk with
           | zero => exact absurd HA.out (by simp [zam.l1])
           | succ k2 =>
            have H := HA.out
            clear HA
            simp only [zam.l1] at H
            have HC25 := zA H
            clear H
            go_upto_region 24 with (fail)
            repeat (go_quiet (fail); go_upto_region 24 with (fail))
            go_cut [113] (fun v113 wc => ∃ (kq : Nat) (x113_24 : Bool), v113 = .bool x113_24 ∧ Aside0 (zam.j4 kq ji10 ji8 ((ji10) / 4294967296) (Go.bits .and .u64 (ji10) 4294967295) (Go.bits .and .u64 (ji17) 4294967295) x15_18 x16_2 (IntKind.u64.wrap ((IntKind.u64.wrap ((IntKind.u64.wrap ((Go.bits .or .u64 (ji12) (ji15)) * 4294967296)) + ((ji17) / 4294967296))) - (IntKind.u64.wrap (x15_18 * ji10)))) x18_2 x113_24 = some (r1, r2)) ∧ Aside0 (kq ≤ k2) ∧ Drawn0 w wc)
            case first =>
             have H := HC25.out
             clear HC25
             by_cases c26 : x18_2 ≥ 4294967296
             ·
              rw [if_pos c26] at H
              have c26b0 : decide (4294967296 ≤ x18_2) = true := decide_eq_true c26
              clear c26
              (first | rw [c26b0] | (simp only [i64_w, i32_w]; rw [c26b0]) | skip)
              have H' := zA H
              clear H
              go_wp2
              repeat (go_quiet (fail); try go_wp2)
              go_meet
              case rel => exact ⟨_, (true), (zF), H', ⟨by have := HJ18.out; have := HK2.out; first | omega | exact Nat.le_refl _⟩, by repeat (first | exact Drawn0.refl _ | apply Drawn0.step)⟩
             ·
              rw [if_neg c26] at H
              have c26b0 : decide (4294967296 ≤ x18_2) = false := decide_eq_false c26
              clear c26
              (first | rw [c26b0] | (simp only [i64_w, i32_w]; rw [c26b0]) | skip)
              have H' := zA H
              clear H
              go_wp2
              repeat (go_quiet (fail); try go_wp2)
              go_meet
              case rel => exact ⟨_, (decide ((IntKind.u64.wrap (x18_2 * (Go.bits .and .u64 (ji10) 4294967295))) > (IntKind.u64.wrap ((IntKind.u64.wrap (4294967296 * x16_2)) + (Go.bits .and .u64 (ji17) 4294967295))))), (by first | rfl | (simp; done) | (simp only [← hji10, ← hji17] <;> (first | rfl | simp)) | (simp [*]; done)), H', ⟨by have := HJ18.out; have := HK2.out; first | omega | exact Nat.le_refl _⟩, by repeat (first | exact Drawn0.refl _ | apply Drawn0.step)⟩
            case rest =>
             clear HC25
             try clear c1
             try clear c2
             try clear p2
             try clear c4
             try clear c4b0
             try clear c4b1
             try clear c5
             try clear c5b0
             try clear c6
             try clear c6b0
             try clear c6b1
             try clear c9
             try clear c9b0
             try clear c9b1
             try clear c11
             try clear c11b0
             try clear c14
             try clear c14b0
             try clear c14b1
             try clear c16
             try clear c16b0
             try clear c18
             try clear c18b0
             try clear c18b1
             try clear c19
             try clear c21
             try clear c21b0
             try clear c22
             try clear c23
             try clear c23b0
             try clear c24
             try clear c24b0
             try clear c24b1
             try clear c26
             try clear c26b0
             try clear p2
             obtain ⟨kq, x113_24, rfl, HA, HJ24, ⟨mc24, rfl⟩⟩ := hcut
             cases kq with
             | zero => exact absurd HA.out (by simp [zam.j4])
             | succ kj24 =>
              have H := HA.out
              clear HA
              simp only [zam.j4] at H
              by_cases c27 : x113_24 = true
              ·
               subst c27
               rw [if_pos rfl] at H
               by_cases c28 : (IntKind.u64.wrap (x16_2 + ((ji10) / 4294967296))) ≥ 4294967296
               ·
                rw [if_pos c28] at H
                have c28b0 : decide (4294967296 ≤ (IntKind.u64.wrap (x16_2 + ((ji10) / 4294967296)))) = true := decide_eq_true c28
                clear c28
                by_cases c29 : 0 ≤ ji8
                ·
                 rw [if_pos c29] at H
                 have c29b0 := eq_true c29
                 have c29b1 : decide (0 ≤ ji8) = true := decide_eq_true c29
                 clear c29
                 obtain ⟨ji30, hji30⟩ : ∃ j_ : Int, (shr .u64 (IntKind.u64.wrap ((IntKind.u64.wrap ((IntKind.u64.wrap ((IntKind.u64.wrap ((IntKind.u64.wrap ((IntKind.u64.wrap ((Go.bits .or .u64 (ji12) (ji15)) * 4294967296)) + ((ji17) / 4294967296))) - (IntKind.u64.wrap (x15_18 * ji10)))) * 4294967296)) + (Go.bits .and .u64 (ji17) 4294967295))) - (IntKind.u64.wrap ((IntKind.u64.wrap (x18_2 - 1)) * ji10)))) ji8) = j_ := ⟨_, rfl⟩
                 replace H : (some (IntKind.u64.wrap ((IntKind.u64.wrap (x15_18 * 4294967296)) + (IntKind.u64.wrap (x18_2 - 1))), ji30)) = some (r1, r2) := by first | (rw [hji30] at H; exact H) | (simp only [hji30] at H ⊢; exact H)
                 have hji30_ : ((IntKind.u64.wrap ((IntKind.u64.wrap ((IntKind.u64.wrap ((IntKind.u64.wrap ((IntKind.u64.wrap ((IntKind.u64.wrap ((Go.bits .or .u64 (ji12) (ji15)) * 4294967296)) + ((ji17) / 4294967296))) - (IntKind.u64.wrap (x15_18 * ji10)))) * 4294967296)) + (Go.bits .and .u64 (ji17) 4294967295))) - (IntKind.u64.wrap ((IntKind.u64.wrap (x18_2 - 1)) * ji10)))) / 2 ^ min ji8.toNat 64) = ji30 := hji30
                 have hji30z : ji8 ≤ 64 → ((IntKind.u64.wrap ((IntKind.u64.wrap ((IntKind.u64.wrap ((IntKind.u64.wrap ((IntKind.u64.wrap ((IntKind.u64.wrap ((Go.bits .or .u64 (ji12) (ji15)) * 4294967296)) + ((ji17) / 4294967296))) - (IntKind.u64.wrap (x15_18 * ji10)))) * 4294967296)) + (Go.bits .and .u64 (ji17) 4294967295))) - (IntKind.u64.wrap ((IntKind.u64.wrap (x18_2 - 1)) * ji10)))) / 2 ^ ji8.toNat) = ji30 := shr_small hji30
                 simp only [Option.some.injEq, Prod.mk.injEq] at H
                 obtain ⟨rfl, rfl⟩ := H
                 go_wp2
                 repeat (go_quiet (fail); try go_wp2)
                 go_ret2
                 exact ⟨by first | rfl | (simp; done) | (simp only [← hji8, ← hji10, ← hji12, ← hji13, ← hji15, ← hji17, ← hji30] <;> (first | rfl | simp)) | (simp [*]; done), by repeat (first | exact Drawn0.refl _ | apply Drawn0.step)⟩
                ·
                 rw [if_neg c29] at H
                 exact absurd H (by simp)
               ·
                rw [if_neg c28] at H
                have c28b0 : decide (4294967296 ≤ (IntKind.u64.wrap (x16_2 + ((ji10) / 4294967296)))) = false := decide_eq_false c28
                clear c28
                have H' := zA H
                clear H
                go_wp2
                repeat (go_quiet (fail); try go_wp2)
                go_roundg kj24
                case measure => have := HJ18.out; have := HK2.out; have := HJ24.out; omega
                case rel => exact ⟨(IntKind.u64.wrap (x16_2 + ((ji10) / 4294967296))), (IntKind.u64.wrap (x18_2 - 1)), (by first | rfl | (simp; done) | (simp only [← hji10] <;> (first | rfl | simp)) | (simp [*]; done)), (zF), H', ⟨by have := HJ18.out; have := HK2.out; have := HJ24.out; omega⟩, by repeat (first | exact Drawn0.refl _ | apply Drawn0.step)⟩
              ·
               replace c27 := Bool.eq_false_iff.mpr c27
               subst c27
               rw [if_neg (show ¬ (false = true) by decide)] at H
               by_cases c31 : 0 ≤ ji8
               ·
                rw [if_pos c31] at H
                have c31b0 := eq_true c31
                have c31b1 : decide (0 ≤ ji8) = true := decide_eq_true c31
                clear c31
                obtain ⟨ji32, hji32⟩ : ∃ j_ : Int, (shr .u64 (IntKind.u64.wrap ((IntKind.u64.wrap ((IntKind.u64.wrap ((IntKind.u64.wrap ((IntKind.u64.wrap ((IntKind.u64.wrap ((Go.bits .or .u64 (ji12) (ji15)) * 4294967296)) + ((ji17) / 4294967296))) - (IntKind.u64.wrap (x15_18 * ji10)))) * 4294967296)) + (Go.bits .and .u64 (ji17) 4294967295))) - (IntKind.u64.wrap (x18_2 * ji10)))) ji8) = j_ := ⟨_, rfl⟩
                replace H : (some (IntKind.u64.wrap ((IntKind.u64.wrap (x15_18 * 4294967296)) + x18_2), ji32)) = some (r1, r2) := by first | (rw [hji32] at H; exact H) | (simp only [hji32] at H ⊢; exact H)
                have hji32_ : ((IntKind.u64.wrap ((IntKind.u64.wrap ((IntKind.u64.wrap ((IntKind.u64.wrap ((IntKind.u64.wrap ((IntKind.u64.wrap ((Go.bits .or .u64 (ji12) (ji15)) * 4294967296)) + ((ji17) / 4294967296))) - (IntKind.u64.wrap (x15_18 * ji10)))) * 4294967296)) + (Go.bits .and .u64 (ji17) 4294967295))) - (IntKind.u64.wrap (x18_2 * ji10)))) / 2 ^ min ji8.toNat 64) = ji32 := hji32
                have hji32z : ji8 ≤ 64 → ((IntKind.u64.wrap ((IntKind.u64.wrap ((IntKind.u64.wrap ((IntKind.u64.wrap ((IntKind.u64.wrap ((IntKind.u64.wrap ((Go.bits .or .u64 (ji12) (ji15)) * 4294967296)) + ((ji17) / 4294967296))) - (IntKind.u64.wrap (x15_18 * ji10)))) * 4294967296)) + (Go.bits .and .u64 (ji17) 4294967295))) - (IntKind.u64.wrap (x18_2 * ji10)))) / 2 ^ ji8.toNat) = ji32 := shr_small hji32
                simp only [Option.some.injEq, Prod.mk.injEq] at H
                obtain ⟨rfl, rfl⟩ := H
                go_wp2
                repeat (go_quiet (fail); try go_wp2)
                go_ret2
                exact ⟨by first | rfl | (simp; done) | (simp only [← hji8, ← hji10, ← hji12, ← hji13, ← hji15, ← hji17, ← hji32] <;> (first | rfl | simp)) | (simp [*]; done), by repeat (first | exact Drawn0.refl _ | apply Drawn0.step)⟩
               ·
                rw [if_neg c31] at H
                exact absurd H (by simp)
     ·
      rw [if_neg c14] at H
      exact absurd H (by simp)
    ·
     rw [if_neg c9] at H
     exact absurd H (by simp)
end Go.Proofs.YthiicmanfpmipaaGreatDoor.P
end
section
namespace Go.Proofs.YthiicmanfpmipaaGreatDoor.P
open Go.RowKit Go.Proofs.YthiicmanfpmipaaGreatDoorW.PrintWords Go.Proofs.YthiicmanfpmipaaGreatDoorW.PrintLast Go.Proofs.YthiicmanfpmipaaGreatDoorW.PrintMore
attribute [local go_sem] zci zcj zcs zcr zb9 zca zcg zch
section Div64
theorem u64w (x : Int) : IntKind.u64.wrap x = x % 18446744073709551616 := rfl
theorem u64s {x : Int} (h0 : 0 ≤ x) (h1 : x < 18446744073709551616) : IntKind.u64.wrap x = x := by rw [u64w]; omega
structure Guess (y y1 y0 u u0 q r : Int) : Prop where
 hy : y = y1 * 4294967296 + y0
 hy1 : 2147483648 ≤ y1
 hy1' : y1 < 4294967296
 hy0 : 0 ≤ y0
 hy0' : y0 < 4294967296
 hu0 : 0 ≤ u0
 hu0' : u0 < 4294967296
 hu : 0 ≤ u
 hu' : u < y
 hq : 0 ≤ q
 hr : 0 ≤ r
 eq : q * y1 + r = u
 ge : (u * 4294967296 + u0) / y ≤ q
theorem Guess.small {y y1 y0 u u0 q r : Int} (g : Guess y y1 y0 u u0 q r) : q ≤ 4294967297 ∧ 0 ≤ q * y0 ∧ q * y0 ≤ 4294967297 * 4294967295 := by
 obtain ⟨hy, hy1, hy1', hy0, hy0', hu0, hu0', hu, hu', hq, hr, eq, ge⟩ := g
 have h1 : q ≤ 4294967297 := by
  rcases Int.lt_or_le 4294967297 q with h | h
  ·
   exfalso
   have h2 : 4294967298 * y1 ≤ q * y1 := Int.mul_le_mul_of_nonneg_right (by omega) (by omega)
   omega
  ·
   exact h
 refine ⟨h1, Int.mul_nonneg hq hy0, ?_⟩
 exact Int.le_trans (Int.mul_le_mul_of_nonneg_right h1 hy0) (Int.mul_le_mul_of_nonneg_left (by omega) (by omega))
theorem Guess.prod {y y1 y0 u u0 q r : Int} (g : Guess y y1 y0 u u0 q r) : q * y = (u - r) * 4294967296 + q * y0 := by
 rw [g.hy, Int.mul_add, ← Int.mul_assoc, show q * y1 = u - r by have := g.eq; omega]
theorem Guess.pos {y y1 y0 u u0 q r : Int} (g : Guess y y1 y0 u u0 q r) : 0 < y := by
 have := g.hu; have := g.hu'; omega
theorem Guess.fit {y y1 y0 u u0 q r : Int} (g : Guess y y1 y0 u u0 q r) (h : q * y0 ≤ 4294967296 * r + u0) : q = (u * 4294967296 + u0) / y := by
 have h1 : q * y ≤ u * 4294967296 + u0 := by rw [g.prod]; omega
 exact Int.le_antisymm ((Int.le_ediv_iff_mul_le g.pos).2 h1) g.ge
theorem Guess.less {y y1 y0 u u0 q r : Int} (g : Guess y y1 y0 u u0 q r) (h : q ≥ 4294967296 ∨ q * y0 > 4294967296 * r + u0) : Guess y y1 y0 u u0 (q - 1) (r + y1) := by
 have hlt : (u * 4294967296 + u0) / y < q := by
  rcases h with h | h
  ·
   refine Int.lt_of_lt_of_le ((Int.ediv_lt_iff_lt_mul g.pos).2 ?_) h
   have := g.hu'; have := g.hu0'
   omega
  ·
   refine (Int.ediv_lt_iff_lt_mul g.pos).2 ?_
   rw [g.prod]; omega
 have h0 : 0 ≤ (u * 4294967296 + u0) / y := Int.ediv_nonneg (by have := g.hu; have := g.hu0; omega) (Int.le_of_lt g.pos)
 refine ⟨g.hy, g.hy1, g.hy1', g.hy0, g.hy0', g.hu0, g.hu0', g.hu, g.hu', by omega, by have := g.hr; have := g.hy1; omega, ?_, by omega⟩
 rw [Int.sub_mul, Int.one_mul]
 have := g.eq
 omega
theorem Guess.last {y y1 y0 u u0 q r : Int} (g : Guess y y1 y0 u u0 q r) (hq : q ≤ 4294967296) (hr : 4294967296 ≤ r) : q = (u * 4294967296 + u0) / y := by
 refine g.fit ?_
 have := g.hu0
 have h1 : q * y0 ≤ 4294967296 * 4294967295 := Int.le_trans (Int.mul_le_mul_of_nonneg_right hq g.hy0) (Int.mul_le_mul_of_nonneg_left (by have := g.hy0'; omega) (by omega))
 omega
theorem Guess.first {y y1 y0 u u0 : Int} (hy : y = y1 * 4294967296 + y0) (hy1 : 2147483648 ≤ y1) (hy1' : y1 < 4294967296) (hy0 : 0 ≤ y0) (hy0' : y0 < 4294967296) (hu0 : 0 ≤ u0) (hu0' : u0 < 4294967296) (hu : 0 ≤ u) (hu' : u < y) : Guess y y1 y0 u u0 (u / y1) (u % y1) := by
 have hp : 0 < y1 := by omega
 have e := Int.mul_ediv_add_emod u y1
 refine ⟨hy, hy1, hy1', hy0, hy0', hu0, hu0', hu, hu', Int.ediv_nonneg hu (by omega), Int.emod_nonneg _ (by omega), by rw [Int.mul_comm]; exact e, ?_⟩
 have hq := Int.ediv_nonneg hu (Int.le_of_lt hp)
 have hm := Int.emod_lt_of_pos u hp
 refine Int.le_of_lt_add_one ((Int.ediv_lt_iff_lt_mul (by omega)).2 ?_)
 rw [Int.add_mul, Int.one_mul]
 have e2 : u / y1 * y = (u - u % y1) * 4294967296 + u / y1 * y0 := by
  rw [hy, Int.mul_add, ← Int.mul_assoc, show u / y1 * y1 = u - u % y1 by rw [Int.mul_comm]; omega]
 have h2 := Int.mul_nonneg hq hy0
 omega
theorem div64_l0s (k : Nat) (x2 x8 x9 x10 x11 x13 x14 x15 x16 : Int) : zam.l0 (k + 1) x2 x8 x9 x10 x11 x13 x14 x15 x16 = if x15 ≥ 4294967296 then (zam.j1 k x2 x8 x9 x10 x11 x13 x14 x15 x16 true) else (zam.j1 k x2 x8 x9 x10 x11 x13 x14 x15 x16 (decide ((IntKind.u64.wrap (x15 * x10)) > (IntKind.u64.wrap ((IntKind.u64.wrap (4294967296 * x16)) + x13))))) := by rw [zam.l0]
theorem div64_j1s (k : Nat) (x2 x8 x9 x10 x11 x13 x14 x15 x16 : Int) (b : Bool) : zam.j1 (k + 1) x2 x8 x9 x10 x11 x13 x14 x15 x16 b = if b = true then (if (IntKind.u64.wrap (x16 + x9)) ≥ 4294967296 then (zam.j2 k x2 x8 x9 x10 x11 x13 x14 (IntKind.u64.wrap (x15 - 1))) else (zam.l0 k x2 x8 x9 x10 x11 x13 x14 (IntKind.u64.wrap (x15 - 1)) (IntKind.u64.wrap (x16 + x9)))) else (zam.j2 k x2 x8 x9 x10 x11 x13 x14 x15) := by rw [zam.j1]
theorem div64_l0 (y y1 y0 u u1 u0 s : Int) : ∀ (n k : Nat) (q r : Int), Guess y y1 y0 u u1 q r → r < 4294967296 → 4294967296 ≤ r + n * y1 →
  ∃ k', k ≤ k' ∧ zam.l0 (k + 2 * n) y s y1 y0 u u1 u0 q r = zam.j2 k' y s y1 y0 u u1 u0 ((u * 4294967296 + u1) / y)
 | 0, k, q, r, g, hr, hn => by exfalso; simp at hn; omega
 | n + 1, k, q, r, g, hr, hn => by
  obtain ⟨b1, b2, b3⟩ := g.small
  have hg0 := g.hr
  have hq0 := g.hq
  have hu := g.hu0; have hu' := g.hu0'; have hy := g.hy1; have hy' := g.hy1'
  have e1 : IntKind.u64.wrap (q * y0) = q * y0 := u64s b2 (by omega)
  have e2 : IntKind.u64.wrap (4294967296 * r) = 4294967296 * r := u64s (by omega) (by omega)
  have e3 : IntKind.u64.wrap (4294967296 * r + u1) = 4294967296 * r + u1 := u64s (by omega) (by omega)
  have e4 : IntKind.u64.wrap (r + y1) = r + y1 := u64s (by omega) (by omega)
  have hstep : ∀ m, zam.l0 (m + 2) y s y1 y0 u u1 u0 q r = if q ≥ 4294967296 ∨ q * y0 > 4294967296 * r + u1 then (if r + y1 ≥ 4294967296 then zam.j2 m y s y1 y0 u u1 u0 (IntKind.u64.wrap (q - 1)) else zam.l0 m y s y1 y0 u u1 u0 (IntKind.u64.wrap (q - 1)) (r + y1)) else zam.j2 m y s y1 y0 u u1 u0 q := by
   intro m
   rw [show m + 2 = (m + 1) + 1 from rfl]
   rw [div64_l0s]
   by_cases h1 : q ≥ 4294967296
   ·
    rw [if_pos h1, if_pos (.inl h1)]
    rw [div64_j1s, if_pos rfl, e4]
   ·
    rw [if_neg h1, e1, e2, e3]
    rw [div64_j1s]
    by_cases h2 : q * y0 > 4294967296 * r + u1
    ·
     have hor : q ≥ 4294967296 ∨ q * y0 > 4294967296 * r + u1 := .inr h2
     rw [decide_eq_true h2, if_pos rfl, if_pos hor, e4]
    ·
     rw [decide_eq_false h2, if_neg (by simp), if_neg (by omega)]
  rw [show k + 2 * (n + 1) = (k + 2 * n) + 2 by omega, hstep]
  by_cases hc : q ≥ 4294967296 ∨ q * y0 > 4294967296 * r + u1
  ·
   rw [if_pos hc]
   have g' := g.less hc
   have h0 := g'.hq
   rw [u64s h0 (by omega)]
   by_cases h3 : r + y1 ≥ 4294967296
   ·
    rw [if_pos h3, g'.last (by omega) h3]
    exact ⟨_, by omega, rfl⟩
   ·
    rw [if_neg h3]
    exact div64_l0 y y1 y0 u u1 u0 s n k (q - 1) (r + y1) g' (by omega) (by
     rw [Int.natCast_add, Int.add_mul] at hn
     omega)
  ·
   rw [if_neg hc, ← g.fit (by omega)]
   exact ⟨_, by omega, rfl⟩
def div64Out (s y u15 v : Int) (u0 q : Int) : Int × Int := (IntKind.u64.wrap (IntKind.u64.wrap (u15 * 4294967296) + q), shr .u64 (IntKind.u64.wrap (IntKind.u64.wrap (IntKind.u64.wrap (v * 4294967296) + u0) - IntKind.u64.wrap (q * y))) s)
theorem div64_l1s (k : Nat) (x2 x8 x9 x10 x14 x15 x16 x17 x18 : Int) : zam.l1 (k + 1) x2 x8 x9 x10 x14 x15 x16 x17 x18 = if x18 ≥ 4294967296 then (zam.j4 k x2 x8 x9 x10 x14 x15 x16 x17 x18 true) else (zam.j4 k x2 x8 x9 x10 x14 x15 x16 x17 x18 (decide ((IntKind.u64.wrap (x18 * x10)) > (IntKind.u64.wrap ((IntKind.u64.wrap (4294967296 * x16)) + x14))))) := by rw [zam.l1]
theorem div64_j4s (k : Nat) (x2 x8 x9 x10 x14 x15 x16 x17 x18 : Int) (b : Bool) : zam.j4 (k + 1) x2 x8 x9 x10 x14 x15 x16 x17 x18 b = if b = true then (if (IntKind.u64.wrap (x16 + x9)) ≥ 4294967296 then (if 0 ≤ x8 then some (div64Out x8 x2 x15 x17 x14 (IntKind.u64.wrap (x18 - 1))) else none) else (zam.l1 k x2 x8 x9 x10 x14 x15 (IntKind.u64.wrap (x16 + x9)) x17 (IntKind.u64.wrap (x18 - 1)))) else (if 0 ≤ x8 then some (div64Out x8 x2 x15 x17 x14 x18) else none) := by rw [zam.j4]; rfl
theorem div64_l1 (y y1 y0 u u0 s d : Int) (hs : 0 ≤ s) : ∀ (n k : Nat) (q r : Int), Guess y y1 y0 u u0 q r → r < 4294967296 → 4294967296 ≤ r + n * y1 →
  zam.l1 (k + 2 * n) y s y1 y0 u0 d r u q = some (div64Out s y d u u0 ((u * 4294967296 + u0) / y))
 | 0, k, q, r, g, hr, hn => by exfalso; simp at hn; omega
 | n + 1, k, q, r, g, hr, hn => by
  obtain ⟨b1, b2, b3⟩ := g.small
  have hg0 := g.hr
  have hq0 := g.hq
  have hu := g.hu0; have hu' := g.hu0'; have hy := g.hy1; have hy' := g.hy1'
  have e1 : IntKind.u64.wrap (q * y0) = q * y0 := u64s b2 (by omega)
  have e2 : IntKind.u64.wrap (4294967296 * r) = 4294967296 * r := u64s (by omega) (by omega)
  have e3 : IntKind.u64.wrap (4294967296 * r + u0) = 4294967296 * r + u0 := u64s (by omega) (by omega)
  have e4 : IntKind.u64.wrap (r + y1) = r + y1 := u64s (by omega) (by omega)
  have hstep : ∀ m, zam.l1 (m + 2) y s y1 y0 u0 d r u q = if q ≥ 4294967296 ∨ q * y0 > 4294967296 * r + u0 then (if r + y1 ≥ 4294967296 then some (div64Out s y d u u0 (IntKind.u64.wrap (q - 1))) else zam.l1 m y s y1 y0 u0 d (r + y1) u (IntKind.u64.wrap (q - 1))) else some (div64Out s y d u u0 q) := by
   intro m
   rw [show m + 2 = (m + 1) + 1 from rfl]
   rw [div64_l1s]
   by_cases h1 : q ≥ 4294967296
   ·
    rw [if_pos h1, if_pos (.inl h1)]
    rw [div64_j4s, if_pos rfl, e4, if_pos hs]
   ·
    rw [if_neg h1, e1, e2, e3]
    rw [div64_j4s, if_pos hs]
    by_cases h2 : q * y0 > 4294967296 * r + u0
    ·
     have hor : q ≥ 4294967296 ∨ q * y0 > 4294967296 * r + u0 := .inr h2
     rw [decide_eq_true h2, if_pos rfl, if_pos hor, e4]
    ·
     have hor : ¬ (q ≥ 4294967296 ∨ q * y0 > 4294967296 * r + u0) := by omega
     rw [decide_eq_false h2, if_neg (by simp), if_pos hs, if_neg hor]
  rw [show k + 2 * (n + 1) = (k + 2 * n) + 2 by omega, hstep]
  by_cases hc : q ≥ 4294967296 ∨ q * y0 > 4294967296 * r + u0
  ·
   rw [if_pos hc]
   have g' := g.less hc
   have h0 := g'.hq
   rw [u64s h0 (by omega)]
   by_cases h3 : r + y1 ≥ 4294967296
   ·
    rw [if_pos h3, g'.last (by omega) h3]
   ·
    rw [if_neg h3]
    exact div64_l1 y y1 y0 u u0 s d hs n k (q - 1) (r + y1) g' (by omega) (by
     rw [Int.natCast_add, Int.add_mul] at hn
     omega)
  ·
   rw [if_neg hc, ← g.fit (by omega)]
theorem and32 {y : Int} (h0 : 0 ≤ y) (h1 : y < 18446744073709551616) : Go.bits .and .u64 y 4294967295 = y % 4294967296 := by
 obtain ⟨n, rfl⟩ := Int.eq_ofNat_of_zero_le h0
 have e : (BitVec.ofInt 64 (n : Int) &&& BitVec.ofInt 64 4294967295).toNat = n % 4294967296 := by
  have e1 : (BitVec.ofInt 64 (n : Int)).toNat = n := by
   rw [BitVec.toNat_ofInt]
   omega
  have e2 : (BitVec.ofInt 64 4294967295).toNat = 2 ^ 32 - 1 := by decide
  rw [BitVec.toNat_and, e1, e2, Nat.and_two_pow_sub_one_eq_mod]
 show IntKind.u64.wrap (((BitVec.ofInt 64 (n : Int) &&& BitVec.ofInt 64 4294967295).toNat : Nat) : Int) = _
 rw [e, u64s (by omega) (by omega)]
 omega
theorem orAdd {a b s : Nat} (h0 : b < 2 ^ s) (h1 : 2 ^ s * a + b < 18446744073709551616) : Go.bits .or .u64 ((2 ^ s * a : Nat) : Int) (b : Int) = ((2 ^ s * a + b : Nat) : Int) := by
 have e1 : ∀ n : Nat, n < 18446744073709551616 → (BitVec.ofInt 64 (n : Int)).toNat = n := fun n hn => by
  rw [BitVec.toNat_ofInt]
  omega
 show IntKind.u64.wrap (((BitVec.ofInt 64 ((2 ^ s * a : Nat) : Int) ||| BitVec.ofInt 64 (b : Int)).toNat : Nat) : Int) = _
 rw [BitVec.toNat_or, e1 _ (by omega), e1 _ (by omega), ← Nat.two_pow_add_eq_or_of_lt h0, u64s (by omega) (by omega)]
theorem div64_out (y u q0 s u0 r1 : Int) (hy : 0 < y) (hu0 : 0 ≤ u0) (h : u * 4294967296 + u0 - q0 * y = r1) (hr0 : 0 ≤ r1) (hr1 : r1 < y) (hy1 : y < 18446744073709551616) :
  IntKind.u64.wrap (IntKind.u64.wrap (IntKind.u64.wrap (u * 4294967296) + u0) - IntKind.u64.wrap (q0 * y)) = r1 := by
 rw [u64w, u64w, u64w, u64w, ← h]
 have : 0 ≤ u * 4294967296 + u0 - q0 * y := by omega
 have : u * 4294967296 + u0 - q0 * y < 18446744073709551616 := by omega
 omega
theorem two_digits (y N : Int) (u0 : Int) (hy : 0 < y) (hN : 0 ≤ N) (hu0 : 0 ≤ u0) (hu0' : u0 < 4294967296) : (N * 4294967296 + u0) / y = N / y * 4294967296 + (N % y * 4294967296 + u0) / y ∧ (N * 4294967296 + u0) % y = (N % y * 4294967296 + u0) % y := by
 have e := Int.mul_ediv_add_emod N y
 have e2 : N * 4294967296 + u0 = (N % y * 4294967296 + u0) + y * (N / y * 4294967296) := by
  rw [← Int.mul_assoc]
  omega
 refine ⟨?_, ?_⟩
 ·
  rw [e2, Int.add_mul_ediv_left _ _ (by omega)]
  omega
 ·
  rw [e2, Int.add_mul_emod_self_left]
theorem lead_spec (a : Int) (h0 : 0 < a) (h1 : a < 18446744073709551616) : ∃ s : Nat, s ≤ 63 ∧ bits_LeadingZeros64.f a = some (s : Int) ∧ 9223372036854775808 ≤ a * 2 ^ s ∧ a * 2 ^ s < 18446744073709551616 := by
 obtain ⟨n, rfl⟩ := Int.eq_ofNat_of_zero_le (Int.le_of_lt h0)
 obtain ⟨b1, b2, b3⟩ := Lib.bitLenAux_bounds 64 n (by omega) (by omega)
 have b4 := Lib.bitLen_le n 64 (by omega) (by omega)
 have hb : Lib.bitLen n = Lib.bitLenAux 64 n := rfl
 rw [← hb] at b1 b2 b3
 have hf : bits_LeadingZeros64.f (n : Int) = some ((64 - Lib.bitLen n : Nat) : Int) := by
  unfold bits_LeadingZeros64.f bits_Len64.f
  rw [if_pos (by omega), if_pos (by omega)]
  show some (wrap64 (64 - ((Lib.bitLen (n : Int).toNat : Nat) : Int))) = _
  rw [Int.toNat_natCast]
  congr 1
  unfold wrap64
  omega
 refine ⟨64 - Lib.bitLen n, by omega, hf, ?_, ?_⟩
 ·
  have h2 : 2 ^ (Lib.bitLen n - 1) * 2 ^ (64 - Lib.bitLen n) ≤ n * 2 ^ (64 - Lib.bitLen n) := Nat.mul_le_mul_right _ b2
  rw [← Nat.pow_add, show Lib.bitLen n - 1 + (64 - Lib.bitLen n) = 63 by omega] at h2
  have h3 : ((n * 2 ^ (64 - Lib.bitLen n) : Nat) : Int) = (n : Int) * 2 ^ (64 - Lib.bitLen n) := by simp
  omega
 ·
  have h2 : n * 2 ^ (64 - Lib.bitLen n) < 2 ^ Lib.bitLen n * 2 ^ (64 - Lib.bitLen n) := Nat.mul_lt_mul_of_pos_right b3 (Nat.two_pow_pos _)
  rw [← Nat.pow_add, show Lib.bitLen n + (64 - Lib.bitLen n) = 64 by omega] at h2
  have h3 : ((n * 2 ^ (64 - Lib.bitLen n) : Nat) : Int) = (n : Int) * 2 ^ (64 - Lib.bitLen n) := by simp
  omega
theorem div64_tail (k : Nat) (y N u0 : Int) (s : Nat) (hy : 9223372036854775808 ≤ y) (hy' : y < 18446744073709551616) (hN : 0 ≤ N) (hNy : N < y * 4294967296) (hu0 : 0 ≤ u0) (hu0' : u0 < 4294967296) (hs : s ≤ 63) :
  zam.j2 (k + 5) y s (y / 4294967296) (y % 4294967296) (N / 4294967296) (N % 4294967296) u0 (N / y) = some ((N * 4294967296 + u0) / y, (N * 4294967296 + u0) % y / 2 ^ s) := by
 have hp : 0 < y := by omega
 have hq0 : 0 ≤ N / y := Int.ediv_nonneg hN (by omega)
 have hq1 : N / y < 4294967296 := (Int.ediv_lt_iff_lt_mul hp).2 (by rw [Int.mul_comm]; exact hNy)
 have hr0 : 0 ≤ N % y := Int.emod_nonneg _ (by omega)
 have hr1 : N % y < y := Int.emod_lt_of_pos _ hp
 have eN := Int.mul_ediv_add_emod N y
 have h21 : IntKind.u64.wrap (IntKind.u64.wrap (IntKind.u64.wrap (N / 4294967296 * 4294967296) + N % 4294967296) - IntKind.u64.wrap (N / y * y)) = N % y :=
  div64_out y (N / 4294967296) (N / y) 0 (N % 4294967296) (N % y) hp (by omega) (by rw [Int.mul_comm (N / y)]; omega) hr0 hr1 hy'
 rw [show k + 5 = (k + 4) + 1 from rfl, zam.j2, if_neg (by omega)]
 have g := Guess.first (y := y) (y1 := y / 4294967296) (y0 := y % 4294967296) (u := N % y) (u0 := u0) (by omega) (by omega) (by omega) (by omega) (by omega) hu0 hu0' hr0 hr1
 have hq3 := g.hq
 have hq4 := g.small.1
 have hy1 : 0 < y / 4294967296 := by omega
 have hm1 := Int.emod_lt_of_pos (N % y) hy1
 have hm0 := g.hr
 have hge := g.eq
 have et : IntKind.u64.wrap (Int.tdiv (N % y) (y / 4294967296)) = N % y / (y / 4294967296) := by
  rw [Int.tdiv_eq_ediv_of_nonneg hr0]
  exact u64s hq3 (by omega)
 have er : IntKind.u64.wrap (N % y - IntKind.u64.wrap (N % y / (y / 4294967296) * (y / 4294967296))) = N % y % (y / 4294967296) := by
  have e5 : IntKind.u64.wrap (N % y / (y / 4294967296) * (y / 4294967296)) = N % y / (y / 4294967296) * (y / 4294967296) := u64s (Int.mul_nonneg hq3 (by omega)) (by omega)
  rw [e5, show N % y - N % y / (y / 4294967296) * (y / 4294967296) = N % y % (y / 4294967296) by omega]
  exact u64s hm0 (by omega)
 rw [h21, et, er, show k + 4 = k + 2 * 2 from rfl]
 rw [div64_l1 y (y / 4294967296) (y % 4294967296) (N % y) u0 s (N / y) (by omega) 2 k _ _ g (by omega) (by omega)]
 obtain ⟨t1, t2⟩ := two_digits y N u0 hp hN hu0 hu0'
 have d0 : 0 ≤ (N % y * 4294967296 + u0) / y := Int.ediv_nonneg (by omega) (by omega)
 have d1 : (N % y * 4294967296 + u0) / y < 4294967296 := (Int.ediv_lt_iff_lt_mul hp).2 (by omega)
 have e6 := Int.mul_ediv_add_emod (N % y * 4294967296 + u0) y
 have e7 : 0 ≤ (N % y * 4294967296 + u0) % y := Int.emod_nonneg _ (by omega)
 have e8 : (N % y * 4294967296 + u0) % y < y := Int.emod_lt_of_pos _ hp
 unfold div64Out
 rw [div64_out y (N % y) _ 0 u0 ((N % y * 4294967296 + u0) % y) hp hu0 (by rw [Int.mul_comm (_ / y)]; omega) e7 e8 hy', t1, t2]
 congr 2
 ·
  rw [u64s (x := N / y * 4294967296) (by omega) (by omega)]
  exact u64s (by omega) (by omega)
 ·
  unfold shr
  rw [show min ((s : Int)).toNat IntKind.u64.bits = s by simp [IntKind.bits]; omega]
theorem div64_spec (k : Nat) (a0 a1 a2 : Int) (h0 : 0 ≤ a0) (h2 : a0 < a2) (h3 : a2 < 18446744073709551616) (h4 : 0 ≤ a1) (h5 : a1 < 18446744073709551616) (hk : 16 ≤ k) :
  zam.f k a0 a1 a2 = some ((a0 * 18446744073709551616 + a1) / a2, (a0 * 18446744073709551616 + a1) % a2) := by
 unfold zam.f
 rw [if_neg (by omega), if_neg (by omega)]
 by_cases hz : a0 = 0
 ·
  subst hz
  have h6 : 0 ≤ a1 / a2 := Int.ediv_nonneg h4 (by omega)
  have h7 : a1 / a2 ≤ a1 := Int.ediv_le_self _ h4
  rw [if_pos rfl, Int.tdiv_eq_ediv_of_nonneg h4, Int.tmod_eq_emod_of_nonneg h4, u64s h6 (by omega)]
  simp
 ·
  rw [if_neg hz]
  obtain ⟨s, hs, he, hl, hu⟩ := lead_spec a2 (by omega) h3
  rw [he]
  have e1 : IntKind.u64.wrap (s : Int) = s := u64s (by omega) (by omega)
  have e2 : IntKind.u64.wrap (64 - (s : Int)) = 64 - s := u64s (by omega) (by omega)
  have hmin : min ((s : Int)).toNat IntKind.u64.bits = s := by simp [IntKind.bits] <;> omega
  have hmin2 : min (64 - (s : Int)).toNat IntKind.u64.bits = 64 - s := by simp [IntKind.bits] <;> omega
  have ey : shl .u64 a2 (s : Int) = a2 * 2 ^ s := by
   unfold shl
   rw [hmin]
   exact u64s (by omega) hu
  have hP : (0 : Int) < 2 ^ s := Int.pow_pos (by omega)
  have ex : shl .u64 a0 (s : Int) = a0 * 2 ^ s := by
   have := Int.mul_lt_mul_of_pos_right h2 hP
   unfold shl
   rw [hmin]
   exact u64s (Int.mul_nonneg h0 (by omega)) (by omega)
  have ez : shr .u64 a1 (64 - (s : Int)) = a1 / 2 ^ (64 - s) := by
   unfold shr
   rw [hmin2]
  have ew : shl .u64 a1 (s : Int) = a1 * 2 ^ s % 18446744073709551616 := by
   unfold shl
   rw [hmin, u64w]
  have hsplit : (2 : Int) ^ (64 - s) * 2 ^ s = 18446744073709551616 := by
   rw [← Int.pow_add, show 64 - s + s = 64 by omega]
   decide
  have hQ : (0 : Int) < 2 ^ (64 - s) := Int.pow_pos (by omega)
  have hd : a1 * 2 ^ s / 18446744073709551616 = a1 / 2 ^ (64 - s) := by
   rw [← hsplit]
   exact Int.mul_ediv_mul_of_pos_left _ _ hP
  have hhi : a1 / 2 ^ (64 - s) < 2 ^ s := (Int.ediv_lt_iff_lt_mul hQ).2 (by rw [Int.mul_comm, hsplit]; exact h5)
  have hhi0 : 0 ≤ a1 / 2 ^ (64 - s) := Int.ediv_nonneg h4 (by omega)
  have hU : a0 * 2 ^ s + a1 / 2 ^ (64 - s) < a2 * 2 ^ s := by
   have := Int.mul_le_mul_of_nonneg_right (show a0 + 1 ≤ a2 by omega) (Int.le_of_lt hP)
   rw [Int.add_mul] at this
   omega
  have eor : Go.bits .or .u64 (a0 * 2 ^ s) (a1 / 2 ^ (64 - s)) = a0 * 2 ^ s + a1 / 2 ^ (64 - s) := by
   obtain ⟨x, hx⟩ := Int.eq_ofNat_of_zero_le h0
   obtain ⟨z, hz'⟩ := Int.eq_ofNat_of_zero_le hhi0
   have c1 : ((2 ^ s * x : Nat) : Int) = a0 * 2 ^ s := by rw [hx]; simp [Int.mul_comm]
   have c2 : ((2 ^ s : Nat) : Int) = 2 ^ s := by simp
   have := @orAdd x z s (by omega) (by omega)
   rw [c1] at this
   rw [hz', this]
   omega
  have hw0 : 0 ≤ a1 * 2 ^ s % 18446744073709551616 := by omega
  have hw1 : a1 * 2 ^ s % 18446744073709551616 < 18446744073709551616 := by omega
  have hx0 := Int.mul_nonneg h0 (Int.le_of_lt hP)
  have hdm : a1 * 2 ^ s = a1 / 2 ^ (64 - s) * 18446744073709551616 + a1 * 2 ^ s % 18446744073709551616 := by rw [← hd]; omega
  show Option.bind (some (s : Int)) _ = _
  simp only [Option.bind_some, e1, e2, ey, ex, ez, ew, eor]
  rw [if_pos (by omega), if_pos (by omega), if_neg (by omega), and32 (by omega) hu, and32 hw0 hw1]
  have eV : (a0 * 18446744073709551616 + a1) * 2 ^ s = ((a0 * 2 ^ s + a1 / 2 ^ (64 - s)) * 4294967296 + a1 * 2 ^ s % 18446744073709551616 / 4294967296) * 4294967296 + a1 * 2 ^ s % 18446744073709551616 % 4294967296 := by
   rw [Int.add_mul, hdm, Int.mul_right_comm]
   omega
  have eD : (a0 * 18446744073709551616 + a1) * 2 ^ s / (a2 * 2 ^ s) = (a0 * 18446744073709551616 + a1) / a2 := Int.mul_ediv_mul_of_pos_left _ _ hP
  have eM : (a0 * 18446744073709551616 + a1) * 2 ^ s % (a2 * 2 ^ s) / 2 ^ s = (a0 * 18446744073709551616 + a1) % a2 := by
   rw [Int.mul_comm _ (2 ^ s), Int.mul_comm a2, Int.mul_emod_mul_of_pos _ _ hP, Int.mul_ediv_cancel_left _ (by omega)]
  have hu0 : 0 ≤ a0 * 2 ^ s + a1 / 2 ^ (64 - s) := by omega
  generalize a2 * 2 ^ s = y at *
  generalize a0 * 2 ^ s + a1 / 2 ^ (64 - s) = u at *
  generalize a1 * 2 ^ s % 18446744073709551616 = v at *
  have g := Guess.first (y := y) (y1 := y / 4294967296) (y0 := y % 4294967296) (u := u) (u0 := v / 4294967296) (by omega) (by omega) (by omega) (by omega) (by omega) (by omega) (by omega) hu0 hU
  have hq3 := g.hq
  have hq4 := g.small.1
  have hy1 : 0 < y / 4294967296 := by omega
  have hm1 := Int.emod_lt_of_pos u hy1
  have hm0 := g.hr
  have hge := g.eq
  have et : IntKind.u64.wrap (Int.tdiv u (y / 4294967296)) = u / (y / 4294967296) := by
   rw [Int.tdiv_eq_ediv_of_nonneg hu0]
   exact u64s hq3 (by omega)
  have er : IntKind.u64.wrap (u - IntKind.u64.wrap (u / (y / 4294967296) * (y / 4294967296))) = u % (y / 4294967296) := by
   have e5 : IntKind.u64.wrap (u / (y / 4294967296) * (y / 4294967296)) = u / (y / 4294967296) * (y / 4294967296) := u64s (Int.mul_nonneg hq3 (by omega)) (by omega)
   rw [e5, show u - u / (y / 4294967296) * (y / 4294967296) = u % (y / 4294967296) by omega]
   exact u64s hm0 (by omega)
  rw [et, er]
  obtain ⟨m, rfl⟩ : ∃ m, k = m + 5 + 2 * 2 := ⟨k - 9, by omega⟩
  obtain ⟨k', hk', hl0⟩ := div64_l0 y (y / 4294967296) (y % 4294967296) u (v / 4294967296) (v % 4294967296) s 2 (m + 5) _ _ g (by omega) (by omega)
  rw [hl0]
  obtain ⟨m', rfl⟩ : ∃ m', k' = m' + 5 := ⟨k' - 5, by omega⟩
  have ht := div64_tail m' y (u * 4294967296 + v / 4294967296) (v % 4294967296) s hl hu (by omega) (by omega) (by omega) (by omega) hs
  rw [show (u * 4294967296 + v / 4294967296) / 4294967296 = u by omega, show (u * 4294967296 + v / 4294967296) % 4294967296 = v / 4294967296 by omega] at ht
  rw [ht, ← eV, eD, eM]
end Div64
def shortP (d : Int) : List Int → Int → List Int × Int
 | [], left => ([], left)
 | x :: xs, left => ((shortP d xs ((left * 18446744073709551616 + x) % d)).1 ++ [(left * 18446744073709551616 + x) / d], (shortP d xs ((left * 18446744073709551616 + x) % d)).2)
def limbs64 (l : List Int) : Bool := l.all fun x => decide (0 ≤ x) && decide (x < 18446744073709551616)
theorem limbs64_mem {l : List Int} (h : limbs64 l = true) (x : Int) (hx : x ∈ l) : 0 ≤ x ∧ x < 18446744073709551616 := by
 have := List.all_eq_true.1 h x hx
 simpa using this
def zcm.f (k : Nat) (l0 : List Int) (d : Int) : Option (List Int × Int) := if 0 < d ∧ d < 18446744073709551616 ∧ limbs64 l0 = true ∧ l0.length ≤ 35184372088832 then (zbj.f k (shortP d l0.reverse 0).1).bind fun t => some (t, (shortP d l0.reverse 0).2) else none
theorem shortP_length (d : Int) : ∀ (l : List Int) (left : Int), (shortP d l left).1.length = l.length
 | [], _ => rfl
 | x :: xs, left => by
  rw [shortP, List.length_append, shortP_length d xs]
  rfl
theorem shortP_snoc (d : Int) : ∀ (l : List Int) (left x : Int), shortP d (l ++ [x]) left = (((shortP d l left).2 * 18446744073709551616 + x) / d :: (shortP d l left).1, ((shortP d l left).2 * 18446744073709551616 + x) % d)
 | [], left, x => rfl
 | y :: l, left, x => by
  rw [List.cons_append, shortP, shortP, shortP_snoc d l]
  rfl
def stp (d : Int) (l0 : List Int) (pre : List (Fin l0.length)) : List Int × Int := pre.foldl (fun s x => (s.1.set x.val ((s.2 * 18446744073709551616 + l0.getD x.val 0) / d), (s.2 * 18446744073709551616 + l0.getD x.val 0) % d)) (List.replicate l0.length 0, 0)
theorem stp_snoc (d : Int) (l0 : List Int) (pre : List (Fin l0.length)) (x : Fin l0.length) : stp d l0 (pre ++ [x]) = ((stp d l0 pre).1.set x.val (((stp d l0 pre).2 * 18446744073709551616 + l0.getD x.val 0) / d), ((stp d l0 pre).2 * 18446744073709551616 + l0.getD x.val 0) % d) := by
 unfold stp
 rw [List.foldl_append]
 rfl
theorem foldl_inv {σ β : Type} (Q : σ → Prop) (f : σ → β → σ) (hf : ∀ s x, Q s → Q (f s x)) : ∀ (l : List β) (s : σ), Q s → Q (l.foldl f s)
 | [], _, h => h
 | x :: l, s, h => foldl_inv Q f hf l _ (hf s x h)
theorem stp_length (d : Int) (l0 : List Int) (pre : List (Fin l0.length)) : (stp d l0 pre).1.length = l0.length := by
 unfold stp
 exact foldl_inv (fun s : List Int × Int => s.1.length = l0.length) _ (fun s x h => by rw [List.length_set]; exact h) pre _ (by simp)
theorem stp_left (d : Int) (hd : 0 < d) (l0 : List Int) (pre : List (Fin l0.length)) : 0 ≤ (stp d l0 pre).2 ∧ (stp d l0 pre).2 < d := by
 unfold stp
 exact foldl_inv (fun s : List Int × Int => 0 ≤ s.2 ∧ s.2 < d) _ (fun s x h => ⟨Int.emod_nonneg _ (by omega), Int.emod_lt_of_pos _ hd⟩) pre _ ⟨by simp, hd⟩
theorem stp_bw (d : Int) (l0 : List Int) : ∀ k, k ≤ l0.length → stp d l0 (bw l0 k) = (List.replicate (l0.length - k) 0 ++ (shortP d (l0.reverse.take k) 0).1, (shortP d (l0.reverse.take k) 0).2)
 | 0, _ => by simp [bw, stp, shortP]
 | k + 1, h => by
  have hk : k < l0.reverse.length := by rw [List.length_reverse]; omega
  rw [bw_succ l0 k h, stp_snoc, stp_bw d l0 k (by omega), List.take_succ_eq_append_getElem hk, shortP_snoc]
  have e : l0.getD (l0.length - 1 - k) 0 = l0.reverse[k] := by
   rw [List.getElem_reverse, List.getD_eq_getElem?_getD, List.getElem?_eq_getElem (by omega)]
   rfl
  dsimp only
  rw [e]
  refine Prod.ext ?_ rfl
  dsimp only
  rw [show l0.length - k = (l0.length - 1 - k) + 1 by omega, List.replicate_succ', List.append_assoc, List.set_append_right _ _ (by simp), List.length_replicate, Nat.sub_self]
  rw [show l0.length - (k + 1) = l0.length - 1 - k by omega]
  rfl
theorem stp_end (d : Int) (l0 : List Int) : stp d l0 (bw l0 l0.length) = shortP d l0.reverse 0 := by
 rw [stp_bw d l0 _ (Nat.le_refl _), Nat.sub_self, List.take_of_length_le (by simp)]
 rfl
theorem R_kept {β : Type} (f : β → List Int) (g base c e : Nat) : Own (fun (s : β) W => Kd.R (Kd.int .u64) e W base (fun k => k = g) (.slice (some ⟨g, 0, none⟩) (f s).length c) (f s)) := by
 intro s W W' row hs hg hr
 refine Kd.zbl (Kd.R_step (Kd.R_bound hs) (fun k hk hlt => hg.block k hlt ?_)) (fun k hk => hk.1)
 intro he
 obtain ⟨o, ho, hc⟩ := hr k he.symm
 obtain ⟨_, _, _, _, _, cells, hcl⟩ := hk
 rw [hcl] at ho
 injection ho with ho
 rw [← ho] at hc
 cases hc
theorem wpIn_outRound {F : Fence} {n : Nat} {P : Program} {o : Oper} {a : Act} {w : World} {K : Act → World → Prop} {Q : Exit → Act → World → Prop} (l : Nat) (hro : F.round = none) (hd : ∀ c, o.op ≠ .defer c) (h : o.wpIn F n P a w K Q) : o.wpIn (F.inRound l) n P a w K Q := by
 unfold Oper.wpIn at *
 refine ⟨h.1, ?_⟩
 rw [hro, Oper.semAt_none] at h
 rw [Fence.inRound_round, Oper.semAt_some l _ _ hd]
 have h := h.2
 generalize (execOp a.eval o).run P w = r at *
 cases r with
 | ok x w' => cases x <;> exact h
 | halt x w' => cases x <;> exact h
theorem wpAnyIn_outRound {F : Fence} {n : Nat} {P : Program} {md : Region.Mode} {ops : Array Oper} {Q : Exit → Act → World → Prop} (l : Nat) (hro : F.round = none) (hd : ops.toList.all (fun o => match o.op with | .defer _ => false | _ => true) = true) :
  ∀ (fuel : Nat) (listed : Array Bool) (a : Act) (w : World), wpAnyIn F n P md ops Q fuel listed a w → wpAnyIn (F.inRound l) n P md ops Q fuel listed a w
 | 0, listed, a, w, h => h
 | fuel + 1, listed, a, w, h => by
  refine ⟨h.1, fun i hi => ?_⟩
  have h2 := wpOpIn_mono (K' := wpAnyIn (F.inRound l) n P md ops Q fuel (listed.setIfInBounds i true)) (fun a w => wpAnyIn_outRound l hro hd fuel _ a w) (h.2 i hi)
  unfold wpOpIn at *
  split
  ·
   rename_i ho
   rw [ho] at h2
   exact h2
  ·
   rename_i o ho
   rw [ho] at h2
   dsimp only at h2
   split
   ·
    rename_i hw
    rw [if_pos hw] at h2
    refine wpIn_outRound l hro (fun c hc => ?_) h2
    have hm := List.all_eq_true.1 hd o (by rw [Array.getElem?_eq_some_iff] at ho; obtain ⟨hlt, rfl⟩ := ho; simp)
    rw [hc] at hm
    exact Bool.noConfusion hm
   ·
    rename_i hw
    rw [if_neg hw] at h2
    exact h2
section
open Go.Shelf
attribute [local go_sem] Oper.semAt_some
theorem zcm.inner (k : Nat) (A0 : Option Addr) (c0 : Nat) (l0 : List Int) (d : Int) (T : List Int) (w : World) (hreach : l0.length * 8 ≤ 281474976710656) (hd0 : 0 < d) (hd1 : d < 18446744073709551616) (hl : limbs64 l0 = true) (hT : zbj.f k (shortP d l0.reverse 0).1 = some T)
  (hI0 : ∀ j, j < l0.length → ∃ ad, A0 = some ad ∧ ad.block < w.heap.size ∧ w.cell? (ad.add j) = some (.int .u64 (l0.getD j 0))) :
  Calls Tryz.prog 115 #[.slice A0 l0.length c0, .int .u64 d] w fun e w' => ∃ v0_ : Value, e = .returned (.tuple #[v0_, .int .u64 (shortP d l0.reverse 0).2]) ∧ Kd.V (Kd.int .u64) 82 w' w.heap.size (fun k_ => (w.heap.size ≤ k_)) v0_ T ∧ Below w.heap.size w w' := by
 refine (callsIn_wide (n := 4)).1 ?_
 refine callsIn_of_wp_marks Tryz.func115 rfl trivial ?_ rfl
 simp only [Tryz.ntmps115, List.size_toArray, List.length_cons, List.length_nil, Nat.reduceAdd, Nat.reduceSub, Array.replicate_succ, Array.replicate_zero, List.push_toArray, List.append_toArray, List.nil_append, List.cons_append]
 have HI0 := Lib.hid hI0
 have HD0 := Lib.hid hd0
 have HD1 := Lib.hid hd1
 have HL := Lib.hid hl
 have HT := Lib.hid hT
 clear hI0 hT hd0 hd1 hl
 obtain ⟨i0, hi, hz0, hz1, hz2⟩ := info_parts info82
 have hmk : ∀ W : World, (Instr.makeSlice 27 (.int .i64 (l0.length : Int)) (.int .i64 (l0.length : Int))).run Tryz.prog W = .ok (.slice (some ⟨W.heap.size, 0, none⟩) l0.length l0.length) (W.alloc (.cells (madeCells #[.int .u64 0] l0.length) 82)) := fun W => by
  have hr := run_make (P := Tryz.prog) W 27 82 i0 (.int .u64 0) Tryz.underlying27 hi hz0 .i64 .i64 (l0.length : Int) (l0.length : Int) (by omega) (by omega) (by rw [hz2]; omega) (by omega)
  rw [hz1] at hr
  rw [hr, Int.toNat_natCast, Nat.mul_one]
  rfl
 have hrow : ∀ W : World, w.heap.size ≤ W.heap.size → Kd.R (Kd.int .u64) 82 (W.alloc (.cells (madeCells #[.int .u64 0] l0.length) 82)) w.heap.size (fun k => k = W.heap.size) (.slice (some ⟨W.heap.size, 0, none⟩) l0.length l0.length) (List.replicate l0.length 0) := fun W hW => by
  have ho := own_made W w.heap.size 82 .u64 l0.length hW (by omega)
  refine Kd.R_of_own (by rw [List.length_replicate]; exact ho) (fun k hk => ?_)
  simpa [Value.ownBlock] using hk.symm
 clear hi hz0 hz1 hz2
 gi_wp2_with (refine ⟨trivial, ?_⟩; gi_at_call 80; refine (back_in Fence.wide _ trivial rfl _ _ _ _).mono ?_; rintro e w' ⟨rfl, rfl⟩)
 have hR1 := hrow (w.alloc (.cells #[.int .u64 d] 82)) (by simp)
 rw [World.size_alloc] at hR1
 have bD := Boxed.new w 82 (.int .u64 d)
 obtain ⟨w1, hw1⟩ : ∃ w1, (w.alloc (.cells #[.int .u64 d] 82)).alloc (.cells (madeCells #[.int .u64 0] l0.length) 82) = w1 := ⟨_, rfl⟩
 have hs1 : w1.heap.size = w.heap.size + 1 + 1 := by rw [← hw1]; simp
 have hb1 : Below w.heap.size w w1 := by rw [← hw1]; exact ((Below.refl _ w).alloc (Nat.le_refl _) _).alloc (by simp) _
 have bD1 := bD.alloc (.cells (madeCells #[.int .u64 0] l0.length) 82)
 rw [hw1] at hR1 bD1 ⊢
 clear hrow bD
 have bO := Boxed.new w1 27 (.slice (some ⟨w.heap.size + 1, 0, none⟩) l0.length l0.length)
 have bL := Boxed.new (w1.alloc (.cells #[.slice (some ⟨w.heap.size + 1, 0, none⟩) l0.length l0.length] 27)) 82 (.int .u64 0)
 have bN := Boxed.new ((w1.alloc (.cells #[.slice (some ⟨w.heap.size + 1, 0, none⟩) l0.length l0.length] 27)).alloc (.cells #[.int .u64 0] 82)) 27 (.slice A0 l0.length c0)
 rw [World.size_alloc] at bL
 rw [World.size_alloc, World.size_alloc] at bN
 rw [hs1] at bO bL bN
 have hB0 : Below w.heap.size w (((w1.alloc (.cells #[.slice (some ⟨w.heap.size + 1, 0, none⟩) l0.length l0.length] 27)).alloc (.cells #[.int .u64 0] 82)).alloc (.cells #[.slice A0 l0.length c0] 27)) := ((hb1.alloc (by omega) _).alloc (by simp; omega) _).alloc (by simp; omega) _
 have hmx : Tryz.prog.follows .mixedOrders = true := by kernel_rfl
 refine wpIn_rangeFunc_ownG rfl (by omega) (gf := 128) (lb := #[.pointer (some ⟨w.heap.size + 1 + 1 + 1 + 1, 0, none⟩)]) rfl trivial (enters_of Tryz.func128 (by kernel_rfl) rfl)
  (back_stops Fence.wide 3 trivial rfl (by omega) (w.heap.size + 1 + 1 + 1 + 1) w.heap.size c0 A0 l0 (by omega) _ (by simp; omega) (by simp; omega) bN.cell (fun j hj => by
   obtain ⟨ad, e, hb, hc⟩ := HI0.out j hj
   exact ⟨ad, e, hb, (hB0.cell (p := ad.add j) (by unfold Addr.add; split <;> exact hb)).trans hc⟩)) bwKp_t (bwKp_b (by simp; omega) (by simp; omega)) (Below.refl _ _) (fun _ => rfl)
  (fun pre W => (W.cell? ⟨w.heap.size, 0, none⟩ = some (.int .u64 d) ∧ W.cell? ⟨w.heap.size + 1 + 1, 0, none⟩ = some (.slice (some ⟨w.heap.size + 1, 0, none⟩) l0.length l0.length) ∧ W.cell? ⟨w.heap.size + 1 + 1 + 1, 0, none⟩ = some (.int .u64 (stp d l0 pre).2) ∧ W.frozen? ⟨w.heap.size + 1 + 1 + 1, 0, none⟩ = false ∧ Kd.R (Kd.int .u64) 82 W w.heap.size (fun k => k = w.heap.size + 1) (.slice (some ⟨w.heap.size + 1, 0, none⟩) (stp d l0 pre).1.length l0.length) (stp d l0 pre).1) ∧ Below w.heap.size w W)
  (fun _ _ _ => False)
  (OwnFrom.and (Own.from (fun s A B row hs hg hr => ⟨cell_kept hs.1 hg hr, cell_kept hs.2.1 hg hr, cell_kept hs.2.2.1 hg hr, (frozen_kept hs.2.2.1 hg hr).trans hs.2.2.2.1, R_kept (fun pre => (stp d l0 pre).1) _ _ _ _ s A B row hs.2.2.2.2 hg hr⟩) _) (ownFrom_below (Nat.le_refl _) (by simp; omega)))
  (fun c => Own.from (fun s A B row hs hg hr => hs.elim) _)
  ⟨⟨((bD1.alloc _).alloc _ |>.alloc _).cell, ((bO.alloc _).alloc _).cell, (bL.alloc _).cell, (bL.alloc _).frozen, ?r0⟩, hB0⟩
  (fun x => { tmps := #[.slice A0 l0.length c0, .int .u64 d, undef, .pointer (some ⟨w.heap.size, 0, none⟩), .slice none 0 0, .int .u64 0, .pointer (some ⟨w.heap.size + 1 + 1, 0, none⟩), .pointer (some ⟨w.heap.size + 1 + 1 + 1, 0, none⟩), .int .i64 (x.val : Int), .int .u64 (bwv l0 x), .slice A0 l0.length c0, .int .i64 l0.length, .slice (some ⟨w.heap.size + 1, 0, none⟩) l0.length l0.length, .slice A0 l0.length c0, .func (.func 128) #[] #[.pointer (some ⟨w.heap.size + 1 + 1 + 1 + 1, 0, none⟩)], .int .i64 (x.val : Int), .int .u64 (bwv l0 x), undef, undef, undef, undef, undef, undef, undef, undef, undef, undef, undef, undef, undef], defers := [] }) ?assign ?body ?done ?stop
 case r0 => exact Kd.zbv (Kd.zbv (Kd.zbv (by simpa [stp] using hR1) _) _) _
 case assign =>
  intro l x W K hK
  gi_wp2
  exact hK
 case body =>
  rintro l pre x W ⟨⟨hcd, hco, hcl, hfl, hR⟩, hB⟩ _
  obtain ⟨hl0, hl1⟩ := stp_left d HD0.out l0 pre
  have hx := x.isLt
  have hmem : l0.getD x.val 0 ∈ l0 := by rw [List.getD_eq_getElem?_getD, List.getElem?_eq_getElem hx]; exact List.getElem_mem hx
  obtain ⟨hv0, hv1⟩ := limbs64_mem HL.out _ hmem
  have hdiv := div64_spec 16 (stp d l0 pre).2 (l0.getD x.val 0) d hl0 hl1 HD1.out hv0 hv1 (Nat.le_refl _)
  have hlen := stp_length d l0 pre
  have hsn := stp_snoc d l0 pre x
  have hx0 : (0 : Int) ≤ (x.val : Int) := by omega
  have hx1 : (x.val : Int) < (l0.length : Int) := by omega
  have hcell := Kd.zc8 (0 : Int) (enc := fun n => Value.int .u64 n) hR (x.val : Int) hx0 (by rw [hlen]; omega)
  rw [Int.toNat_natCast] at hcell
  obtain ⟨hcx, hfx⟩ := hcell
  obtain ⟨j, hj⟩ : ∃ j, x.val = j := ⟨_, rfl⟩
  have hbw : bwv l0 x = l0.getD j 0 := by rw [← hj]; rfl
  rw [hj] at hx hv0 hv1 hdiv hx0 hx1 hcx hfx hsn
  obtain ⟨v, hv⟩ : ∃ v, l0.getD j 0 = v := ⟨_, rfl⟩
  obtain ⟨u, hu⟩ : ∃ u, (stp d l0 pre).2 = u := ⟨_, rfl⟩
  rw [hv] at hdiv hbw hsn
  rw [hu] at hdiv hcl hsn
  have HSN := Lib.hid hsn
  have HDV := Lib.hid hdiv
  have HR := Lib.hid hR
  have HLEN := Lib.hid hlen
  simp only [hbw, hj]
  clear hsn hdiv hl0 hl1 hmem hv0 hv1 hR hlen hu hv hbw
  obtain ⟨q, hq⟩ : ∃ q, (u * 18446744073709551616 + v) / d = q := ⟨_, rfl⟩
  obtain ⟨r, hr⟩ : ∃ r, (u * 18446744073709551616 + v) % d = r := ⟨_, rfl⟩
  simp only [hq, hr] at HSN HDV
  clear hq hr
  gi_wp2
  refine wpIn_region_any hmx ?_
  change wpAnyIn _ _ _ _ _ _ _ _ _ (World.drew _)
  refine wpAnyIn_outRound l rfl rfl _ _ _ _ ?_
  refine wpAnyIn_take (i := 1) (v := ?_) rfl rfl (by kernel_rfl) (by kernel_rfl) (by kernel_rfl) (fun _ _ _ h => h) ⟨Or.inl ⟨by rfl, ?_⟩, fun _ => rfl⟩ ?_
  rotate_left 1
  ·
   intro w; go_simp; with_reducible rfl
  refine wpAnyIn_take (i := 3) (v := ?_) rfl rfl (by kernel_rfl) (by kernel_rfl) (by kernel_rfl) (fun _ _ _ h => h) ⟨Or.inl ⟨by rfl, ?_⟩, fun _ => rfl⟩ ?_
  rotate_left 1
  ·
   intro w; go_simp; with_reducible rfl
  refine wpAnyIn_ready (rs := [0, 2, 4]) (by kernel_rfl) (by simp) ?_
  refine AllReadyIn.cons rfl (fun K hK => ?_) ?_
  go_simp
  try (refine hK _ _ ?_; clear hK K)
  refine wpAnyIn_ready (rs := [2, 4]) (by kernel_rfl) (by simp) ?_
  refine AllReadyIn.cons rfl (fun K hK => ?_) ?_
  go_simp
  try (refine hK _ _ ?_; clear hK K)
  refine wpAnyIn_ready (rs := [4]) (by kernel_rfl) (by simp) ?_
  refine AllReadyIn.cons rfl (fun K hK => ?_) ?_
  go_simp
  try (refine hK _ _ ?_; clear hK K)
  refine wpAnyIn_ready (rs := [5]) (by kernel_rfl) (by simp) ?_
  refine AllReadyIn.cons rfl (fun K hK => ?_) ?_
  go_simp
  gi_wp2_with (refine ⟨trivial, ?_⟩; gi_at_call 149; refine (callsIn_wide.2 (zam.calls 16 u v d q r _ HDV.out)).mono ?_; rintro e w' ⟨rfl, ⟨nd, rfl⟩⟩)
  try (refine hK _ _ ?_; clear hK K)
  refine wpAnyIn_take (i := 6) (v := ?_) rfl rfl (by kernel_rfl) (by kernel_rfl) (by kernel_rfl) (fun _ _ _ h => h) ⟨Or.inl ⟨by rfl, ?_⟩, fun _ => rfl⟩ ?_
  rotate_left 1
  ·
   intro w; go_simp; with_reducible rfl
  refine wpAnyIn_take (i := 7) (v := ?_) rfl rfl (by kernel_rfl) (by kernel_rfl) (by kernel_rfl) (fun _ _ _ h => h) ⟨Or.inl ⟨by rfl, ?_⟩, fun _ => rfl⟩ ?_
  rotate_left 1
  ·
   intro w; go_simp; with_reducible rfl
  refine wpAnyIn_take (i := 8) (v := ?_) rfl rfl (by kernel_rfl) (by kernel_rfl) (by kernel_rfl) (fun _ _ _ h => h) ⟨Or.inl ⟨by rfl, ?_⟩, fun _ => rfl⟩ ?_
  rotate_left 1
  ·
   intro w; go_simp; with_reducible rfl
  refine wpAnyIn_take (i := 9) (v := ?_) rfl rfl (by kernel_rfl) (by kernel_rfl) (by kernel_rfl) (fun _ _ _ h => h) ⟨Or.inl ⟨by rfl, ?_⟩, fun _ => rfl⟩ ?_
  rotate_left 1
  ·
   intro w; go_simp; with_reducible rfl
  refine wpAnyIn_ready (rs := [10]) (by kernel_rfl) (by simp) ?_
  refine AllReadyIn.cons rfl (fun K hK => ?_) ?_
  go_simp
  try (refine hK _ _ ?_; clear hK K)
  refine wpAnyIn_ready (rs := [11]) (by kernel_rfl) (by simp) ?_
  refine AllReadyIn.cons rfl (fun K hK => ?_) ?_
  go_simp
  try (refine hK _ _ ?_; clear hK K)
  refine wpAnyIn_done (by kernel_rfl) ?_ _
  rotate_left 1
  exact AllReadyIn.nil
  exact AllReadyIn.nil
  exact AllReadyIn.nil
  exact AllReadyIn.nil
  refine AllReadyIn.cons rfl (fun K hK => ?_) ?_
  go_simp
  try (refine hK _ _ ?_; clear hK K)
  refine wpAnyIn_ready (rs := [2]) (by kernel_rfl) (by simp) ?_
  refine AllReadyIn.cons rfl (fun K hK => ?_) ?_
  go_simp
  try (refine hK _ _ ?_; clear hK K)
  refine wpAnyIn_ready (rs := [5]) (by kernel_rfl) (by simp) ?_
  refine AllReadyIn.cons rfl (fun K hK => ?_) ?_
  go_simp
  gi_wp2_with (refine ⟨trivial, ?_⟩; gi_at_call 149; refine (callsIn_wide.2 (zam.calls 16 u v d q r _ HDV.out)).mono ?_; rintro e w' ⟨rfl, ⟨nd, rfl⟩⟩)
  try (refine hK _ _ ?_; clear hK K)
  refine wpAnyIn_take (i := 6) (v := ?_) rfl rfl (by kernel_rfl) (by kernel_rfl) (by kernel_rfl) (fun _ _ _ h => h) ⟨Or.inl ⟨by rfl, ?_⟩, fun _ => rfl⟩ ?_
  rotate_left 1
  ·
   intro w; go_simp; with_reducible rfl
  refine wpAnyIn_take (i := 7) (v := ?_) rfl rfl (by kernel_rfl) (by kernel_rfl) (by kernel_rfl) (fun _ _ _ h => h) ⟨Or.inl ⟨by rfl, ?_⟩, fun _ => rfl⟩ ?_
  rotate_left 1
  ·
   intro w; go_simp; with_reducible rfl
  refine wpAnyIn_take (i := 8) (v := ?_) rfl rfl (by kernel_rfl) (by kernel_rfl) (by kernel_rfl) (fun _ _ _ h => h) ⟨Or.inl ⟨by rfl, ?_⟩, fun _ => rfl⟩ ?_
  rotate_left 1
  ·
   intro w; go_simp; with_reducible rfl
  refine wpAnyIn_take (i := 9) (v := ?_) rfl rfl (by kernel_rfl) (by kernel_rfl) (by kernel_rfl) (fun _ _ _ h => h) ⟨Or.inl ⟨by rfl, ?_⟩, fun _ => rfl⟩ ?_
  rotate_left 1
  ·
   intro w; go_simp; with_reducible rfl
  refine wpAnyIn_ready (rs := [10]) (by kernel_rfl) (by simp) ?_
  refine AllReadyIn.cons rfl (fun K hK => ?_) ?_
  go_simp
  try (refine hK _ _ ?_; clear hK K)
  refine wpAnyIn_ready (rs := [11]) (by kernel_rfl) (by simp) ?_
  refine AllReadyIn.cons rfl (fun K hK => ?_) ?_
  go_simp
  try (refine hK _ _ ?_; clear hK K)
  refine wpAnyIn_done (by kernel_rfl) ?_ _
  rotate_left 1
  exact AllReadyIn.nil
  exact AllReadyIn.nil
  exact AllReadyIn.nil
  exact AllReadyIn.nil
  exact AllReadyIn.nil
  refine AllReadyIn.cons rfl (fun K hK => ?_) ?_
  go_simp
  try (refine hK _ _ ?_; clear hK K)
  refine wpAnyIn_ready (rs := [0, 4]) (by kernel_rfl) (by simp) ?_
  refine AllReadyIn.cons rfl (fun K hK => ?_) ?_
  go_simp
  try (refine hK _ _ ?_; clear hK K)
  refine wpAnyIn_ready (rs := [4]) (by kernel_rfl) (by simp) ?_
  refine AllReadyIn.cons rfl (fun K hK => ?_) ?_
  go_simp
  try (refine hK _ _ ?_; clear hK K)
  refine wpAnyIn_ready (rs := [5]) (by kernel_rfl) (by simp) ?_
  refine AllReadyIn.cons rfl (fun K hK => ?_) ?_
  go_simp
  gi_wp2_with (refine ⟨trivial, ?_⟩; gi_at_call 149; refine (callsIn_wide.2 (zam.calls 16 u v d q r _ HDV.out)).mono ?_; rintro e w' ⟨rfl, ⟨nd, rfl⟩⟩)
  try (refine hK _ _ ?_; clear hK K)
  refine wpAnyIn_take (i := 6) (v := ?_) rfl rfl (by kernel_rfl) (by kernel_rfl) (by kernel_rfl) (fun _ _ _ h => h) ⟨Or.inl ⟨by rfl, ?_⟩, fun _ => rfl⟩ ?_
  rotate_left 1
  ·
   intro w; go_simp; with_reducible rfl
  refine wpAnyIn_take (i := 7) (v := ?_) rfl rfl (by kernel_rfl) (by kernel_rfl) (by kernel_rfl) (fun _ _ _ h => h) ⟨Or.inl ⟨by rfl, ?_⟩, fun _ => rfl⟩ ?_
  rotate_left 1
  ·
   intro w; go_simp; with_reducible rfl
  refine wpAnyIn_take (i := 8) (v := ?_) rfl rfl (by kernel_rfl) (by kernel_rfl) (by kernel_rfl) (fun _ _ _ h => h) ⟨Or.inl ⟨by rfl, ?_⟩, fun _ => rfl⟩ ?_
  rotate_left 1
  ·
   intro w; go_simp; with_reducible rfl
  refine wpAnyIn_take (i := 9) (v := ?_) rfl rfl (by kernel_rfl) (by kernel_rfl) (by kernel_rfl) (fun _ _ _ h => h) ⟨Or.inl ⟨by rfl, ?_⟩, fun _ => rfl⟩ ?_
  rotate_left 1
  ·
   intro w; go_simp; with_reducible rfl
  refine wpAnyIn_ready (rs := [10]) (by kernel_rfl) (by simp) ?_
  refine AllReadyIn.cons rfl (fun K hK => ?_) ?_
  go_simp
  try (refine hK _ _ ?_; clear hK K)
  refine wpAnyIn_ready (rs := [11]) (by kernel_rfl) (by simp) ?_
  refine AllReadyIn.cons rfl (fun K hK => ?_) ?_
  go_simp
  try (refine hK _ _ ?_; clear hK K)
  refine wpAnyIn_done (by kernel_rfl) ?_ _
  rotate_left 1
  exact AllReadyIn.nil
  exact AllReadyIn.nil
  exact AllReadyIn.nil
  exact AllReadyIn.nil
  refine AllReadyIn.cons rfl (fun K hK => ?_) ?_
  go_simp
  try (refine hK _ _ ?_; clear hK K)
  refine wpAnyIn_ready (rs := [0, 5]) (by kernel_rfl) (by simp) ?_
  refine AllReadyIn.cons rfl (fun K hK => ?_) ?_
  go_simp
  try (refine hK _ _ ?_; clear hK K)
  refine wpAnyIn_ready (rs := [5]) (by kernel_rfl) (by simp) ?_
  refine AllReadyIn.cons rfl (fun K hK => ?_) ?_
  go_simp
  gi_wp2_with (refine ⟨trivial, ?_⟩; gi_at_call 149; refine (callsIn_wide.2 (zam.calls 16 u v d q r _ HDV.out)).mono ?_; rintro e w' ⟨rfl, ⟨nd, rfl⟩⟩)
  try (refine hK _ _ ?_; clear hK K)
  refine wpAnyIn_take (i := 6) (v := ?_) rfl rfl (by kernel_rfl) (by kernel_rfl) (by kernel_rfl) (fun _ _ _ h => h) ⟨Or.inl ⟨by rfl, ?_⟩, fun _ => rfl⟩ ?_
  rotate_left 1
  ·
   intro w; go_simp; with_reducible rfl
  refine wpAnyIn_take (i := 7) (v := ?_) rfl rfl (by kernel_rfl) (by kernel_rfl) (by kernel_rfl) (fun _ _ _ h => h) ⟨Or.inl ⟨by rfl, ?_⟩, fun _ => rfl⟩ ?_
  rotate_left 1
  ·
   intro w; go_simp; with_reducible rfl
  refine wpAnyIn_take (i := 8) (v := ?_) rfl rfl (by kernel_rfl) (by kernel_rfl) (by kernel_rfl) (fun _ _ _ h => h) ⟨Or.inl ⟨by rfl, ?_⟩, fun _ => rfl⟩ ?_
  rotate_left 1
  ·
   intro w; go_simp; with_reducible rfl
  refine wpAnyIn_take (i := 9) (v := ?_) rfl rfl (by kernel_rfl) (by kernel_rfl) (by kernel_rfl) (fun _ _ _ h => h) ⟨Or.inl ⟨by rfl, ?_⟩, fun _ => rfl⟩ ?_
  rotate_left 1
  ·
   intro w; go_simp; with_reducible rfl
  refine wpAnyIn_ready (rs := [10]) (by kernel_rfl) (by simp) ?_
  refine AllReadyIn.cons rfl (fun K hK => ?_) ?_
  go_simp
  try (refine hK _ _ ?_; clear hK K)
  refine wpAnyIn_ready (rs := [11]) (by kernel_rfl) (by simp) ?_
  refine AllReadyIn.cons rfl (fun K hK => ?_) ?_
  go_simp
  try (refine hK _ _ ?_; clear hK K)
  refine wpAnyIn_done (by kernel_rfl) ?_ _
  rotate_left 1
  exact AllReadyIn.nil
  exact AllReadyIn.nil
  exact AllReadyIn.nil
  refine AllReadyIn.cons rfl (fun K hK => ?_) ?_
  go_simp
  gi_wp2_with (refine ⟨trivial, ?_⟩; gi_at_call 149; refine (callsIn_wide.2 (zam.calls 16 u v d q r _ HDV.out)).mono ?_; rintro e w' ⟨rfl, ⟨nd, rfl⟩⟩)
  try (refine hK _ _ ?_; clear hK K)
  refine wpAnyIn_take (i := 6) (v := ?_) rfl rfl (by kernel_rfl) (by kernel_rfl) (by kernel_rfl) (fun _ _ _ h => h) ⟨Or.inl ⟨by rfl, ?_⟩, fun _ => rfl⟩ ?_
  rotate_left 1
  ·
   intro w; go_simp; with_reducible rfl
  refine wpAnyIn_take (i := 7) (v := ?_) rfl rfl (by kernel_rfl) (by kernel_rfl) (by kernel_rfl) (fun _ _ _ h => h) ⟨Or.inl ⟨by rfl, ?_⟩, fun _ => rfl⟩ ?_
  rotate_left 1
  ·
   intro w; go_simp; with_reducible rfl
  refine wpAnyIn_take (i := 8) (v := ?_) rfl rfl (by kernel_rfl) (by kernel_rfl) (by kernel_rfl) (fun _ _ _ h => h) ⟨Or.inl ⟨by rfl, ?_⟩, fun _ => rfl⟩ ?_
  rotate_left 1
  ·
   intro w; go_simp; with_reducible rfl
  refine wpAnyIn_ready (rs := [0]) (by kernel_rfl) (by simp) ?_
  refine AllReadyIn.cons rfl (fun K hK => ?_) ?_
  go_simp
  try (refine hK _ _ ?_; clear hK K)
  refine wpAnyIn_take (i := 9) (v := ?_) rfl rfl (by kernel_rfl) (by kernel_rfl) (by kernel_rfl) (fun _ _ _ h => h) ⟨Or.inl ⟨by rfl, ?_⟩, fun _ => rfl⟩ ?_
  rotate_left 1
  ·
   intro w; go_simp; with_reducible rfl
  refine wpAnyIn_ready (rs := [10]) (by kernel_rfl) (by simp) ?_
  refine AllReadyIn.cons rfl (fun K hK => ?_) ?_
  go_simp
  try (refine hK _ _ ?_; clear hK K)
  refine wpAnyIn_ready (rs := [11]) (by kernel_rfl) (by simp) ?_
  refine AllReadyIn.cons rfl (fun K hK => ?_) ?_
  go_simp
  try (refine hK _ _ ?_; clear hK K)
  refine wpAnyIn_done (by kernel_rfl) ?_ _
  rotate_left 1
  exact AllReadyIn.nil
  exact AllReadyIn.nil
  exact AllReadyIn.nil
  exact AllReadyIn.nil
  exact AllReadyIn.nil
  refine AllReadyIn.cons rfl (fun K hK => ?_) ?_
  go_simp
  try (refine hK _ _ ?_; clear hK K)
  refine wpAnyIn_ready (rs := [0, 2]) (by kernel_rfl) (by simp) ?_
  refine AllReadyIn.cons rfl (fun K hK => ?_) ?_
  go_simp
  try (refine hK _ _ ?_; clear hK K)
  refine wpAnyIn_ready (rs := [2]) (by kernel_rfl) (by simp) ?_
  refine AllReadyIn.cons rfl (fun K hK => ?_) ?_
  go_simp
  try (refine hK _ _ ?_; clear hK K)
  refine wpAnyIn_ready (rs := [5]) (by kernel_rfl) (by simp) ?_
  refine AllReadyIn.cons rfl (fun K hK => ?_) ?_
  go_simp
  gi_wp2_with (refine ⟨trivial, ?_⟩; gi_at_call 149; refine (callsIn_wide.2 (zam.calls 16 u v d q r _ HDV.out)).mono ?_; rintro e w' ⟨rfl, ⟨nd, rfl⟩⟩)
  try (refine hK _ _ ?_; clear hK K)
  refine wpAnyIn_take (i := 6) (v := ?_) rfl rfl (by kernel_rfl) (by kernel_rfl) (by kernel_rfl) (fun _ _ _ h => h) ⟨Or.inl ⟨by rfl, ?_⟩, fun _ => rfl⟩ ?_
  rotate_left 1
  ·
   intro w; go_simp; with_reducible rfl
  refine wpAnyIn_take (i := 7) (v := ?_) rfl rfl (by kernel_rfl) (by kernel_rfl) (by kernel_rfl) (fun _ _ _ h => h) ⟨Or.inl ⟨by rfl, ?_⟩, fun _ => rfl⟩ ?_
  rotate_left 1
  ·
   intro w; go_simp; with_reducible rfl
  refine wpAnyIn_take (i := 8) (v := ?_) rfl rfl (by kernel_rfl) (by kernel_rfl) (by kernel_rfl) (fun _ _ _ h => h) ⟨Or.inl ⟨by rfl, ?_⟩, fun _ => rfl⟩ ?_
  rotate_left 1
  ·
   intro w; go_simp; with_reducible rfl
  refine wpAnyIn_take (i := 9) (v := ?_) rfl rfl (by kernel_rfl) (by kernel_rfl) (by kernel_rfl) (fun _ _ _ h => h) ⟨Or.inl ⟨by rfl, ?_⟩, fun _ => rfl⟩ ?_
  rotate_left 1
  ·
   intro w; go_simp; with_reducible rfl
  refine wpAnyIn_ready (rs := [10]) (by kernel_rfl) (by simp) ?_
  refine AllReadyIn.cons rfl (fun K hK => ?_) ?_
  go_simp
  try (refine hK _ _ ?_; clear hK K)
  refine wpAnyIn_ready (rs := [11]) (by kernel_rfl) (by simp) ?_
  refine AllReadyIn.cons rfl (fun K hK => ?_) ?_
  go_simp
  try (refine hK _ _ ?_; clear hK K)
  refine wpAnyIn_done (by kernel_rfl) ?_ _
  rotate_left 1
  exact AllReadyIn.nil
  exact AllReadyIn.nil
  exact AllReadyIn.nil
  exact AllReadyIn.nil
  refine AllReadyIn.cons rfl (fun K hK => ?_) ?_
  go_simp
  try (refine hK _ _ ?_; clear hK K)
  refine wpAnyIn_ready (rs := [0, 5]) (by kernel_rfl) (by simp) ?_
  refine AllReadyIn.cons rfl (fun K hK => ?_) ?_
  go_simp
  try (refine hK _ _ ?_; clear hK K)
  refine wpAnyIn_ready (rs := [5]) (by kernel_rfl) (by simp) ?_
  refine AllReadyIn.cons rfl (fun K hK => ?_) ?_
  go_simp
  gi_wp2_with (refine ⟨trivial, ?_⟩; gi_at_call 149; refine (callsIn_wide.2 (zam.calls 16 u v d q r _ HDV.out)).mono ?_; rintro e w' ⟨rfl, ⟨nd, rfl⟩⟩)
  try (refine hK _ _ ?_; clear hK K)
  refine wpAnyIn_take (i := 6) (v := ?_) rfl rfl (by kernel_rfl) (by kernel_rfl) (by kernel_rfl) (fun _ _ _ h => h) ⟨Or.inl ⟨by rfl, ?_⟩, fun _ => rfl⟩ ?_
  rotate_left 1
  ·
   intro w; go_simp; with_reducible rfl
  refine wpAnyIn_take (i := 7) (v := ?_) rfl rfl (by kernel_rfl) (by kernel_rfl) (by kernel_rfl) (fun _ _ _ h => h) ⟨Or.inl ⟨by rfl, ?_⟩, fun _ => rfl⟩ ?_
  rotate_left 1
  ·
   intro w; go_simp; with_reducible rfl
  refine wpAnyIn_take (i := 8) (v := ?_) rfl rfl (by kernel_rfl) (by kernel_rfl) (by kernel_rfl) (fun _ _ _ h => h) ⟨Or.inl ⟨by rfl, ?_⟩, fun _ => rfl⟩ ?_
  rotate_left 1
  ·
   intro w; go_simp; with_reducible rfl
  refine wpAnyIn_take (i := 9) (v := ?_) rfl rfl (by kernel_rfl) (by kernel_rfl) (by kernel_rfl) (fun _ _ _ h => h) ⟨Or.inl ⟨by rfl, ?_⟩, fun _ => rfl⟩ ?_
  rotate_left 1
  ·
   intro w; go_simp; with_reducible rfl
  refine wpAnyIn_ready (rs := [10]) (by kernel_rfl) (by simp) ?_
  refine AllReadyIn.cons rfl (fun K hK => ?_) ?_
  go_simp
  try (refine hK _ _ ?_; clear hK K)
  refine wpAnyIn_ready (rs := [11]) (by kernel_rfl) (by simp) ?_
  refine AllReadyIn.cons rfl (fun K hK => ?_) ?_
  go_simp
  try (refine hK _ _ ?_; clear hK K)
  refine wpAnyIn_done (by kernel_rfl) ?_ _
  rotate_left 1
  exact AllReadyIn.nil
  exact AllReadyIn.nil
  exact AllReadyIn.nil
  refine AllReadyIn.cons rfl (fun K hK => ?_) ?_
  go_simp
  gi_wp2_with (refine ⟨trivial, ?_⟩; gi_at_call 149; refine (callsIn_wide.2 (zam.calls 16 u v d q r _ HDV.out)).mono ?_; rintro e w' ⟨rfl, ⟨nd, rfl⟩⟩)
  try (refine hK _ _ ?_; clear hK K)
  refine wpAnyIn_take (i := 6) (v := ?_) rfl rfl (by kernel_rfl) (by kernel_rfl) (by kernel_rfl) (fun _ _ _ h => h) ⟨Or.inl ⟨by rfl, ?_⟩, fun _ => rfl⟩ ?_
  rotate_left 1
  ·
   intro w; go_simp; with_reducible rfl
  refine wpAnyIn_take (i := 7) (v := ?_) rfl rfl (by kernel_rfl) (by kernel_rfl) (by kernel_rfl) (fun _ _ _ h => h) ⟨Or.inl ⟨by rfl, ?_⟩, fun _ => rfl⟩ ?_
  rotate_left 1
  ·
   intro w; go_simp; with_reducible rfl
  refine wpAnyIn_take (i := 8) (v := ?_) rfl rfl (by kernel_rfl) (by kernel_rfl) (by kernel_rfl) (fun _ _ _ h => h) ⟨Or.inl ⟨by rfl, ?_⟩, fun _ => rfl⟩ ?_
  rotate_left 1
  ·
   intro w; go_simp; with_reducible rfl
  refine wpAnyIn_ready (rs := [0]) (by kernel_rfl) (by simp) ?_
  refine AllReadyIn.cons rfl (fun K hK => ?_) ?_
  go_simp
  try (refine hK _ _ ?_; clear hK K)
  refine wpAnyIn_take (i := 9) (v := ?_) rfl rfl (by kernel_rfl) (by kernel_rfl) (by kernel_rfl) (fun _ _ _ h => h) ⟨Or.inl ⟨by rfl, ?_⟩, fun _ => rfl⟩ ?_
  rotate_left 1
  ·
   intro w; go_simp; with_reducible rfl
  refine wpAnyIn_ready (rs := [10]) (by kernel_rfl) (by simp) ?_
  refine AllReadyIn.cons rfl (fun K hK => ?_) ?_
  go_simp
  try (refine hK _ _ ?_; clear hK K)
  refine wpAnyIn_ready (rs := [11]) (by kernel_rfl) (by simp) ?_
  refine AllReadyIn.cons rfl (fun K hK => ?_) ?_
  go_simp
  try (refine hK _ _ ?_; clear hK K)
  refine wpAnyIn_done (by kernel_rfl) ?_ _
  rotate_left 1
  exact AllReadyIn.nil
  exact AllReadyIn.nil
  exact AllReadyIn.nil
  exact AllReadyIn.nil
  exact AllReadyIn.nil
  exact AllReadyIn.nil
  all_goals gi_wp2
  all_goals
   have hkd : KeepsOthers W (W.drewN (1 + nd)) := ⟨Nat.le_of_eq (by simp), fun k o ho hc => by simpa using ho⟩
   have hR2 := Kd.R_far (p := ⟨w.heap.size + 1 + 1 + 1, 0, none⟩) (Kd.R_putn (enc := fun n => Value.int .u64 n) (Kd.zbz HR.out (1 + nd)) (j : Int) q) (fun k hk => by subst hk; simp) (.int .u64 r)
   rw [Int.toNat_natCast] at hR2
   refine ⟨((hkd.trans (KeepsOthers.setCell _ _ _)).trans (KeepsOthers.setCell _ _ _)).from _, ⟨((zbd (Below.refl _ _) _).setCell (by simp) _).setCell (by simp; omega) _, ?_⟩, ⟨?_, ?_, ?_, ?_, ?_⟩, ((zbd hB _).setCell (by simp) _).setCell (by simp; omega) _⟩
   ·
    rw [World.cell?_setCell_far _ _ _ _ (by simp), World.cell?_setCell_far _ _ _ _ (by simp <;> omega), World.cell?_drewN]
   ·
    rw [World.cell?_setCell_far _ _ _ _ (by simp <;> omega), World.cell?_setCell_far _ _ _ _ (by simp <;> omega), World.cell?_drewN]
    exact hcd
   ·
    rw [World.cell?_setCell_far _ _ _ _ (by simp), World.cell?_setCell_far _ _ _ _ (by simp), World.cell?_drewN]
    exact hco
   ·
    rw [HSN.out]
    exact World.cell?_setCell_same' _ _ _ (by rw [World.cell?_setCell_far _ _ _ _ (by simp), World.cell?_drewN, hcl]; rfl)
   ·
    rw [World.frozen?_setCell, World.frozen?_setCell, World.frozen?_drewN]
    exact hfl
   ·
    rw [HSN.out]
    dsimp only
    rw [List.length_set]
    exact hR2
 case done =>
  rintro D ys W hD rfl ⟨⟨hcd, hco, hcl, hfl, hR⟩, hB⟩ hK
  have hQl : (shortP d l0.reverse 0).1.length = l0.length := by rw [shortP_length, List.length_reverse]
  rw [stp_end] at hR hcl
  obtain ⟨Qs, hQs⟩ : ∃ Qs, (shortP d l0.reverse 0).1 = Qs := ⟨_, rfl⟩
  obtain ⟨lf, hlf⟩ : ∃ lf, (shortP d l0.reverse 0).2 = lf := ⟨_, rfl⟩
  have HT2 := HT.out
  rw [hQs] at hQl hR HT2
  rw [hlf] at hcl
  simp only [hlf]
  rw [hQl] at hR
  have htrim : ∀ W2 : World, Below W.heap.size W W2 → CallsIn Fence.wide (4 - 1) Tryz.prog 67 #[.slice (some ⟨w.heap.size + 1, 0, none⟩) l0.length l0.length] W2 fun e w' => ∃ v0_ : Value, e = .returned (v0_) ∧ Kd.V (Kd.int .u64) 82 w' W2.heap.size (fun k_ => (k_ = w.heap.size + 1 ∨ W2.heap.size ≤ k_)) v0_ T ∧ Below W2.heap.size W2 w' := fun W2 hb => by
   have h := zbj.calls k (fun k_ => k_ = w.heap.size + 1) (some ⟨w.heap.size + 1, 0, none⟩) l0.length Qs T W2 (by rw [hQl]; exact Kd.R_V (Kd.zbt hR hb)) HT2
   rw [hQl] at h
   exact callsIn_wide.2 h
  have HTR := Lib.hid htrim
  have hlt3 := World.block_lt_of_cell? W _ hcl
  clear htrim
  gi_wp2
  first | gi_region_with_o (refine ⟨trivial, ?_⟩; gi_at_call 67; refine (HTR.out _ (by repeat (first | exact Below.refl _ _ | apply zbd | apply below_drew))).mono ?_; rintro e w' ⟨v0, rfl, hv, hb⟩; have hcl2 : w'.cell? ⟨w.heap.size + 1 + 1 + 1, 0, none⟩ = some (.int .u64 lf) := (hb.cell (by simpa using hlt3)).trans hcl) | fail "no"
  all_goals gi_wp2
  all_goals
   have hDl : D < W.heap.size := by
    have := (Array.getElem?_eq_some_iff.1 hK).1
    exact this
   have hK' : w'.heap[D]? = some (.deferred (some [])) := (hb.block D hDl).trans hK
   refine ⟨by simp, .inl ⟨_, _, rfl, run_takeDeferred hK', ?_⟩⟩
   have hkeep : ∀ k, k ≠ D → (w'.putObj D (.deferred none)).heap[k]? = w'.heap[k]? := fun k hk => World.putObj_heap_other hk
   have hDn : w.heap.size + 1 + 1 + 1 < D := by simp at hD; omega
   refine ⟨_, by simp [results, Tryz.f115, go_sem, hlf], v0, rfl, ?_, ?_⟩
   ·
    refine Kd.zaq (Kd.V_step (Kd.V_bound hv) (fun k hk _ => hkeep k ?_)) (fun k hk => ?_)
    ·
     rcases hk.1 with h | h
     ·
      omega
     ·
      have h2 : W.heap.size ≤ k := by simpa using h
      omega
    ·
     rcases hk.1 with h | h
     ·
      omega
     ·
      have h2 : W.heap.size ≤ k := by simpa using h
      have := hB.size
      omega
   ·
    have h1 : Below w.heap.size w w' := hB.trans ((below_drew (Below.refl _ _)).trans (hb.mono (by have := hB.size; show w.heap.size ≤ W.heap.size; omega)))
    exact ⟨h1.os, h1.tape, h1.output, by rw [World.putObj_size]; exact h1.size, fun k hk => by rw [hkeep k (by omega)]; exact h1.block k hk⟩
 case stop =>
  rintro D c pre W hD _ hf
  exact hf.elim
end
theorem zcm.calls (k : Nat) (A0 : Option Addr) (c0 : Nat) (l0 : List Int) (a1 : Int) (r1 : List Int) (r2 : Int) (w : World) (hr0 : Kd.C (Kd.int .u64) w A0 l0.length l0) (hc0 : l0.length ≤ c0) (h : zcm.f k l0 a1 = some (r1, r2)) :
  Calls Tryz.prog 115 #[.slice A0 l0.length c0, .int .u64 a1] w fun e w' => ∃ v0_ : Value, e = .returned (.tuple #[v0_, .int .u64 r2]) ∧ Kd.V (Kd.int .u64) 82 w' w.heap.size (fun k_ => (w.heap.size ≤ k_)) v0_ r1 ∧ Below w.heap.size w w' := by
 unfold zcm.f at h
 split at h
 ·
  rename_i hc
  obtain ⟨h1, h2, h3, h4⟩ := hc
  obtain ⟨T, hT, he⟩ := Option.bind_eq_some_iff.1 h
  injection he with he
  injection he with he1 he2
  subst he1 he2
  exact zcm.inner k A0 c0 l0 a1 T w (by omega) h1 h2 h3 hT (fun j hj => by
   obtain ⟨ad, e, hc⟩ := Kd.at_int hr0 (j : Int) (by omega) (by omega)
   refine ⟨ad, e, ?_, by simpa [rd] using hc⟩
   have := World.block_lt_of_cell? w _ hc
   unfold Addr.add at this
   split at this <;> exact this)
 ·
  cases h
end Go.Proofs.YthiicmanfpmipaaGreatDoor.P
end
section
namespace Go.Proofs.YthiicmanfpmipaaGreatDoor.P
open Go.RowKit Go.Proofs.YthiicmanfpmipaaGreatDoorW.PrintWords Go.Proofs.YthiicmanfpmipaaGreatDoorW.PrintLast Go.Proofs.YthiicmanfpmipaaGreatDoorW.PrintMore
attribute [local go_sem] zci zcj zcs zcr zb9 zca zcg zch
def zbs.f (i base : Int) : Option ByteArray := if base = 10 then (if 0 ≤ i then (if i < 18446744073709551616 then some ⟨(Lib.decDigits i.toNat).toArray⟩ else none) else none) else none
theorem zbs.inner (u : Nat) (w : World) (hu64 : u < 18446744073709551616) (htab0 : Glob w) :
  Calls Tryz.prog 150 #[.int .u64 u, .int .i64 10] w fun e w' => e = .returned (.string ⟨(Lib.decDigits u).toArray⟩) ∧ Below w.heap.size w w' := by
 have htab := htab0.1
 by_cases hs : u < 100
 ·
  have hi : (u : Int) < 100 := by omega
  go_enter Tryz.func150, Tryz.ntmps150
  go_wp2_with (go_at_call 169; refine (Tryz.internal_strconv_small u hs _).mono ?_; rintro e w' ⟨rfl, rfl⟩)
  go_ret
  exact ⟨rfl, Below.refl _ _⟩
 ·
  have hi : ¬ ((u : Int) < 100) := by omega
  have hu1 : 1 ≤ u := by omega
  have hnd20 : Lib.nDigits u ≤ 20 := by have := Lib.numDigits_eq u hu1 hu64; split at this <;> omega
  have hb3 : Lib.nDigits u ≤ 24 := by omega
  have hal : (Tryz.prog).arrayLen 237 = 24 := by simp [Program.arrayLen, Tryz.underlying237]
  have hsl1 : ∀ W, (Instr.sliceAt 237 (.pointer (some ⟨w.heap.size, 0, none⟩)) none (some (.int .i64 (Lib.nDigits u : Int))) none).run Tryz.prog W = .ok (.slice (some ⟨w.heap.size, 0, none⟩) (Lib.nDigits u) 24) W := fun W => by
   rw [run_sliceAt_array_h W 237 ⟨w.heap.size, 0, none⟩ (by simp [Program.arrayLen, Program.elem, Tryz.underlying237]) .i64 (Lib.nDigits u : Int) (by omega) (by rw [hal]; omega)]
   go_simp
  have hH0 := Lib.holds_zero0 w 237 (Lib.nDigits u) (by omega)
  have hfmt := Tryz.internal_strconv_formatBase10 w.heap.size 0 24 u (Array.replicate (Lib.nDigits u) 0) (w.alloc (.cells Lib.zeros24 237)) hH0 (by rw [Array.size_replicate]; exact Lib.lt_pow_nDigits u) hu64 (by rw [Array.size_replicate]; omega)
  rw [Array.size_replicate] at hfmt
  have HH0 := Lib.hid hH0
  clear hH0 hal
  go_enter Tryz.func150, Tryz.ntmps150
  go_wp2_with (first
   | (go_at_call 170; refine (Tryz.internal_strconv_numDigits u hu1 hu64 _ (Lib.tabIs_alloc htab _)).mono ?_; rintro e w' ⟨rfl, rfl⟩))
  go_at_call 171
  refine hfmt.mono ?_
  rintro e w' ⟨rfl, k, v', dk, rfl, hF⟩
  have hcv : (convert 220 9 (.slice (some ⟨w.heap.size, 0, none⟩) (Lib.nDigits u) 24)).run Tryz.prog ((Sort.putRow (fun (b : UInt8) => Value.int .u8 (b.toNat : Int)) (w.alloc (.cells Lib.zeros24 237)) w.heap.size 0 dk).drewN k) = .ok (.string ⟨(Lib.decDigits u).toArray⟩) ((Sort.putRow (fun (b : UInt8) => Value.int .u8 (b.toNat : Int)) (w.alloc (.cells Lib.zeros24 237)) w.heap.size 0 dk).drewN k) := by
   have h := run_convert_bytes_back (P := Tryz.prog) ((Sort.putRow (fun (b : UInt8) => Value.int .u8 (b.toNat : Int)) (w.alloc (.cells Lib.zeros24 237)) w.heap.size 0 dk).drewN k) 220 9 5 ⟨w.heap.size, 0, none⟩ 24 (Lib.decDigits u) Tryz.underlying220 Tryz.underlying5 Tryz.underlying9 (fun j hj => by
    rw [Lib.row_is_numeral hF j hj, Lib.add_plain, World.cell?_drewN]
    exact Sort.cell?_putRow (fun (b : UInt8) => Value.int .u8 (b.toNat : Int)) _ w.heap.size 0 _ dk HH0.out (by rw [hF.size, Array.size_replicate]) j (by rw [hF.size]; rw [Lib.decDigits_length] at hj; exact hj))
   rw [Lib.decDigits_length] at h
   exact h
  go_wp2
  go_ret
  obtain ⟨os, eo⟩ := Lib.fin_at w (.cells Lib.zeros24 237) dk k 0
  refine ⟨rfl, ?_⟩
  rw [eo]
  exact Lib.below_grow _ w (Nat.le_refl _) k os
theorem zbs.calls (a0 a1 : Int) (r : ByteArray) (w : World) (hG : Glob w) (h : zbs.f a0 a1 = some r) :
  Calls Tryz.prog 116 #[.int .u64 a0, .int .i64 a1] w fun e w' => e = .returned (.string r) ∧ Below w.heap.size w w' := by
 unfold zbs.f at h
 split at h
 ·
  rename_i h0
  subst h0
  split at h
  ·
   rename_i h1
   obtain ⟨u, rfl⟩ := Int.eq_ofNat_of_zero_le h1
   split at h
   ·
    rename_i h2
    injection h with h
    subst h
    go_enter Tryz.func116, Tryz.ntmps116
    go_wp2_with (go_at_call 150; refine (zbs.inner u _ (by omega) hG).mono ?_; rintro e w' ⟨rfl, hb⟩)
    go_ret
    exact ⟨rfl, hb⟩
   ·
    cases h
  ·
   cases h
 ·
  cases h
def strings_Repeat.f (s : ByteArray) (n : Int) : Option ByteArray := if 0 ≤ n then (if n ≤ 9223372036854775807 then (if s.size * n.toNat ≤ 140737488355328 then some ⟨(Lib.repeatL s.data.toList n.toNat).toArray⟩ else none) else none) else none
theorem strings_Repeat.calls (a0 : ByteArray) (a1 : Int) (r : ByteArray) (w : World) (h : strings_Repeat.f a0 a1 = some r) :
  Calls Tryz.prog 117 #[.string a0, .int .i64 a1] w fun e w' => e = .returned (.string r) ∧ Below w.heap.size w w' := by
 unfold strings_Repeat.f at h
 split at h
 ·
  rename_i h0
  obtain ⟨c, rfl⟩ := Int.eq_ofNat_of_zero_le h0
  split at h
  ·
   rename_i h1
   split at h
   ·
    rename_i h2
    injection h with h
    subst h
    exact Tryz.strings_Repeat a0 c w (by omega) h2
   ·
    cases h
  ·
   cases h
 ·
  cases h
def strings_Join.f (l : List ByteArray) (sep : ByteArray) : Option ByteArray := if l.length ≤ 140737488355328 then (if (Lib.join (l.map (·.data.toList)) sep.data.toList).length ≤ 140737488355328 then some ⟨(Lib.join (l.map (·.data.toList)) sep.data.toList).toArray⟩ else none) else none
theorem strings_Join.calls (A0 : Option Addr) (c0 : Nat) (l0 : List ByteArray) (a1 : ByteArray) (r : ByteArray) (w : World) (hr0 : Kd.C Kd.string w A0 l0.length l0) (hc0 : l0.length ≤ c0) (h : strings_Join.f l0 a1 = some r) :
  Calls Tryz.prog 119 #[.slice A0 l0.length c0, .string a1] w fun e w' => e = .returned (.string r) ∧ Below w.heap.size w w' := by
 unfold strings_Join.f at h
 split at h
 ·
  rename_i h1
  split at h
  ·
   rename_i h2
   injection h with h
   subst h
   cases l0 with
   | nil => exact (Tryz.strings_Join_none A0 c0 a1 w).mono fun e w' ⟨he, hw⟩ => ⟨he, by rw [hw]; exact Below.refl _ _⟩
   | cons x xs =>
    obtain ⟨ad, rfl, hc1⟩ := Kd.at_string hr0 0 (by omega) (by simp)
    obtain ⟨b, o, rfl, hb⟩ := addr_plain hc1
    refine Tryz.strings_Join b o c0 (x :: xs) a1 w (fun j y hy => ?_) hb h1 hc0 h2
    obtain ⟨hj, hy⟩ := List.getElem?_eq_some_iff.1 hy
    obtain ⟨ad, e, hc2⟩ := Kd.at_string hr0 (j : Int) (by omega) (by omega)
    cases e
    rw [Int.toNat_natCast, add_none] at hc2
    rw [hc2]
    simp only [rdOf, Int.toNat_natCast]
    rw [List.getD_eq_getElem?_getD, List.getElem?_eq_getElem hj, hy]
    rfl
  ·
   cases h
 ·
  cases h
end Go.Proofs.YthiicmanfpmipaaGreatDoor.P
end
