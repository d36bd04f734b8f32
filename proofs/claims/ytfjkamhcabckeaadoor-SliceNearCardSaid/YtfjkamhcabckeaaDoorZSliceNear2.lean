-- Written by a program of this session (wip/tools/shake.py) out of its own texts and of the kit's printed ones; not trusted: Lean checks it.
import Derived.Test.YtfjkamhcabckeaaDoorZSliceNear1
set_option maxHeartbeats 8000000
set_option maxRecDepth 100000
set_option linter.unusedVariables false
set_option linter.unusedSimpArgs false
section
namespace Go.Proofs.YtfjkamhcabckeaaDoor.P
open Go.RowKit Go.Proofs.YtfjkamhcabckeaaDoorW.PrintWords Go.Proofs.YtfjkamhcabckeaaDoorW.PrintLast Go.Proofs.YtfjkamhcabckeaaDoorW.PrintMore
attribute [local go_sem] zc8 zc9 max_two min_two zcv zcx zdc zdb
def zaq.l0 : Nat → List Int → List Int → List Int → Int → Option (List Int × List Int × Int)
 | 0, _, _, _, _ => none
 | k + 1, x1, x7, x8, x9 => if x9 ≥ 0 then ((zal.f k x1 x9).bind fun t149 => ((zco.f x7 t149).bind fun t152 => (if t152 ≥ 0 then ((zbe.f k x7 t149).bind fun t153 => (if 0 ≤ (wrap64 (Int.tdiv x9 64)) then (if (wrap64 (Int.tdiv x9 64)) < (x8.length : Int) then (if 0 ≤ (Int.tmod x9 64) then (zaq.l0 k x1 t153 (x8.set ((wrap64 (Int.tdiv x9 64)) : Int).toNat (Go.bits .or .u64 (rd x8 (wrap64 (Int.tdiv x9 64))) (shl .u64 1 (Int.tmod x9 64)))) (wrap64 (x9 - 1))) else (none)) else (none)) else (none))) else (zaq.l0 k x1 x7 x8 (wrap64 (x9 - 1)))))) else ((zau.f k x8).bind fun t146 => (some (t146, x7, 0)))
def zaq.f (k : Nat) (l0 : List Int) (l1 : List Int) : Option (List Int × List Int × Int) := if (l1.length : Int) = 0 then (some (([] : List Int), ([] : List Int), 16)) else ((za7.f l0).bind fun t138 => (if 0 ≤ (l0.length : Int) then (if ((l0.length : Int) : Int).toNat ≤ 35184372088832 then ((zce.f l0).bind fun t144 => ((zce.f l1).bind fun t145 => (zaq.l0 k l1 t138 (List.replicate ((l0.length : Int) : Int).toNat 0) (wrap64 (t144 - t145))))) else (none)) else (none)))
theorem zaq.zcj : ∀ k, (∀ y0 y1 y2 y3, LeO (zaq.l0 k y0 y1 y2 y3) (zaq.l0 (k + 1) y0 y1 y2 y3))
 | 0 => fun _ _ _ _ r h => by simp [zaq.l0] at h
 | k + 1 => by
  have ih0 := zaq.zcj k
  ·
   intro y0 y1 y2 y3
   unfold zaq.l0
   repeat' first
   | (with_reducible exact ih0 _ _ _ _)
   | (with_reducible exact zal.mono _ _ _)
   | (with_reducible exact zbe.mono _ _ _)
   | (with_reducible exact zau.mono _ _)
   | (with_reducible exact LeO.refl _)
   | (with_reducible exact LeO.none _)
   | (with_reducible refine LeO.ite ?_ ?_)
   | (with_reducible refine LeO.bind ?_ (fun _ => ?_))
   | exact ih0 _ _ _ _
   | exact zal.mono _ _ _
   | exact zbe.mono _ _ _
   | exact zau.mono _ _
   | exact LeO.none _
   | refine LeO.ite ?_ ?_
   | refine LeO.bind ?_ (fun _ => ?_)
theorem zaq.mono : ∀ a0 a1 k, LeO (zaq.f k a0 a1) (zaq.f (k + 1) a0 a1) := by
 intro a0 a1 k
 have ih0 := zaq.zcj k
 unfold zaq.f
 repeat' first
   | (with_reducible exact ih0 _ _ _ _)
   | (with_reducible exact zal.mono _ _ _)
   | (with_reducible exact zbe.mono _ _ _)
   | (with_reducible exact zau.mono _ _)
   | (with_reducible exact LeO.refl _)
   | (with_reducible exact LeO.none _)
   | (with_reducible refine LeO.ite ?_ ?_)
   | (with_reducible refine LeO.bind ?_ (fun _ => ?_))
   | exact ih0 _ _ _ _
   | exact zal.mono _ _ _
   | exact zbe.mono _ _ _
   | exact zau.mono _ _
   | exact LeO.none _
   | refine LeO.ite ?_ ?_
   | refine LeO.bind ?_ (fun _ => ?_)
def zaq.T11 : Bool × List (List Nat × List Nat) := (true, [([], []), ([], []), ([1], [1]), ([0, 2], [0, 2]), ([3], [3]), ([], []), ([5], [5]), ([6], [6]), ([4, 7], [4, 7]), ([0, 2, 0, 1, 2, 3, 4, 5, 6, 7, 8], [0, 2]), ([9, 8, 0, 1, 2, 3, 4, 5, 6, 7, 8], [8, 9])])
def zaq.B11 : List Nat := [0, 0, 2, 7, 15, 0, 32, 96, 255, 511, 1023]
theorem zaq.tab11 : rtab .any (opsOf Tryd.f60 11) = zaq.T11 := by kernel_rfl
theorem zaq.bits11 : waitsOk zaq.T11.2 zaq.B11 = true := by kernel_rfl
theorem zaq.calls (k : Nat) (A0 : Option Addr) (c0 : Nat) (l0 : List Int) (A1 : Option Addr) (c1 : Nat) (l1 : List Int) (r1 : List Int) (r2 : List Int) (r3 : Int) (w : World) (hr0 : Kd.C (Kd.int .u64) w A0 l0.length l0) (hc0 : l0.length ≤ c0) (hr1 : Kd.C (Kd.int .u64) w A1 l1.length l1) (hc1 : l1.length ≤ c1) (h : zaq.f k l0 l1 = some (r1, r2, r3)) :
  Calls Tryd.prog 60 #[.slice A0 l0.length c0, .slice A1 l1.length c1] w fun e w' => ∃ v0_ v1_ : Value, e = .returned (.tuple #[v0_, v1_, .int .i64 r3]) ∧ Kd.V (Kd.int .u64) 57 w' w.heap.size (fun k_ => (w.heap.size ≤ k_)) v0_ r1 ∧ Kd.V (Kd.int .u64) 57 w' w.heap.size (fun k_ => (w.heap.size ≤ k_)) v1_ r2 ∧ Below w.heap.size w w' := by
 have HR0 := zA hr0
 have HC0 := zA hc0
 clear hr0 hc0
 have HR1 := zA hr1
 have HC1 := zA hc1
 clear hr1 hc1
 have HB := zA (Below.refl w.heap.size w)
 have H : (if (l1.length : Int) = 0 then (some (([] : List Int), ([] : List Int), 16)) else ((za7.f l0).bind fun t138 => (if 0 ≤ (l0.length : Int) then (if ((l0.length : Int) : Int).toNat ≤ 35184372088832 then ((zce.f l0).bind fun t144 => ((zce.f l1).bind fun t145 => (zaq.l0 k l1 t138 (List.replicate ((l0.length : Int) : Int).toNat 0) (wrap64 (t144 - t145))))) else (none)) else (none)))) = some (r1, r2, r3) := h
 clear h
 by_cases c3 : (l1.length : Int) = 0
 ·
  rw [if_pos c3] at H
  have c3b0 : ((l1.length : Int) == 0) = true := beq_iff_eq.mpr c3
  have c3b1 : ((l1.length : Int) != 0) = false := bne_eq_false_iff_eq.mpr c3
  clear c3
  simp only [Option.some.injEq, Prod.mk.injEq] at H
  obtain ⟨rfl, rfl, rfl⟩ := H
  go_enter Tryd.func60, Tryd.ntmps60
  go_wp2
  go_ret3
  exact ⟨_, _, zW, Kd.V_nil _ _ _ _ _, Kd.V_nil _ _ _ _ _, zB HB⟩
 ·
  rw [if_neg c3] at H
  have c3b0 : ((l1.length : Int) == 0) = false := beq_eq_false_iff_ne.mpr c3
  have c3b1 : ((l1.length : Int) != 0) = true := bne_iff_ne.mpr c3
  have c3b2 : ¬ (l1 = []) := fun h_ => c3 (by rw [h_]; rfl)
  replace H := zO H
  obtain ⟨t138, A40, H⟩ := H
  try dsimp only at H
  have A4 := zA A40
  clear A40
  by_cases c5 : 0 ≤ (l0.length : Int)
  ·
   rw [if_pos c5] at H
   have c5b0 := eq_true c5
   have c5b1 : decide (0 ≤ (l0.length : Int)) = true := decide_eq_true c5
   clear c5
   by_cases c6 : ((l0.length : Int) : Int).toNat ≤ 35184372088832
   ·
    rw [if_pos c6] at H
    have c6b0 := eq_true c6
    have c6b1 : decide (((l0.length : Int) : Int).toNat ≤ 35184372088832) = true := decide_eq_true c6
    clear c6
    obtain ⟨y141, hy141⟩ : ∃ y_ : List Int, y_ = (List.replicate ((l0.length : Int) : Int).toNat 0) := ⟨_, rfl⟩
    replace H : ((zce.f l0).bind fun t144 => ((zce.f l1).bind fun t145 => (zaq.l0 k l1 t138 y141 (wrap64 (t144 - t145))))) = some (r1, r2, r3) := by first | (rw [hy141]; with_reducible exact H) | (have H2_ := (Option.bind_some _ _).symm.trans H; rw [hy141]; with_reducible exact H2_) | (have H2_ := (Option.bind_some _ _).symm.trans H; with_reducible exact H2_) | with_reducible exact H | (rw [hy141]; exact H) | exact H
    have Ny141 := zA hy141
    clear hy141
    replace H := zO H
    obtain ⟨t144, A70, H⟩ := H
    try dsimp only at H
    have A7 := zA A70
    clear A70
    replace H := zO H
    obtain ⟨t145, A80, H⟩ := H
    try dsimp only at H
    have A8 := zA A80
    clear A80
    have H' := zA H
    clear H
    go_enter Tryd.func60, Tryd.ntmps60
    go_wp2_with (first | ((with_reducible refine zac (f := 81) rfl ?_); refine za0 (some 15) rfl rfl Tryd.func81 (by kernel_rfl) rfl #[.slice A0 l0.length c0] rfl (zE) ?_; (with_reducible refine (za7.calls _ _ l0 t138 _ ?side1 ?side2 A4.out).mono ?_); (case side1 => repeat (first | exact HR0.out | (with_reducible refine Kd.zc2 ?_ _) | (with_reducible refine Kd.C_drewN ?_ _) | (with_reducible refine Kd.C_drew ?_))); (case side2 => exact HC0.out); rintro e w9 ⟨v139, rfl, ho0, hb⟩; refine ⟨_, rfl, ?_⟩; have n0_ := zA (Kd.zb3 (Kd.R_newM (M := fun k_ => (w.heap.size ≤ k_)) ho0 (za (zB HB)) (fun k_ h_ => h_)) (za (zB HB))); have n1_ := zA (zaa (zB HB) hb); clear HB; have HO140 := n0_; have HB := n1_; clear n0_ n1_; (try clear hb); (try clear hb2); (try clear hk); (try clear hi); (try clear ho0)) | ((with_reducible refine zbf (N := 18) rfl ?_); refine Kd.R_make (Kd.int .u64) _ 57 rfl (N := 18) rfl 26 _ _ rfl (l0.length : Int) rfl rfl Tryd.underlying26 (.int .u64 0) 8 info57 rfl (by decide) (by omega) 0 (ok := fun _ => True) (okp := fun _ => True) rfl (fun _ hk => hk) trivial (of_decide_eq_true (by first | (with_reducible assumption) | assumption)) (Nat.le_trans (Nat.mul_le_mul_right _ (of_decide_eq_true (by first | (with_reducible assumption) | assumption) : (l0.length : Int).toNat ≤ 35184372088832)) (by omega)) (Below.refl _ _) (Nat.le_refl _) ?_; intro v142 w10 ho11 hb hg_ hnew_; clear hg_ hnew_; (first | rw [← Ny141.out] at ho11 | (simp only [Int.reduceToNat] at ho11; rw [← Ny141.out] at ho11)); have n0_ := zA (Kd.zb8 (zR HO140) (Kd.zbk ho11) hb); have n1_ := zA (Kd.zb3 (Kd.zcl (Kd.R_newM (M := fun k_ => (w.heap.size ≤ k_)) ho11 (za (zB HB)) (fun k_ h_ => h_)) (Kd.R_lt (zR HO140))) (za (zB HB))); have n2_ := zA (zaa (zB HB) hb); clear HO140 HB; have HO140 := n0_; have HO143 := n1_; have HB := n2_; clear n0_ n1_ n2_ hb ho11) | ((with_reducible refine zac (f := 84) rfl ?_); refine za0 (some 20) rfl rfl Tryd.func84 (by kernel_rfl) rfl #[.slice A0 l0.length c0] rfl (zE) ?_; (with_reducible refine (zce.calls _ _ l0 t144 _ ?side1 ?side2 A7.out).mono ?_); (case side1 => exact zJ (Kd.za1 HR0.out HB.out)); (case side2 => exact HC0.out); rintro e w' ⟨rfl, ⟨nd, rfl⟩⟩; refine ⟨_, rfl, ?_⟩) | ((with_reducible refine zac (f := 84) rfl ?_); refine za0 (some 22) rfl rfl Tryd.func84 (by kernel_rfl) rfl #[.slice A1 l1.length c1] rfl (zE) ?_; (with_reducible refine (zce.calls _ _ l1 t145 _ ?side1 ?side2 A8.out).mono ?_); (case side1 => exact zJ (Kd.za1 HR1.out (zB HB))); (case side2 => exact HC1.out); rintro e w' ⟨rfl, ⟨nd, rfl⟩⟩; refine ⟨_, rfl, ?_⟩))
    go_loopg [7, 9] k (fun kq v7 v9 w' => ∃ (x7_1 : List Int) (x8_1 : List Int) (x9_1 : Int), v9 = .int .i64 x9_1 ∧ Aside0 (zaq.l0 kq l1 x7_1 x8_1 x9_1 = some (r1, r2, r3)) ∧ Aside0 (kq ≤ k) ∧ Aside0 (Kd.V (Kd.int .u64) 57 w' w.heap.size (fun k_ => (w.heap.size ≤ k_) ∧ some k_ ≠ (v142 : Value).ownBlock) v7 x7_1) ∧ Aside0 (Kd.R (Kd.int .u64) 57 w' w.heap.size (fun k_ => (w.heap.size ≤ k_)) v142 x8_1) ∧ Aside0 (Below w.heap.size w w'))
    case atStart => exact ⟨(t138), (y141), (wrap64 (t144 - t145)), (zF), H', ⟨Nat.le_refl _⟩, ⟨Kd.R_V (by (with_reducible repeat (first | apply Kd.zca | apply Kd.zcb | apply Kd.zcn)); exact Kd.zbn HO140.out (fun _ hk => ⟨hk.1.1, hk.2⟩))⟩, ⟨by (with_reducible repeat (first | apply Kd.zca | apply Kd.zcb | apply Kd.zcn)); exact Kd.zbn HO143.out (fun _ hk => hk.1.1)⟩, ⟨zB HB⟩⟩
    case round =>
     clear H'
     try clear c1
     try clear p2
     try clear c3
     try clear c3b0
     try clear c3b1
     try clear c3b2
     try clear c5
     try clear c5b0
     try clear c5b1
     try clear c6
     try clear c6b0
     try clear c6b1
     try clear p6
     try clear c8
     obtain ⟨x7_1, x8_1, x9_1, rfl, HA, HK1, HO_7, HO_8, HB⟩ := hrel
     cases gk with
     | zero => exact absurd HA.out (by simp [zaq.l0])
     | succ k1 =>
      have H := HA.out
      clear HA
      simp only [zaq.l0] at H
      by_cases c12 : x9_1 ≥ 0
      ·
       rw [if_pos c12] at H
       have c12b0 : decide (0 ≤ x9_1) = true := decide_eq_true c12
       clear c12
       replace H := zO H
       obtain ⟨t149, A130, H⟩ := H
       try dsimp only at H
       have A13 := zA A130
       clear A130
       replace H := zO H
       obtain ⟨t152, A140, H⟩ := H
       try dsimp only at H
       have A14 := zA A140
       clear A140
       by_cases c15 : t152 ≥ 0
       ·
        rw [if_pos c15] at H
        have c15b0 : decide (0 ≤ t152) = true := decide_eq_true c15
        clear c15
        replace H := zO H
        obtain ⟨t153, A160, H⟩ := H
        try dsimp only at H
        have A16 := zA A160
        clear A160
        obtain ⟨ji17, hji17⟩ : ∃ j_ : Int, (wrap64 (Int.tdiv x9_1 64)) = j_ := ⟨_, rfl⟩
        replace H : (if 0 ≤ (ji17) then (if (ji17) < (x8_1.length : Int) then (if 0 ≤ (Int.tmod x9_1 64) then (zaq.l0 k1 l1 t153 (x8_1.set ((ji17) : Int).toNat (Go.bits .or .u64 (rd x8_1 (ji17)) (shl .u64 1 (Int.tmod x9_1 64)))) (wrap64 (x9_1 - 1))) else (none)) else (none)) else (none)) = some (r1, r2, r3) := by first | (rw [hji17] at H; exact H) | (simp only [hji17] at H ⊢; exact H)
        (try rw [hji17] at A13)
        (try rw [hji17] at A14)
        (try rw [hji17] at A16)
        have hji17w : (IntKind.i64.wrap (Int.tdiv x9_1 64)) = ji17 := (i64_w _).trans hji17
        by_cases c18 : 0 ≤ (ji17)
        ·
         rw [if_pos c18] at H
         have c18b0 : decide (0 ≤ (ji17)) = true := decide_eq_true c18
         clear c18
         by_cases c19 : (ji17) < (x8_1.length : Int)
         ·
          rw [if_pos c19] at H
          have c19b0 : decide ((ji17) < (x8_1.length : Int)) = true := decide_eq_true c19
          clear c19
          obtain ⟨ji20, hji20⟩ : ∃ j_ : Int, (Int.tmod x9_1 64) = j_ := ⟨_, rfl⟩
          replace H : (if 0 ≤ (ji20) then (zaq.l0 k1 l1 t153 (x8_1.set ((ji17) : Int).toNat (Go.bits .or .u64 (rd x8_1 (ji17)) (shl .u64 1 (ji20)))) (wrap64 (x9_1 - 1))) else (none)) = some (r1, r2, r3) := by first | (rw [hji20] at H; exact H) | (simp only [hji20] at H ⊢; exact H)
          (try rw [hji20] at A13)
          (try rw [hji20] at A14)
          (try rw [hji20] at A16)
          by_cases c21 : 0 ≤ (ji20)
          ·
           rw [if_pos c21] at H
           have c21b0 := eq_true c21
           have c21b1 : decide (0 ≤ (ji20)) = true := decide_eq_true c21
           clear c21
           obtain ⟨ji22, hji22⟩ : ∃ j_ : Int, (shl .u64 1 (ji20)) = j_ := ⟨_, rfl⟩
           replace H : (zaq.l0 k1 l1 t153 (x8_1.set ((ji17) : Int).toNat (Go.bits .or .u64 (rd x8_1 (ji17)) (ji22))) (wrap64 (x9_1 - 1))) = some (r1, r2, r3) := by first | (rw [hji22] at H; exact H) | (simp only [hji22] at H ⊢; exact H)
           (try rw [hji22] at A13)
           (try rw [hji22] at A14)
           (try rw [hji22] at A16)
           have hji22_ : (IntKind.u64.wrap (1 * 2 ^ min (ji20).toNat 64)) = ji22 := hji22
           have hji22z : (ji20) ≤ 64 → (IntKind.u64.wrap (1 * 2 ^ (ji20).toNat)) = ji22 := shl_small hji22
           have hji22u : (IntKind.u64.wrap (2 ^ min (ji20).toNat 64)) = ji22 := by have h_ := hji22_; rw [Int.one_mul] at h_; exact h_
           have hji22v : (ji20) ≤ 64 → (IntKind.u64.wrap (2 ^ (ji20).toNat)) = ji22 := fun hle_ => by have h_ := hji22z hle_; rw [Int.one_mul] at h_; exact h_
           obtain ⟨y157, hy157⟩ : ∃ y_ : List Int, y_ = (x8_1.set ((ji17) : Int).toNat (Go.bits .or .u64 (rd x8_1 (ji17)) (ji22))) := ⟨_, rfl⟩
           replace H : (zaq.l0 k1 l1 t153 y157 (wrap64 (x9_1 - 1))) = some (r1, r2, r3) := by first | (rw [hy157]; with_reducible exact H) | (have H2_ := (Option.bind_some _ _).symm.trans H; rw [hy157]; with_reducible exact H2_) | (have H2_ := (Option.bind_some _ _).symm.trans H; with_reducible exact H2_) | with_reducible exact H | (rw [hy157]; exact H) | exact H
           have Ny157 := zA hy157
           clear hy157
           have H' := zA H
           clear H
           try go_wp2_with (first | ((with_reducible refine zac (f := 85) rfl ?_); refine za0 (some 30) rfl rfl Tryd.func85 (by kernel_rfl) rfl #[.slice A1 l1.length c1, .int .i64 x9_1] rfl (zE) ?_; (with_reducible refine (zal.calls k1 _ _ l1 x9_1 t149 _ ?side1 ?side2 A13.out).mono ?_); (case side1 => exact zJ (Kd.za1 HR1.out HB.out)); (case side2 => exact HC1.out); rintro e w24 ⟨v150, rfl, ho0, hb⟩; refine ⟨_, rfl, ?_⟩; have n0_ := zA (Kd.zaw (zV HO_7) hb); have n1_ := zA (Kd.zb5 (zR HO_8) hb); have n2_ := zA (Kd.zb (Kd.zas (ok' := fun k_ => (w.heap.size ≤ k_) ∧ some k_ ≠ (v142 : Value).ownBlock) ho0 (fun k_ hk_ => ⟨(Nat.le_trans (za (zB HB)) hk_), (Kd.fresh' (Kd.R_lt (zR HO_8)) k_ hk_)⟩)) (za (zB HB))); have n3_ := zA (zaa (zB HB) hb); clear HO_7 HO_8 HB; have HO_7 := n0_; have HO_8 := n1_; have HO151 := n2_; have HB := n3_; clear n0_ n1_ n2_ n3_; (try clear hb); (try clear hb2); (try clear hk); (try clear hi); (try clear ho0); obtain ⟨Ao25, co25, eo25⟩ := Kd.za6 HO_7.out; subst eo25; obtain ⟨Ao26, co26, eo26⟩ := Kd.za6 HO151.out; subst eo26) | ((with_reducible refine zac (f := 52) rfl ?_); refine za0 (some 33) rfl rfl Tryd.func52 (by kernel_rfl) rfl #[.slice Ao25 x7_1.length co25, .slice Ao26 t149.length co26] rfl (zE) ?_; (with_reducible refine (zco.calls _ _ x7_1 _ _ t149 t152 _ ?side1 ?side2 ?side3 ?side4 A14.out).mono ?_); (case side1 => exact zJ (Kd.zam HO_7.out).2.2); (case side2 => exact (Kd.zam HO_7.out).2.1); (case side3 => exact zJ (Kd.zam HO151.out).2.2); (case side4 => exact (Kd.zam HO151.out).2.1); rintro e w27 ⟨rfl, hb⟩; refine ⟨_, rfl, ?_⟩; have n0_ := zA (Kd.zaw (zV HO_7) hb); have n1_ := zA (Kd.zb5 (zR HO_8) hb); have n2_ := zA (Kd.zaw (zV HO151) hb); have n3_ := zA (zaa (zB HB) hb); clear HO_7 HO_8 HO151 HB; have HO_7 := n0_; have HO_8 := n1_; have HO151 := n2_; have HB := n3_; clear n0_ n1_ n2_ n3_; (try clear hb); (try clear hb2); (try clear hk); (try clear hi)) | ((with_reducible refine zac (f := 86) rfl ?_); refine za0 (some 37) rfl rfl Tryd.func86 (by kernel_rfl) rfl #[.slice Ao25 x7_1.length co25, .slice Ao26 t149.length co26] rfl (zE) ?_; (with_reducible refine (zbe.calls k1 _ _ x7_1 _ _ t149 t153 _ ?side1 ?side2 ?side3 ?side4 A16.out).mono ?_); (case side1 => exact zJ (Kd.zam HO_7.out).2.2); (case side2 => exact (Kd.zam HO_7.out).2.1); (case side3 => exact zJ (Kd.zam HO151.out).2.2); (case side4 => exact (Kd.zam HO151.out).2.1); rintro e w28 ⟨v154, rfl, ho0, hb⟩; refine ⟨_, rfl, ?_⟩; have n0_ := zA (Kd.zaw (zV HO_7) hb); have n1_ := zA (Kd.zb5 (zR HO_8) hb); have n2_ := zA (Kd.zaw (zV HO151) hb); have n3_ := zA (Kd.zb (Kd.zas (ok' := fun k_ => (w.heap.size ≤ k_) ∧ some k_ ≠ (v142 : Value).ownBlock) ho0 (fun k_ hk_ => ⟨(Nat.le_trans (za (zB HB)) hk_), (Kd.fresh' (Kd.R_lt (zR HO_8)) k_ hk_)⟩)) (za (zB HB))); have n4_ := zA (zaa (zB HB) hb); clear HO_7 HO_8 HO151 HB; have HO_7 := n0_; have HO_8 := n1_; have HO151 := n2_; have HO155 := n3_; have HB := n4_; clear n0_ n1_ n2_ n3_ n4_; (try clear hb); (try clear hb2); (try clear hk); (try clear hi); (try clear ho0)))
           have n0_ := zA (Kd.zbz HO_7.out)
           have n1_ := zA (Kd.zcn HO_8.out)
           have n2_ := zA (Kd.zbz HO151.out)
           have n3_ := zA (Kd.zbz HO155.out)
           have n4_ := zA (zbj HB.out)
           clear HO_7 HO_8 HO151 HO155 HB
           have HO_7 := n0_
           have HO_8 := n1_
           have HO151 := n2_
           have HO155 := n3_
           have HB := n4_
           clear n0_ n1_ n2_ n3_ n4_
           obtain ⟨Ao30, co30, eo30⟩ := Kd.zbt HO_8.out
           (first | subst eo30 | (injection eo30 with f1_ f2_ f3_; have f4_ := f1_.symm; have f5_ := f3_.symm; clear f1_ f2_ f3_; subst f4_; subst f5_))
           have p156 : 0 ≤ ((ji17) : Int) := of_decide_eq_true (by first | (with_reducible assumption) | assumption)
           have q156 : (ji17) < (x8_1.length : Int) := of_decide_eq_true (by first | (with_reducible assumption) | assumption)
           obtain ⟨ad156, e156, hx156_0⟩ := Kd.at_int (Kd.za9 HO_8.out).2.2 (ji17) p156 q156
           cases e156
           replace p156 := eq_true p156
           replace q156 := eq_true q156
           have p23 : 0 ≤ ((ji17) : Int) := of_decide_eq_true (by first | (with_reducible assumption) | assumption)
           have q23 : ((ji17) : Int) < ((x8_1.length : Int) : Int) := of_decide_eq_true (by first | (with_reducible assumption) | assumption)
           obtain ⟨go23, co23, eo23, gb23, gl23, cl23, HG23⟩ := Kd.R_form HO_8.out (by omega)
           (first | cases eo23 | (injection eo23 with ea_ en_ ec_; (first | subst ea_ | (injection ea_ with ea_; subst ea_)); subst ec_; clear en_))
           have GB23 := zA gb23
           have GG23 := zA HG23
           clear gb23 gl23 HG23
           (first | simp only [add_plain] at hx156_0 | skip)
           obtain ⟨hx23_0, hf23_0⟩ := Kd.zc0 0 HO_8.out ((ji17) : Int) p23 q23
           replace p23 := eq_true p23
           replace q23 := eq_true q23
           have HP31 := Kd.R_putn HO_8.out ((ji17) : Int) (Go.bits .or .u64 (rd x8_1 (ji17)) (ji22))
           rw [← Ny157.out] at HP31
           have HQ31 := zA HP31
           clear HP31
           refine start_ (n := 11) (S := fun w' => w'.cell? ⟨go23, ((ji17)).toNat, none⟩ = some (.int .u64 (rd x8_1 (ji17)))) (ds := [10]) #[false, false, false, false, false, false, false, false, false, false, false] (by kernel_rfl) rfl rfl (hx156_0) (fun hHeld => ?_); refine zcw zaq.tab11 zaq.bits11 (fun HT_ HW_ => ?_)
           generalize w28.drew = w29 at HO_7 HO_8 HO151 HO155 HB GG23 HQ31 hf23_0 hx156_0 hx23_0 hHeld ⊢
           refine pure_ (i := 0) (N := some 38) (v := ?_) (a' := ?_) #[true, false, false, false, false, false, false, false, false, false, false] rfl rfl (za5 HT_.out (by kernel_rfl)) (fun _ _ _ h => h) (Or.inl ⟨by rfl, ?_⟩) ?_ ?_
           rotate_left
           ·
            intro w'
            go_simp
            with_reducible rfl
           rotate_left
           ·
            simp only [Act.put, zs1, zs2, zs3, i64_w, i32_w]
            rfl
           refine pure_ (i := 1) (N := some 39) (v := ?_) (a' := ?_) #[true, true, false, false, false, false, false, false, false, false, false] rfl rfl (za5 HT_.out (by kernel_rfl)) (fun _ _ _ h => h) (Or.inl ⟨by rfl, ?_⟩) ?_ ?_
           rotate_left
           ·
            intro w'
            go_simp
            with_reducible rfl
           rotate_left
           ·
            simp only [Act.put, zs1, zs2, zs3, i64_w, i32_w]
            rfl
           refine pure_ (i := 2) (N := some 40) (v := ?_) (a' := ?_) #[true, true, true, false, false, false, false, false, false, false, false] rfl rfl (za5 HT_.out (by kernel_rfl)) (fun _ _ _ h => h) (Or.inl ⟨by rfl, ?_⟩) ?_ ?_
           rotate_left
           ·
            intro w'
            go_simp
            with_reducible rfl
           rotate_left
           ·
            simp only [Act.put, zs1, zs2, zs3, i64_w, i32_w]
            rfl
           refine pure_ (i := 3) (N := some 41) (v := ?_) (a' := ?_) #[true, true, true, true, false, false, false, false, false, false, false] rfl rfl (za5 HT_.out (by kernel_rfl)) (fun _ _ _ h => h) (Or.inl ⟨by rfl, ?_⟩) ?_ ?_
           rotate_left
           ·
            intro w'
            go_simp
            with_reducible rfl
           rotate_left
           ·
            simp only [Act.put, zs1, zs2, zs3, i64_w, i32_w]
            rfl
           refine pure_ (i := 5) (N := some 43) (v := ?_) (a' := ?_) #[true, true, true, true, false, true, false, false, false, false, false] rfl rfl (za5 HT_.out (by kernel_rfl)) (fun _ _ _ h => h) (Or.inl ⟨by rfl, ?_⟩) ?_ ?_
           rotate_left
           ·
            intro w'
            go_simp
            with_reducible rfl
           rotate_left
           ·
            simp only [Act.put, zs1, zs2, zs3, i64_w, i32_w]
            rfl
           refine pure_ (i := 6) (N := some 44) (v := ?_) (a' := ?_) #[true, true, true, true, false, true, true, false, false, false, false] rfl rfl (za5 HT_.out (by kernel_rfl)) (fun _ _ _ h => h) (Or.inl ⟨by rfl, ?_⟩) ?_ ?_
           rotate_left
           ·
            intro w'
            go_simp
            with_reducible rfl
           rotate_left
           ·
            simp only [Act.put, zs1, zs2, zs3, i64_w, i32_w]
            rfl
           refine pure_ (i := 7) (N := some 45) (v := ?_) (a' := ?_) #[true, true, true, true, false, true, true, true, false, false, false] rfl rfl (za5 HT_.out (by kernel_rfl)) (fun _ _ _ h => h) (Or.inl ⟨by rfl, ?_⟩) ?_ ?_
           rotate_left
           ·
            intro w'
            go_simp
            with_reducible rfl
           rotate_left
           ·
            simp only [Act.put, zs1, zs2, zs3, i64_w, i32_w]
            rfl
           refine take_ (i := 4) (N := some 42) (v := ?_) (a' := ?_) #[true, true, true, true, true, true, true, true, false, false, false] rfl rfl (zcf HT_.out HW_.out (by kernel_rfl)) (fun _ _ _ h => h) (Or.inl ⟨by rfl, ?_⟩) hHeld ?_ ?_
           rotate_left
           ·
            intro w' s0
            go_simp
            with_reducible rfl
           rotate_left
           ·
            simp only [Act.put, zs1, zs2, zs3, i64_w, i32_w]
            rfl
           refine pure_ (i := 8) (N := some 46) (v := ?_) (a' := ?_) #[true, true, true, true, true, true, true, true, true, false, false] rfl rfl (za5 HT_.out (by kernel_rfl)) (fun _ _ _ h => h) (Or.inl ⟨by rfl, ?_⟩) ?_ ?_
           rotate_left
           ·
            intro w'
            go_simp
            with_reducible rfl
           rotate_left
           ·
            simp only [Act.put, zs1, zs2, zs3, i64_w, i32_w]
            rfl
           refine pure_ (i := 9) (N := some 47) (v := ?_) (a' := ?_) #[true, true, true, true, true, true, true, true, true, true, false] rfl rfl (za5 HT_.out (by kernel_rfl)) (fun _ _ _ h => h) (Or.inl ⟨by rfl, ?_⟩) ?_ ?_
           rotate_left
           ·
            intro w'
            go_simp
            with_reducible rfl
           rotate_left
           ·
            simp only [Act.put, zs1, zs2, zs3, i64_w, i32_w]
            rfl
           refine last_ (i := 10) (N := none) #[true, true, true, true, true, true, true, true, true, true, true] rfl rfl (zcg HT_.out (by kernel_rfl)) (by decide) (fun K hK => ?_)
           refine skip_ (w1 := ?_) (by rfl) rfl ?_ ?_
           rotate_left
           ·
            go_simp
            rfl
           refine hK.out _ _ ?_
           clear hK K
           refine done_ (done_of HT_.out (by kernel_rfl)) ?_
           try go_wp2
           go_roundg k1
           case measure => have := HK1.out; omega
           case rel => exact ⟨(t153), (y157), (wrap64 (x9_1 - 1)), (zF), H', ⟨by have := HK1.out; omega⟩, ⟨by (with_reducible repeat (first | apply Kd.zbw | apply Kd.zbv | apply Kd.zbz)); exact Kd.zas (Kd.V_far (p := ⟨go23, ((ji17) : Int).toNat, none⟩) (Kd.zas HO155.out (fun k_ hk => (⟨hk, fun e_ => hk.2 (by rw [e_]; rfl)⟩ : _ ∧ k_ ≠ go23))) (fun _ hk => hk.2) (.int .u64 (Go.bits .or .u64 (rd x8_1 (ji17)) (ji22)))) (fun _ hk => ⟨hk.1.1, hk.1.2⟩)⟩, ⟨zR HQ31⟩, ⟨zB HB⟩⟩
          ·
           rw [if_neg c21] at H
           exact absurd H (by simp)
         ·
          rw [if_neg c19] at H
          exact absurd H (by simp)
        ·
         rw [if_neg c18] at H
         exact absurd H (by simp)
       ·
        rw [if_neg c15] at H
        have c15b0 : decide (0 ≤ t152) = false := decide_eq_false c15
        clear c15
        have H' := zA H
        clear H
        go_wp2_with (first | ((with_reducible refine zac (f := 85) rfl ?_); refine za0 (some 30) rfl rfl Tryd.func85 (by kernel_rfl) rfl #[.slice A1 l1.length c1, .int .i64 x9_1] rfl (zE) ?_; (with_reducible refine (zal.calls k1 _ _ l1 x9_1 t149 _ ?side1 ?side2 A13.out).mono ?_); (case side1 => exact zJ (Kd.za1 HR1.out HB.out)); (case side2 => exact HC1.out); rintro e w32 ⟨v150, rfl, ho0, hb⟩; refine ⟨_, rfl, ?_⟩; have n0_ := zA (Kd.zaw (zV HO_7) hb); have n1_ := zA (Kd.zb5 (zR HO_8) hb); have n2_ := zA (Kd.zb (Kd.zas (ok' := fun k_ => (w.heap.size ≤ k_) ∧ some k_ ≠ (v142 : Value).ownBlock) ho0 (fun k_ hk_ => ⟨(Nat.le_trans (za (zB HB)) hk_), (Kd.fresh' (Kd.R_lt (zR HO_8)) k_ hk_)⟩)) (za (zB HB))); have n3_ := zA (zaa (zB HB) hb); clear HO_7 HO_8 HB; have HO_7 := n0_; have HO_8 := n1_; have HO151 := n2_; have HB := n3_; clear n0_ n1_ n2_ n3_; (try clear hb); (try clear hb2); (try clear hk); (try clear hi); (try clear ho0); obtain ⟨Ao33, co33, eo33⟩ := Kd.za6 HO_7.out; subst eo33; obtain ⟨Ao34, co34, eo34⟩ := Kd.za6 HO151.out; subst eo34) | ((with_reducible refine zac (f := 52) rfl ?_); refine za0 (some 33) rfl rfl Tryd.func52 (by kernel_rfl) rfl #[.slice Ao33 x7_1.length co33, .slice Ao34 t149.length co34] rfl (zE) ?_; (with_reducible refine (zco.calls _ _ x7_1 _ _ t149 t152 _ ?side1 ?side2 ?side3 ?side4 A14.out).mono ?_); (case side1 => exact zJ (Kd.zam HO_7.out).2.2); (case side2 => exact (Kd.zam HO_7.out).2.1); (case side3 => exact zJ (Kd.zam HO151.out).2.2); (case side4 => exact (Kd.zam HO151.out).2.1); rintro e w35 ⟨rfl, hb⟩; refine ⟨_, rfl, ?_⟩; have n0_ := zA (Kd.zaw (zV HO_7) hb); have n1_ := zA (Kd.zb5 (zR HO_8) hb); have n2_ := zA (Kd.zaw (zV HO151) hb); have n3_ := zA (zaa (zB HB) hb); clear HO_7 HO_8 HO151 HB; have HO_7 := n0_; have HO_8 := n1_; have HO151 := n2_; have HB := n3_; clear n0_ n1_ n2_ n3_; (try clear hb); (try clear hb2); (try clear hk); (try clear hi)))
        go_roundg k1
        case measure => have := HK1.out; omega
        case rel => exact ⟨(x7_1), (x8_1), (wrap64 (x9_1 - 1)), (zF), H', ⟨by have := HK1.out; omega⟩, ⟨zV HO_7⟩, ⟨zR HO_8⟩, ⟨zB HB⟩⟩
      ·
       rw [if_neg c12] at H
       have c12b0 : decide (0 ≤ x9_1) = false := decide_eq_false c12
       clear c12
       replace H := zO H
       obtain ⟨t146, A360, H⟩ := H
       try dsimp only at H
       have A36 := zA A360
       clear A360
       simp only [Option.some.injEq, Prod.mk.injEq] at H
       obtain ⟨rfl, rfl, rfl⟩ := H
       obtain ⟨Ao37, co37, eo37⟩ := Kd.zbt HO_8.out
       subst eo37
       go_wp2_with (first | ((with_reducible refine zac (f := 65) rfl ?_); refine za0 (some 49) rfl rfl Tryd.func65 (by kernel_rfl) rfl #[.slice Ao37 x8_1.length co37] rfl (zE) ?_; (with_reducible refine (zau.calls k1 (fun k_ => some k_ = (.slice Ao37 x8_1.length co37 : Value).ownBlock) _ _ x8_1 t146 _ ?side1 A36.out).mono ?_); (case side1 => exact Kd.R_V (Kd.zc3 rfl (HO_8.out))); rintro e w38 ⟨v147, rfl, ho0, hb⟩; refine ⟨_, rfl, ?_⟩; have n0_ := zA (Kd.zaw (zV HO_7) hb); have n1_ := zA (Kd.zb5 (zR HO_8) hb); have n2_ := zA (Kd.zb (Kd.zas (ok' := fun k_ => (w.heap.size ≤ k_)) ho0 (fun k_ hk_ => Or.elim hk_ (fun hs_ => ((HO_8.out).1 k_ hs_.symm)) (fun hn_ => (Nat.le_trans (za (zB HB)) hn_)))) (za (zB HB))); have n3_ := zA (zaa (zB HB) hb); clear HO_7 HO_8 HB; have HO_7 := n0_; have HO_8 := n1_; have HO148 := n2_; have HB := n3_; clear n0_ n1_ n2_ n3_; (try clear hb); (try clear hb2); (try clear hk); (try clear hi); (try clear ho0)))
       go_ret3
       exact ⟨_, _, zW, zV HO148, by (with_reducible repeat (first | apply Kd.zbw | apply Kd.zbv | apply Kd.zbz)); exact Kd.zas HO_7.out (fun _ hk => hk.1), zB HB⟩
   ·
    rw [if_neg c6] at H
    exact absurd H (by simp)
  ·
   rw [if_neg c5] at H
   exact absurd H (by simp)
def zb0.l0 : Nat → List Int → List Int → Option (List Int)
 | 0, _, _ => none
 | k + 1, x0, x1 => if (x1.length : Int) > 0 then ((zaq.f k x0 x1).bind fun bt161 => ((za7.f x1).bind fun t168 => (zb0.l0 k t168 bt161.2.1))) else (some x0)
def zb0.f (k : Nat) (l0 : List Int) (l1 : List Int) : Option (List Int) := (za7.f l0).bind fun t158 => (zb0.l0 k t158 l1)
theorem zb0.zcj : ∀ k, (∀ y0 y1, LeO (zb0.l0 k y0 y1) (zb0.l0 (k + 1) y0 y1))
 | 0 => fun _ _ r h => by simp [zb0.l0] at h
 | k + 1 => by
  have ih0 := zb0.zcj k
  ·
   intro y0 y1
   unfold zb0.l0
   repeat' first
   | (with_reducible exact ih0 _ _)
   | (with_reducible exact zaq.mono _ _ _)
   | (with_reducible exact LeO.refl _)
   | (with_reducible exact LeO.none _)
   | (with_reducible refine LeO.ite ?_ ?_)
   | (with_reducible refine LeO.bind ?_ (fun _ => ?_))
   | exact ih0 _ _
   | exact zaq.mono _ _ _
   | exact LeO.none _
   | refine LeO.ite ?_ ?_
   | refine LeO.bind ?_ (fun _ => ?_)
theorem zb0.mono : ∀ a0 a1 k, LeO (zb0.f k a0 a1) (zb0.f (k + 1) a0 a1) := by
 intro a0 a1 k
 have ih0 := zb0.zcj k
 unfold zb0.f
 repeat' first
   | (with_reducible exact ih0 _ _)
   | (with_reducible exact zaq.mono _ _ _)
   | (with_reducible exact LeO.refl _)
   | (with_reducible exact LeO.none _)
   | (with_reducible refine LeO.ite ?_ ?_)
   | (with_reducible refine LeO.bind ?_ (fun _ => ?_))
   | exact ih0 _ _
   | exact zaq.mono _ _ _
   | exact LeO.none _
   | refine LeO.ite ?_ ?_
   | refine LeO.bind ?_ (fun _ => ?_)
theorem zb0.calls (k : Nat) (A0 : Option Addr) (c0 : Nat) (l0 : List Int) (P1_ : Nat → Prop) (A1 : Option Addr) (c1 : Nat) (l1 : List Int) (r : List Int) (w : World) (hr0 : Kd.C (Kd.int .u64) w A0 l0.length l0) (hc0 : l0.length ≤ c0) (hs1 : Kd.V (Kd.int .u64) 57 w w.heap.size (fun k_ => P1_ k_) (.slice A1 l1.length c1) l1) (h : zb0.f k l0 l1 = some r) :
  Calls Tryd.prog 53 #[.slice A0 l0.length c0, .slice A1 l1.length c1] w fun e w' => ∃ v0_ : Value, e = .returned (v0_) ∧ Kd.R (Kd.int .u64) 57 w' w.heap.size (fun k_ => (w.heap.size ≤ k_)) v0_ r ∧ Below w.heap.size w w' := by
 have HR0 := zA hr0
 have HC0 := zA hc0
 clear hr0 hc0
 have HO1 := zA (show Kd.V (Kd.int .u64) 57 w w.heap.size (fun k_ => (P1_ k_ ∨ w.heap.size ≤ k_)) (.slice A1 l1.length c1) l1 from Kd.zas hs1 (fun k_ hk => .inl hk))
 have HB := zA (Below.refl w.heap.size w)
 have H : ((za7.f l0).bind fun t158 => (zb0.l0 k t158 l1)) = some r := h
 clear h
 replace H := zO H
 obtain ⟨t158, A30, H⟩ := H
 try dsimp only at H
 have A3 := zA A30
 clear A30
 have H' := zA H
 clear H
 go_enter Tryd.func53, Tryd.ntmps53
 go_wp2_with (first | ((with_reducible refine zac (f := 81) rfl ?_); refine za0 (some 9) rfl rfl Tryd.func81 (by kernel_rfl) rfl #[.slice A0 l0.length c0] rfl (zE) ?_; (with_reducible refine (za7.calls _ _ l0 t158 _ ?side1 ?side2 A3.out).mono ?_); (case side1 => repeat (first | exact HR0.out | (with_reducible refine Kd.zc2 ?_ _) | (with_reducible refine Kd.C_drewN ?_ _) | (with_reducible refine Kd.C_drew ?_))); (case side2 => exact HC0.out); rintro e w4 ⟨v159, rfl, ho0, hb⟩; refine ⟨_, rfl, ?_⟩; have n0_ := zA (Kd.zc6 (zV HO1) (Kd.zbk ho0) hb); have n1_ := zA (Kd.zb3 (Kd.R_newM (M := fun k_ => (w.heap.size ≤ k_)) ho0 (za (zB HB)) (fun k_ h_ => h_)) (za (zB HB))); have n2_ := zA (zaa (zB HB) hb); clear HO1 HB; have HO1 := n0_; have HO160 := n1_; have HB := n2_; clear n0_ n1_ n2_; (try clear hb); (try clear hb2); (try clear hk); (try clear hi); (try clear ho0)))
 go_loopg [0, 1] k (fun kq v0 v1 w' => ∃ (x0_1 : List Int) (x1_1 : List Int), Aside0 (zb0.l0 kq x0_1 x1_1 = some r) ∧ Aside0 (kq ≤ k) ∧ Aside0 (Kd.R (Kd.int .u64) 57 w' w.heap.size (fun k_ => (w.heap.size ≤ k_)) v0 x0_1) ∧ Aside0 (Kd.V (Kd.int .u64) 57 w' w.heap.size (fun k_ => (P1_ k_ ∨ w.heap.size ≤ k_) ∧ some k_ ≠ (v0 : Value).ownBlock) v1 x1_1) ∧ Aside0 (Below w.heap.size w w'))
 case atStart => exact ⟨(t158), (l1), H', ⟨Nat.le_refl _⟩, ⟨by (with_reducible repeat (first | apply Kd.zca | apply Kd.zcb | apply Kd.zcn)); exact Kd.zbn HO160.out (fun _ hk => hk.1)⟩, ⟨zV HO1⟩, ⟨zB HB⟩⟩
 case round =>
  clear H'
  try clear c1
  try clear p2
  obtain ⟨x0_1, x1_1, HA, HK1, HO_0, HO_1, HB⟩ := hrel
  cases gk with
  | zero => exact absurd HA.out (by simp [zb0.l0])
  | succ k1 =>
   have H := HA.out
   clear HA
   simp only [zb0.l0] at H
   by_cases c5 : (x1_1.length : Int) > 0
   ·
    rw [if_pos c5] at H
    have c5b0 : decide (0 < (x1_1.length : Int)) = true := decide_eq_true c5
    have c5b1 : decide (0 < x1_1.length) = true := decide_eq_true (by omega)
    clear c5
    replace H := zO H
    obtain ⟨⟨t161, t164, t167⟩, A60, H⟩ := H
    try dsimp only at H
    have A6 := zA A60
    clear A60
    replace H := zO H
    obtain ⟨t168, A70, H⟩ := H
    try dsimp only at H
    have A7 := zA A70
    clear A70
    have H' := zA H
    clear H
    obtain ⟨Ao8, co8, eo8⟩ := Kd.za6 HO_1.out
    subst eo8
    obtain ⟨Ao9, co9, eo9⟩ := Kd.zbt HO_0.out
    subst eo9
    go_wp2_with (first | ((with_reducible refine zac (f := 60) rfl ?_); refine za0 (some 16) rfl rfl Tryd.func60 (by kernel_rfl) rfl #[.slice Ao9 x0_1.length co9, .slice Ao8 x1_1.length co8] rfl (zE) ?_; (with_reducible refine (zaq.calls k1 _ _ x0_1 _ _ x1_1 t161 t164 t167 _ ?side1 ?side2 ?side3 ?side4 A6.out).mono ?_); (case side1 => exact zJ (Kd.za9 HO_0.out).2.2); (case side2 => exact (Kd.za9 HO_0.out).2.1); (case side3 => exact zJ (Kd.zam HO_1.out).2.2); (case side4 => exact (Kd.zam HO_1.out).2.1); rintro e w10 ⟨v162, v165, rfl, ho0, ho1, hb⟩; refine ⟨_, rfl, ?_⟩; have n0_ := zA (Kd.zb5 (zR HO_0) hb); have n1_ := zA (Kd.zaw (zV HO_1) hb); have n2_ := zA (Kd.zb (Kd.zas (ok' := fun k_ => (P1_ k_ ∨ w.heap.size ≤ k_) ∧ some k_ ≠ (.slice Ao9 x0_1.length co9 : Value).ownBlock) ho0 (fun k_ hk_ => ⟨(.inr (Nat.le_trans (za (zB HB)) hk_)), (Kd.fresh' (Kd.R_lt (zR HO_0)) k_ hk_)⟩)) (za (zB HB))); have n3_ := zA (Kd.zb (Kd.zas (ok' := fun k_ => (P1_ k_ ∨ w.heap.size ≤ k_) ∧ some k_ ≠ (.slice Ao9 x0_1.length co9 : Value).ownBlock) ho1 (fun k_ hk_ => ⟨(.inr (Nat.le_trans (za (zB HB)) hk_)), (Kd.fresh' (Kd.R_lt (zR HO_0)) k_ hk_)⟩)) (za (zB HB))); have n4_ := zA (zaa (zB HB) hb); clear HO_0 HO_1 HB; have HO_0 := n0_; have HO_1 := n1_; have HO163 := n2_; have HO166 := n3_; have HB := n4_; clear n0_ n1_ n2_ n3_ n4_; (try clear hb); (try clear hb2); (try clear hk); (try clear hi); (try clear ho0); (try clear ho1)) | ((with_reducible refine zac (f := 81) rfl ?_); refine za0 (some 21) rfl rfl Tryd.func81 (by kernel_rfl) rfl #[.slice Ao8 x1_1.length co8] rfl (zE) ?_; (with_reducible refine (za7.calls _ _ x1_1 t168 _ ?side1 ?side2 A7.out).mono ?_); (case side1 => exact zJ (Kd.zam HO_1.out).2.2); (case side2 => exact (Kd.zam HO_1.out).2.1); rintro e w11 ⟨v169, rfl, ho0, hb⟩; refine ⟨_, rfl, ?_⟩; have n0_ := zA (Kd.zb8 (zR HO_0) (Kd.zbk ho0) hb); have n1_ := zA (Kd.zc6 (zV HO_1) (Kd.zbk ho0) hb); have n2_ := zA (Kd.zc6 (zV HO163) (Kd.zbk ho0) hb); have n3_ := zA (Kd.zc6 (zV HO166) (Kd.zbk ho0) hb); have n4_ := zA (Kd.zb3 (Kd.zcl (Kd.R_newM (M := fun k_ => (w.heap.size ≤ k_)) ho0 (za (zB HB)) (fun k_ h_ => h_)) (Kd.R_lt (zR HO_0))) (za (zB HB))); have n5_ := zA (zaa (zB HB) hb); clear HO_0 HO_1 HO163 HO166 HB; have HO_0 := n0_; have HO_1 := n1_; have HO163 := n2_; have HO166 := n3_; have HO170 := n4_; have HB := n5_; clear n0_ n1_ n2_ n3_ n4_ n5_; (try clear hb); (try clear hb2); (try clear hk); (try clear hi); (try clear ho0)))
    go_roundg k1
    case measure => have := HK1.out; omega
    case rel => exact ⟨(t168), (t164), H', ⟨by have := HK1.out; omega⟩, ⟨by (with_reducible repeat (first | apply Kd.zca | apply Kd.zcb | apply Kd.zcn)); exact Kd.zbn HO170.out (fun _ hk => hk.1.1)⟩, ⟨by (with_reducible repeat (first | apply Kd.zbw | apply Kd.zbv | apply Kd.zbz)); exact Kd.zas HO166.out (fun _ hk => ⟨hk.1.1, hk.2⟩)⟩, ⟨zB HB⟩⟩
   ·
    rw [if_neg c5] at H
    have c5b0 : decide (0 < (x1_1.length : Int)) = false := decide_eq_false c5
    have c5b1 : decide (0 < x1_1.length) = false := decide_eq_false (by omega)
    clear c5
    obtain rfl := Option.some.inj H
    obtain ⟨Ao12, co12, eo12⟩ := Kd.za6 HO_1.out
    subst eo12
    go_wp2
    go_ret
    exact ⟨_, zW, zR HO_0, zB HB⟩
def zba.f (k : Nat) (l0 : List Int) (l1 : List Int) : Option (List Int × List Int) := (zb0.f k l0 l1).bind fun t172 => ((zaq.f k l0 t172).bind fun bt175 => ((zaq.f k l1 t172).bind fun bt182 => (some (bt175.1, bt182.1))))
theorem zba.mono : ∀ a0 a1 k, LeO (zba.f k a0 a1) (zba.f (k + 1) a0 a1) := by
 intro a0 a1 k
 unfold zba.f
 repeat' first
   | (with_reducible exact zaq.mono _ _ _)
   | (with_reducible exact zb0.mono _ _ _)
   | (with_reducible exact LeO.refl _)
   | (with_reducible exact LeO.none _)
   | (with_reducible refine LeO.ite ?_ ?_)
   | (with_reducible refine LeO.bind ?_ (fun _ => ?_))
   | exact zaq.mono _ _ _
   | exact zb0.mono _ _ _
   | exact LeO.none _
   | refine LeO.ite ?_ ?_
   | refine LeO.bind ?_ (fun _ => ?_)
theorem zba.calls (k : Nat) (A0 : Option Addr) (c0 : Nat) (l0 : List Int) (A1 : Option Addr) (c1 : Nat) (l1 : List Int) (r1 : List Int) (r2 : List Int) (w : World) (hr0 : Kd.C (Kd.int .u64) w A0 l0.length l0) (hc0 : l0.length ≤ c0) (hr1 : Kd.C (Kd.int .u64) w A1 l1.length l1) (hc1 : l1.length ≤ c1) (h : zba.f k l0 l1 = some (r1, r2)) :
  Calls Tryd.prog 58 #[.slice A0 l0.length c0, .slice A1 l1.length c1] w fun e w' => ∃ v0_ v1_ : Value, e = .returned (.agg #[v0_, v1_]) ∧ Kd.V (Kd.int .u64) 57 w' w.heap.size (fun k_ => (w.heap.size ≤ k_)) v0_ r1 ∧ Kd.V (Kd.int .u64) 57 w' w.heap.size (fun k_ => (w.heap.size ≤ k_)) v1_ r2 ∧ Below w.heap.size w w' := by
 have hu28 := Tryd.underlying28
 have HR0 := zA hr0
 have HC0 := zA hc0
 clear hr0 hc0
 have HR1 := zA hr1
 have HC1 := zA hc1
 clear hr1 hc1
 have HB := zA (Below.refl w.heap.size w)
 have H : ((zb0.f k l0 l1).bind fun t172 => ((zaq.f k l0 t172).bind fun bt175 => ((zaq.f k l1 t172).bind fun bt182 => (some (bt175.1, bt182.1))))) = some (r1, r2) := h
 clear h
 replace H := zO H
 obtain ⟨t172, A30, H⟩ := H
 try dsimp only at H
 have A3 := zA A30
 clear A30
 replace H := zO H
 obtain ⟨⟨t175, t178, t181⟩, A40, H⟩ := H
 try dsimp only at H
 have A4 := zA A40
 clear A40
 replace H := zO H
 obtain ⟨⟨t182, t185, t188⟩, A50, H⟩ := H
 try dsimp only at H
 have A5 := zA A50
 clear A50
 simp only [Option.some.injEq, Prod.mk.injEq] at H
 obtain ⟨rfl, rfl⟩ := H
 go_enter Tryd.func58, Tryd.ntmps58
 go_wp2_with (first | ((with_reducible refine zbf (N := 4) rfl ?_); refine zbi ?hg (N := 4) ?hd (cs := #[.slice none 0 0, .slice none 0 0]) (t := 28) ?hr ?_; (case hd => rfl); (case hg => rfl); (case hr => first | (go_simp; done) | (go_simp; rfl)); intro gb171 hg w6 hbox hb; have n0_ := zA (zaa (zB HB) hb); have n1_ := zA (hbox); have n2_ := zA ((by rw [hg]; exact (za (zB HB)) : w.heap.size ≤ gb171)); have n3_ := zA ((by rw [hg]; exact (za (zB HB)) : w.heap.size ≤ gb171)); clear HB; have HB := n0_; have BK171 := n1_; have GW171 := n2_; have GE171 := n3_; clear n0_ n1_ n2_ n3_ hb hbox hg) | ((with_reducible refine zac (f := 53) rfl ?_); refine za0 (some 14) rfl rfl Tryd.func53 (by kernel_rfl) rfl #[.slice A0 l0.length c0, .slice A1 l1.length c1] rfl (zE) ?_; (with_reducible refine (zb0.calls k _ _ l0 (fun k_ => k_ < w.heap.size) _ _ l1 t172 _ ?side1 ?side2 ?side3 A3.out).mono ?_); (case side1 => exact zJ (Kd.za1 HR0.out HB.out)); (case side2 => exact HC0.out); (case side3 => exact Kd.V_mk HC1.out (Kd.F_below (Kd.C_F (Kd.heap_int .u64) HR1.out) (zB HB))); rintro e w7 ⟨v173, rfl, ho0, hb⟩; refine ⟨_, rfl, ?_⟩; have n0_ := zA (Kd.zb3 (Kd.R_newM (M := fun k_ => (w.heap.size ≤ k_)) (Kd.zbn (ok' := fun k_ => True) ho0 (fun _ hk_ => trivial)) (za (zB HB)) (fun k_ h_ => h_)) (za (zB HB))); have n1_ := zA (zai (g := gb171) (o := .cells #[.slice none 0 0, .slice none 0 0] 28 (0, 0)) (zK BK171) hb); have n2_ := zA (zaa (zB HB) hb); clear BK171 HB; have HO174 := n0_; have BK171 := n1_; have HB := n2_; clear n0_ n1_ n2_; (try clear hb); (try clear hb2); (try clear hk); (try clear hi); (try clear ho0); obtain ⟨Ao8, co8, eo8⟩ := Kd.zbt HO174.out; subst eo8) | ((with_reducible refine zac (f := 60) rfl ?_); refine za0 (some 18) rfl rfl Tryd.func60 (by kernel_rfl) rfl #[.slice A0 l0.length c0, .slice Ao8 t172.length co8] rfl (zE) ?_; (with_reducible refine (zaq.calls k _ _ l0 _ _ t172 t175 t178 t181 _ ?side1 ?side2 ?side3 ?side4 A4.out).mono ?_); (case side1 => exact zJ (Kd.za1 HR0.out HB.out)); (case side2 => exact HC0.out); (case side3 => exact zJ (Kd.za9 HO174.out).2.2); (case side4 => exact (Kd.za9 HO174.out).2.1); rintro e w9 ⟨v176, v179, rfl, ho0, ho1, hb⟩; refine ⟨_, rfl, ?_⟩; have n0_ := zA (Kd.zb5 (zR HO174) hb); have n1_ := zA (Kd.zb (Kd.zas (ok' := fun k_ => (w.heap.size ≤ k_) ∧ some k_ ≠ (.slice Ao8 t172.length co8 : Value).ownBlock ∧ k_ ≠ gb171) ho0 (fun k_ hk_ => ⟨(Nat.le_trans (za (zB HB)) hk_), (Kd.fresh' (Kd.R_lt (zR HO174)) k_ hk_), (Kd.freshB (g := gb171) (o := .cells #[.slice none 0 0, .slice none 0 0] 28 (0, 0)) (zK BK171) k_ hk_)⟩)) (za (zB HB))); have n2_ := zA (Kd.zb (Kd.zas (ok' := fun k_ => (w.heap.size ≤ k_) ∧ some k_ ≠ (.slice Ao8 t172.length co8 : Value).ownBlock ∧ k_ ≠ gb171) ho1 (fun k_ hk_ => ⟨(Nat.le_trans (za (zB HB)) hk_), (Kd.fresh' (Kd.R_lt (zR HO174)) k_ hk_), (Kd.freshB (g := gb171) (o := .cells #[.slice none 0 0, .slice none 0 0] 28 (0, 0)) (zK BK171) k_ hk_)⟩)) (za (zB HB))); have n3_ := zA (zai (g := gb171) (o := .cells #[.slice none 0 0, .slice none 0 0] 28 (0, 0)) (zK BK171) hb); have n4_ := zA (zaa (zB HB) hb); clear HO174 BK171 HB; have HO174 := n0_; have HO177 := n1_; have HO180 := n2_; have BK171 := n3_; have HB := n4_; clear n0_ n1_ n2_ n3_ n4_; (try clear hb); (try clear hb2); (try clear hk); (try clear hi); (try clear ho0); (try clear ho1)) | ((with_reducible refine zac (f := 60) rfl ?_); refine za0 (some 25) rfl rfl Tryd.func60 (by kernel_rfl) rfl #[.slice A1 l1.length c1, .slice Ao8 t172.length co8] rfl (zE) ?_; (with_reducible refine (zaq.calls k _ _ l1 _ _ t172 t182 t185 t188 _ ?side1 ?side2 ?side3 ?side4 A5.out).mono ?_); (case side1 => exact zJ (Kd.za1 HR1.out HB.out)); (case side2 => exact HC1.out); (case side3 => exact zJ (Kd.za9 HO174.out).2.2); (case side4 => exact (Kd.za9 HO174.out).2.1); rintro e w10 ⟨v183, v186, rfl, ho0, ho1, hb⟩; refine ⟨_, rfl, ?_⟩; have n0_ := zA (Kd.zb5 (zR HO174) hb); have n1_ := zA (Kd.zaw (zV HO177) hb); have n2_ := zA (Kd.zaw (zV HO180) hb); have n3_ := zA (Kd.zb (Kd.zas (ok' := fun k_ => (w.heap.size ≤ k_) ∧ some k_ ≠ (.slice Ao8 t172.length co8 : Value).ownBlock ∧ k_ ≠ gb171) ho0 (fun k_ hk_ => ⟨(Nat.le_trans (za (zB HB)) hk_), (Kd.fresh' (Kd.R_lt (zR HO174)) k_ hk_), (Kd.freshB (g := gb171) (o := .cells #[.slice none 0 0, .slice none 0 0] 28 (0, 0)) (zK BK171) k_ hk_)⟩)) (za (zB HB))); have n4_ := zA (Kd.zb (Kd.zas (ok' := fun k_ => (w.heap.size ≤ k_) ∧ some k_ ≠ (.slice Ao8 t172.length co8 : Value).ownBlock ∧ k_ ≠ gb171) ho1 (fun k_ hk_ => ⟨(Nat.le_trans (za (zB HB)) hk_), (Kd.fresh' (Kd.R_lt (zR HO174)) k_ hk_), (Kd.freshB (g := gb171) (o := .cells #[.slice none 0 0, .slice none 0 0] 28 (0, 0)) (zK BK171) k_ hk_)⟩)) (za (zB HB))); have n5_ := zA (zai (g := gb171) (o := .cells #[.slice none 0 0, .slice none 0 0] 28 (0, 0)) (zK BK171) hb); have n6_ := zA (zaa (zB HB) hb); clear HO174 HO177 HO180 BK171 HB; have HO174 := n0_; have HO177 := n1_; have HO180 := n2_; have HO184 := n3_; have HO187 := n4_; have BK171 := n5_; have HB := n6_; clear n0_ n1_ n2_ n3_ n4_ n5_ n6_; (try clear hb); (try clear hb2); (try clear hk); (try clear hi); (try clear ho0); (try clear ho1); obtain ⟨Ao11, co11, eo11⟩ := Kd.za6 HO184.out; subst eo11; obtain ⟨Ao12, co12, eo12⟩ := Kd.za6 HO177.out; subst eo12; have hcz13_0 : w10.cell? ⟨gb171, 0, none⟩ = some (.slice none 0 0) := (zad BK171.out 0).trans rfl; have hcz13_1 : w10.cell? ⟨gb171, 1, none⟩ = some (.slice none 0 0) := (zad BK171.out 1).trans rfl; have hfz13_0 := zat BK171.out 0; have hfz13_1 := zat BK171.out 1))
 refine bodyPost_ret (results_cell_row rfl _ _ gb171 28 #[.slice Ao12 t175.length co12, .slice Ao11 t182.length co11] (0, 0) _ rfl (by (with_reducible repeat (first | refine zao ?_ _ | refine zar ?_ | refine zah ?_ _)); refine zbu (cs := #[.slice Ao12 t175.length co12, .slice none 0 0]) ?_ 1 _ rfl; (with_reducible repeat (first | refine zao ?_ _ | refine zar ?_ | refine zah ?_ _)); refine zbu (cs := #[.slice none 0 0, .slice none 0 0]) ?_ 0 _ rfl; (with_reducible repeat (first | refine zao ?_ _ | refine zar ?_ | refine zah ?_ _)); exact BK171.out) Tryd.underlying28 rfl (by kernel_rfl)) rfl ?_
 exact ⟨_, _, zW, by (with_reducible repeat (first | apply Kd.zbw | apply Kd.zbv | apply Kd.zbz)); exact Kd.zas (Kd.V_far (p := ⟨gb171, 1, none⟩) (Kd.V_far (p := ⟨gb171, 0, none⟩) (Kd.zas HO177.out (fun k_ hk => (⟨hk, hk.2.2⟩ : _ ∧ k_ ≠ gb171))) (fun _ hk => hk.2) (.slice Ao12 t175.length co12)) (fun _ hk => hk.2) (.slice Ao11 t182.length co11)) (fun _ hk => hk.1.1), by (with_reducible repeat (first | apply Kd.zbw | apply Kd.zbv | apply Kd.zbz)); exact Kd.zas (Kd.V_far (p := ⟨gb171, 1, none⟩) (Kd.V_far (p := ⟨gb171, 0, none⟩) (Kd.zas HO184.out (fun k_ hk => (⟨hk, hk.2.2⟩ : _ ∧ k_ ≠ gb171))) (fun _ hk => hk.2) (.slice Ao12 t175.length co12)) (fun _ hk => hk.2) (.slice Ao11 t182.length co11)) (fun _ hk => hk.1.1), zB HB⟩
def ratio_Of.f (k : Nat) (l0 : List Int) (l1 : List Int) : Option (List Int × List Int × Int) := if (l1.length : Int) = 0 then (some (([] : List Int), ([] : List Int), 16)) else ((zba.f k l0 l1).bind fun bt190 => (some (bt190.1, bt190.2, 0)))
theorem ratio_Of.calls (k : Nat) (A0 : Option Addr) (c0 : Nat) (l0 : List Int) (A1 : Option Addr) (c1 : Nat) (l1 : List Int) (r1 : List Int) (r2 : List Int) (r3 : Int) (w : World) (hr0 : Kd.C (Kd.int .u64) w A0 l0.length l0) (hc0 : l0.length ≤ c0) (hr1 : Kd.C (Kd.int .u64) w A1 l1.length l1) (hc1 : l1.length ≤ c1) (h : ratio_Of.f k l0 l1 = some (r1, r2, r3)) :
  Calls Tryd.prog 24 #[.slice A0 l0.length c0, .slice A1 l1.length c1] w fun e w' => ∃ v0_ v1_ : Value, e = .returned (.tuple #[.agg #[v0_, v1_], .int .i64 r3]) ∧ Kd.V (Kd.int .u64) 57 w' w.heap.size (fun k_ => (w.heap.size ≤ k_)) v0_ r1 ∧ Kd.V (Kd.int .u64) 57 w' w.heap.size (fun k_ => (w.heap.size ≤ k_)) v1_ r2 ∧ Below w.heap.size w w' := by
 have hu28 := Tryd.underlying28
 have HR0 := zA hr0
 have HC0 := zA hc0
 clear hr0 hc0
 have HR1 := zA hr1
 have HC1 := zA hc1
 clear hr1 hc1
 have HB := zA (Below.refl w.heap.size w)
 have H : (if (l1.length : Int) = 0 then (some (([] : List Int), ([] : List Int), 16)) else ((zba.f k l0 l1).bind fun bt190 => (some (bt190.1, bt190.2, 0)))) = some (r1, r2, r3) := h
 clear h
 by_cases c3 : (l1.length : Int) = 0
 ·
  rw [if_pos c3] at H
  have c3b0 : ((l1.length : Int) == 0) = true := beq_iff_eq.mpr c3
  have c3b1 : ((l1.length : Int) != 0) = false := bne_eq_false_iff_eq.mpr c3
  clear c3
  simp only [Option.some.injEq, Prod.mk.injEq] at H
  obtain ⟨rfl, rfl, rfl⟩ := H
  go_enter Tryd.func24, Tryd.ntmps24
  go_wp2_with (first | ((with_reducible refine zbf (N := 4) rfl ?_); refine zbi ?hg (N := 4) ?hd (cs := #[.slice none 0 0, .slice none 0 0]) (t := 28) ?hr ?_; (case hd => rfl); (case hg => rfl); (case hr => first | (go_simp; done) | (go_simp; rfl)); intro gb189 hg w4 hbox hb; have n0_ := zA (zaa (zB HB) hb); have n1_ := zA (hbox); have n2_ := zA ((by rw [hg]; exact (za (zB HB)) : w.heap.size ≤ gb189)); have n3_ := zA ((by rw [hg]; exact (za (zB HB)) : w.heap.size ≤ gb189)); clear HB; have HB := n0_; have BK189 := n1_; have GW189 := n2_; have GE189 := n3_; clear n0_ n1_ n2_ n3_ hb hbox hg; have hcz5_0 : w4.cell? ⟨gb189, 0, none⟩ = some (.slice none 0 0) := (zad BK189.out 0).trans rfl; have hcz5_1 : w4.cell? ⟨gb189, 1, none⟩ = some (.slice none 0 0) := (zad BK189.out 1).trans rfl; have hfz5_0 := zat BK189.out 0; have hfz5_1 := zat BK189.out 1))
  refine bodyPost_ret (results_ct rfl _ _ gb189 28 #[.slice none 0 0, .slice none 0 0] (0, 0) _ rfl (by (with_reducible repeat (first | refine zao ?_ _ | refine zar ?_ | refine zah ?_ _)); refine zbu (cs := #[.slice none 0 0, .slice none 0 0]) ?_ 1 _ rfl; (with_reducible repeat (first | refine zao ?_ _ | refine zar ?_ | refine zah ?_ _)); refine zbu (cs := #[.slice none 0 0, .slice none 0 0]) ?_ 0 _ rfl; (with_reducible repeat (first | refine zao ?_ _ | refine zar ?_ | refine zah ?_ _)); exact BK189.out) Tryd.underlying28 rfl (by kernel_rfl)) rfl ?_
  exact ⟨_, _, zW, Kd.V_nil _ _ _ _ _, Kd.V_nil _ _ _ _ _, zB HB⟩
 ·
  rw [if_neg c3] at H
  have c3b0 : ((l1.length : Int) == 0) = false := beq_eq_false_iff_ne.mpr c3
  have c3b1 : ((l1.length : Int) != 0) = true := bne_iff_ne.mpr c3
  have c3b2 : ¬ (l1 = []) := fun h_ => c3 (by rw [h_]; rfl)
  replace H := zO H
  obtain ⟨⟨t190, t193⟩, A60, H⟩ := H
  try dsimp only at H
  have A6 := zA A60
  clear A60
  simp only [Option.some.injEq, Prod.mk.injEq] at H
  obtain ⟨rfl, rfl, rfl⟩ := H
  go_enter Tryd.func24, Tryd.ntmps24
  go_wp2_with (first | ((with_reducible refine zbf (N := 4) rfl ?_); refine zbi ?hg (N := 4) ?hd (cs := #[.slice none 0 0, .slice none 0 0]) (t := 28) ?hr ?_; (case hd => rfl); (case hg => rfl); (case hr => first | (go_simp; done) | (go_simp; rfl)); intro gb189 hg w7 hbox hb; have n0_ := zA (zaa (zB HB) hb); have n1_ := zA (hbox); have n2_ := zA ((by rw [hg]; exact (za (zB HB)) : w.heap.size ≤ gb189)); have n3_ := zA ((by rw [hg]; exact (za (zB HB)) : w.heap.size ≤ gb189)); clear HB; have HB := n0_; have BK189 := n1_; have GW189 := n2_; have GE189 := n3_; clear n0_ n1_ n2_ n3_ hb hbox hg) | ((with_reducible refine zac (f := 58) rfl ?_); refine za0 (some 12) rfl rfl Tryd.func58 (by kernel_rfl) rfl #[.slice A0 l0.length c0, .slice A1 l1.length c1] rfl (zE) ?_; (with_reducible refine (zba.calls k _ _ l0 _ _ l1 t190 t193 _ ?side1 ?side2 ?side3 ?side4 A6.out).mono ?_); (case side1 => exact zJ (Kd.za1 HR0.out HB.out)); (case side2 => exact HC0.out); (case side3 => exact zJ (Kd.za1 HR1.out HB.out)); (case side4 => exact HC1.out); rintro e w8 ⟨v191, v194, rfl, ho0, ho1, hb⟩; refine ⟨_, rfl, ?_⟩; have n0_ := zA (Kd.zb (Kd.zas (ok' := fun k_ => (w.heap.size ≤ k_) ∧ k_ ≠ gb189) ho0 (fun k_ hk_ => ⟨(Nat.le_trans (za (zB HB)) hk_), (Kd.freshB (g := gb189) (o := .cells #[.slice none 0 0, .slice none 0 0] 28 (0, 0)) (zK BK189) k_ hk_)⟩)) (za (zB HB))); have n1_ := zA (Kd.zb (Kd.zas (ok' := fun k_ => (w.heap.size ≤ k_) ∧ k_ ≠ gb189) ho1 (fun k_ hk_ => ⟨(Nat.le_trans (za (zB HB)) hk_), (Kd.freshB (g := gb189) (o := .cells #[.slice none 0 0, .slice none 0 0] 28 (0, 0)) (zK BK189) k_ hk_)⟩)) (za (zB HB))); have n2_ := zA (zai (g := gb189) (o := .cells #[.slice none 0 0, .slice none 0 0] 28 (0, 0)) (zK BK189) hb); have n3_ := zA (zaa (zB HB) hb); clear BK189 HB; have HO192 := n0_; have HO195 := n1_; have BK189 := n2_; have HB := n3_; clear n0_ n1_ n2_ n3_; (try clear hb); (try clear hb2); (try clear hk); (try clear hi); (try clear ho0); (try clear ho1); obtain ⟨Ao9, co9, eo9⟩ := Kd.za6 HO192.out; subst eo9; have hcz10_0 : w8.cell? ⟨gb189, 0, none⟩ = some (.slice none 0 0) := (zad BK189.out 0).trans rfl; have hcz10_1 : w8.cell? ⟨gb189, 1, none⟩ = some (.slice none 0 0) := (zad BK189.out 1).trans rfl; have hfz10_0 := zat BK189.out 0; have hfz10_1 := zat BK189.out 1; obtain ⟨Ao11, co11, eo11⟩ := Kd.za6 HO195.out; subst eo11))
  refine bodyPost_ret (results_ct rfl _ _ gb189 28 #[.slice Ao9 t190.length co9, .slice Ao11 t193.length co11] (0, 0) _ rfl (by (with_reducible repeat (first | refine zao ?_ _ | refine zar ?_ | refine zah ?_ _)); refine zbu (cs := #[.slice Ao9 t190.length co9, .slice none 0 0]) ?_ 1 _ rfl; (with_reducible repeat (first | refine zao ?_ _ | refine zar ?_ | refine zah ?_ _)); refine zbu (cs := #[.slice none 0 0, .slice none 0 0]) ?_ 0 _ rfl; (with_reducible repeat (first | refine zao ?_ _ | refine zar ?_ | refine zah ?_ _)); exact BK189.out) Tryd.underlying28 rfl (by kernel_rfl)) rfl ?_
  exact ⟨_, _, zW, by (with_reducible repeat (first | apply Kd.zbw | apply Kd.zbv | apply Kd.zbz)); exact Kd.zas (Kd.V_far (p := ⟨gb189, 1, none⟩) (Kd.V_far (p := ⟨gb189, 0, none⟩) (Kd.zas HO192.out (fun k_ hk => (⟨hk, hk.2⟩ : _ ∧ k_ ≠ gb189))) (fun _ hk => hk.2) (.slice Ao9 t190.length co9)) (fun _ hk => hk.2) (.slice Ao11 t193.length co11)) (fun _ hk => hk.1.1), by (with_reducible repeat (first | apply Kd.zbw | apply Kd.zbv | apply Kd.zbz)); exact Kd.zas (Kd.V_far (p := ⟨gb189, 1, none⟩) (Kd.V_far (p := ⟨gb189, 0, none⟩) (Kd.zas HO195.out (fun k_ hk => (⟨hk, hk.2⟩ : _ ∧ k_ ≠ gb189))) (fun _ hk => hk.2) (.slice Ao9 t190.length co9)) (fun _ hk => hk.2) (.slice Ao11 t193.length co11)) (fun _ hk => hk.1.1), zB HB⟩
def bits_Mul64.f (a0 : Int) (a1 : Int) : Option (Int × Int) := some (IntKind.u64.wrap ((IntKind.u64.wrap ((IntKind.u64.wrap ((a0 / 4294967296) * (a1 / 4294967296))) + ((IntKind.u64.wrap ((IntKind.u64.wrap ((a0 / 4294967296) * (Go.bits .and .u64 a1 4294967295))) + ((IntKind.u64.wrap ((Go.bits .and .u64 a0 4294967295) * (Go.bits .and .u64 a1 4294967295))) / 4294967296))) / 4294967296))) + ((IntKind.u64.wrap ((Go.bits .and .u64 (IntKind.u64.wrap ((IntKind.u64.wrap ((a0 / 4294967296) * (Go.bits .and .u64 a1 4294967295))) + ((IntKind.u64.wrap ((Go.bits .and .u64 a0 4294967295) * (Go.bits .and .u64 a1 4294967295))) / 4294967296))) 4294967295) + (IntKind.u64.wrap ((Go.bits .and .u64 a0 4294967295) * (a1 / 4294967296))))) / 4294967296)), IntKind.u64.wrap (a0 * a1))
theorem bits_Mul64.calls (a0 : Int) (a1 : Int) (r1 : Int) (r2 : Int) (w : World) (h : bits_Mul64.f a0 a1 = some (r1, r2)) :
  Calls Tryd.prog 87 #[.int .u64 a0, .int .u64 a1] w fun e w' => e = .returned (.tuple #[.int .u64 r1, .int .u64 r2]) ∧ Drawn0 w w' := by
 have H : (some (IntKind.u64.wrap ((IntKind.u64.wrap ((IntKind.u64.wrap ((a0 / 4294967296) * (a1 / 4294967296))) + ((IntKind.u64.wrap ((IntKind.u64.wrap ((a0 / 4294967296) * (Go.bits .and .u64 a1 4294967295))) + ((IntKind.u64.wrap ((Go.bits .and .u64 a0 4294967295) * (Go.bits .and .u64 a1 4294967295))) / 4294967296))) / 4294967296))) + ((IntKind.u64.wrap ((Go.bits .and .u64 (IntKind.u64.wrap ((IntKind.u64.wrap ((a0 / 4294967296) * (Go.bits .and .u64 a1 4294967295))) + ((IntKind.u64.wrap ((Go.bits .and .u64 a0 4294967295) * (Go.bits .and .u64 a1 4294967295))) / 4294967296))) 4294967295) + (IntKind.u64.wrap ((Go.bits .and .u64 a0 4294967295) * (a1 / 4294967296))))) / 4294967296)), IntKind.u64.wrap (a0 * a1))) = some (r1, r2) := h
 clear h
 simp only [Option.some.injEq, Prod.mk.injEq] at H
 obtain ⟨rfl, rfl⟩ := H
 go_enter Tryd.func87, Tryd.ntmps87
 go_wp2
 go_ret2
 exact ⟨zF, by repeat (first | exact Drawn0.refl _ | apply Drawn0.step)⟩
def bits_Add64.f (x y c : Int) : Option (Int × Int) := if c ≤ 1 then some (((x.toNat + y.toNat + c.toNat) % 18446744073709551616 : Nat), ((x.toNat + y.toNat + c.toNat) / 18446744073709551616 : Nat)) else none
def bits_Add64.entry : Array Value → Sem Value := fun args => do
 let (x, y, c) ← Extern.MathBitsCarry.three "Add64" args
 pure (Extern.MathBitsCarry.pair ((x + y + c) % Extern.MathBitsCarry.m64) ((x + y + c) / Extern.MathBitsCarry.m64))
theorem bits_Add64.run_entry (x y c : Int) (hc : c ≤ 1) (w : World) : (bits_Add64.entry #[.int .u64 x, .int .u64 y, .int .u64 c]).run Tryd.prog w = .ok (.tuple #[.int .u64 ((x.toNat + y.toNat + c.toNat) % 18446744073709551616 : Nat), .int .u64 ((x.toNat + y.toNat + c.toNat) / 18446744073709551616 : Nat)]) w := by
 rcases c with n | n
 ·
  match n, hc with
  | 0, _ => rfl
  | 1, _ => rfl
  | n + 2, hc => exact absurd hc (by simp; omega)
 ·
  rfl
theorem bits_Add64.run {W : World} {x y c r1 r2 : Int} (h : bits_Add64.f x y c = some (r1, r2)) : (callFunc 88 #[.int .u64 x, .int .u64 y, .int .u64 c]).run Tryd.prog W = .ok (.value (.tuple #[.int .u64 r1, .int .u64 r2])) W := by
 unfold bits_Add64.f at h
 split at h
 ·
  rename_i hc
  injection h with h
  injection h with h1 h2
  subst h1; subst h2
  rw [run_callFunc_extern Tryd.func88 (by kernel_rfl) (by kernel_rfl) (by kernel_rfl) (e := bits_Add64.entry) (by kernel_rfl), bits_Add64.run_entry x y c hc]
  rfl
 ·
  cases h
mutual
def za2.l0 : Nat → List Int → List Int → List Int → Int → Int → Option (List Int)
 | 0, _, _, _, _, _ => none
 | k + 1, x1, x5, x20, x21, x22 => if x22 < x21 then (if 0 ≤ x22 then (if x22 < (x20.length : Int) then (za2.l1 k x1 x5 x22 (rd x20 x22) 0 x20 x21 x22 x1 (x1.length : Int) 0) else (none)) else (none)) else ((zau.f k x5).bind fun t549 => (some t549))
def za2.l1 : Nat → List Int → List Int → Int → Int → Int → List Int → Int → Int → List Int → Int → Int → Option (List Int)
 | 0, _, _, _, _, _, _, _, _, _, _, _ => none
 | k + 1, x1, x5, x6, x7, x8, x20, x21, x22, x27, x28, x29 => if x29 < x28 then (if 0 ≤ x29 then (if x29 < (x27.length : Int) then ((bits_Mul64.f x7 (rd x27 x29)).bind fun bt554 => (if 0 ≤ (wrap64 (x6 + x29)) then (if (wrap64 (x6 + x29)) < (x5.length : Int) then ((bits_Add64.f bt554.2 (rd x5 (wrap64 (x6 + x29))) 0).bind fun bt557 => ((bits_Add64.f bt557.1 x8 0).bind fun bt559 => (za2.l1 k x1 (x5.set ((wrap64 (x6 + x29)) : Int).toNat bt559.1) x6 x7 (IntKind.u64.wrap ((IntKind.u64.wrap (bt554.1 + bt557.2)) + bt559.2)) x20 x21 x22 x27 x28 (wrap64 (x29 + 1))))) else (none)) else (none))) else (none)) else (none)) else (if 0 ≤ (wrap64 (x6 + (x1.length : Int))) then (if (wrap64 (x6 + (x1.length : Int))) < (x5.length : Int) then (za2.l0 k x1 (x5.set ((wrap64 (x6 + (x1.length : Int))) : Int).toNat x8) x20 x21 (wrap64 (x22 + 1))) else (none)) else (none))
end
def za2.f (k : Nat) (l0 : List Int) (l1 : List Int) : Option (List Int) := if 0 ≤ (wrap64 ((l0.length : Int) + (l1.length : Int))) then (if (wrap64 ((l0.length : Int) + (l1.length : Int)) : Int).toNat ≤ 35184372088832 then (za2.l0 k l1 (List.replicate (wrap64 ((l0.length : Int) + (l1.length : Int)) : Int).toNat 0) l0 (l0.length : Int) 0) else (none)) else (none)
theorem za2.zcj : ∀ k, (∀ y0 y1 y2 y3 y4, LeO (za2.l0 k y0 y1 y2 y3 y4) (za2.l0 (k + 1) y0 y1 y2 y3 y4)) ∧ (∀ y0 y1 y2 y3 y4 y5 y6 y7 y8 y9 y10, LeO (za2.l1 k y0 y1 y2 y3 y4 y5 y6 y7 y8 y9 y10) (za2.l1 (k + 1) y0 y1 y2 y3 y4 y5 y6 y7 y8 y9 y10))
 | 0 => ⟨fun _ _ _ _ _ r h => by simp [za2.l0] at h, fun _ _ _ _ _ _ _ _ _ _ _ r h => by simp [za2.l1] at h⟩
 | k + 1 => by
  obtain ⟨ih0, ih1⟩ := za2.zcj k
  refine ⟨?_, ?_⟩
  ·
   intro y0 y1 y2 y3 y4
   unfold za2.l0
   repeat' first
   | (with_reducible exact ih0 _ _ _ _ _)
   | (with_reducible exact ih1 _ _ _ _ _ _ _ _ _ _ _)
   | (with_reducible exact zau.mono _ _)
   | (with_reducible exact LeO.refl _)
   | (with_reducible exact LeO.none _)
   | (with_reducible refine LeO.ite ?_ ?_)
   | (with_reducible refine LeO.bind ?_ (fun _ => ?_))
   | exact ih0 _ _ _ _ _
   | exact ih1 _ _ _ _ _ _ _ _ _ _ _
   | exact zau.mono _ _
   | exact LeO.none _
   | refine LeO.ite ?_ ?_
   | refine LeO.bind ?_ (fun _ => ?_)
  ·
   intro y0 y1 y2 y3 y4 y5 y6 y7 y8 y9 y10
   unfold za2.l1
   repeat' first
   | (with_reducible exact ih0 _ _ _ _ _)
   | (with_reducible exact ih1 _ _ _ _ _ _ _ _ _ _ _)
   | (with_reducible exact zau.mono _ _)
   | (with_reducible exact LeO.refl _)
   | (with_reducible exact LeO.none _)
   | (with_reducible refine LeO.ite ?_ ?_)
   | (with_reducible refine LeO.bind ?_ (fun _ => ?_))
   | exact ih0 _ _ _ _ _
   | exact ih1 _ _ _ _ _ _ _ _ _ _ _
   | exact zau.mono _ _
   | exact LeO.none _
   | refine LeO.ite ?_ ?_
   | refine LeO.bind ?_ (fun _ => ?_)
theorem za2.mono : ∀ a0 a1 k, LeO (za2.f k a0 a1) (za2.f (k + 1) a0 a1) := by
 intro a0 a1 k
 obtain ⟨ih0, ih1⟩ := za2.zcj k
 unfold za2.f
 repeat' first
   | (with_reducible exact ih0 _ _ _ _ _)
   | (with_reducible exact ih1 _ _ _ _ _ _ _ _ _ _ _)
   | (with_reducible exact zau.mono _ _)
   | (with_reducible exact LeO.refl _)
   | (with_reducible exact LeO.none _)
   | (with_reducible refine LeO.ite ?_ ?_)
   | (with_reducible refine LeO.bind ?_ (fun _ => ?_))
   | exact ih0 _ _ _ _ _
   | exact ih1 _ _ _ _ _ _ _ _ _ _ _
   | exact zau.mono _ _
   | exact LeO.none _
   | refine LeO.ite ?_ ?_
   | refine LeO.bind ?_ (fun _ => ?_)
theorem za2.calls (k : Nat) (A0 : Option Addr) (c0 : Nat) (l0 : List Int) (A1 : Option Addr) (c1 : Nat) (l1 : List Int) (r : List Int) (w : World) (hr0 : Kd.C (Kd.int .u64) w A0 l0.length l0) (hc0 : l0.length ≤ c0) (hr1 : Kd.C (Kd.int .u64) w A1 l1.length l1) (hc1 : l1.length ≤ c1) (h : za2.f k l0 l1 = some r) :
  Calls Tryd.prog 61 #[.slice A0 l0.length c0, .slice A1 l1.length c1] w fun e w' => ∃ v0_ : Value, e = .returned (v0_) ∧ Kd.V (Kd.int .u64) 57 w' w.heap.size (fun k_ => (w.heap.size ≤ k_)) v0_ r ∧ Below w.heap.size w w' := by
 have HR0 := zA hr0
 have HC0 := zA hc0
 clear hr0 hc0
 have HR1 := zA hr1
 have HC1 := zA hc1
 clear hr1 hc1
 have HB := zA (Below.refl w.heap.size w)
 have H : (if 0 ≤ (wrap64 ((l0.length : Int) + (l1.length : Int))) then (if (wrap64 ((l0.length : Int) + (l1.length : Int)) : Int).toNat ≤ 35184372088832 then (za2.l0 k l1 (List.replicate (wrap64 ((l0.length : Int) + (l1.length : Int)) : Int).toNat 0) l0 (l0.length : Int) 0) else (none)) else (none)) = some r := h
 clear h
 obtain ⟨ji3, hji3⟩ : ∃ j_ : Int, (wrap64 ((l0.length : Int) + (l1.length : Int))) = j_ := ⟨_, rfl⟩
 replace H : (if 0 ≤ (ji3) then (if (ji3 : Int).toNat ≤ 35184372088832 then (za2.l0 k l1 (List.replicate (ji3 : Int).toNat 0) l0 (l0.length : Int) 0) else (none)) else (none)) = some r := by first | (rw [hji3] at H; exact H) | (simp only [hji3] at H ⊢; exact H)
 have hji3w : (IntKind.i64.wrap ((l0.length : Int) + (l1.length : Int))) = ji3 := (i64_w _).trans hji3
 by_cases c4 : 0 ≤ (ji3)
 ·
  rw [if_pos c4] at H
  have c4b0 := eq_true c4
  have c4b1 : decide (0 ≤ (ji3)) = true := decide_eq_true c4
  clear c4
  by_cases c5 : (ji3 : Int).toNat ≤ 35184372088832
  ·
   rw [if_pos c5] at H
   have c5b0 := eq_true c5
   have c5b1 : decide ((ji3 : Int).toNat ≤ 35184372088832) = true := decide_eq_true c5
   clear c5
   obtain ⟨y546, hy546⟩ : ∃ y_ : List Int, y_ = (List.replicate (ji3 : Int).toNat 0) := ⟨_, rfl⟩
   replace H : (za2.l0 k l1 y546 l0 (l0.length : Int) 0) = some r := by first | (rw [hy546]; with_reducible exact H) | (have H2_ := (Option.bind_some _ _).symm.trans H; rw [hy546]; with_reducible exact H2_) | (have H2_ := (Option.bind_some _ _).symm.trans H; with_reducible exact H2_) | with_reducible exact H | (rw [hy546]; exact H) | exact H
   have Ny546 := zA hy546
   clear hy546
   have H' := zA H
   clear H
   go_enter Tryd.func61, Tryd.ntmps61
   go_wp2_with (first | ((with_reducible refine zbf (N := 19) rfl ?_); refine Kd.R_make (Kd.int .u64) _ 57 rfl (N := 19) rfl 26 _ _ rfl ji3 rfl rfl Tryd.underlying26 (.int .u64 0) 8 info57 rfl (by decide) (by omega) 0 (ok := fun _ => True) (okp := fun _ => True) rfl (fun _ hk => hk) trivial (of_decide_eq_true (by first | (with_reducible assumption) | assumption)) (Nat.le_trans (Nat.mul_le_mul_right _ (of_decide_eq_true (by first | (with_reducible assumption) | assumption) : ji3.toNat ≤ 35184372088832)) (by omega)) (Below.refl _ _) (Nat.le_refl _) ?_; intro v547 w6 ho7 hb hg_ hnew_; clear hg_ hnew_; (first | rw [← Ny546.out] at ho7 | (simp only [Int.reduceToNat] at ho7; rw [← Ny546.out] at ho7)); have n0_ := zA (Kd.zb3 (Kd.R_newM (M := fun k_ => (w.heap.size ≤ k_)) ho7 (za (zB HB)) (fun k_ h_ => h_)) (za (zB HB))); have n1_ := zA (zaa (zB HB) hb); clear HB; have HO548 := n0_; have HB := n1_; clear n0_ n1_ hb ho7))
   go_loopg [22] k (fun kq v22 w' => ∃ (x5_1 : List Int) (x22_1 : Int), v22 = .int .i64 x22_1 ∧ Aside0 (za2.l0 kq l1 x5_1 l0 (l0.length : Int) x22_1 = some r) ∧ Aside0 (kq ≤ k) ∧ Aside0 (Kd.R (Kd.int .u64) 57 w' w.heap.size (fun k_ => (w.heap.size ≤ k_)) v547 x5_1) ∧ Aside0 (Below w.heap.size w w'))
   case atStart => exact ⟨(y546), (0), (zF), H', ⟨Nat.le_refl _⟩, ⟨by (with_reducible repeat (first | apply Kd.zca | apply Kd.zcb | apply Kd.zcn)); exact Kd.zbn HO548.out (fun _ hk => hk.1)⟩, ⟨zB HB⟩⟩
   case round =>
    clear H'
    try clear c1
    try clear p2
    try clear c4
    try clear c4b0
    try clear c4b1
    try clear c5
    try clear c5b0
    try clear c5b1
    try clear c6
    try clear p6
    obtain ⟨x5_1, x22_1, rfl, HA, HK1, HO_5, HB⟩ := hrel
    cases gk with
    | zero => exact absurd HA.out (by simp [za2.l0])
    | succ k1 =>
     have H := HA.out
     clear HA
     simp only [za2.l0] at H
     by_cases c8 : x22_1 < (l0.length : Int)
     ·
      rw [if_pos c8] at H
      have c8b0 : decide (x22_1 < (l0.length : Int)) = true := decide_eq_true c8
      clear c8
      by_cases c9 : 0 ≤ x22_1
      ·
       rw [if_pos c9] at H
       have c9b0 : decide (0 ≤ x22_1) = true := decide_eq_true c9
       clear c9
       by_cases c10 : x22_1 < (l0.length : Int)
       ·
        rw [if_pos c10] at H
        have c10b0 : decide (x22_1 < (l0.length : Int)) = true := decide_eq_true c10
        clear c10
        have H' := zA H
        clear H
        have p552 : 0 ≤ (x22_1 : Int) := of_decide_eq_true (by first | (with_reducible assumption) | assumption)
        have q552 : x22_1 < (l0.length : Int) := of_decide_eq_true (by first | (with_reducible assumption) | assumption)
        obtain ⟨ad552, e552, hx552_0⟩ := Kd.at_int HR0.out x22_1 p552 q552
        cases e552
        replace hx552_0 := (HB.out.cell (World.block_lt_of_cell? w _ hx552_0)).trans hx552_0
        replace p552 := eq_true p552
        replace q552 := eq_true q552
        go_wp2
        go_loopg [8, 29] k1 (fun kq v8 v29 w' => ∃ (x5_2 : List Int) (x8_2 : Int) (x29_2 : Int), v8 = .int .u64 x8_2 ∧ v29 = .int .i64 x29_2 ∧ Aside0 (za2.l1 kq l1 x5_2 x22_1 (rd l0 x22_1) x8_2 l0 (l0.length : Int) x22_1 l1 (l1.length : Int) x29_2 = some r) ∧ Aside0 (kq ≤ k1) ∧ Aside0 (Kd.R (Kd.int .u64) 57 w' w.heap.size (fun k_ => (w.heap.size ≤ k_)) v547 x5_2) ∧ Aside0 (Below w.heap.size w w'))
        case atStart => exact ⟨(x5_1), (0), (0), (zF), (zF), H', ⟨Nat.le_refl _⟩, ⟨zR HO_5⟩, ⟨zB HB⟩⟩
        case round =>
         clear H'
         try clear c1
         try clear p2
         try clear c4
         try clear c4b0
         try clear c4b1
         try clear c5
         try clear c5b0
         try clear c5b1
         try clear p5
         try clear q5
         try clear hx5
         try clear c6
         try clear p6
         try clear c8
         try clear c8b0
         try clear c9
         try clear c9b0
         try clear c10
         try clear c10b0
         try clear hx552_0
         try clear p2
         try clear p552
         try clear p6
         try clear q552
         obtain ⟨x5_2, x8_2, x29_2, rfl, rfl, HA, HK2, HO_5, HB⟩ := hrel
         cases gk with
         | zero => exact absurd HA.out (by simp [za2.l1])
         | succ k2 =>
          have H := HA.out
          clear HA
          simp only [za2.l1] at H
          by_cases c11 : x29_2 < (l1.length : Int)
          ·
           rw [if_pos c11] at H
           have c11b0 : decide (x29_2 < (l1.length : Int)) = true := decide_eq_true c11
           clear c11
           by_cases c12 : 0 ≤ x29_2
           ·
            rw [if_pos c12] at H
            have c12b0 : decide (0 ≤ x29_2) = true := decide_eq_true c12
            clear c12
            by_cases c13 : x29_2 < (l1.length : Int)
            ·
             rw [if_pos c13] at H
             have c13b0 : decide (x29_2 < (l1.length : Int)) = true := decide_eq_true c13
             clear c13
             replace H := zO H
             obtain ⟨⟨t554, t555⟩, A140, H⟩ := H
             try dsimp only at H
             have A14 := zA A140
             clear A140
             obtain ⟨ji15, hji15⟩ : ∃ j_ : Int, (wrap64 (x22_1 + x29_2)) = j_ := ⟨_, rfl⟩
             replace H : (if 0 ≤ (ji15) then (if (ji15) < (x5_2.length : Int) then ((bits_Add64.f t555 (rd x5_2 (ji15)) 0).bind fun bt557 => ((bits_Add64.f bt557.1 x8_2 0).bind fun bt559 => (za2.l1 k2 l1 (x5_2.set ((ji15) : Int).toNat bt559.1) x22_1 (rd l0 x22_1) (IntKind.u64.wrap ((IntKind.u64.wrap (t554 + bt557.2)) + bt559.2)) l0 (l0.length : Int) x22_1 l1 (l1.length : Int) (wrap64 (x29_2 + 1))))) else (none)) else (none)) = some r := by first | (rw [hji15] at H; exact H) | (simp only [hji15] at H ⊢; exact H)
             (try rw [hji15] at A14)
             have hji15w : (IntKind.i64.wrap (x22_1 + x29_2)) = ji15 := (i64_w _).trans hji15
             by_cases c16 : 0 ≤ (ji15)
             ·
              rw [if_pos c16] at H
              have c16b0 : decide (0 ≤ (ji15)) = true := decide_eq_true c16
              clear c16
              by_cases c17 : (ji15) < (x5_2.length : Int)
              ·
               rw [if_pos c17] at H
               have c17b0 : decide ((ji15) < (x5_2.length : Int)) = true := decide_eq_true c17
               clear c17
               replace H := zO H
               obtain ⟨⟨t557, t558⟩, A180, H⟩ := H
               try dsimp only at H
               have A18 := fun W_ => bits_Add64.run (W := W_) A180
               clear A180
               replace H := zO H
               obtain ⟨⟨t559, t560⟩, A190, H⟩ := H
               try dsimp only at H
               have A19 := fun W_ => bits_Add64.run (W := W_) A190
               clear A190
               obtain ⟨y561, hy561⟩ : ∃ y_ : List Int, y_ = (x5_2.set ((ji15) : Int).toNat t559) := ⟨_, rfl⟩
               replace H : (za2.l1 k2 l1 y561 x22_1 (rd l0 x22_1) (IntKind.u64.wrap ((IntKind.u64.wrap (t554 + t558)) + t560)) l0 (l0.length : Int) x22_1 l1 (l1.length : Int) (wrap64 (x29_2 + 1))) = some r := by first | (rw [hy561]; with_reducible exact H) | (have H2_ := (Option.bind_some _ _).symm.trans H; rw [hy561]; with_reducible exact H2_) | (have H2_ := (Option.bind_some _ _).symm.trans H; with_reducible exact H2_) | with_reducible exact H | (rw [hy561]; exact H) | exact H
               have Ny561 := zA hy561
               clear hy561
               have H' := zA H
               clear H
               have p553 : 0 ≤ (x29_2 : Int) := of_decide_eq_true (by first | (with_reducible assumption) | assumption)
               have q553 : x29_2 < (l1.length : Int) := of_decide_eq_true (by first | (with_reducible assumption) | assumption)
               obtain ⟨ad553, e553, hx553_0⟩ := Kd.at_int HR1.out x29_2 p553 q553
               cases e553
               replace hx553_0 := (HB.out.cell (World.block_lt_of_cell? w _ hx553_0)).trans hx553_0
               replace p553 := eq_true p553
               replace q553 := eq_true q553
               go_wp2_with (first | ((with_reducible refine zac (f := 87) rfl ?_); refine za0 (some 37) rfl rfl Tryd.func87 (by kernel_rfl) rfl #[.int .u64 (rd l0 x22_1), .int .u64 (rd l1 x29_2)] rfl (zE) ?_; (with_reducible refine (bits_Mul64.calls (rd l0 x22_1) (rd l1 x29_2) t554 t555 _ A14.out).mono ?_); rintro e w' ⟨rfl, ⟨nd, rfl⟩⟩; refine ⟨_, rfl, ?_⟩; (try (rw [drewN_self wr]; generalize hq_ : World.drewN wr _ = wr; have n0_ : Aside0 (Kd.R (Kd.int .u64) 57 wr w.heap.size (fun k_ => (w.heap.size ≤ k_)) v547 x5_2) := ⟨by rw [← hq_]; exact (zR HO_5)⟩; have n1_ : Aside0 (Below w.heap.size w wr) := ⟨by rw [← hq_]; exact (zB HB)⟩; clear HO_5 HB hq_; have HO_5 := n0_; have HB := n1_; clear n0_ n1_)); obtain ⟨Ao21, co21, eo21⟩ := Kd.zbt HO_5.out; subst eo21; have p556 : 0 ≤ ((ji15) : Int) := of_decide_eq_true (by first | (with_reducible assumption) | assumption); have q556 : (ji15) < (x5_2.length : Int) := of_decide_eq_true (by first | (with_reducible assumption) | assumption); obtain ⟨ad556, e556, hx556_0⟩ := Kd.at_int (Kd.za9 HO_5.out).2.2 (ji15) p556 q556; cases e556; replace p556 := eq_true p556; replace q556 := eq_true q556; have p20 : 0 ≤ ((ji15) : Int) := of_decide_eq_true (by first | (with_reducible assumption) | assumption); have q20 : ((ji15) : Int) < ((x5_2.length : Int) : Int) := of_decide_eq_true (by first | (with_reducible assumption) | assumption); obtain ⟨go20, co20, eo20, gb20, gl20, cl20, HG20⟩ := Kd.R_form HO_5.out (by omega); (first | cases eo20 | (injection eo20 with ea_ en_ ec_; (first | subst ea_ | (injection ea_ with ea_; subst ea_)); subst ec_; clear en_)); have GB20 := zA gb20; have GG20 := zA HG20; clear gb20 gl20 HG20; (first | simp only [add_plain] at hx556_0 | skip); obtain ⟨hx20_0, hf20_0⟩ := Kd.zc0 0 HO_5.out ((ji15) : Int) p20 q20; replace p20 := eq_true p20; replace q20 := eq_true q20; obtain ⟨hy22_, hz22_⟩ := Kd.zc0 0 HO_5.out ((ji15) : Int) (of_decide_eq_true (by first | (with_reducible assumption) | assumption)) (of_decide_eq_true (by first | (with_reducible assumption) | assumption)); have HP22 := Kd.R_putg HO_5.out ((ji15) : Int) t559) | ((with_reducible refine zc1 (t := 57) (p := 68) rfl ?_); refine zct (t := 57) (p := 68) (v := ?vo_w23) (w1 := (wr.setCell ⟨go20, ((ji15) : Int).toNat, none⟩ (.int .u64 t559))) ?hg ?ho ?hn ?hr ?_; (case ho => rfl); (case hg => rfl); (case hn => rfl); (case hr => first | (go_simp; done) | (go_simp; rfl)); intro w23 hw; have hg : wr.grownBy w23 (some go20) := (by rw [hw]; exact HP22.2); have hp_ : Kd.R (Kd.int .u64) 57 w23 w.heap.size (fun k_ => (w.heap.size ≤ k_)) (.slice (some ⟨go20, 0, none⟩) x5_2.length co21) y561 := (by rw [hw, Ny561.out]; exact HP22.1); clear HP22; have n0_ := zA (hp_); have n1_ := zA ((by rw [hw]; exact zc5 (HB.out) GB20.out : Below w.heap.size w w23)); clear HO_5 HB; have HO_5 := n0_; have HB := n1_; clear n0_ n1_ hg hw hp_))
               go_roundg k2
               case measure => have := HK1.out; have := HK2.out; omega
               case rel => exact ⟨(y561), (IntKind.u64.wrap ((IntKind.u64.wrap (t554 + t558)) + t560)), (wrap64 (x29_2 + 1)), (zF), (zF), H', ⟨by have := HK1.out; have := HK2.out; omega⟩, ⟨zR HO_5⟩, ⟨zB HB⟩⟩
              ·
               rw [if_neg c17] at H
               exact absurd H (by simp)
             ·
              rw [if_neg c16] at H
              exact absurd H (by simp)
            ·
             rw [if_neg c13] at H
             exact absurd H (by simp)
           ·
            rw [if_neg c12] at H
            exact absurd H (by simp)
          ·
           rw [if_neg c11] at H
           have c11b0 : decide (x29_2 < (l1.length : Int)) = false := decide_eq_false c11
           clear c11
           obtain ⟨ji24, hji24⟩ : ∃ j_ : Int, (wrap64 (x22_1 + (l1.length : Int))) = j_ := ⟨_, rfl⟩
           replace H : (if 0 ≤ (ji24) then (if (ji24) < (x5_2.length : Int) then (za2.l0 k2 l1 (x5_2.set ((ji24) : Int).toNat x8_2) l0 (l0.length : Int) (wrap64 (x22_1 + 1))) else (none)) else (none)) = some r := by first | (rw [hji24] at H; exact H) | (simp only [hji24] at H ⊢; exact H)
           have hji24w : (IntKind.i64.wrap (x22_1 + (l1.length : Int))) = ji24 := (i64_w _).trans hji24
           by_cases c25 : 0 ≤ (ji24)
           ·
            rw [if_pos c25] at H
            have c25b0 : decide (0 ≤ (ji24)) = true := decide_eq_true c25
            clear c25
            by_cases c26 : (ji24) < (x5_2.length : Int)
            ·
             rw [if_pos c26] at H
             have c26b0 : decide ((ji24) < (x5_2.length : Int)) = true := decide_eq_true c26
             clear c26
             obtain ⟨y562, hy562⟩ : ∃ y_ : List Int, y_ = (x5_2.set ((ji24) : Int).toNat x8_2) := ⟨_, rfl⟩
             replace H : (za2.l0 k2 l1 y562 l0 (l0.length : Int) (wrap64 (x22_1 + 1))) = some r := by first | (rw [hy562]; with_reducible exact H) | (have H2_ := (Option.bind_some _ _).symm.trans H; rw [hy562]; with_reducible exact H2_) | (have H2_ := (Option.bind_some _ _).symm.trans H; with_reducible exact H2_) | with_reducible exact H | (rw [hy562]; exact H) | exact H
             have Ny562 := zA hy562
             clear hy562
             have H' := zA H
             clear H
             have p27 : 0 ≤ ((ji24) : Int) := of_decide_eq_true (by first | (with_reducible assumption) | assumption)
             have q27 : ((ji24) : Int) < ((x5_2.length : Int) : Int) := of_decide_eq_true (by first | (with_reducible assumption) | assumption)
             obtain ⟨go27, co27, eo27, gb27, gl27, cl27, HG27⟩ := Kd.R_form HO_5.out (by omega)
             (first | cases eo27 | (injection eo27 with ea_ en_ ec_; (first | subst ea_ | (injection ea_ with ea_; subst ea_)); subst ec_; clear en_))
             have GB27 := zA gb27
             have GG27 := zA HG27
             clear gb27 gl27 HG27
             obtain ⟨hx27_0, hf27_0⟩ := Kd.zc0 0 HO_5.out ((ji24) : Int) p27 q27
             replace p27 := eq_true p27
             replace q27 := eq_true q27
             have HP28 := Kd.R_putg HO_5.out ((ji24) : Int) x8_2
             go_wp2_with (first | ((with_reducible refine zc1 (t := 57) (p := 76) rfl ?_); refine zct (t := 57) (p := 76) (v := ?vo_w29) (w1 := (wr.setCell ⟨go27, ((ji24) : Int).toNat, none⟩ (.int .u64 x8_2))) ?hg ?ho ?hn ?hr ?_; (case ho => rfl); (case hg => rfl); (case hn => rfl); (case hr => first | (go_simp; done) | (go_simp; rfl)); intro w29 hw; have hg : wr.grownBy w29 (some go27) := (by rw [hw]; exact HP28.2); have hp_ : Kd.R (Kd.int .u64) 57 w29 w.heap.size (fun k_ => (w.heap.size ≤ k_)) (.slice (some ⟨go27, 0, none⟩) x5_2.length co27) y562 := (by rw [hw, Ny562.out]; exact HP28.1); clear HP28; have n0_ := zA (hp_); have n1_ := zA ((by rw [hw]; exact zc5 (HB.out) GB27.out : Below w.heap.size w w29)); clear HO_5 HB; have HO_5 := n0_; have HB := n1_; clear n0_ n1_ hg hw hp_))
             go_roundg k2
             case measure => have := HK1.out; have := HK2.out; omega
             case rel => exact ⟨(y562), (wrap64 (x22_1 + 1)), (zF), H', ⟨by have := HK1.out; have := HK2.out; omega⟩, ⟨zR HO_5⟩, ⟨zB HB⟩⟩
            ·
             rw [if_neg c26] at H
             exact absurd H (by simp)
           ·
            rw [if_neg c25] at H
            exact absurd H (by simp)
       ·
        rw [if_neg c10] at H
        exact absurd H (by simp)
      ·
       rw [if_neg c9] at H
       exact absurd H (by simp)
     ·
      rw [if_neg c8] at H
      have c8b0 : decide (x22_1 < (l0.length : Int)) = false := decide_eq_false c8
      clear c8
      replace H := zO H
      obtain ⟨t549, A300, H⟩ := H
      try dsimp only at H
      have A30 := zA A300
      clear A300
      obtain rfl := Option.some.inj H
      obtain ⟨Ao31, co31, eo31⟩ := Kd.zbt HO_5.out
      subst eo31
      go_wp2_with (first | ((with_reducible refine zac (f := 65) rfl ?_); refine za0 (some 79) rfl rfl Tryd.func65 (by kernel_rfl) rfl #[.slice Ao31 x5_1.length co31] rfl (zE) ?_; (with_reducible refine (zau.calls k1 (fun k_ => some k_ = (.slice Ao31 x5_1.length co31 : Value).ownBlock) _ _ x5_1 t549 _ ?side1 A30.out).mono ?_); (case side1 => exact Kd.R_V (Kd.zc3 rfl (HO_5.out))); rintro e w32 ⟨v550, rfl, ho0, hb⟩; refine ⟨_, rfl, ?_⟩; have n0_ := zA (Kd.zb5 (zR HO_5) hb); have n1_ := zA (Kd.zb (Kd.zas (ok' := fun k_ => (w.heap.size ≤ k_)) ho0 (fun k_ hk_ => Or.elim hk_ (fun hs_ => ((HO_5.out).1 k_ hs_.symm)) (fun hn_ => (Nat.le_trans (za (zB HB)) hn_)))) (za (zB HB))); have n2_ := zA (zaa (zB HB) hb); clear HO_5 HB; have HO_5 := n0_; have HO551 := n1_; have HB := n2_; clear n0_ n1_ n2_; (try clear hb); (try clear hb2); (try clear hk); (try clear hi); (try clear ho0)))
      go_ret
      exact ⟨_, by first | rfl | (simp [zbs, zbr] <;> rfl) | (simp only [← hji3]; first | rfl | (simp [zbs, zbr] <;> rfl)) | (simp [*, zbs, zbr] <;> rfl), zV HO551, zB HB⟩
  ·
   rw [if_neg c5] at H
   exact absurd H (by simp)
 ·
  rw [if_neg c4] at H
  exact absurd H (by simp)
def zb2.f (k : Nat) (l0_0 : List Int) (l0_1 : List Int) (l1_0 : List Int) (l1_1 : List Int) : Option (List Int × List Int) := (za2.f k l0_0 l1_0).bind fun t566 => ((za2.f k l0_1 l1_1).bind fun t569 => ((zba.f k t566 t569).bind fun bt572 => (some (bt572.1, bt572.2))))
theorem zb2.mono : ∀ a0 a1 a2 a3 k, LeO (zb2.f k a0 a1 a2 a3) (zb2.f (k + 1) a0 a1 a2 a3) := by
 intro a0 a1 a2 a3 k
 unfold zb2.f
 repeat' first
   | (with_reducible exact za2.mono _ _ _)
   | (with_reducible exact zba.mono _ _ _)
   | (with_reducible exact LeO.refl _)
   | (with_reducible exact LeO.none _)
   | (with_reducible refine LeO.ite ?_ ?_)
   | (with_reducible refine LeO.bind ?_ (fun _ => ?_))
   | exact za2.mono _ _ _
   | exact zba.mono _ _ _
   | exact LeO.none _
   | refine LeO.ite ?_ ?_
   | refine LeO.bind ?_ (fun _ => ?_)
def zb2.T1 : Bool × List (List Nat × List Nat) := (true, [([], []), ([0], [0]), ([], []), ([2], [2]), ([1, 3], [1, 3]), ([], []), ([5], [5]), ([], []), ([7], [7]), ([6, 8, 4], [6, 8]), ([4, 9, 9], [4, 9]), ([10, 10, 0, 1, 2, 3, 4, 5, 6, 7, 8, 9, 10], [10])])
def zb2.B1 : List Nat := [0, 1, 0, 4, 15, 0, 32, 0, 128, 511, 1023, 2047]
theorem zb2.tab1 : rtab .any (opsOf Tryd.f29 1) = zb2.T1 := by kernel_rfl
theorem zb2.bits1 : waitsOk zb2.T1.2 zb2.B1 = true := by kernel_rfl
theorem zb2.calls (k : Nat) (A0_0 : Option Addr) (c0_0 : Nat) (l0_0 : List Int) (A0_1 : Option Addr) (c0_1 : Nat) (l0_1 : List Int) (A1_0 : Option Addr) (c1_0 : Nat) (l1_0 : List Int) (A1_1 : Option Addr) (c1_1 : Nat) (l1_1 : List Int) (r1 : List Int) (r2 : List Int) (w : World) (hr0_0 : Kd.C (Kd.int .u64) w A0_0 l0_0.length l0_0) (hc0_0 : l0_0.length ≤ c0_0) (hr0_1 : Kd.C (Kd.int .u64) w A0_1 l0_1.length l0_1) (hc0_1 : l0_1.length ≤ c0_1) (hr1_0 : Kd.C (Kd.int .u64) w A1_0 l1_0.length l1_0) (hc1_0 : l1_0.length ≤ c1_0) (hr1_1 : Kd.C (Kd.int .u64) w A1_1 l1_1.length l1_1) (hc1_1 : l1_1.length ≤ c1_1) (h : zb2.f k l0_0 l0_1 l1_0 l1_1 = some (r1, r2)) :
  Calls Tryd.prog 29 #[.agg #[.slice A0_0 l0_0.length c0_0, .slice A0_1 l0_1.length c0_1], .agg #[.slice A1_0 l1_0.length c1_0, .slice A1_1 l1_1.length c1_1]] w fun e w' => ∃ v0_ v1_ : Value, e = .returned (.agg #[v0_, v1_]) ∧ Kd.V (Kd.int .u64) 57 w' w.heap.size (fun k_ => (w.heap.size ≤ k_)) v0_ r1 ∧ Kd.V (Kd.int .u64) 57 w' w.heap.size (fun k_ => (w.heap.size ≤ k_)) v1_ r2 ∧ Below w.heap.size w w' := by
 have hu28 := Tryd.underlying28
 have HR0_0 := zA hr0_0
 have HC0_0 := zA hc0_0
 clear hr0_0 hc0_0
 have HR0_1 := zA hr0_1
 have HC0_1 := zA hc0_1
 clear hr0_1 hc0_1
 have HR1_0 := zA hr1_0
 have HC1_0 := zA hc1_0
 clear hr1_0 hc1_0
 have HR1_1 := zA hr1_1
 have HC1_1 := zA hc1_1
 clear hr1_1 hc1_1
 have HB := zA (Below.refl w.heap.size w)
 have H : ((za2.f k l0_0 l1_0).bind fun t566 => ((za2.f k l0_1 l1_1).bind fun t569 => ((zba.f k t566 t569).bind fun bt572 => (some (bt572.1, bt572.2))))) = some (r1, r2) := h
 clear h
 replace H := zO H
 obtain ⟨t566, A30, H⟩ := H
 try dsimp only at H
 have A3 := zA A30
 clear A30
 replace H := zO H
 obtain ⟨t569, A40, H⟩ := H
 try dsimp only at H
 have A4 := zA A40
 clear A40
 replace H := zO H
 obtain ⟨⟨t572, t575⟩, A50, H⟩ := H
 try dsimp only at H
 have A5 := zA A50
 clear A50
 simp only [Option.some.injEq, Prod.mk.injEq] at H
 obtain ⟨rfl, rfl⟩ := H
 go_enter Tryd.func29, Tryd.ntmps29
 try go_wp2_with (first | ((with_reducible refine zbf (N := 2) rfl ?_); refine zbi ?hg (N := 2) ?hd (cs := #[.slice A0_0 l0_0.length c0_0, .slice A0_1 l0_1.length c0_1]) (t := 28) ?hr ?_; (case hd => rfl); (case hg => rfl); (case hr => first | (go_simp; done) | (go_simp; rfl)); intro gb563 hg w6 hbox hb; have n0_ := zA (zaa (zB HB) hb); have n1_ := zA (hbox); have n2_ := zA ((by rw [hg]; exact (za (zB HB)) : w.heap.size ≤ gb563)); have n3_ := zA ((by rw [hg]; exact (za (zB HB)) : w.heap.size ≤ gb563)); clear HB; have HB := n0_; have BK563 := n1_; have GW563 := n2_; have GE563 := n3_; clear n0_ n1_ n2_ n3_ hb hbox hg) | ((with_reducible refine zbf (N := 3) rfl ?_); refine zbi ?hg (N := 3) ?hd (cs := #[.slice A1_0 l1_0.length c1_0, .slice A1_1 l1_1.length c1_1]) (t := 28) ?hr ?_; (case hd => rfl); (case hg => rfl); (case hr => first | (go_simp; done) | (go_simp; rfl)); intro gb564 hg w7 hbox hb; have n0_ := zA (zai (g := gb563) (o := .cells #[.slice A0_0 l0_0.length c0_0, .slice A0_1 l0_1.length c0_1] 28 (0, 0)) (zK BK563) hb); have n1_ := zA (zaa (zB HB) hb); have n2_ := zA (hbox); have n3_ := zA ((by rw [hg]; exact (za (zB HB)) : w.heap.size ≤ gb564)); have n4_ := zA ((by rw [hg]; exact (za (zB HB)) : w.heap.size ≤ gb564)); have n5_ := zA ((by rw [hg]; exact Nat.ne_of_lt (zbq (g := gb563) (o := .cells #[.slice A0_0 l0_0.length c0_0, .slice A0_1 l0_1.length c0_1] 28 (0, 0)) (zK BK563)) : gb563 ≠ gb564)); have n6_ := zA ((by rw [hg]; exact Nat.ne_of_gt (zbq (g := gb563) (o := .cells #[.slice A0_0 l0_0.length c0_0, .slice A0_1 l0_1.length c0_1] 28 (0, 0)) (zK BK563)) : gb564 ≠ gb563)); clear BK563 HB; have BK563 := n0_; have HB := n1_; have BK564 := n2_; have GW564 := n3_; have GE564 := n4_; have NB563_564 := n5_; have NB564_563 := n6_; clear n0_ n1_ n2_ n3_ n4_ n5_ n6_ hb hbox hg) | ((with_reducible refine zbf (N := 4) rfl ?_); refine zbi ?hg (N := 4) ?hd (cs := #[.slice none 0 0, .slice none 0 0]) (t := 28) ?hr ?_; (case hd => rfl); (case hg => rfl); (case hr => first | (go_simp; done) | (go_simp; rfl)); intro gb565 hg w8 hbox hb; have n0_ := zA (zai (g := gb563) (o := .cells #[.slice A0_0 l0_0.length c0_0, .slice A0_1 l0_1.length c0_1] 28 (0, 0)) (zK BK563) hb); have n1_ := zA (zai (g := gb564) (o := .cells #[.slice A1_0 l1_0.length c1_0, .slice A1_1 l1_1.length c1_1] 28 (0, 0)) (zK BK564) hb); have n2_ := zA (zaa (zB HB) hb); have n3_ := zA (hbox); have n4_ := zA ((by rw [hg]; exact (za (zB HB)) : w.heap.size ≤ gb565)); have n5_ := zA ((by rw [hg]; exact (za (zB HB)) : w.heap.size ≤ gb565)); have n6_ := zA ((by rw [hg]; exact Nat.ne_of_lt (zbq (g := gb563) (o := .cells #[.slice A0_0 l0_0.length c0_0, .slice A0_1 l0_1.length c0_1] 28 (0, 0)) (zK BK563)) : gb563 ≠ gb565)); have n7_ := zA ((by rw [hg]; exact Nat.ne_of_gt (zbq (g := gb563) (o := .cells #[.slice A0_0 l0_0.length c0_0, .slice A0_1 l0_1.length c0_1] 28 (0, 0)) (zK BK563)) : gb565 ≠ gb563)); have n8_ := zA ((by rw [hg]; exact Nat.ne_of_lt (zbq (g := gb564) (o := .cells #[.slice A1_0 l1_0.length c1_0, .slice A1_1 l1_1.length c1_1] 28 (0, 0)) (zK BK564)) : gb564 ≠ gb565)); have n9_ := zA ((by rw [hg]; exact Nat.ne_of_gt (zbq (g := gb564) (o := .cells #[.slice A1_0 l1_0.length c1_0, .slice A1_1 l1_1.length c1_1] 28 (0, 0)) (zK BK564)) : gb565 ≠ gb564)); clear BK563 BK564 HB; have BK563 := n0_; have BK564 := n1_; have HB := n2_; have BK565 := n3_; have GW565 := n4_; have GE565 := n5_; have NB563_565 := n6_; have NB565_563 := n7_; have NB564_565 := n8_; have NB565_564 := n9_; clear n0_ n1_ n2_ n3_ n4_ n5_ n6_ n7_ n8_ n9_ hb hbox hg))
 have n0_ := zA (zar BK563.out)
 have n1_ := zA (zar BK564.out)
 have n2_ := zA (zar BK565.out)
 have n3_ := zA (zbj HB.out)
 clear BK563 BK564 BK565 HB
 have BK563 := n0_
 have BK564 := n1_
 have BK565 := n2_
 have HB := n3_
 clear n0_ n1_ n2_ n3_
 refine start_ (n := 12) (S := fun w' => w'.cell? ⟨gb563, 0, none⟩ = some (.slice A0_0 l0_0.length c0_0) ∧ w'.cell? ⟨gb563, 1, none⟩ = some (.slice A0_1 l0_1.length c0_1) ∧ w'.cell? ⟨gb564, 0, none⟩ = some (.slice A1_0 l1_0.length c1_0) ∧ w'.cell? ⟨gb564, 1, none⟩ = some (.slice A1_1 l1_1.length c1_1)) (ds := []) #[false, false, false, false, false, false, false, false, false, false, false, false] (by kernel_rfl) rfl rfl ⟨(zad BK563.out 0).trans rfl, (zad BK563.out 1).trans rfl, (zad BK564.out 0).trans rfl, (zad BK564.out 1).trans rfl⟩ (fun hHeld => ?_); refine zcw zb2.tab1 zb2.bits1 (fun HT_ HW_ => ?_)
 generalize w8.drew = w9 at BK563 BK564 BK565 HB hHeld ⊢
 refine pure_ (i := 0) (N := some 5) (v := ?_) (a' := ?_) #[true, false, false, false, false, false, false, false, false, false, false, false] rfl rfl (za5 HT_.out (by kernel_rfl)) (fun _ _ _ h => h) (Or.inl ⟨by rfl, ?_⟩) ?_ ?_
 rotate_left
 ·
  intro w'
  go_simp
  with_reducible rfl
 rotate_left
 ·
  simp only [Act.put, zs1, zs2, zs3, i64_w, i32_w]
  rfl
 refine pure_ (i := 2) (N := some 7) (v := ?_) (a' := ?_) #[true, false, true, false, false, false, false, false, false, false, false, false] rfl rfl (za5 HT_.out (by kernel_rfl)) (fun _ _ _ h => h) (Or.inl ⟨by rfl, ?_⟩) ?_ ?_
 rotate_left
 ·
  intro w'
  go_simp
  with_reducible rfl
 rotate_left
 ·
  simp only [Act.put, zs1, zs2, zs3, i64_w, i32_w]
  rfl
 refine pure_ (i := 5) (N := some 10) (v := ?_) (a' := ?_) #[true, false, true, false, false, true, false, false, false, false, false, false] rfl rfl (za5 HT_.out (by kernel_rfl)) (fun _ _ _ h => h) (Or.inl ⟨by rfl, ?_⟩) ?_ ?_
 rotate_left
 ·
  intro w'
  go_simp
  with_reducible rfl
 rotate_left
 ·
  simp only [Act.put, zs1, zs2, zs3, i64_w, i32_w]
  rfl
 refine pure_ (i := 7) (N := some 12) (v := ?_) (a' := ?_) #[true, false, true, false, false, true, false, true, false, false, false, false] rfl rfl (za5 HT_.out (by kernel_rfl)) (fun _ _ _ h => h) (Or.inl ⟨by rfl, ?_⟩) ?_ ?_
 rotate_left
 ·
  intro w'
  go_simp
  with_reducible rfl
 rotate_left
 ·
  simp only [Act.put, zs1, zs2, zs3, i64_w, i32_w]
  rfl
 refine take_ (i := 1) (N := some 6) (v := ?_) (a' := ?_) #[true, true, true, false, false, true, false, true, false, false, false, false] rfl rfl (zcf HT_.out HW_.out (by kernel_rfl)) (fun _ _ _ h => h) (Or.inl ⟨by rfl, ?_⟩) hHeld ?_ ?_
 rotate_left
 ·
  rintro w' ⟨s0, s1, s2, s3⟩
  go_simp
  with_reducible rfl
 rotate_left
 ·
  simp only [Act.put, zs1, zs2, zs3, i64_w, i32_w]
  rfl
 refine take_ (i := 3) (N := some 8) (v := ?_) (a' := ?_) #[true, true, true, true, false, true, false, true, false, false, false, false] rfl rfl (zcf HT_.out HW_.out (by kernel_rfl)) (fun _ _ _ h => h) (Or.inl ⟨by rfl, ?_⟩) hHeld ?_ ?_
 rotate_left
 ·
  rintro w' ⟨s0, s1, s2, s3⟩
  go_simp
  with_reducible rfl
 rotate_left
 ·
  simp only [Act.put, zs1, zs2, zs3, i64_w, i32_w]
  rfl
 refine take_ (i := 6) (N := some 11) (v := ?_) (a' := ?_) #[true, true, true, true, false, true, true, true, false, false, false, false] rfl rfl (zcf HT_.out HW_.out (by kernel_rfl)) (fun _ _ _ h => h) (Or.inl ⟨by rfl, ?_⟩) hHeld ?_ ?_
 rotate_left
 ·
  rintro w' ⟨s0, s1, s2, s3⟩
  go_simp
  with_reducible rfl
 rotate_left
 ·
  simp only [Act.put, zs1, zs2, zs3, i64_w, i32_w]
  rfl
 refine take_ (i := 8) (N := some 13) (v := ?_) (a' := ?_) #[true, true, true, true, false, true, true, true, true, false, false, false] rfl rfl (zcf HT_.out HW_.out (by kernel_rfl)) (fun _ _ _ h => h) (Or.inl ⟨by rfl, ?_⟩) hHeld ?_ ?_
 rotate_left
 ·
  rintro w' ⟨s0, s1, s2, s3⟩
  go_simp
  with_reducible rfl
 rotate_left
 ·
  simp only [Act.put, zs1, zs2, zs3, i64_w, i32_w]
  rfl
 refine one_ (i := 4) (N := some 9) #[true, true, true, true, true, true, true, true, true, false, false, false] rfl rfl (zcg HT_.out (by kernel_rfl)) (by decide) (fun K hK => ?_)
 refine goes_ Tryd.func61 (by kernel_rfl) rfl #[.slice A0_0 l0_0.length c0_0, .slice A1_0 l1_0.length c1_0] (by rfl) rfl rfl (zE) ?_
 with_reducible refine (za2.calls k _ _ l0_0 _ _ l1_0 t566 _ ?side1 ?side2 ?side3 ?side4 A3.out).mono ?_
 (case side1 => exact zJ (Kd.za1 HR0_0.out HB.out))
 (case side2 => exact HC0_0.out)
 (case side3 => exact zJ (Kd.za1 HR1_0.out HB.out))
 (case side4 => exact HC1_0.out)
 rintro e w10 ⟨v567, rfl, ho0, hb⟩
 refine ⟨_, rfl, ?_⟩
 have n0_ := zA (Kd.zb (Kd.zas (ok' := fun k_ => (w.heap.size ≤ k_) ∧ k_ ≠ gb563 ∧ k_ ≠ gb564 ∧ k_ ≠ gb565) ho0 (fun k_ hk_ => ⟨(Nat.le_trans (za (zB HB)) hk_), (Kd.freshB (g := gb563) (o := .cells #[.slice A0_0 l0_0.length c0_0, .slice A0_1 l0_1.length c0_1] 28 (0, 0)) (zK BK563) k_ hk_), (Kd.freshB (g := gb564) (o := .cells #[.slice A1_0 l1_0.length c1_0, .slice A1_1 l1_1.length c1_1] 28 (0, 0)) (zK BK564) k_ hk_), (Kd.freshB (g := gb565) (o := .cells #[.slice none 0 0, .slice none 0 0] 28 (0, 0)) (zK BK565) k_ hk_)⟩)) (za (zB HB)))
 have n1_ := zA (zai (g := gb563) (o := .cells #[.slice A0_0 l0_0.length c0_0, .slice A0_1 l0_1.length c0_1] 28 (0, 0)) (zK BK563) hb)
 have n2_ := zA (zai (g := gb564) (o := .cells #[.slice A1_0 l1_0.length c1_0, .slice A1_1 l1_1.length c1_1] 28 (0, 0)) (zK BK564) hb)
 have n3_ := zA (zai (g := gb565) (o := .cells #[.slice none 0 0, .slice none 0 0] 28 (0, 0)) (zK BK565) hb)
 have n4_ := zA (zaa (zB HB) hb)
 clear BK563 BK564 BK565 HB
 have HO568 := n0_
 have BK563 := n1_
 have BK564 := n2_
 have BK565 := n3_
 have HB := n4_
 clear n0_ n1_ n2_ n3_ n4_
 (try clear hb)
 (try clear hb2)
 (try clear hk)
 (try clear hi)
 (try clear ho0)
 refine hK.out _ _ ⟨(zad BK563.out 0).trans rfl, (zad BK563.out 1).trans rfl, (zad BK564.out 0).trans rfl, (zad BK564.out 1).trans rfl⟩ (fun hHeld => ?_)
 clear hK K
 refine norm_ (a' := ?_) ?_ ?_
 rotate_left
 ·
  show Act.put _ (some 9) _ = _
  simp only [Act.put, zs1, zs2, zs3, i64_w, i32_w]
  rfl
 refine one_ (i := 9) (N := some 14) #[true, true, true, true, true, true, true, true, true, true, false, false] rfl rfl (zcg HT_.out (by kernel_rfl)) (by decide) (fun K hK => ?_)
 refine goes_ Tryd.func61 (by kernel_rfl) rfl #[.slice A0_1 l0_1.length c0_1, .slice A1_1 l1_1.length c1_1] (by rfl) rfl rfl (zE) ?_
 with_reducible refine (za2.calls k _ _ l0_1 _ _ l1_1 t569 _ ?side1 ?side2 ?side3 ?side4 A4.out).mono ?_
 (case side1 => exact zJ (Kd.za1 HR0_1.out HB.out))
 (case side2 => exact HC0_1.out)
 (case side3 => exact zJ (Kd.za1 HR1_1.out HB.out))
 (case side4 => exact HC1_1.out)
 rintro e w11 ⟨v570, rfl, ho0, hb⟩
 refine ⟨_, rfl, ?_⟩
 have n0_ := zA (Kd.zaw (zV HO568) hb)
 have n1_ := zA (Kd.zb (Kd.zas (ok' := fun k_ => (w.heap.size ≤ k_) ∧ k_ ≠ gb563 ∧ k_ ≠ gb564 ∧ k_ ≠ gb565) ho0 (fun k_ hk_ => ⟨(Nat.le_trans (za (zB HB)) hk_), (Kd.freshB (g := gb563) (o := .cells #[.slice A0_0 l0_0.length c0_0, .slice A0_1 l0_1.length c0_1] 28 (0, 0)) (zK BK563) k_ hk_), (Kd.freshB (g := gb564) (o := .cells #[.slice A1_0 l1_0.length c1_0, .slice A1_1 l1_1.length c1_1] 28 (0, 0)) (zK BK564) k_ hk_), (Kd.freshB (g := gb565) (o := .cells #[.slice none 0 0, .slice none 0 0] 28 (0, 0)) (zK BK565) k_ hk_)⟩)) (za (zB HB)))
 have n2_ := zA (zai (g := gb563) (o := .cells #[.slice A0_0 l0_0.length c0_0, .slice A0_1 l0_1.length c0_1] 28 (0, 0)) (zK BK563) hb)
 have n3_ := zA (zai (g := gb564) (o := .cells #[.slice A1_0 l1_0.length c1_0, .slice A1_1 l1_1.length c1_1] 28 (0, 0)) (zK BK564) hb)
 have n4_ := zA (zai (g := gb565) (o := .cells #[.slice none 0 0, .slice none 0 0] 28 (0, 0)) (zK BK565) hb)
 have n5_ := zA (zaa (zB HB) hb)
 clear HO568 BK563 BK564 BK565 HB
 have HO568 := n0_
 have HO571 := n1_
 have BK563 := n2_
 have BK564 := n3_
 have BK565 := n4_
 have HB := n5_
 clear n0_ n1_ n2_ n3_ n4_ n5_
 (try clear hb)
 (try clear hb2)
 (try clear hk)
 (try clear hi)
 (try clear ho0)
 obtain ⟨Ao12, co12, eo12⟩ := Kd.za6 HO568.out
 (first | subst eo12 | (injection eo12 with f1_ f2_ f3_; have f4_ := f1_.symm; have f5_ := f3_.symm; clear f1_ f2_ f3_; subst f4_; subst f5_))
 obtain ⟨Ao13, co13, eo13⟩ := Kd.za6 HO571.out
 (first | subst eo13 | (injection eo13 with f1_ f2_ f3_; have f4_ := f1_.symm; have f5_ := f3_.symm; clear f1_ f2_ f3_; subst f4_; subst f5_))
 refine hK.out _ _ ⟨(zad BK563.out 0).trans rfl, (zad BK563.out 1).trans rfl, (zad BK564.out 0).trans rfl, (zad BK564.out 1).trans rfl⟩ (fun hHeld => ?_)
 clear hK K
 refine norm_ (a' := ?_) ?_ ?_
 rotate_left
 ·
  show Act.put _ (some 14) _ = _
  simp only [Act.put, zs1, zs2, zs3, i64_w, i32_w]
  rfl
 refine one_ (i := 10) (N := some 15) #[true, true, true, true, true, true, true, true, true, true, true, false] rfl rfl (zcg HT_.out (by kernel_rfl)) (by decide) (fun K hK => ?_)
 refine goes_ Tryd.func58 (by kernel_rfl) rfl #[.slice Ao12 t566.length co12, .slice Ao13 t569.length co13] (by rfl) rfl rfl (zE) ?_
 with_reducible refine (zba.calls k _ _ t566 _ _ t569 t572 t575 _ ?side1 ?side2 ?side3 ?side4 A5.out).mono ?_
 (case side1 => exact zJ (Kd.zam HO568.out).2.2)
 (case side2 => exact (Kd.zam HO568.out).2.1)
 (case side3 => exact zJ (Kd.zam HO571.out).2.2)
 (case side4 => exact (Kd.zam HO571.out).2.1)
 rintro e w14 ⟨v573, v576, rfl, ho0, ho1, hb⟩
 refine ⟨_, rfl, ?_⟩
 have n0_ := zA (Kd.zaw (zV HO568) hb)
 have n1_ := zA (Kd.zaw (zV HO571) hb)
 have n2_ := zA (Kd.zb (Kd.zas (ok' := fun k_ => (w.heap.size ≤ k_) ∧ k_ ≠ gb563 ∧ k_ ≠ gb564 ∧ k_ ≠ gb565) ho0 (fun k_ hk_ => ⟨(Nat.le_trans (za (zB HB)) hk_), (Kd.freshB (g := gb563) (o := .cells #[.slice A0_0 l0_0.length c0_0, .slice A0_1 l0_1.length c0_1] 28 (0, 0)) (zK BK563) k_ hk_), (Kd.freshB (g := gb564) (o := .cells #[.slice A1_0 l1_0.length c1_0, .slice A1_1 l1_1.length c1_1] 28 (0, 0)) (zK BK564) k_ hk_), (Kd.freshB (g := gb565) (o := .cells #[.slice none 0 0, .slice none 0 0] 28 (0, 0)) (zK BK565) k_ hk_)⟩)) (za (zB HB)))
 have n3_ := zA (Kd.zb (Kd.zas (ok' := fun k_ => (w.heap.size ≤ k_) ∧ k_ ≠ gb563 ∧ k_ ≠ gb564 ∧ k_ ≠ gb565) ho1 (fun k_ hk_ => ⟨(Nat.le_trans (za (zB HB)) hk_), (Kd.freshB (g := gb563) (o := .cells #[.slice A0_0 l0_0.length c0_0, .slice A0_1 l0_1.length c0_1] 28 (0, 0)) (zK BK563) k_ hk_), (Kd.freshB (g := gb564) (o := .cells #[.slice A1_0 l1_0.length c1_0, .slice A1_1 l1_1.length c1_1] 28 (0, 0)) (zK BK564) k_ hk_), (Kd.freshB (g := gb565) (o := .cells #[.slice none 0 0, .slice none 0 0] 28 (0, 0)) (zK BK565) k_ hk_)⟩)) (za (zB HB)))
 have n4_ := zA (zai (g := gb563) (o := .cells #[.slice A0_0 l0_0.length c0_0, .slice A0_1 l0_1.length c0_1] 28 (0, 0)) (zK BK563) hb)
 have n5_ := zA (zai (g := gb564) (o := .cells #[.slice A1_0 l1_0.length c1_0, .slice A1_1 l1_1.length c1_1] 28 (0, 0)) (zK BK564) hb)
 have n6_ := zA (zai (g := gb565) (o := .cells #[.slice none 0 0, .slice none 0 0] 28 (0, 0)) (zK BK565) hb)
 have n7_ := zA (zaa (zB HB) hb)
 clear HO568 HO571 BK563 BK564 BK565 HB
 have HO568 := n0_
 have HO571 := n1_
 have HO574 := n2_
 have HO577 := n3_
 have BK563 := n4_
 have BK564 := n5_
 have BK565 := n6_
 have HB := n7_
 clear n0_ n1_ n2_ n3_ n4_ n5_ n6_ n7_
 (try clear hb)
 (try clear hb2)
 (try clear hk)
 (try clear hi)
 (try clear ho0)
 (try clear ho1)
 obtain ⟨Ao15, co15, eo15⟩ := Kd.za6 HO574.out
 (first | subst eo15 | (injection eo15 with f1_ f2_ f3_; have f4_ := f1_.symm; have f5_ := f3_.symm; clear f1_ f2_ f3_; subst f4_; subst f5_))
 obtain ⟨Ao17, co17, eo17⟩ := Kd.za6 HO577.out
 (first | subst eo17 | (injection eo17 with f1_ f2_ f3_; have f4_ := f1_.symm; have f5_ := f3_.symm; clear f1_ f2_ f3_; subst f4_; subst f5_))
 refine hK.out _ _ ⟨(zad BK563.out 0).trans rfl, (zad BK563.out 1).trans rfl, (zad BK564.out 0).trans rfl, (zad BK564.out 1).trans rfl⟩ (fun hHeld => ?_)
 clear hK K
 refine norm_ (a' := ?_) ?_ ?_
 rotate_left
 ·
  show Act.put _ (some 15) _ = _
  simp only [Act.put, zs1, zs2, zs3, i64_w, i32_w]
  rfl
 refine one_ (i := 11) (N := none) #[true, true, true, true, true, true, true, true, true, true, true, true] rfl rfl (zcg HT_.out (by kernel_rfl)) (by decide) (fun K hK => ?_)
 have hs16 : w14.cell? ⟨gb565, 0, none⟩ = some (.slice none 0 0) := (zad BK565.out 0).trans rfl
 have hfs16 := zat BK565.out 0
 have hns16_0 := NB563_565.out
 have hns16_1 := NB564_565.out
 have hms16_0 := NB565_563.out
 have hms16_1 := NB565_564.out
 have hs18 : w14.cell? ⟨gb565, 1, none⟩ = some (.slice none 0 0) := (zad BK565.out 1).trans rfl
 have hfs18 := zat BK565.out 1
 have hns18_0 := NB563_565.out
 have hns18_1 := NB564_565.out
 have hms18_0 := NB565_563.out
 have hms18_1 := NB565_564.out
 refine skip_ (w1 := ?_) (by rfl) rfl ?_ ?_
 rotate_left
 ·
  go_simp
  rfl
 refine hK.out _ _ ⟨((cell_far (p := ⟨gb565, _, none⟩) NB563_565.out _).trans (((cell_far (p := ⟨gb565, _, none⟩) NB563_565.out _).trans (hHeld.1)))), ((cell_far (p := ⟨gb565, _, none⟩) NB563_565.out _).trans (((cell_far (p := ⟨gb565, _, none⟩) NB563_565.out _).trans (hHeld.2.1)))), ((cell_far (p := ⟨gb565, _, none⟩) NB564_565.out _).trans (((cell_far (p := ⟨gb565, _, none⟩) NB564_565.out _).trans (hHeld.2.2.1)))), ((cell_far (p := ⟨gb565, _, none⟩) NB564_565.out _).trans (((cell_far (p := ⟨gb565, _, none⟩) NB564_565.out _).trans (hHeld.2.2.2))))⟩ (fun hHeld => ?_)
 clear hK K
 refine done_ (done_of HT_.out (by kernel_rfl)) ?_
 try go_wp2
 refine bodyPost_ret (results_cell_row rfl _ _ gb565 28 #[.slice Ao15 t572.length co15, .slice Ao17 t575.length co17] (0, 0) _ rfl (by (with_reducible repeat (first | refine zao ?_ _ | refine zar ?_ | refine zah ?_ _)); refine zbu (cs := #[.slice Ao15 t572.length co15, .slice none 0 0]) ?_ 1 _ rfl; (with_reducible repeat (first | refine zao ?_ _ | refine zar ?_ | refine zah ?_ _)); refine zbu (cs := #[.slice none 0 0, .slice none 0 0]) ?_ 0 _ rfl; (with_reducible repeat (first | refine zao ?_ _ | refine zar ?_ | refine zah ?_ _)); exact BK565.out) Tryd.underlying28 rfl (by kernel_rfl)) rfl ?_
 exact ⟨_, _, zW, by (with_reducible repeat (first | apply Kd.zbw | apply Kd.zbv | apply Kd.zbz)); exact Kd.zas (Kd.V_far (p := ⟨gb565, 1, none⟩) (Kd.V_far (p := ⟨gb565, 0, none⟩) (Kd.zas HO574.out (fun k_ hk => (⟨hk, hk.2.2.2⟩ : _ ∧ k_ ≠ gb565))) (fun _ hk => hk.2) (.slice Ao15 t572.length co15)) (fun _ hk => hk.2) (.slice Ao17 t575.length co17)) (fun _ hk => hk.1.1), by (with_reducible repeat (first | apply Kd.zbw | apply Kd.zbv | apply Kd.zbz)); exact Kd.zas (Kd.V_far (p := ⟨gb565, 1, none⟩) (Kd.V_far (p := ⟨gb565, 0, none⟩) (Kd.zas HO577.out (fun k_ hk => (⟨hk, hk.2.2.2⟩ : _ ∧ k_ ≠ gb565))) (fun _ hk => hk.2) (.slice Ao15 t572.length co15)) (fun _ hk => hk.2) (.slice Ao17 t575.length co17)) (fun _ hk => hk.1.1), zB HB⟩
def zbd.f (k : Nat) (l0_0 : List Int) (l0_1 : List Int) (l1_0 : List Int) (l1_1 : List Int) : Option (List Int × List Int × List Int) := (za2.f k l0_0 l1_1).bind fun t696 => ((za2.f k l1_0 l0_1).bind fun t699 => ((za2.f k l0_1 l1_1).bind fun t702 => (some (t696, t699, t702))))
theorem zbd.mono : ∀ a0 a1 a2 a3 k, LeO (zbd.f k a0 a1 a2 a3) (zbd.f (k + 1) a0 a1 a2 a3) := by
 intro a0 a1 a2 a3 k
 unfold zbd.f
 repeat' first
   | (with_reducible exact za2.mono _ _ _)
   | (with_reducible exact LeO.refl _)
   | (with_reducible exact LeO.none _)
   | (with_reducible refine LeO.ite ?_ ?_)
   | (with_reducible refine LeO.bind ?_ (fun _ => ?_))
   | exact za2.mono _ _ _
   | exact LeO.none _
   | refine LeO.ite ?_ ?_
   | refine LeO.bind ?_ (fun _ => ?_)
def zbd.T1 : Bool × List (List Nat × List Nat) := (true, [([], []), ([0], [0]), ([], []), ([2], [2]), ([1, 3], [1, 3]), ([], []), ([5], [5]), ([], []), ([7], [7]), ([6, 8, 4], [6, 8]), ([], []), ([10], [10]), ([], []), ([12], [12]), ([11, 13, 9], [11, 13]), ([4, 14, 0, 1, 2, 3, 4], [4]), ([9, 15, 0, 1, 2, 3, 4, 5, 6, 7, 8, 9, 15], [9]), ([14, 16, 0, 1, 2, 3, 4, 5, 6, 7, 8, 9, 10, 11, 12, 13, 14, 15, 16], [14])])
def zbd.B1 : List Nat := [0, 1, 0, 4, 15, 0, 32, 0, 128, 511, 0, 1024, 0, 4096, 16383, 32767, 65535, 131071]
theorem zbd.tab1 : rtab .any (opsOf Tryd.f62 1) = zbd.T1 := by kernel_rfl
theorem zbd.bits1 : waitsOk zbd.T1.2 zbd.B1 = true := by kernel_rfl
theorem zbd.calls (k : Nat) (A0_0 : Option Addr) (c0_0 : Nat) (l0_0 : List Int) (A0_1 : Option Addr) (c0_1 : Nat) (l0_1 : List Int) (A1_0 : Option Addr) (c1_0 : Nat) (l1_0 : List Int) (A1_1 : Option Addr) (c1_1 : Nat) (l1_1 : List Int) (r1 : List Int) (r2 : List Int) (r3 : List Int) (w : World) (hr0_0 : Kd.C (Kd.int .u64) w A0_0 l0_0.length l0_0) (hc0_0 : l0_0.length ≤ c0_0) (hr0_1 : Kd.C (Kd.int .u64) w A0_1 l0_1.length l0_1) (hc0_1 : l0_1.length ≤ c0_1) (hr1_0 : Kd.C (Kd.int .u64) w A1_0 l1_0.length l1_0) (hc1_0 : l1_0.length ≤ c1_0) (hr1_1 : Kd.C (Kd.int .u64) w A1_1 l1_1.length l1_1) (hc1_1 : l1_1.length ≤ c1_1) (h : zbd.f k l0_0 l0_1 l1_0 l1_1 = some (r1, r2, r3)) :
  Calls Tryd.prog 62 #[.agg #[.slice A0_0 l0_0.length c0_0, .slice A0_1 l0_1.length c0_1], .agg #[.slice A1_0 l1_0.length c1_0, .slice A1_1 l1_1.length c1_1]] w fun e w' => ∃ v0_ v1_ v2_ : Value, e = .returned (.tuple #[v0_, v1_, v2_]) ∧ Kd.V (Kd.int .u64) 57 w' w.heap.size (fun k_ => (w.heap.size ≤ k_)) v0_ r1 ∧ Kd.V (Kd.int .u64) 57 w' w.heap.size (fun k_ => (w.heap.size ≤ k_)) v1_ r2 ∧ Kd.V (Kd.int .u64) 57 w' w.heap.size (fun k_ => (w.heap.size ≤ k_)) v2_ r3 ∧ Below w.heap.size w w' := by
 have hu28 := Tryd.underlying28
 have HR0_0 := zA hr0_0
 have HC0_0 := zA hc0_0
 clear hr0_0 hc0_0
 have HR0_1 := zA hr0_1
 have HC0_1 := zA hc0_1
 clear hr0_1 hc0_1
 have HR1_0 := zA hr1_0
 have HC1_0 := zA hc1_0
 clear hr1_0 hc1_0
 have HR1_1 := zA hr1_1
 have HC1_1 := zA hc1_1
 clear hr1_1 hc1_1
 have HB := zA (Below.refl w.heap.size w)
 have H : ((za2.f k l0_0 l1_1).bind fun t696 => ((za2.f k l1_0 l0_1).bind fun t699 => ((za2.f k l0_1 l1_1).bind fun t702 => (some (t696, t699, t702))))) = some (r1, r2, r3) := h
 clear h
 replace H := zO H
 obtain ⟨t696, A30, H⟩ := H
 try dsimp only at H
 have A3 := zA A30
 clear A30
 replace H := zO H
 obtain ⟨t699, A40, H⟩ := H
 try dsimp only at H
 have A4 := zA A40
 clear A40
 replace H := zO H
 obtain ⟨t702, A50, H⟩ := H
 try dsimp only at H
 have A5 := zA A50
 clear A50
 simp only [Option.some.injEq, Prod.mk.injEq] at H
 obtain ⟨rfl, rfl, rfl⟩ := H
 go_enter Tryd.func62, Tryd.ntmps62
 try go_wp2_with (first | ((with_reducible refine zbf (N := 2) rfl ?_); refine zbi ?hg (N := 2) ?hd (cs := #[.slice A0_0 l0_0.length c0_0, .slice A0_1 l0_1.length c0_1]) (t := 28) ?hr ?_; (case hd => rfl); (case hg => rfl); (case hr => first | (go_simp; done) | (go_simp; rfl)); intro gb694 hg w6 hbox hb; have n0_ := zA (zaa (zB HB) hb); have n1_ := zA (hbox); have n2_ := zA ((by rw [hg]; exact (za (zB HB)) : w.heap.size ≤ gb694)); have n3_ := zA ((by rw [hg]; exact (za (zB HB)) : w.heap.size ≤ gb694)); clear HB; have HB := n0_; have BK694 := n1_; have GW694 := n2_; have GE694 := n3_; clear n0_ n1_ n2_ n3_ hb hbox hg) | ((with_reducible refine zbf (N := 3) rfl ?_); refine zbi ?hg (N := 3) ?hd (cs := #[.slice A1_0 l1_0.length c1_0, .slice A1_1 l1_1.length c1_1]) (t := 28) ?hr ?_; (case hd => rfl); (case hg => rfl); (case hr => first | (go_simp; done) | (go_simp; rfl)); intro gb695 hg w7 hbox hb; have n0_ := zA (zai (g := gb694) (o := .cells #[.slice A0_0 l0_0.length c0_0, .slice A0_1 l0_1.length c0_1] 28 (0, 0)) (zK BK694) hb); have n1_ := zA (zaa (zB HB) hb); have n2_ := zA (hbox); have n3_ := zA ((by rw [hg]; exact (za (zB HB)) : w.heap.size ≤ gb695)); have n4_ := zA ((by rw [hg]; exact (za (zB HB)) : w.heap.size ≤ gb695)); have n5_ := zA ((by rw [hg]; exact Nat.ne_of_lt (zbq (g := gb694) (o := .cells #[.slice A0_0 l0_0.length c0_0, .slice A0_1 l0_1.length c0_1] 28 (0, 0)) (zK BK694)) : gb694 ≠ gb695)); have n6_ := zA ((by rw [hg]; exact Nat.ne_of_gt (zbq (g := gb694) (o := .cells #[.slice A0_0 l0_0.length c0_0, .slice A0_1 l0_1.length c0_1] 28 (0, 0)) (zK BK694)) : gb695 ≠ gb694)); clear BK694 HB; have BK694 := n0_; have HB := n1_; have BK695 := n2_; have GW695 := n3_; have GE695 := n4_; have NB694_695 := n5_; have NB695_694 := n6_; clear n0_ n1_ n2_ n3_ n4_ n5_ n6_ hb hbox hg))
 have n0_ := zA (zar BK694.out)
 have n1_ := zA (zar BK695.out)
 have n2_ := zA (zbj HB.out)
 clear BK694 BK695 HB
 have BK694 := n0_
 have BK695 := n1_
 have HB := n2_
 clear n0_ n1_ n2_
 refine start_ (n := 18) (S := fun w' => w'.cell? ⟨gb694, 0, none⟩ = some (.slice A0_0 l0_0.length c0_0) ∧ w'.cell? ⟨gb694, 1, none⟩ = some (.slice A0_1 l0_1.length c0_1) ∧ w'.cell? ⟨gb695, 0, none⟩ = some (.slice A1_0 l1_0.length c1_0) ∧ w'.cell? ⟨gb695, 1, none⟩ = some (.slice A1_1 l1_1.length c1_1)) (ds := []) #[false, false, false, false, false, false, false, false, false, false, false, false, false, false, false, false, false, false] (by kernel_rfl) rfl rfl ⟨(zad BK694.out 0).trans rfl, (zad BK694.out 1).trans rfl, (zad BK695.out 0).trans rfl, (zad BK695.out 1).trans rfl⟩ (fun hHeld => ?_); refine zcw zbd.tab1 zbd.bits1 (fun HT_ HW_ => ?_)
 generalize w7.drew = w8 at BK694 BK695 HB hHeld ⊢
 refine pure_ (i := 0) (N := some 7) (v := ?_) (a' := ?_) #[true, false, false, false, false, false, false, false, false, false, false, false, false, false, false, false, false, false] rfl rfl (za5 HT_.out (by kernel_rfl)) (fun _ _ _ h => h) (Or.inl ⟨by rfl, ?_⟩) ?_ ?_
 rotate_left
 ·
  intro w'
  go_simp
  with_reducible rfl
 rotate_left
 ·
  simp only [Act.put, zs1, zs2, zs3, i64_w, i32_w]
  rfl
 refine pure_ (i := 2) (N := some 9) (v := ?_) (a' := ?_) #[true, false, true, false, false, false, false, false, false, false, false, false, false, false, false, false, false, false] rfl rfl (za5 HT_.out (by kernel_rfl)) (fun _ _ _ h => h) (Or.inl ⟨by rfl, ?_⟩) ?_ ?_
 rotate_left
 ·
  intro w'
  go_simp
  with_reducible rfl
 rotate_left
 ·
  simp only [Act.put, zs1, zs2, zs3, i64_w, i32_w]
  rfl
 refine pure_ (i := 5) (N := some 12) (v := ?_) (a' := ?_) #[true, false, true, false, false, true, false, false, false, false, false, false, false, false, false, false, false, false] rfl rfl (za5 HT_.out (by kernel_rfl)) (fun _ _ _ h => h) (Or.inl ⟨by rfl, ?_⟩) ?_ ?_
 rotate_left
 ·
  intro w'
  go_simp
  with_reducible rfl
 rotate_left
 ·
  simp only [Act.put, zs1, zs2, zs3, i64_w, i32_w]
  rfl
 refine pure_ (i := 7) (N := some 14) (v := ?_) (a' := ?_) #[true, false, true, false, false, true, false, true, false, false, false, false, false, false, false, false, false, false] rfl rfl (za5 HT_.out (by kernel_rfl)) (fun _ _ _ h => h) (Or.inl ⟨by rfl, ?_⟩) ?_ ?_
 rotate_left
 ·
  intro w'
  go_simp
  with_reducible rfl
 rotate_left
 ·
  simp only [Act.put, zs1, zs2, zs3, i64_w, i32_w]
  rfl
 refine pure_ (i := 10) (N := some 17) (v := ?_) (a' := ?_) #[true, false, true, false, false, true, false, true, false, false, true, false, false, false, false, false, false, false] rfl rfl (za5 HT_.out (by kernel_rfl)) (fun _ _ _ h => h) (Or.inl ⟨by rfl, ?_⟩) ?_ ?_
 rotate_left
 ·
  intro w'
  go_simp
  with_reducible rfl
 rotate_left
 ·
  simp only [Act.put, zs1, zs2, zs3, i64_w, i32_w]
  rfl
 refine pure_ (i := 12) (N := some 19) (v := ?_) (a' := ?_) #[true, false, true, false, false, true, false, true, false, false, true, false, true, false, false, false, false, false] rfl rfl (za5 HT_.out (by kernel_rfl)) (fun _ _ _ h => h) (Or.inl ⟨by rfl, ?_⟩) ?_ ?_
 rotate_left
 ·
  intro w'
  go_simp
  with_reducible rfl
 rotate_left
 ·
  simp only [Act.put, zs1, zs2, zs3, i64_w, i32_w]
  rfl
 refine take_ (i := 1) (N := some 8) (v := ?_) (a' := ?_) #[true, true, true, false, false, true, false, true, false, false, true, false, true, false, false, false, false, false] rfl rfl (zcf HT_.out HW_.out (by kernel_rfl)) (fun _ _ _ h => h) (Or.inl ⟨by rfl, ?_⟩) hHeld ?_ ?_
 rotate_left
 ·
  rintro w' ⟨s0, s1, s2, s3⟩
  go_simp
  with_reducible rfl
 rotate_left
 ·
  simp only [Act.put, zs1, zs2, zs3, i64_w, i32_w]
  rfl
 refine take_ (i := 3) (N := some 10) (v := ?_) (a' := ?_) #[true, true, true, true, false, true, false, true, false, false, true, false, true, false, false, false, false, false] rfl rfl (zcf HT_.out HW_.out (by kernel_rfl)) (fun _ _ _ h => h) (Or.inl ⟨by rfl, ?_⟩) hHeld ?_ ?_
 rotate_left
 ·
  rintro w' ⟨s0, s1, s2, s3⟩
  go_simp
  with_reducible rfl
 rotate_left
 ·
  simp only [Act.put, zs1, zs2, zs3, i64_w, i32_w]
  rfl
 refine take_ (i := 6) (N := some 13) (v := ?_) (a' := ?_) #[true, true, true, true, false, true, true, true, false, false, true, false, true, false, false, false, false, false] rfl rfl (zcf HT_.out HW_.out (by kernel_rfl)) (fun _ _ _ h => h) (Or.inl ⟨by rfl, ?_⟩) hHeld ?_ ?_
 rotate_left
 ·
  rintro w' ⟨s0, s1, s2, s3⟩
  go_simp
  with_reducible rfl
 rotate_left
 ·
  simp only [Act.put, zs1, zs2, zs3, i64_w, i32_w]
  rfl
 refine take_ (i := 8) (N := some 15) (v := ?_) (a' := ?_) #[true, true, true, true, false, true, true, true, true, false, true, false, true, false, false, false, false, false] rfl rfl (zcf HT_.out HW_.out (by kernel_rfl)) (fun _ _ _ h => h) (Or.inl ⟨by rfl, ?_⟩) hHeld ?_ ?_
 rotate_left
 ·
  rintro w' ⟨s0, s1, s2, s3⟩
  go_simp
  with_reducible rfl
 rotate_left
 ·
  simp only [Act.put, zs1, zs2, zs3, i64_w, i32_w]
  rfl
 refine take_ (i := 11) (N := some 18) (v := ?_) (a' := ?_) #[true, true, true, true, false, true, true, true, true, false, true, true, true, false, false, false, false, false] rfl rfl (zcf HT_.out HW_.out (by kernel_rfl)) (fun _ _ _ h => h) (Or.inl ⟨by rfl, ?_⟩) hHeld ?_ ?_
 rotate_left
 ·
  rintro w' ⟨s0, s1, s2, s3⟩
  go_simp
  with_reducible rfl
 rotate_left
 ·
  simp only [Act.put, zs1, zs2, zs3, i64_w, i32_w]
  rfl
 refine take_ (i := 13) (N := some 20) (v := ?_) (a' := ?_) #[true, true, true, true, false, true, true, true, true, false, true, true, true, true, false, false, false, false] rfl rfl (zcf HT_.out HW_.out (by kernel_rfl)) (fun _ _ _ h => h) (Or.inl ⟨by rfl, ?_⟩) hHeld ?_ ?_
 rotate_left
 ·
  rintro w' ⟨s0, s1, s2, s3⟩
  go_simp
  with_reducible rfl
 rotate_left
 ·
  simp only [Act.put, zs1, zs2, zs3, i64_w, i32_w]
  rfl
 refine one_ (i := 4) (N := some 11) #[true, true, true, true, true, true, true, true, true, false, true, true, true, true, false, false, false, false] rfl rfl (zcg HT_.out (by kernel_rfl)) (by decide) (fun K hK => ?_)
 refine goes_ Tryd.func61 (by kernel_rfl) rfl #[.slice A0_0 l0_0.length c0_0, .slice A1_1 l1_1.length c1_1] (by rfl) rfl rfl (zE) ?_
 with_reducible refine (za2.calls k _ _ l0_0 _ _ l1_1 t696 _ ?side1 ?side2 ?side3 ?side4 A3.out).mono ?_
 (case side1 => exact zJ (Kd.za1 HR0_0.out HB.out))
 (case side2 => exact HC0_0.out)
 (case side3 => exact zJ (Kd.za1 HR1_1.out HB.out))
 (case side4 => exact HC1_1.out)
 rintro e w9 ⟨v697, rfl, ho0, hb⟩
 refine ⟨_, rfl, ?_⟩
 have n0_ := zA (Kd.zb (Kd.zas (ok' := fun k_ => (w.heap.size ≤ k_) ∧ k_ ≠ gb694 ∧ k_ ≠ gb695) ho0 (fun k_ hk_ => ⟨(Nat.le_trans (za (zB HB)) hk_), (Kd.freshB (g := gb694) (o := .cells #[.slice A0_0 l0_0.length c0_0, .slice A0_1 l0_1.length c0_1] 28 (0, 0)) (zK BK694) k_ hk_), (Kd.freshB (g := gb695) (o := .cells #[.slice A1_0 l1_0.length c1_0, .slice A1_1 l1_1.length c1_1] 28 (0, 0)) (zK BK695) k_ hk_)⟩)) (za (zB HB)))
 have n1_ := zA (zai (g := gb694) (o := .cells #[.slice A0_0 l0_0.length c0_0, .slice A0_1 l0_1.length c0_1] 28 (0, 0)) (zK BK694) hb)
 have n2_ := zA (zai (g := gb695) (o := .cells #[.slice A1_0 l1_0.length c1_0, .slice A1_1 l1_1.length c1_1] 28 (0, 0)) (zK BK695) hb)
 have n3_ := zA (zaa (zB HB) hb)
 clear BK694 BK695 HB
 have HO698 := n0_
 have BK694 := n1_
 have BK695 := n2_
 have HB := n3_
 clear n0_ n1_ n2_ n3_
 (try clear hb)
 (try clear hb2)
 (try clear hk)
 (try clear hi)
 (try clear ho0)
 refine hK.out _ _ ⟨(zad BK694.out 0).trans rfl, (zad BK694.out 1).trans rfl, (zad BK695.out 0).trans rfl, (zad BK695.out 1).trans rfl⟩ (fun hHeld => ?_)
 clear hK K
 refine norm_ (a' := ?_) ?_ ?_
 rotate_left
 ·
  show Act.put _ (some 11) _ = _
  simp only [Act.put, zs1, zs2, zs3, i64_w, i32_w]
  rfl
 refine one_ (i := 9) (N := some 16) #[true, true, true, true, true, true, true, true, true, true, true, true, true, true, false, false, false, false] rfl rfl (zcg HT_.out (by kernel_rfl)) (by decide) (fun K hK => ?_)
 refine goes_ Tryd.func61 (by kernel_rfl) rfl #[.slice A1_0 l1_0.length c1_0, .slice A0_1 l0_1.length c0_1] (by rfl) rfl rfl (zE) ?_
 with_reducible refine (za2.calls k _ _ l1_0 _ _ l0_1 t699 _ ?side1 ?side2 ?side3 ?side4 A4.out).mono ?_
 (case side1 => exact zJ (Kd.za1 HR1_0.out HB.out))
 (case side2 => exact HC1_0.out)
 (case side3 => exact zJ (Kd.za1 HR0_1.out HB.out))
 (case side4 => exact HC0_1.out)
 rintro e w10 ⟨v700, rfl, ho0, hb⟩
 refine ⟨_, rfl, ?_⟩
 have n0_ := zA (Kd.zaw (zV HO698) hb)
 have n1_ := zA (Kd.zb (Kd.zas (ok' := fun k_ => (w.heap.size ≤ k_) ∧ k_ ≠ gb694 ∧ k_ ≠ gb695) ho0 (fun k_ hk_ => ⟨(Nat.le_trans (za (zB HB)) hk_), (Kd.freshB (g := gb694) (o := .cells #[.slice A0_0 l0_0.length c0_0, .slice A0_1 l0_1.length c0_1] 28 (0, 0)) (zK BK694) k_ hk_), (Kd.freshB (g := gb695) (o := .cells #[.slice A1_0 l1_0.length c1_0, .slice A1_1 l1_1.length c1_1] 28 (0, 0)) (zK BK695) k_ hk_)⟩)) (za (zB HB)))
 have n2_ := zA (zai (g := gb694) (o := .cells #[.slice A0_0 l0_0.length c0_0, .slice A0_1 l0_1.length c0_1] 28 (0, 0)) (zK BK694) hb)
 have n3_ := zA (zai (g := gb695) (o := .cells #[.slice A1_0 l1_0.length c1_0, .slice A1_1 l1_1.length c1_1] 28 (0, 0)) (zK BK695) hb)
 have n4_ := zA (zaa (zB HB) hb)
 clear HO698 BK694 BK695 HB
 have HO698 := n0_
 have HO701 := n1_
 have BK694 := n2_
 have BK695 := n3_
 have HB := n4_
 clear n0_ n1_ n2_ n3_ n4_
 (try clear hb)
 (try clear hb2)
 (try clear hk)
 (try clear hi)
 (try clear ho0)
 refine hK.out _ _ ⟨(zad BK694.out 0).trans rfl, (zad BK694.out 1).trans rfl, (zad BK695.out 0).trans rfl, (zad BK695.out 1).trans rfl⟩ (fun hHeld => ?_)
 clear hK K
 refine norm_ (a' := ?_) ?_ ?_
 rotate_left
 ·
  show Act.put _ (some 16) _ = _
  simp only [Act.put, zs1, zs2, zs3, i64_w, i32_w]
  rfl
 refine one_ (i := 14) (N := some 21) #[true, true, true, true, true, true, true, true, true, true, true, true, true, true, true, false, false, false] rfl rfl (zcg HT_.out (by kernel_rfl)) (by decide) (fun K hK => ?_)
 refine goes_ Tryd.func61 (by kernel_rfl) rfl #[.slice A0_1 l0_1.length c0_1, .slice A1_1 l1_1.length c1_1] (by rfl) rfl rfl (zE) ?_
 with_reducible refine (za2.calls k _ _ l0_1 _ _ l1_1 t702 _ ?side1 ?side2 ?side3 ?side4 A5.out).mono ?_
 (case side1 => exact zJ (Kd.za1 HR0_1.out HB.out))
 (case side2 => exact HC0_1.out)
 (case side3 => exact zJ (Kd.za1 HR1_1.out HB.out))
 (case side4 => exact HC1_1.out)
 rintro e w11 ⟨v703, rfl, ho0, hb⟩
 refine ⟨_, rfl, ?_⟩
 have n0_ := zA (Kd.zaw (zV HO698) hb)
 have n1_ := zA (Kd.zaw (zV HO701) hb)
 have n2_ := zA (Kd.zb (Kd.zas (ok' := fun k_ => (w.heap.size ≤ k_) ∧ k_ ≠ gb694 ∧ k_ ≠ gb695) ho0 (fun k_ hk_ => ⟨(Nat.le_trans (za (zB HB)) hk_), (Kd.freshB (g := gb694) (o := .cells #[.slice A0_0 l0_0.length c0_0, .slice A0_1 l0_1.length c0_1] 28 (0, 0)) (zK BK694) k_ hk_), (Kd.freshB (g := gb695) (o := .cells #[.slice A1_0 l1_0.length c1_0, .slice A1_1 l1_1.length c1_1] 28 (0, 0)) (zK BK695) k_ hk_)⟩)) (za (zB HB)))
 have n3_ := zA (zai (g := gb694) (o := .cells #[.slice A0_0 l0_0.length c0_0, .slice A0_1 l0_1.length c0_1] 28 (0, 0)) (zK BK694) hb)
 have n4_ := zA (zai (g := gb695) (o := .cells #[.slice A1_0 l1_0.length c1_0, .slice A1_1 l1_1.length c1_1] 28 (0, 0)) (zK BK695) hb)
 have n5_ := zA (zaa (zB HB) hb)
 clear HO698 HO701 BK694 BK695 HB
 have HO698 := n0_
 have HO701 := n1_
 have HO704 := n2_
 have BK694 := n3_
 have BK695 := n4_
 have HB := n5_
 clear n0_ n1_ n2_ n3_ n4_ n5_
 (try clear hb)
 (try clear hb2)
 (try clear hk)
 (try clear hi)
 (try clear ho0)
 refine hK.out _ _ ⟨(zad BK694.out 0).trans rfl, (zad BK694.out 1).trans rfl, (zad BK695.out 0).trans rfl, (zad BK695.out 1).trans rfl⟩ (fun hHeld => ?_)
 clear hK K
 refine norm_ (a' := ?_) ?_ ?_
 rotate_left
 ·
  show Act.put _ (some 21) _ = _
  simp only [Act.put, zs1, zs2, zs3, i64_w, i32_w]
  rfl
 refine pure_ (i := 15) (N := some 4) (v := ?_) (a' := ?_) #[true, true, true, true, true, true, true, true, true, true, true, true, true, true, true, true, false, false] rfl rfl (za5 HT_.out (by kernel_rfl)) (fun _ _ _ h => h) (Or.inl ⟨by rfl, ?_⟩) ?_ ?_
 rotate_left
 ·
  intro w'
  go_simp
  with_reducible rfl
 rotate_left
 ·
  simp only [Act.put, zs1, zs2, zs3, i64_w, i32_w]
  rfl
 refine pure_ (i := 16) (N := some 5) (v := ?_) (a' := ?_) #[true, true, true, true, true, true, true, true, true, true, true, true, true, true, true, true, true, false] rfl rfl (za5 HT_.out (by kernel_rfl)) (fun _ _ _ h => h) (Or.inl ⟨by rfl, ?_⟩) ?_ ?_
 rotate_left
 ·
  intro w'
  go_simp
  with_reducible rfl
 rotate_left
 ·
  simp only [Act.put, zs1, zs2, zs3, i64_w, i32_w]
  rfl
 refine pure_ (i := 17) (N := some 6) (v := ?_) (a' := ?_) #[true, true, true, true, true, true, true, true, true, true, true, true, true, true, true, true, true, true] rfl rfl (za5 HT_.out (by kernel_rfl)) (fun _ _ _ h => h) (Or.inl ⟨by rfl, ?_⟩) ?_ ?_
 rotate_left
 ·
  intro w'
  go_simp
  with_reducible rfl
 rotate_left
 ·
  simp only [Act.put, zs1, zs2, zs3, i64_w, i32_w]
  rfl
 refine done_ (done_of HT_.out (by kernel_rfl)) ?_
 try go_wp2
 go_ret3
 exact ⟨_, _, _, zW, by (with_reducible repeat (first | apply Kd.zbw | apply Kd.zbv | apply Kd.zbz)); exact Kd.zas HO698.out (fun _ hk => hk.1), by (with_reducible repeat (first | apply Kd.zbw | apply Kd.zbv | apply Kd.zbz)); exact Kd.zas HO701.out (fun _ hk => hk.1), by (with_reducible repeat (first | apply Kd.zbw | apply Kd.zbv | apply Kd.zbz)); exact Kd.zas HO704.out (fun _ hk => hk.1), zB HB⟩
def zch.l0 : Nat → List Int → List Int → List Int → Int → Int → Int → Option (List Int)
 | 0, _, _, _, _, _, _ => none
 | k + 1, x0, x1, x5, x6, x13, x14 => if x14 < x13 then ((zb7.f x0 x14).bind fun t731 => ((zb7.f x1 x14).bind fun t732 => ((bits_Add64.f t731 t732 x6).bind fun bt733 => (if x5.length < 17592186044416 then (zch.l0 k x0 x1 (x5 ++ [bt733.1]) bt733.2 x13 (wrap64 (x14 + 1))) else (none))))) else (if x5.length < 17592186044416 then ((zau.f k (x5 ++ [x6])).bind fun t741 => (some t741)) else (none))
def zch.f (k : Nat) (l0 : List Int) (l1 : List Int) : Option (List Int) := zch.l0 k l0 l1 ([] : List Int) 0 (mx (l0.length : Int) (l1.length : Int)) 0
theorem zch.zcj : ∀ k, (∀ y0 y1 y2 y3 y4 y5, LeO (zch.l0 k y0 y1 y2 y3 y4 y5) (zch.l0 (k + 1) y0 y1 y2 y3 y4 y5))
 | 0 => fun _ _ _ _ _ _ r h => by simp [zch.l0] at h
 | k + 1 => by
  have ih0 := zch.zcj k
  ·
   intro y0 y1 y2 y3 y4 y5
   unfold zch.l0
   repeat' first
   | (with_reducible exact ih0 _ _ _ _ _ _)
   | (with_reducible exact zau.mono _ _)
   | (with_reducible exact LeO.refl _)
   | (with_reducible exact LeO.none _)
   | (with_reducible refine LeO.ite ?_ ?_)
   | (with_reducible refine LeO.bind ?_ (fun _ => ?_))
   | exact ih0 _ _ _ _ _ _
   | exact zau.mono _ _
   | exact LeO.none _
   | refine LeO.ite ?_ ?_
   | refine LeO.bind ?_ (fun _ => ?_)
theorem zch.mono : ∀ a0 a1 k, LeO (zch.f k a0 a1) (zch.f (k + 1) a0 a1) := by
 intro a0 a1 k
 have ih0 := zch.zcj k
 unfold zch.f
 repeat' first
   | (with_reducible exact ih0 _ _ _ _ _ _)
   | (with_reducible exact zau.mono _ _)
   | (with_reducible exact LeO.refl _)
   | (with_reducible exact LeO.none _)
   | (with_reducible refine LeO.ite ?_ ?_)
   | (with_reducible refine LeO.bind ?_ (fun _ => ?_))
   | exact ih0 _ _ _ _ _ _
   | exact zau.mono _ _
   | exact LeO.none _
   | refine LeO.ite ?_ ?_
   | refine LeO.bind ?_ (fun _ => ?_)
theorem zch.calls (k : Nat) (A0 : Option Addr) (c0 : Nat) (l0 : List Int) (A1 : Option Addr) (c1 : Nat) (l1 : List Int) (r : List Int) (w : World) (hr0 : Kd.C (Kd.int .u64) w A0 l0.length l0) (hc0 : l0.length ≤ c0) (hr1 : Kd.C (Kd.int .u64) w A1 l1.length l1) (hc1 : l1.length ≤ c1) (h : zch.f k l0 l1 = some r) :
  Calls Tryd.prog 64 #[.slice A0 l0.length c0, .slice A1 l1.length c1] w fun e w' => ∃ v0_ : Value, e = .returned (v0_) ∧ Kd.V (Kd.int .u64) 57 w' w.heap.size (fun k_ => (w.heap.size ≤ k_)) v0_ r ∧ Below w.heap.size w w' := by
 have HR0 := zA hr0
 have HC0 := zA hc0
 clear hr0 hc0
 have HR1 := zA hr1
 have HC1 := zA hc1
 clear hr1 hc1
 have HB := zA (Below.refl w.heap.size w)
 have H : (zch.l0 k l0 l1 ([] : List Int) 0 (mx (l0.length : Int) (l1.length : Int)) 0) = some r := h
 clear h
 obtain ⟨ji3, hji3⟩ : ∃ j_ : Int, (mx (l0.length : Int) (l1.length : Int)) = j_ := ⟨_, rfl⟩
 replace H : (zch.l0 k l0 l1 ([] : List Int) 0 ji3 0) = some r := by first | (rw [hji3] at H; exact H) | (simp only [hji3] at H ⊢; exact H)
 (try (have hji3l : 0 ≤ ji3 := by (rw [← hji3]; unfold mx; (repeat' split) <;> omega)))
 (try (have hji3m : 0 ≤ ji3 := by omega))
 have hji3_ : (if (l0.length : Int) < (l1.length : Int) then (l1.length : Int) else (l0.length : Int)) = ji3 := hji3
 (try (have hji3n_ := hji3_; simp only [Int.ofNat_lt] at hji3n_))
 have H' := zA H
 clear H
 go_enter Tryd.func64, Tryd.ntmps64
 go_wp2
 go_loopg [5, 6, 14] k (fun kq v5 v6 v14 w' => ∃ (x5_1 : List Int) (x6_1 : Int) (x14_1 : Int), v6 = .int .u64 x6_1 ∧ v14 = .int .i64 x14_1 ∧ Aside0 (zch.l0 kq l0 l1 x5_1 x6_1 ji3 x14_1 = some r) ∧ Aside0 (kq ≤ k) ∧ Aside0 (Kd.R (Kd.int .u64) 57 w' w.heap.size (fun k_ => (w.heap.size ≤ k_)) v5 x5_1) ∧ Aside0 (Below w.heap.size w w'))
 case atStart => exact ⟨(([] : List Int)), (0), (0), (zF), (zF), H', ⟨Nat.le_refl _⟩, ⟨by first | exact Kd.R_nil _ _ _ _ _ | exact Kd.N_nil _ _ _ _ _ | exact Kd.V_nil _ _ _ _ _ | exact Kd.Q_nil _ _ _ _ _ | exact Kd.S_nil _ _ _ _ _⟩, ⟨zB HB⟩⟩
 case round =>
  clear H'
  try clear c1
  try clear p2
  obtain ⟨x5_1, x6_1, x14_1, rfl, rfl, HA, HK1, HO_5, HB⟩ := hrel
  cases gk with
  | zero => exact absurd HA.out (by simp [zch.l0])
  | succ k1 =>
   have H := HA.out
   clear HA
   simp only [zch.l0] at H
   by_cases c4 : x14_1 < ji3
   ·
    rw [if_pos c4] at H
    have c4b0 : decide (x14_1 < ji3) = true := decide_eq_true c4
    clear c4
    replace H := zO H
    obtain ⟨t731, A50, H⟩ := H
    try dsimp only at H
    have A5 := zA A50
    clear A50
    replace H := zO H
    obtain ⟨t732, A60, H⟩ := H
    try dsimp only at H
    have A6 := zA A60
    clear A60
    replace H := zO H
    obtain ⟨⟨t733, t734⟩, A70, H⟩ := H
    try dsimp only at H
    have A7 := fun W_ => bits_Add64.run (W := W_) A70
    clear A70
    by_cases c8 : x5_1.length < 17592186044416
    ·
     rw [if_pos c8] at H
     have LMc8 := zA c8
     clear c8
     obtain ⟨y735, hy735⟩ : ∃ y_ : List Int, y_ = (x5_1 ++ [t733]) := ⟨_, rfl⟩
     replace H : (zch.l0 k1 l0 l1 y735 t734 ji3 (wrap64 (x14_1 + 1))) = some r := by first | (rw [hy735]; with_reducible exact H) | (have H2_ := (Option.bind_some _ _).symm.trans H; rw [hy735]; with_reducible exact H2_) | (have H2_ := (Option.bind_some _ _).symm.trans H; with_reducible exact H2_) | with_reducible exact H | (rw [hy735]; exact H) | exact H
     have Ny735 := zA hy735
     clear hy735
     have H' := zA H
     clear H
     go_wp2_with (first | ((with_reducible refine zac (f := 89) rfl ?_); refine za0 (some 20) rfl rfl Tryd.func89 (by kernel_rfl) rfl #[.slice A0 l0.length c0, .int .i64 x14_1] rfl (zE) ?_; (with_reducible refine (zb7.calls _ _ l0 x14_1 t731 _ ?side1 ?side2 A5.out).mono ?_); (case side1 => exact zJ (Kd.za1 HR0.out HB.out)); (case side2 => exact HC0.out); rintro e w' ⟨rfl, ⟨nd, rfl⟩⟩; refine ⟨_, rfl, ?_⟩) | ((with_reducible refine zac (f := 89) rfl ?_); refine za0 (some 23) rfl rfl Tryd.func89 (by kernel_rfl) rfl #[.slice A1 l1.length c1, .int .i64 x14_1] rfl (zE) ?_; (with_reducible refine (zb7.calls _ _ l1 x14_1 t732 _ ?side1 ?side2 A6.out).mono ?_); (case side1 => exact zJ (Kd.za1 HR1.out (zB HB))); (case side2 => exact HC1.out); rintro e w' ⟨rfl, ⟨nd, rfl⟩⟩; refine ⟨_, rfl, ?_⟩) | ((with_reducible refine zbx (b := .append) (xs := #[.tmp 28, .tmp 30]) rfl ?_); at_builtin; refine Kd.zcu (Kd.int .u64) (w0 := w) w.heap.size rfl (.tmp 28) (.tmp 30) 26 57 (.int .u64 0) 8 rfl Tryd.underlying26 info57 rfl (by decide) (by omega) u5 x5_1 t733 [.int .u64 t733] (fun k_ => (w.heap.size ≤ k_)) (fun _ => False) rfl rfl ?aP (fun _ hk => hk.elim) ?aF ?aO ?aB ?aS ?aL ?_; (case aP => exact rfl); (case aB => exact (zB HB)); (case aF => exact (fun k_ hk => (Nat.le_trans (za (zB HB)) hk))); (case aO => exact (zR HO_5)); (case aS => exact (za (zB HB))); (case aL => have := LMc8.out; omega); intro v736 w9 ho hb hg hat; rw [← Ny735.out] at ho; have n0_ := zA (hb); have n1_ := zA (ho); clear HB HO_5; have HB := n0_; have HO737 := n1_; clear n0_ n1_ ho hb hg hat))
     go_roundg k1
     case measure => have := HK1.out; omega
     case rel => exact ⟨(y735), (t734), (wrap64 (x14_1 + 1)), (zF), (zF), H', ⟨by have := HK1.out; omega⟩, ⟨zR HO737⟩, ⟨zB HB⟩⟩
    ·
     rw [if_neg c8] at H
     exact absurd H (by simp)
   ·
    rw [if_neg c4] at H
    have c4b0 : decide (x14_1 < ji3) = false := decide_eq_false c4
    clear c4
    by_cases c10 : x5_1.length < 17592186044416
    ·
     rw [if_pos c10] at H
     have LMc10 := zA c10
     clear c10
     obtain ⟨y738, hy738⟩ : ∃ y_ : List Int, y_ = (x5_1 ++ [x6_1]) := ⟨_, rfl⟩
     replace H : ((zau.f k1 y738).bind fun t741 => (some t741)) = some r := by first | (rw [hy738]; with_reducible exact H) | (have H2_ := (Option.bind_some _ _).symm.trans H; rw [hy738]; with_reducible exact H2_) | (have H2_ := (Option.bind_some _ _).symm.trans H; with_reducible exact H2_) | with_reducible exact H | (rw [hy738]; exact H) | exact H
     have Ny738 := zA hy738
     clear hy738
     replace H := zO H
     obtain ⟨t741, A110, H⟩ := H
     try dsimp only at H
     have A11 := zA A110
     clear A110
     obtain rfl := Option.some.inj H
     go_wp2_with (first | ((with_reducible refine zbx (b := .append) (xs := #[.tmp 33, .tmp 35]) rfl ?_); at_builtin; refine Kd.zcu (Kd.int .u64) (w0 := w) w.heap.size rfl (.tmp 33) (.tmp 35) 26 57 (.int .u64 0) 8 rfl Tryd.underlying26 info57 rfl (by decide) (by omega) u5 x5_1 x6_1 [.int .u64 x6_1] (fun k_ => (w.heap.size ≤ k_)) (fun _ => False) rfl rfl ?aP (fun _ hk => hk.elim) ?aF ?aO ?aB ?aS ?aL ?_; (case aP => exact rfl); (case aB => exact (zB HB)); (case aF => exact (fun k_ hk => (Nat.le_trans (za (zB HB)) hk))); (case aO => exact (zR HO_5)); (case aS => exact (za (zB HB))); (case aL => have := LMc10.out; omega); intro v739 w12 ho hb hg hat; rw [← Ny738.out] at ho; have n0_ := zA (hb); have n1_ := zA (ho); clear HB HO_5; have HB := n0_; have HO740 := n1_; clear n0_ n1_ ho hb hg hat; obtain ⟨Ao13, co13, eo13⟩ := Kd.zbt HO740.out; subst eo13) | ((with_reducible refine zac (f := 65) rfl ?_); refine za0 (some 37) rfl rfl Tryd.func65 (by kernel_rfl) rfl #[.slice Ao13 y738.length co13] rfl (zE) ?_; (with_reducible refine (zau.calls k1 (fun k_ => some k_ = (.slice Ao13 y738.length co13 : Value).ownBlock) _ _ y738 t741 _ ?side1 A11.out).mono ?_); (case side1 => exact Kd.R_V (Kd.zc3 rfl (HO740.out))); rintro e w14 ⟨v742, rfl, ho0, hb⟩; refine ⟨_, rfl, ?_⟩; have n0_ := zA (Kd.zb5 (zR HO740) hb); have n1_ := zA (Kd.zb (Kd.zas (ok' := fun k_ => (w.heap.size ≤ k_)) ho0 (fun k_ hk_ => Or.elim hk_ (fun hs_ => ((HO740.out).1 k_ hs_.symm)) (fun hn_ => (Nat.le_trans (za (zB HB)) hn_)))) (za (zB HB))); have n2_ := zA (zaa (zB HB) hb); clear HO740 HB; have HO740 := n0_; have HO743 := n1_; have HB := n2_; clear n0_ n1_ n2_; (try clear hb); (try clear hb2); (try clear hk); (try clear hi); (try clear ho0)))
     go_ret
     exact ⟨_, by first | rfl | (simp [zbs, zbr] <;> rfl) | (simp only [← hji3]; first | rfl | (simp [zbs, zbr] <;> rfl)) | (simp [*, zbs, zbr] <;> rfl), zV HO743, zB HB⟩
    ·
     rw [if_neg c10] at H
     exact absurd H (by simp)
def zcp.f (k : Nat) (l0_0 : List Int) (l0_1 : List Int) (l1_0 : List Int) (l1_1 : List Int) : Option (Int) := (zbd.f k l0_0 l0_1 l1_0 l1_1).bind fun bt767 => ((zco.f bt767.1 bt767.2.1).bind fun t776 => (some t776))
theorem zcp.mono : ∀ a0 a1 a2 a3 k, LeO (zcp.f k a0 a1 a2 a3) (zcp.f (k + 1) a0 a1 a2 a3) := by
 intro a0 a1 a2 a3 k
 unfold zcp.f
 repeat' first
   | (with_reducible exact zbd.mono _ _ _ _ _)
   | (with_reducible exact LeO.refl _)
   | (with_reducible exact LeO.none _)
   | (with_reducible refine LeO.ite ?_ ?_)
   | (with_reducible refine LeO.bind ?_ (fun _ => ?_))
   | exact zbd.mono _ _ _ _ _
   | exact LeO.none _
   | refine LeO.ite ?_ ?_
   | refine LeO.bind ?_ (fun _ => ?_)
theorem zcp.calls (k : Nat) (A0_0 : Option Addr) (c0_0 : Nat) (l0_0 : List Int) (A0_1 : Option Addr) (c0_1 : Nat) (l0_1 : List Int) (A1_0 : Option Addr) (c1_0 : Nat) (l1_0 : List Int) (A1_1 : Option Addr) (c1_1 : Nat) (l1_1 : List Int) (r : Int) (w : World) (hr0_0 : Kd.C (Kd.int .u64) w A0_0 l0_0.length l0_0) (hc0_0 : l0_0.length ≤ c0_0) (hr0_1 : Kd.C (Kd.int .u64) w A0_1 l0_1.length l0_1) (hc0_1 : l0_1.length ≤ c0_1) (hr1_0 : Kd.C (Kd.int .u64) w A1_0 l1_0.length l1_0) (hc1_0 : l1_0.length ≤ c1_0) (hr1_1 : Kd.C (Kd.int .u64) w A1_1 l1_1.length l1_1) (hc1_1 : l1_1.length ≤ c1_1) (h : zcp.f k l0_0 l0_1 l1_0 l1_1 = some r) :
  Calls Tryd.prog 35 #[.agg #[.slice A0_0 l0_0.length c0_0, .slice A0_1 l0_1.length c0_1], .agg #[.slice A1_0 l1_0.length c1_0, .slice A1_1 l1_1.length c1_1]] w fun e w' => e = .returned (.int .i64 r) ∧ Below w.heap.size w w' := by
 have hu28 := Tryd.underlying28
 have HR0_0 := zA hr0_0
 have HC0_0 := zA hc0_0
 clear hr0_0 hc0_0
 have HR0_1 := zA hr0_1
 have HC0_1 := zA hc0_1
 clear hr0_1 hc0_1
 have HR1_0 := zA hr1_0
 have HC1_0 := zA hc1_0
 clear hr1_0 hc1_0
 have HR1_1 := zA hr1_1
 have HC1_1 := zA hc1_1
 clear hr1_1 hc1_1
 have HB := zA (Below.refl w.heap.size w)
 have H : ((zbd.f k l0_0 l0_1 l1_0 l1_1).bind fun bt767 => ((zco.f bt767.1 bt767.2.1).bind fun t776 => (some t776))) = some r := h
 clear h
 replace H := zO H
 obtain ⟨⟨t767, t770, t773⟩, A30, H⟩ := H
 try dsimp only at H
 have A3 := zA A30
 clear A30
 replace H := zO H
 obtain ⟨t776, A40, H⟩ := H
 try dsimp only at H
 have A4 := zA A40
 clear A40
 obtain rfl := Option.some.inj H
 go_enter Tryd.func35, Tryd.ntmps35
 go_wp2_with (first | ((with_reducible refine zbf (N := 2) rfl ?_); refine zbi ?hg (N := 2) ?hd (cs := #[.slice A0_0 l0_0.length c0_0, .slice A0_1 l0_1.length c0_1]) (t := 28) ?hr ?_; (case hd => rfl); (case hg => rfl); (case hr => first | (go_simp; done) | (go_simp; rfl)); intro gb765 hg w5 hbox hb; have n0_ := zA (zaa (zB HB) hb); have n1_ := zA (hbox); have n2_ := zA ((by rw [hg]; exact (za (zB HB)) : w.heap.size ≤ gb765)); have n3_ := zA ((by rw [hg]; exact (za (zB HB)) : w.heap.size ≤ gb765)); clear HB; have HB := n0_; have BK765 := n1_; have GW765 := n2_; have GE765 := n3_; clear n0_ n1_ n2_ n3_ hb hbox hg) | ((with_reducible refine zbf (N := 3) rfl ?_); refine zbi ?hg (N := 3) ?hd (cs := #[.slice A1_0 l1_0.length c1_0, .slice A1_1 l1_1.length c1_1]) (t := 28) ?hr ?_; (case hd => rfl); (case hg => rfl); (case hr => first | (go_simp; done) | (go_simp; rfl)); intro gb766 hg w6 hbox hb; have n0_ := zA (zai (g := gb765) (o := .cells #[.slice A0_0 l0_0.length c0_0, .slice A0_1 l0_1.length c0_1] 28 (0, 0)) (zK BK765) hb); have n1_ := zA (zaa (zB HB) hb); have n2_ := zA (hbox); have n3_ := zA ((by rw [hg]; exact (za (zB HB)) : w.heap.size ≤ gb766)); have n4_ := zA ((by rw [hg]; exact (za (zB HB)) : w.heap.size ≤ gb766)); have n5_ := zA ((by rw [hg]; exact Nat.ne_of_lt (zbq (g := gb765) (o := .cells #[.slice A0_0 l0_0.length c0_0, .slice A0_1 l0_1.length c0_1] 28 (0, 0)) (zK BK765)) : gb765 ≠ gb766)); have n6_ := zA ((by rw [hg]; exact Nat.ne_of_gt (zbq (g := gb765) (o := .cells #[.slice A0_0 l0_0.length c0_0, .slice A0_1 l0_1.length c0_1] 28 (0, 0)) (zK BK765)) : gb766 ≠ gb765)); clear BK765 HB; have BK765 := n0_; have HB := n1_; have BK766 := n2_; have GW766 := n3_; have GE766 := n4_; have NB765_766 := n5_; have NB766_765 := n6_; clear n0_ n1_ n2_ n3_ n4_ n5_ n6_ hb hbox hg; have hnb7 := NB765_766.out; have hnc7 := NB766_765.out; have hcz8_0 : w6.cell? ⟨gb765, 0, none⟩ = some (.slice A0_0 l0_0.length c0_0) := (zad BK765.out 0).trans rfl; have hcz8_1 : w6.cell? ⟨gb765, 1, none⟩ = some (.slice A0_1 l0_1.length c0_1) := (zad BK765.out 1).trans rfl; have hfz8_0 := zat BK765.out 0; have hfz8_1 := zat BK765.out 1; have hcz9_0 : w6.cell? ⟨gb766, 0, none⟩ = some (.slice A1_0 l1_0.length c1_0) := (zad BK766.out 0).trans rfl; have hcz9_1 : w6.cell? ⟨gb766, 1, none⟩ = some (.slice A1_1 l1_1.length c1_1) := (zad BK766.out 1).trans rfl; have hfz9_0 := zat BK766.out 0; have hfz9_1 := zat BK766.out 1) | ((with_reducible refine zac (f := 62) rfl ?_); refine za0 (some 11) rfl rfl Tryd.func62 (by kernel_rfl) rfl #[.agg #[.slice A0_0 l0_0.length c0_0, .slice A0_1 l0_1.length c0_1], .agg #[.slice A1_0 l1_0.length c1_0, .slice A1_1 l1_1.length c1_1]] rfl (zE) ?_; (with_reducible refine (zbd.calls k _ _ l0_0 _ _ l0_1 _ _ l1_0 _ _ l1_1 t767 t770 t773 _ ?side1 ?side2 ?side3 ?side4 ?side5 ?side6 ?side7 ?side8 A3.out).mono ?_); (case side1 => exact zJ (Kd.za1 HR0_0.out HB.out)); (case side2 => exact HC0_0.out); (case side3 => exact zJ (Kd.za1 HR0_1.out HB.out)); (case side4 => exact HC0_1.out); (case side5 => exact zJ (Kd.za1 HR1_0.out HB.out)); (case side6 => exact HC1_0.out); (case side7 => exact zJ (Kd.za1 HR1_1.out HB.out)); (case side8 => exact HC1_1.out); rintro e w10 ⟨v768, v771, v774, rfl, ho0, ho1, ho2, hb⟩; refine ⟨_, rfl, ?_⟩; have n0_ := zA (Kd.zb (Kd.zas (ok' := fun k_ => k_ ≠ gb765 ∧ k_ ≠ gb766) ho0 (fun k_ hk_ => ⟨(Kd.freshB (g := gb765) (o := .cells #[.slice A0_0 l0_0.length c0_0, .slice A0_1 l0_1.length c0_1] 28 (0, 0)) (zK BK765) k_ hk_), (Kd.freshB (g := gb766) (o := .cells #[.slice A1_0 l1_0.length c1_0, .slice A1_1 l1_1.length c1_1] 28 (0, 0)) (zK BK766) k_ hk_)⟩)) (za (zB HB))); have n1_ := zA (Kd.zb (Kd.zas (ok' := fun k_ => k_ ≠ gb765 ∧ k_ ≠ gb766) ho1 (fun k_ hk_ => ⟨(Kd.freshB (g := gb765) (o := .cells #[.slice A0_0 l0_0.length c0_0, .slice A0_1 l0_1.length c0_1] 28 (0, 0)) (zK BK765) k_ hk_), (Kd.freshB (g := gb766) (o := .cells #[.slice A1_0 l1_0.length c1_0, .slice A1_1 l1_1.length c1_1] 28 (0, 0)) (zK BK766) k_ hk_)⟩)) (za (zB HB))); have n2_ := zA (Kd.zb (Kd.zas (ok' := fun k_ => k_ ≠ gb765 ∧ k_ ≠ gb766) ho2 (fun k_ hk_ => ⟨(Kd.freshB (g := gb765) (o := .cells #[.slice A0_0 l0_0.length c0_0, .slice A0_1 l0_1.length c0_1] 28 (0, 0)) (zK BK765) k_ hk_), (Kd.freshB (g := gb766) (o := .cells #[.slice A1_0 l1_0.length c1_0, .slice A1_1 l1_1.length c1_1] 28 (0, 0)) (zK BK766) k_ hk_)⟩)) (za (zB HB))); have n3_ := zA (zai (g := gb765) (o := .cells #[.slice A0_0 l0_0.length c0_0, .slice A0_1 l0_1.length c0_1] 28 (0, 0)) (zK BK765) hb); have n4_ := zA (zai (g := gb766) (o := .cells #[.slice A1_0 l1_0.length c1_0, .slice A1_1 l1_1.length c1_1] 28 (0, 0)) (zK BK766) hb); have n5_ := zA (zaa (zB HB) hb); clear BK765 BK766 HB; have HO769 := n0_; have HO772 := n1_; have HO775 := n2_; have BK765 := n3_; have BK766 := n4_; have HB := n5_; clear n0_ n1_ n2_ n3_ n4_ n5_; (try clear hb); (try clear hb2); (try clear hk); (try clear hi); (try clear ho0); (try clear ho1); (try clear ho2); obtain ⟨Ao11, co11, eo11⟩ := Kd.za6 HO769.out; subst eo11; obtain ⟨Ao12, co12, eo12⟩ := Kd.za6 HO772.out; subst eo12) | ((with_reducible refine zac (f := 52) rfl ?_); refine za0 (some 17) rfl rfl Tryd.func52 (by kernel_rfl) rfl #[.slice Ao11 t767.length co11, .slice Ao12 t770.length co12] rfl (zE) ?_; (with_reducible refine (zco.calls _ _ t767 _ _ t770 t776 _ ?side1 ?side2 ?side3 ?side4 A4.out).mono ?_); (case side1 => exact zJ (Kd.zam HO769.out).2.2); (case side2 => exact (Kd.zam HO769.out).2.1); (case side3 => exact zJ (Kd.zam HO772.out).2.2); (case side4 => exact (Kd.zam HO772.out).2.1); rintro e w13 ⟨rfl, hb⟩; refine ⟨_, rfl, ?_⟩; have n0_ := zA (Kd.zaw (zV HO769) hb); have n1_ := zA (Kd.zaw (zV HO772) hb); have n2_ := zA (Kd.zaw (zV HO775) hb); have n3_ := zA (zai (g := gb765) (o := .cells #[.slice A0_0 l0_0.length c0_0, .slice A0_1 l0_1.length c0_1] 28 (0, 0)) (zK BK765) hb); have n4_ := zA (zai (g := gb766) (o := .cells #[.slice A1_0 l1_0.length c1_0, .slice A1_1 l1_1.length c1_1] 28 (0, 0)) (zK BK766) hb); have n5_ := zA (zaa (zB HB) hb); clear HO769 HO772 HO775 BK765 BK766 HB; have HO769 := n0_; have HO772 := n1_; have HO775 := n2_; have BK765 := n3_; have BK766 := n4_; have HB := n5_; clear n0_ n1_ n2_ n3_ n4_ n5_; (try clear hb); (try clear hb2); (try clear hk); (try clear hi)))
 go_ret
 exact ⟨zW, zB HB⟩
end Go.Proofs.YtfjkamhcabckeaaDoor.P
end
