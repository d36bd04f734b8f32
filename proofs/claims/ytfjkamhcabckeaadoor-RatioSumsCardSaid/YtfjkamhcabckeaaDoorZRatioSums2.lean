-- Written by a program of this session (wip/tools/shake.py) out of its own texts and of the kit's printed ones; not trusted: Lean checks it.
import Derived.Test.YtfjkamhcabckeaaDoorZRatioSums1
set_option maxHeartbeats 8000000
set_option maxRecDepth 100000
set_option linter.unusedVariables false
set_option linter.unusedSimpArgs false
section
namespace Go.Proofs.YtfjkamhcabckeaaDoor.P
open Go.RowKit Go.Proofs.YtfjkamhcabckeaaDoorW.PrintWords Go.Proofs.YtfjkamhcabckeaaDoorW.PrintLast Go.Proofs.YtfjkamhcabckeaaDoorW.PrintMore
attribute [local go_sem] zdo zdl max_two min_two zc9 zdb zdm zdk
def za0.l0 : Nat → List Int → List Int → List Int → Int → Option (List Int × List Int × Int)
 | 0, _, _, _, _ => none
 | k + 1, x1, x7, x8, x9 => if x9 ≥ 0 then ((zaz.f k x1 x9).bind fun t149 => ((zcs.f x7 t149).bind fun t152 => (if t152 ≥ 0 then ((zbu.f k x7 t149).bind fun t153 => (if 0 ≤ (wrap64 (Int.tdiv x9 64)) then (if (wrap64 (Int.tdiv x9 64)) < (x8.length : Int) then (if 0 ≤ (Int.tmod x9 64) then (za0.l0 k x1 t153 (x8.set ((wrap64 (Int.tdiv x9 64)) : Int).toNat (Go.bits .or .u64 (rd x8 (wrap64 (Int.tdiv x9 64))) (shl .u64 1 (Int.tmod x9 64)))) (wrap64 (x9 - 1))) else (none)) else (none)) else (none))) else (za0.l0 k x1 x7 x8 (wrap64 (x9 - 1)))))) else ((zbd.f k x8).bind fun t146 => (some (t146, x7, 0)))
def za0.f (k : Nat) (l0 : List Int) (l1 : List Int) : Option (List Int × List Int × Int) := if (l1.length : Int) = 0 then (some (([] : List Int), ([] : List Int), 16)) else ((zbr.f l0).bind fun t138 => (if 0 ≤ (l0.length : Int) then (if ((l0.length : Int) : Int).toNat ≤ 35184372088832 then ((zco.f l0).bind fun t144 => ((zco.f l1).bind fun t145 => (za0.l0 k l1 t138 (List.replicate ((l0.length : Int) : Int).toNat 0) (wrap64 (t144 - t145))))) else (none)) else (none)))
theorem za0.zdh : ∀ k, (∀ y0 y1 y2 y3, LeO (za0.l0 k y0 y1 y2 y3) (za0.l0 (k + 1) y0 y1 y2 y3))
 | 0 => fun _ _ _ _ r h => by simp [za0.l0] at h
 | k + 1 => by
  have ih0 := za0.zdh k
  ·
   intro y0 y1 y2 y3
   unfold za0.l0
   repeat' first
   | (with_reducible exact ih0 _ _ _ _)
   | (with_reducible exact zaz.mono _ _ _)
   | (with_reducible exact zbu.mono _ _ _)
   | (with_reducible exact zbd.mono _ _)
   | (with_reducible exact LeO.refl _)
   | (with_reducible exact LeO.none _)
   | (with_reducible refine LeO.ite ?_ ?_)
   | (with_reducible refine LeO.bind ?_ (fun _ => ?_))
   | exact ih0 _ _ _ _
   | exact zaz.mono _ _ _
   | exact zbu.mono _ _ _
   | exact zbd.mono _ _
   | exact LeO.none _
   | refine LeO.ite ?_ ?_
   | refine LeO.bind ?_ (fun _ => ?_)
theorem za0.mono : ∀ a0 a1 k, LeO (za0.f k a0 a1) (za0.f (k + 1) a0 a1) := by
 intro a0 a1 k
 have ih0 := za0.zdh k
 unfold za0.f
 repeat' first
   | (with_reducible exact ih0 _ _ _ _)
   | (with_reducible exact zaz.mono _ _ _)
   | (with_reducible exact zbu.mono _ _ _)
   | (with_reducible exact zbd.mono _ _)
   | (with_reducible exact LeO.refl _)
   | (with_reducible exact LeO.none _)
   | (with_reducible refine LeO.ite ?_ ?_)
   | (with_reducible refine LeO.bind ?_ (fun _ => ?_))
   | exact ih0 _ _ _ _
   | exact zaz.mono _ _ _
   | exact zbu.mono _ _ _
   | exact zbd.mono _ _
   | exact LeO.none _
   | refine LeO.ite ?_ ?_
   | refine LeO.bind ?_ (fun _ => ?_)
def za0.T11 : Bool × List (List Nat × List Nat) := (true, [([], []), ([], []), ([1], [1]), ([0, 2], [0, 2]), ([3], [3]), ([], []), ([5], [5]), ([6], [6]), ([4, 7], [4, 7]), ([0, 2, 0, 1, 2, 3, 4, 5, 6, 7, 8], [0, 2]), ([9, 8, 0, 1, 2, 3, 4, 5, 6, 7, 8], [8, 9])])
def za0.B11 : List Nat := [0, 0, 2, 7, 15, 0, 32, 96, 255, 511, 1023]
theorem za0.tab11 : rtab .any (opsOf Tryd.f60 11) = za0.T11 := by kernel_rfl
theorem za0.bits11 : waitsOk za0.T11.2 za0.B11 = true := by kernel_rfl
theorem za0.calls (k : Nat) (A0 : Option Addr) (c0 : Nat) (l0 : List Int) (A1 : Option Addr) (c1 : Nat) (l1 : List Int) (r1 : List Int) (r2 : List Int) (r3 : Int) (w : World) (hr0 : Kd.C (Kd.int .u64) w A0 l0.length l0) (hc0 : l0.length ≤ c0) (hr1 : Kd.C (Kd.int .u64) w A1 l1.length l1) (hc1 : l1.length ≤ c1) (h : za0.f k l0 l1 = some (r1, r2, r3)) :
  Calls Tryd.prog 60 #[.slice A0 l0.length c0, .slice A1 l1.length c1] w fun e w' => ∃ v0_ v1_ : Value, e = .returned (.tuple #[v0_, v1_, .int .i64 r3]) ∧ Kd.V (Kd.int .u64) 57 w' w.heap.size (fun k_ => (w.heap.size ≤ k_)) v0_ r1 ∧ Kd.V (Kd.int .u64) 57 w' w.heap.size (fun k_ => (w.heap.size ≤ k_)) v1_ r2 ∧ Below w.heap.size w w' := by
 have HR0 := zA hr0
 have HC0 := zA hc0
 clear hr0 hc0
 have HR1 := zA hr1
 have HC1 := zA hc1
 clear hr1 hc1
 have HB := zA (Below.refl w.heap.size w)
 have H : (if (l1.length : Int) = 0 then (some (([] : List Int), ([] : List Int), 16)) else ((zbr.f l0).bind fun t138 => (if 0 ≤ (l0.length : Int) then (if ((l0.length : Int) : Int).toNat ≤ 35184372088832 then ((zco.f l0).bind fun t144 => ((zco.f l1).bind fun t145 => (za0.l0 k l1 t138 (List.replicate ((l0.length : Int) : Int).toNat 0) (wrap64 (t144 - t145))))) else (none)) else (none)))) = some (r1, r2, r3) := h
 clear h
 by_cases c3 : (l1.length : Int) = 0
 ·
  rw [if_pos c3] at H
  have c3b0 : ((l1.length : Int) == 0) = true := beq_iff_eq.mpr c3
  have c3b1 : ((l1.length : Int) != 0) = false := bne_eq_false_iff_eq.mpr c3
  clear c3
  simp only [Option.some.injEq, Prod.mk.injEq] at H
  obtain ⟨rfl, rfl, rfl⟩ := H
  go_enter Tryd.func60, Tryd.ntmps60
  go_wp2
  go_ret3
  exact ⟨_, _, zW, Kd.V_nil _ _ _ _ _, Kd.V_nil _ _ _ _ _, zB HB⟩
 ·
  rw [if_neg c3] at H
  have c3b0 : ((l1.length : Int) == 0) = false := beq_eq_false_iff_ne.mpr c3
  have c3b1 : ((l1.length : Int) != 0) = true := bne_iff_ne.mpr c3
  have c3b2 : ¬ (l1 = []) := fun h_ => c3 (by rw [h_]; rfl)
  replace H := zO H
  obtain ⟨t138, A40, H⟩ := H
  try dsimp only at H
  have A4 := zA A40
  clear A40
  by_cases c5 : 0 ≤ (l0.length : Int)
  ·
   rw [if_pos c5] at H
   have c5b0 := eq_true c5
   have c5b1 : decide (0 ≤ (l0.length : Int)) = true := decide_eq_true c5
   clear c5
   by_cases c6 : ((l0.length : Int) : Int).toNat ≤ 35184372088832
   ·
    rw [if_pos c6] at H
    have c6b0 := eq_true c6
    have c6b1 : decide (((l0.length : Int) : Int).toNat ≤ 35184372088832) = true := decide_eq_true c6
    clear c6
    obtain ⟨y141, hy141⟩ : ∃ y_ : List Int, y_ = (List.replicate ((l0.length : Int) : Int).toNat 0) := ⟨_, rfl⟩
    replace H : ((zco.f l0).bind fun t144 => ((zco.f l1).bind fun t145 => (za0.l0 k l1 t138 y141 (wrap64 (t144 - t145))))) = some (r1, r2, r3) := by first | (rw [hy141]; with_reducible exact H) | (have H2_ := (Option.bind_some _ _).symm.trans H; rw [hy141]; with_reducible exact H2_) | (have H2_ := (Option.bind_some _ _).symm.trans H; with_reducible exact H2_) | with_reducible exact H | (rw [hy141]; exact H) | exact H
    have Ny141 := zA hy141
    clear hy141
    replace H := zO H
    obtain ⟨t144, A70, H⟩ := H
    try dsimp only at H
    have A7 := zA A70
    clear A70
    replace H := zO H
    obtain ⟨t145, A80, H⟩ := H
    try dsimp only at H
    have A8 := zA A80
    clear A80
    have H' := zA H
    clear H
    go_enter Tryd.func60, Tryd.ntmps60
    go_wp2_with (first | ((with_reducible refine zah (f := 81) rfl ?_); refine zba (some 15) rfl rfl Tryd.func81 (by kernel_rfl) rfl #[.slice A0 l0.length c0] rfl (zE) ?_; (with_reducible refine (zbr.calls _ _ l0 t138 _ ?side1 ?side2 A4.out).mono ?_); (case side1 => repeat (first | exact HR0.out | (with_reducible refine Kd.C_alloc ?_ _) | (with_reducible refine Kd.C_drewN ?_ _) | (with_reducible refine Kd.C_drew ?_))); (case side2 => exact HC0.out); rintro e w9 ⟨v139, rfl, ho0, hb⟩; refine ⟨_, rfl, ?_⟩; have n0_ := zA (Kd.zbm (Kd.zc4 (M := fun k_ => (w.heap.size ≤ k_)) ho0 (za (zB HB)) (fun k_ h_ => h_)) (za (zB HB))); have n1_ := zA (zaf (zB HB) hb); clear HB; have HO140 := n0_; have HB := n1_; clear n0_ n1_; (try clear hb); (try clear hb2); (try clear hk); (try clear hi); (try clear ho0)) | ((with_reducible refine zbh (N := 18) rfl ?_); refine Kd.R_make (Kd.int .u64) _ 57 rfl (N := 18) rfl 26 _ _ rfl (l0.length : Int) rfl rfl Tryd.underlying26 (.int .u64 0) 8 info57 rfl (by decide) (by omega) 0 (ok := fun _ => True) (okp := fun _ => True) rfl (fun _ hk => hk) trivial (of_decide_eq_true (by first | (with_reducible assumption) | assumption)) (Nat.le_trans (Nat.mul_le_mul_right _ (of_decide_eq_true (by first | (with_reducible assumption) | assumption) : (l0.length : Int).toNat ≤ 35184372088832)) (by omega)) (Below.refl _ _) (Nat.le_refl _) ?_; intro v142 w10 ho11 hb hg_ hnew_; clear hg_ hnew_; (first | rw [← Ny141.out] at ho11 | (simp only [Int.reduceToNat] at ho11; rw [← Ny141.out] at ho11)); have n0_ := zA (Kd.zbp (zR HO140) (Kd.za1 ho11) hb); have n1_ := zA (Kd.zbm (Kd.zbk (Kd.zc4 (M := fun k_ => (w.heap.size ≤ k_)) ho11 (za (zB HB)) (fun k_ h_ => h_)) (Kd.R_lt (zR HO140))) (za (zB HB))); have n2_ := zA (zaf (zB HB) hb); clear HO140 HB; have HO140 := n0_; have HO143 := n1_; have HB := n2_; clear n0_ n1_ n2_ hb ho11) | ((with_reducible refine zah (f := 84) rfl ?_); refine zba (some 20) rfl rfl Tryd.func84 (by kernel_rfl) rfl #[.slice A0 l0.length c0] rfl (zE) ?_; (with_reducible refine (zco.calls _ _ l0 t144 _ ?side1 ?side2 A7.out).mono ?_); (case side1 => exact zJ (Kd.za6 HR0.out HB.out)); (case side2 => exact HC0.out); rintro e w' ⟨rfl, ⟨nd, rfl⟩⟩; refine ⟨_, rfl, ?_⟩) | ((with_reducible refine zah (f := 84) rfl ?_); refine zba (some 22) rfl rfl Tryd.func84 (by kernel_rfl) rfl #[.slice A1 l1.length c1] rfl (zE) ?_; (with_reducible refine (zco.calls _ _ l1 t145 _ ?side1 ?side2 A8.out).mono ?_); (case side1 => exact zJ (Kd.za6 HR1.out (zB HB))); (case side2 => exact HC1.out); rintro e w' ⟨rfl, ⟨nd, rfl⟩⟩; refine ⟨_, rfl, ?_⟩))
    go_loopg [7, 9] k (fun kq v7 v9 w' => ∃ (x7_1 : List Int) (x8_1 : List Int) (x9_1 : Int), v9 = .int .i64 x9_1 ∧ Aside0 (za0.l0 kq l1 x7_1 x8_1 x9_1 = some (r1, r2, r3)) ∧ Aside0 (kq ≤ k) ∧ Aside0 (Kd.V (Kd.int .u64) 57 w' w.heap.size (fun k_ => (w.heap.size ≤ k_) ∧ some k_ ≠ (v142 : Value).ownBlock) v7 x7_1) ∧ Aside0 (Kd.R (Kd.int .u64) 57 w' w.heap.size (fun k_ => (w.heap.size ≤ k_)) v142 x8_1) ∧ Aside0 (Below w.heap.size w w'))
    case atStart => exact ⟨(t138), (y141), (wrap64 (t144 - t145)), (zF), H', ⟨Nat.le_refl _⟩, ⟨Kd.R_V (by (with_reducible repeat (first | apply Kd.za3 | apply Kd.za4 | apply Kd.zbb)); exact Kd.zav HO140.out (fun _ hk => ⟨hk.1.1, hk.2⟩))⟩, ⟨by (with_reducible repeat (first | apply Kd.za3 | apply Kd.za4 | apply Kd.zbb)); exact Kd.zav HO143.out (fun _ hk => hk.1.1)⟩, ⟨zB HB⟩⟩
    case round =>
     clear H'
     try clear c1
     try clear p2
     try clear c3
     try clear c3b0
     try clear c3b1
     try clear c3b2
     try clear c5
     try clear c5b0
     try clear c5b1
     try clear c6
     try clear c6b0
     try clear c6b1
     try clear p6
     try clear c8
     obtain ⟨x7_1, x8_1, x9_1, rfl, HA, HK1, HO_7, HO_8, HB⟩ := hrel
     cases gk with
     | zero => exact absurd HA.out (by simp [za0.l0])
     | succ k1 =>
      have H := HA.out
      clear HA
      simp only [za0.l0] at H
      by_cases c12 : x9_1 ≥ 0
      ·
       rw [if_pos c12] at H
       have c12b0 : decide (0 ≤ x9_1) = true := decide_eq_true c12
       clear c12
       replace H := zO H
       obtain ⟨t149, A130, H⟩ := H
       try dsimp only at H
       have A13 := zA A130
       clear A130
       replace H := zO H
       obtain ⟨t152, A140, H⟩ := H
       try dsimp only at H
       have A14 := zA A140
       clear A140
       by_cases c15 : t152 ≥ 0
       ·
        rw [if_pos c15] at H
        have c15b0 : decide (0 ≤ t152) = true := decide_eq_true c15
        clear c15
        replace H := zO H
        obtain ⟨t153, A160, H⟩ := H
        try dsimp only at H
        have A16 := zA A160
        clear A160
        obtain ⟨ji17, hji17⟩ : ∃ j_ : Int, (wrap64 (Int.tdiv x9_1 64)) = j_ := ⟨_, rfl⟩
        replace H : (if 0 ≤ (ji17) then (if (ji17) < (x8_1.length : Int) then (if 0 ≤ (Int.tmod x9_1 64) then (za0.l0 k1 l1 t153 (x8_1.set ((ji17) : Int).toNat (Go.bits .or .u64 (rd x8_1 (ji17)) (shl .u64 1 (Int.tmod x9_1 64)))) (wrap64 (x9_1 - 1))) else (none)) else (none)) else (none)) = some (r1, r2, r3) := by first | (rw [hji17] at H; exact H) | (simp only [hji17] at H ⊢; exact H)
        (try rw [hji17] at A13)
        (try rw [hji17] at A14)
        (try rw [hji17] at A16)
        have hji17w : (IntKind.i64.wrap (Int.tdiv x9_1 64)) = ji17 := (i64_w _).trans hji17
        by_cases c18 : 0 ≤ (ji17)
        ·
         rw [if_pos c18] at H
         have c18b0 : decide (0 ≤ (ji17)) = true := decide_eq_true c18
         clear c18
         by_cases c19 : (ji17) < (x8_1.length : Int)
         ·
          rw [if_pos c19] at H
          have c19b0 : decide ((ji17) < (x8_1.length : Int)) = true := decide_eq_true c19
          clear c19
          obtain ⟨ji20, hji20⟩ : ∃ j_ : Int, (Int.tmod x9_1 64) = j_ := ⟨_, rfl⟩
          replace H : (if 0 ≤ (ji20) then (za0.l0 k1 l1 t153 (x8_1.set ((ji17) : Int).toNat (Go.bits .or .u64 (rd x8_1 (ji17)) (shl .u64 1 (ji20)))) (wrap64 (x9_1 - 1))) else (none)) = some (r1, r2, r3) := by first | (rw [hji20] at H; exact H) | (simp only [hji20] at H ⊢; exact H)
          (try rw [hji20] at A13)
          (try rw [hji20] at A14)
          (try rw [hji20] at A16)
          by_cases c21 : 0 ≤ (ji20)
          ·
           rw [if_pos c21] at H
           have c21b0 := eq_true c21
           have c21b1 : decide (0 ≤ (ji20)) = true := decide_eq_true c21
           clear c21
           obtain ⟨ji22, hji22⟩ : ∃ j_ : Int, (shl .u64 1 (ji20)) = j_ := ⟨_, rfl⟩
           replace H : (za0.l0 k1 l1 t153 (x8_1.set ((ji17) : Int).toNat (Go.bits .or .u64 (rd x8_1 (ji17)) (ji22))) (wrap64 (x9_1 - 1))) = some (r1, r2, r3) := by first | (rw [hji22] at H; exact H) | (simp only [hji22] at H ⊢; exact H)
           (try rw [hji22] at A13)
           (try rw [hji22] at A14)
           (try rw [hji22] at A16)
           have hji22_ : (IntKind.u64.wrap (1 * 2 ^ min (ji20).toNat 64)) = ji22 := hji22
           have hji22z : (ji20) ≤ 64 → (IntKind.u64.wrap (1 * 2 ^ (ji20).toNat)) = ji22 := shl_small hji22
           have hji22u : (IntKind.u64.wrap (2 ^ min (ji20).toNat 64)) = ji22 := by have h_ := hji22_; rw [Int.one_mul] at h_; exact h_
           have hji22v : (ji20) ≤ 64 → (IntKind.u64.wrap (2 ^ (ji20).toNat)) = ji22 := fun hle_ => by have h_ := hji22z hle_; rw [Int.one_mul] at h_; exact h_
           obtain ⟨y157, hy157⟩ : ∃ y_ : List Int, y_ = (x8_1.set ((ji17) : Int).toNat (Go.bits .or .u64 (rd x8_1 (ji17)) (ji22))) := ⟨_, rfl⟩
           replace H : (za0.l0 k1 l1 t153 y157 (wrap64 (x9_1 - 1))) = some (r1, r2, r3) := by first | (rw [hy157]; with_reducible exact H) | (have H2_ := (Option.bind_some _ _).symm.trans H; rw [hy157]; with_reducible exact H2_) | (have H2_ := (Option.bind_some _ _).symm.trans H; with_reducible exact H2_) | with_reducible exact H | (rw [hy157]; exact H) | exact H
           have Ny157 := zA hy157
           clear hy157
           have H' := zA H
           clear H
           try go_wp2_with (first | ((with_reducible refine zah (f := 85) rfl ?_); refine zba (some 30) rfl rfl Tryd.func85 (by kernel_rfl) rfl #[.slice A1 l1.length c1, .int .i64 x9_1] rfl (zE) ?_; (with_reducible refine (zaz.calls k1 _ _ l1 x9_1 t149 _ ?side1 ?side2 A13.out).mono ?_); (case side1 => exact zJ (Kd.za6 HR1.out HB.out)); (case side2 => exact HC1.out); rintro e w24 ⟨v150, rfl, ho0, hb⟩; refine ⟨_, rfl, ?_⟩; have n0_ := zA (Kd.zao (zV HO_7) hb); have n1_ := zA (Kd.zax (zR HO_8) hb); have n2_ := zA (Kd.zbi (Kd.zak (ok' := fun k_ => (w.heap.size ≤ k_) ∧ some k_ ≠ (v142 : Value).ownBlock) ho0 (fun k_ hk_ => ⟨(Nat.le_trans (za (zB HB)) hk_), (Kd.fresh' (Kd.R_lt (zR HO_8)) k_ hk_)⟩)) (za (zB HB))); have n3_ := zA (zaf (zB HB) hb); clear HO_7 HO_8 HB; have HO_7 := n0_; have HO_8 := n1_; have HO151 := n2_; have HB := n3_; clear n0_ n1_ n2_ n3_; (try clear hb); (try clear hb2); (try clear hk); (try clear hi); (try clear ho0); obtain ⟨Ao25, co25, eo25⟩ := Kd.zbt HO_7.out; subst eo25; obtain ⟨Ao26, co26, eo26⟩ := Kd.zbt HO151.out; subst eo26) | ((with_reducible refine zah (f := 52) rfl ?_); refine zba (some 33) rfl rfl Tryd.func52 (by kernel_rfl) rfl #[.slice Ao25 x7_1.length co25, .slice Ao26 t149.length co26] rfl (zE) ?_; (with_reducible refine (zcs.calls _ _ x7_1 _ _ t149 t152 _ ?side1 ?side2 ?side3 ?side4 A14.out).mono ?_); (case side1 => exact zJ (Kd.zas HO_7.out).2.2); (case side2 => exact (Kd.zas HO_7.out).2.1); (case side3 => exact zJ (Kd.zas HO151.out).2.2); (case side4 => exact (Kd.zas HO151.out).2.1); rintro e w27 ⟨rfl, hb⟩; refine ⟨_, rfl, ?_⟩; have n0_ := zA (Kd.zao (zV HO_7) hb); have n1_ := zA (Kd.zax (zR HO_8) hb); have n2_ := zA (Kd.zao (zV HO151) hb); have n3_ := zA (zaf (zB HB) hb); clear HO_7 HO_8 HO151 HB; have HO_7 := n0_; have HO_8 := n1_; have HO151 := n2_; have HB := n3_; clear n0_ n1_ n2_ n3_; (try clear hb); (try clear hb2); (try clear hk); (try clear hi)) | ((with_reducible refine zah (f := 86) rfl ?_); refine zba (some 37) rfl rfl Tryd.func86 (by kernel_rfl) rfl #[.slice Ao25 x7_1.length co25, .slice Ao26 t149.length co26] rfl (zE) ?_; (with_reducible refine (zbu.calls k1 _ _ x7_1 _ _ t149 t153 _ ?side1 ?side2 ?side3 ?side4 A16.out).mono ?_); (case side1 => exact zJ (Kd.zas HO_7.out).2.2); (case side2 => exact (Kd.zas HO_7.out).2.1); (case side3 => exact zJ (Kd.zas HO151.out).2.2); (case side4 => exact (Kd.zas HO151.out).2.1); rintro e w28 ⟨v154, rfl, ho0, hb⟩; refine ⟨_, rfl, ?_⟩; have n0_ := zA (Kd.zao (zV HO_7) hb); have n1_ := zA (Kd.zax (zR HO_8) hb); have n2_ := zA (Kd.zao (zV HO151) hb); have n3_ := zA (Kd.zbi (Kd.zak (ok' := fun k_ => (w.heap.size ≤ k_) ∧ some k_ ≠ (v142 : Value).ownBlock) ho0 (fun k_ hk_ => ⟨(Nat.le_trans (za (zB HB)) hk_), (Kd.fresh' (Kd.R_lt (zR HO_8)) k_ hk_)⟩)) (za (zB HB))); have n4_ := zA (zaf (zB HB) hb); clear HO_7 HO_8 HO151 HB; have HO_7 := n0_; have HO_8 := n1_; have HO151 := n2_; have HO155 := n3_; have HB := n4_; clear n0_ n1_ n2_ n3_ n4_; (try clear hb); (try clear hb2); (try clear hk); (try clear hi); (try clear ho0)))
           have n0_ := zA (Kd.zbc HO_7.out)
           have n1_ := zA (Kd.zbb HO_8.out)
           have n2_ := zA (Kd.zbc HO151.out)
           have n3_ := zA (Kd.zbc HO155.out)
           have n4_ := zA (zb0 HB.out)
           clear HO_7 HO_8 HO151 HO155 HB
           have HO_7 := n0_
           have HO_8 := n1_
           have HO151 := n2_
           have HO155 := n3_
           have HB := n4_
           clear n0_ n1_ n2_ n3_ n4_
           obtain ⟨Ao30, co30, eo30⟩ := Kd.zbn HO_8.out
           (first | subst eo30 | (injection eo30 with f1_ f2_ f3_; have f4_ := f1_.symm; have f5_ := f3_.symm; clear f1_ f2_ f3_; subst f4_; subst f5_))
           have p156 : 0 ≤ ((ji17) : Int) := of_decide_eq_true (by first | (with_reducible assumption) | assumption)
           have q156 : (ji17) < (x8_1.length : Int) := of_decide_eq_true (by first | (with_reducible assumption) | assumption)
           obtain ⟨ad156, e156, hx156_0⟩ := Kd.at_int (Kd.zat HO_8.out).2.2 (ji17) p156 q156
           cases e156
           replace p156 := eq_true p156
           replace q156 := eq_true q156
           have p23 : 0 ≤ ((ji17) : Int) := of_decide_eq_true (by first | (with_reducible assumption) | assumption)
           have q23 : ((ji17) : Int) < ((x8_1.length : Int) : Int) := of_decide_eq_true (by first | (with_reducible assumption) | assumption)
           obtain ⟨go23, co23, eo23, gb23, gl23, cl23, HG23⟩ := Kd.R_form HO_8.out (by omega)
           (first | cases eo23 | (injection eo23 with ea_ en_ ec_; (first | subst ea_ | (injection ea_ with ea_; subst ea_)); subst ec_; clear en_))
           have GB23 := zA gb23
           have GG23 := zA HG23
           clear gb23 gl23 HG23
           (first | simp only [add_plain] at hx156_0 | skip)
           obtain ⟨hx23_0, hf23_0⟩ := Kd.zda 0 HO_8.out ((ji17) : Int) p23 q23
           replace p23 := eq_true p23
           replace q23 := eq_true q23
           have HP31 := Kd.R_putn HO_8.out ((ji17) : Int) (Go.bits .or .u64 (rd x8_1 (ji17)) (ji22))
           rw [← Ny157.out] at HP31
           have HQ31 := zA HP31
           clear HP31
           refine start_ (n := 11) (S := fun w' => w'.cell? ⟨go23, ((ji17)).toNat, none⟩ = some (.int .u64 (rd x8_1 (ji17)))) (ds := [10]) #[false, false, false, false, false, false, false, false, false, false, false] (by kernel_rfl) rfl rfl (hx156_0) (fun hHeld => ?_); refine zc0 za0.tab11 za0.bits11 (fun HT_ HW_ => ?_)
           generalize w28.drew = w29 at HO_7 HO_8 HO151 HO155 HB GG23 HQ31 hf23_0 hx156_0 hx23_0 hHeld ⊢
           refine pure_ (i := 0) (N := some 38) (v := ?_) (a' := ?_) #[true, false, false, false, false, false, false, false, false, false, false] rfl rfl (zbf HT_.out (by kernel_rfl)) (fun _ _ _ h => h) (Or.inl ⟨by rfl, ?_⟩) ?_ ?_
           rotate_left
           ·
            intro w'
            go_simp
            with_reducible rfl
           rotate_left
           ·
            simp only [Act.put, zs1, zs2, zs3, i64_w, i32_w]
            rfl
           refine pure_ (i := 1) (N := some 39) (v := ?_) (a' := ?_) #[true, true, false, false, false, false, false, false, false, false, false] rfl rfl (zbf HT_.out (by kernel_rfl)) (fun _ _ _ h => h) (Or.inl ⟨by rfl, ?_⟩) ?_ ?_
           rotate_left
           ·
            intro w'
            go_simp
            with_reducible rfl
           rotate_left
           ·
            simp only [Act.put, zs1, zs2, zs3, i64_w, i32_w]
            rfl
           refine pure_ (i := 2) (N := some 40) (v := ?_) (a' := ?_) #[true, true, true, false, false, false, false, false, false, false, false] rfl rfl (zbf HT_.out (by kernel_rfl)) (fun _ _ _ h => h) (Or.inl ⟨by rfl, ?_⟩) ?_ ?_
           rotate_left
           ·
            intro w'
            go_simp
            with_reducible rfl
           rotate_left
           ·
            simp only [Act.put, zs1, zs2, zs3, i64_w, i32_w]
            rfl
           refine pure_ (i := 3) (N := some 41) (v := ?_) (a' := ?_) #[true, true, true, true, false, false, false, false, false, false, false] rfl rfl (zbf HT_.out (by kernel_rfl)) (fun _ _ _ h => h) (Or.inl ⟨by rfl, ?_⟩) ?_ ?_
           rotate_left
           ·
            intro w'
            go_simp
            with_reducible rfl
           rotate_left
           ·
            simp only [Act.put, zs1, zs2, zs3, i64_w, i32_w]
            rfl
           refine pure_ (i := 5) (N := some 43) (v := ?_) (a' := ?_) #[true, true, true, true, false, true, false, false, false, false, false] rfl rfl (zbf HT_.out (by kernel_rfl)) (fun _ _ _ h => h) (Or.inl ⟨by rfl, ?_⟩) ?_ ?_
           rotate_left
           ·
            intro w'
            go_simp
            with_reducible rfl
           rotate_left
           ·
            simp only [Act.put, zs1, zs2, zs3, i64_w, i32_w]
            rfl
           refine pure_ (i := 6) (N := some 44) (v := ?_) (a' := ?_) #[true, true, true, true, false, true, true, false, false, false, false] rfl rfl (zbf HT_.out (by kernel_rfl)) (fun _ _ _ h => h) (Or.inl ⟨by rfl, ?_⟩) ?_ ?_
           rotate_left
           ·
            intro w'
            go_simp
            with_reducible rfl
           rotate_left
           ·
            simp only [Act.put, zs1, zs2, zs3, i64_w, i32_w]
            rfl
           refine pure_ (i := 7) (N := some 45) (v := ?_) (a' := ?_) #[true, true, true, true, false, true, true, true, false, false, false] rfl rfl (zbf HT_.out (by kernel_rfl)) (fun _ _ _ h => h) (Or.inl ⟨by rfl, ?_⟩) ?_ ?_
           rotate_left
           ·
            intro w'
            go_simp
            with_reducible rfl
           rotate_left
           ·
            simp only [Act.put, zs1, zs2, zs3, i64_w, i32_w]
            rfl
           refine take_ (i := 4) (N := some 42) (v := ?_) (a' := ?_) #[true, true, true, true, true, true, true, true, false, false, false] rfl rfl (zbx HT_.out HW_.out (by kernel_rfl)) (fun _ _ _ h => h) (Or.inl ⟨by rfl, ?_⟩) hHeld ?_ ?_
           rotate_left
           ·
            intro w' s0
            go_simp
            with_reducible rfl
           rotate_left
           ·
            simp only [Act.put, zs1, zs2, zs3, i64_w, i32_w]
            rfl
           refine pure_ (i := 8) (N := some 46) (v := ?_) (a' := ?_) #[true, true, true, true, true, true, true, true, true, false, false] rfl rfl (zbf HT_.out (by kernel_rfl)) (fun _ _ _ h => h) (Or.inl ⟨by rfl, ?_⟩) ?_ ?_
           rotate_left
           ·
            intro w'
            go_simp
            with_reducible rfl
           rotate_left
           ·
            simp only [Act.put, zs1, zs2, zs3, i64_w, i32_w]
            rfl
           refine pure_ (i := 9) (N := some 47) (v := ?_) (a' := ?_) #[true, true, true, true, true, true, true, true, true, true, false] rfl rfl (zbf HT_.out (by kernel_rfl)) (fun _ _ _ h => h) (Or.inl ⟨by rfl, ?_⟩) ?_ ?_
           rotate_left
           ·
            intro w'
            go_simp
            with_reducible rfl
           rotate_left
           ·
            simp only [Act.put, zs1, zs2, zs3, i64_w, i32_w]
            rfl
           refine last_ (i := 10) (N := none) #[true, true, true, true, true, true, true, true, true, true, true] rfl rfl (zcf HT_.out (by kernel_rfl)) (by decide) (fun K hK => ?_)
           refine skip_ (w1 := ?_) (by rfl) rfl ?_ ?_
           rotate_left
           ·
            go_simp
            rfl
           refine hK.out _ _ ?_
           clear hK K
           refine done_ (done_of HT_.out (by kernel_rfl)) ?_
           try go_wp2
           go_roundg k1
           case measure => have := HK1.out; omega
           case rel => exact ⟨(t153), (y157), (wrap64 (x9_1 - 1)), (zF), H', ⟨by have := HK1.out; omega⟩, ⟨by (with_reducible repeat (first | apply Kd.za8 | apply Kd.za9 | apply Kd.zbc)); exact Kd.zak (Kd.V_far (p := ⟨go23, ((ji17) : Int).toNat, none⟩) (Kd.zak HO155.out (fun k_ hk => (⟨hk, fun e_ => hk.2 (by rw [e_]; rfl)⟩ : _ ∧ k_ ≠ go23))) (fun _ hk => hk.2) (.int .u64 (Go.bits .or .u64 (rd x8_1 (ji17)) (ji22)))) (fun _ hk => ⟨hk.1.1, hk.1.2⟩)⟩, ⟨zR HQ31⟩, ⟨zB HB⟩⟩
          ·
           rw [if_neg c21] at H
           exact absurd H (by simp)
         ·
          rw [if_neg c19] at H
          exact absurd H (by simp)
        ·
         rw [if_neg c18] at H
         exact absurd H (by simp)
       ·
        rw [if_neg c15] at H
        have c15b0 : decide (0 ≤ t152) = false := decide_eq_false c15
        clear c15
        have H' := zA H
        clear H
        go_wp2_with (first | ((with_reducible refine zah (f := 85) rfl ?_); refine zba (some 30) rfl rfl Tryd.func85 (by kernel_rfl) rfl #[.slice A1 l1.length c1, .int .i64 x9_1] rfl (zE) ?_; (with_reducible refine (zaz.calls k1 _ _ l1 x9_1 t149 _ ?side1 ?side2 A13.out).mono ?_); (case side1 => exact zJ (Kd.za6 HR1.out HB.out)); (case side2 => exact HC1.out); rintro e w32 ⟨v150, rfl, ho0, hb⟩; refine ⟨_, rfl, ?_⟩; have n0_ := zA (Kd.zao (zV HO_7) hb); have n1_ := zA (Kd.zax (zR HO_8) hb); have n2_ := zA (Kd.zbi (Kd.zak (ok' := fun k_ => (w.heap.size ≤ k_) ∧ some k_ ≠ (v142 : Value).ownBlock) ho0 (fun k_ hk_ => ⟨(Nat.le_trans (za (zB HB)) hk_), (Kd.fresh' (Kd.R_lt (zR HO_8)) k_ hk_)⟩)) (za (zB HB))); have n3_ := zA (zaf (zB HB) hb); clear HO_7 HO_8 HB; have HO_7 := n0_; have HO_8 := n1_; have HO151 := n2_; have HB := n3_; clear n0_ n1_ n2_ n3_; (try clear hb); (try clear hb2); (try clear hk); (try clear hi); (try clear ho0); obtain ⟨Ao33, co33, eo33⟩ := Kd.zbt HO_7.out; subst eo33; obtain ⟨Ao34, co34, eo34⟩ := Kd.zbt HO151.out; subst eo34) | ((with_reducible refine zah (f := 52) rfl ?_); refine zba (some 33) rfl rfl Tryd.func52 (by kernel_rfl) rfl #[.slice Ao33 x7_1.length co33, .slice Ao34 t149.length co34] rfl (zE) ?_; (with_reducible refine (zcs.calls _ _ x7_1 _ _ t149 t152 _ ?side1 ?side2 ?side3 ?side4 A14.out).mono ?_); (case side1 => exact zJ (Kd.zas HO_7.out).2.2); (case side2 => exact (Kd.zas HO_7.out).2.1); (case side3 => exact zJ (Kd.zas HO151.out).2.2); (case side4 => exact (Kd.zas HO151.out).2.1); rintro e w35 ⟨rfl, hb⟩; refine ⟨_, rfl, ?_⟩; have n0_ := zA (Kd.zao (zV HO_7) hb); have n1_ := zA (Kd.zax (zR HO_8) hb); have n2_ := zA (Kd.zao (zV HO151) hb); have n3_ := zA (zaf (zB HB) hb); clear HO_7 HO_8 HO151 HB; have HO_7 := n0_; have HO_8 := n1_; have HO151 := n2_; have HB := n3_; clear n0_ n1_ n2_ n3_; (try clear hb); (try clear hb2); (try clear hk); (try clear hi)))
        go_roundg k1
        case measure => have := HK1.out; omega
        case rel => exact ⟨(x7_1), (x8_1), (wrap64 (x9_1 - 1)), (zF), H', ⟨by have := HK1.out; omega⟩, ⟨zV HO_7⟩, ⟨zR HO_8⟩, ⟨zB HB⟩⟩
      ·
       rw [if_neg c12] at H
       have c12b0 : decide (0 ≤ x9_1) = false := decide_eq_false c12
       clear c12
       replace H := zO H
       obtain ⟨t146, A360, H⟩ := H
       try dsimp only at H
       have A36 := zA A360
       clear A360
       simp only [Option.some.injEq, Prod.mk.injEq] at H
       obtain ⟨rfl, rfl, rfl⟩ := H
       obtain ⟨Ao37, co37, eo37⟩ := Kd.zbn HO_8.out
       subst eo37
       go_wp2_with (first | ((with_reducible refine zah (f := 65) rfl ?_); refine zba (some 49) rfl rfl Tryd.func65 (by kernel_rfl) rfl #[.slice Ao37 x8_1.length co37] rfl (zE) ?_; (with_reducible refine (zbd.calls k1 (fun k_ => some k_ = (.slice Ao37 x8_1.length co37 : Value).ownBlock) _ _ x8_1 t146 _ ?side1 A36.out).mono ?_); (case side1 => exact Kd.R_V (Kd.zdf rfl (HO_8.out))); rintro e w38 ⟨v147, rfl, ho0, hb⟩; refine ⟨_, rfl, ?_⟩; have n0_ := zA (Kd.zao (zV HO_7) hb); have n1_ := zA (Kd.zax (zR HO_8) hb); have n2_ := zA (Kd.zbi (Kd.zak (ok' := fun k_ => (w.heap.size ≤ k_)) ho0 (fun k_ hk_ => Or.elim hk_ (fun hs_ => ((HO_8.out).1 k_ hs_.symm)) (fun hn_ => (Nat.le_trans (za (zB HB)) hn_)))) (za (zB HB))); have n3_ := zA (zaf (zB HB) hb); clear HO_7 HO_8 HB; have HO_7 := n0_; have HO_8 := n1_; have HO148 := n2_; have HB := n3_; clear n0_ n1_ n2_ n3_; (try clear hb); (try clear hb2); (try clear hk); (try clear hi); (try clear ho0)))
       go_ret3
       exact ⟨_, _, zW, zV HO148, by (with_reducible repeat (first | apply Kd.za8 | apply Kd.za9 | apply Kd.zbc)); exact Kd.zak HO_7.out (fun _ hk => hk.1), zB HB⟩
   ·
    rw [if_neg c6] at H
    exact absurd H (by simp)
  ·
   rw [if_neg c5] at H
   exact absurd H (by simp)
def zcg.l0 : Nat → List Int → List Int → Option (List Int)
 | 0, _, _ => none
 | k + 1, x0, x1 => if (x1.length : Int) > 0 then ((za0.f k x0 x1).bind fun bt161 => ((zbr.f x1).bind fun t168 => (zcg.l0 k t168 bt161.2.1))) else (some x0)
def zcg.f (k : Nat) (l0 : List Int) (l1 : List Int) : Option (List Int) := (zbr.f l0).bind fun t158 => (zcg.l0 k t158 l1)
theorem zcg.zdh : ∀ k, (∀ y0 y1, LeO (zcg.l0 k y0 y1) (zcg.l0 (k + 1) y0 y1))
 | 0 => fun _ _ r h => by simp [zcg.l0] at h
 | k + 1 => by
  have ih0 := zcg.zdh k
  ·
   intro y0 y1
   unfold zcg.l0
   repeat' first
   | (with_reducible exact ih0 _ _)
   | (with_reducible exact za0.mono _ _ _)
   | (with_reducible exact LeO.refl _)
   | (with_reducible exact LeO.none _)
   | (with_reducible refine LeO.ite ?_ ?_)
   | (with_reducible refine LeO.bind ?_ (fun _ => ?_))
   | exact ih0 _ _
   | exact za0.mono _ _ _
   | exact LeO.none _
   | refine LeO.ite ?_ ?_
   | refine LeO.bind ?_ (fun _ => ?_)
theorem zcg.mono : ∀ a0 a1 k, LeO (zcg.f k a0 a1) (zcg.f (k + 1) a0 a1) := by
 intro a0 a1 k
 have ih0 := zcg.zdh k
 unfold zcg.f
 repeat' first
   | (with_reducible exact ih0 _ _)
   | (with_reducible exact za0.mono _ _ _)
   | (with_reducible exact LeO.refl _)
   | (with_reducible exact LeO.none _)
   | (with_reducible refine LeO.ite ?_ ?_)
   | (with_reducible refine LeO.bind ?_ (fun _ => ?_))
   | exact ih0 _ _
   | exact za0.mono _ _ _
   | exact LeO.none _
   | refine LeO.ite ?_ ?_
   | refine LeO.bind ?_ (fun _ => ?_)
theorem zcg.calls (k : Nat) (A0 : Option Addr) (c0 : Nat) (l0 : List Int) (P1_ : Nat → Prop) (A1 : Option Addr) (c1 : Nat) (l1 : List Int) (r : List Int) (w : World) (hr0 : Kd.C (Kd.int .u64) w A0 l0.length l0) (hc0 : l0.length ≤ c0) (hs1 : Kd.V (Kd.int .u64) 57 w w.heap.size (fun k_ => P1_ k_) (.slice A1 l1.length c1) l1) (h : zcg.f k l0 l1 = some r) :
  Calls Tryd.prog 53 #[.slice A0 l0.length c0, .slice A1 l1.length c1] w fun e w' => ∃ v0_ : Value, e = .returned (v0_) ∧ Kd.R (Kd.int .u64) 57 w' w.heap.size (fun k_ => (w.heap.size ≤ k_)) v0_ r ∧ Below w.heap.size w w' := by
 have HR0 := zA hr0
 have HC0 := zA hc0
 clear hr0 hc0
 have HO1 := zA (show Kd.V (Kd.int .u64) 57 w w.heap.size (fun k_ => (P1_ k_ ∨ w.heap.size ≤ k_)) (.slice A1 l1.length c1) l1 from Kd.zak hs1 (fun k_ hk => .inl hk))
 have HB := zA (Below.refl w.heap.size w)
 have H : ((zbr.f l0).bind fun t158 => (zcg.l0 k t158 l1)) = some r := h
 clear h
 replace H := zO H
 obtain ⟨t158, A30, H⟩ := H
 try dsimp only at H
 have A3 := zA A30
 clear A30
 have H' := zA H
 clear H
 go_enter Tryd.func53, Tryd.ntmps53
 go_wp2_with (first | ((with_reducible refine zah (f := 81) rfl ?_); refine zba (some 9) rfl rfl Tryd.func81 (by kernel_rfl) rfl #[.slice A0 l0.length c0] rfl (zE) ?_; (with_reducible refine (zbr.calls _ _ l0 t158 _ ?side1 ?side2 A3.out).mono ?_); (case side1 => repeat (first | exact HR0.out | (with_reducible refine Kd.C_alloc ?_ _) | (with_reducible refine Kd.C_drewN ?_ _) | (with_reducible refine Kd.C_drew ?_))); (case side2 => exact HC0.out); rintro e w4 ⟨v159, rfl, ho0, hb⟩; refine ⟨_, rfl, ?_⟩; have n0_ := zA (Kd.V_elder' (zV HO1) (Kd.za1 ho0) hb); have n1_ := zA (Kd.zbm (Kd.zc4 (M := fun k_ => (w.heap.size ≤ k_)) ho0 (za (zB HB)) (fun k_ h_ => h_)) (za (zB HB))); have n2_ := zA (zaf (zB HB) hb); clear HO1 HB; have HO1 := n0_; have HO160 := n1_; have HB := n2_; clear n0_ n1_ n2_; (try clear hb); (try clear hb2); (try clear hk); (try clear hi); (try clear ho0)))
 go_loopg [0, 1] k (fun kq v0 v1 w' => ∃ (x0_1 : List Int) (x1_1 : List Int), Aside0 (zcg.l0 kq x0_1 x1_1 = some r) ∧ Aside0 (kq ≤ k) ∧ Aside0 (Kd.R (Kd.int .u64) 57 w' w.heap.size (fun k_ => (w.heap.size ≤ k_)) v0 x0_1) ∧ Aside0 (Kd.V (Kd.int .u64) 57 w' w.heap.size (fun k_ => (P1_ k_ ∨ w.heap.size ≤ k_) ∧ some k_ ≠ (v0 : Value).ownBlock) v1 x1_1) ∧ Aside0 (Below w.heap.size w w'))
 case atStart => exact ⟨(t158), (l1), H', ⟨Nat.le_refl _⟩, ⟨by (with_reducible repeat (first | apply Kd.za3 | apply Kd.za4 | apply Kd.zbb)); exact Kd.zav HO160.out (fun _ hk => hk.1)⟩, ⟨zV HO1⟩, ⟨zB HB⟩⟩
 case round =>
  clear H'
  try clear c1
  try clear p2
  obtain ⟨x0_1, x1_1, HA, HK1, HO_0, HO_1, HB⟩ := hrel
  cases gk with
  | zero => exact absurd HA.out (by simp [zcg.l0])
  | succ k1 =>
   have H := HA.out
   clear HA
   simp only [zcg.l0] at H
   by_cases c5 : (x1_1.length : Int) > 0
   ·
    rw [if_pos c5] at H
    have c5b0 : decide (0 < (x1_1.length : Int)) = true := decide_eq_true c5
    have c5b1 : decide (0 < x1_1.length) = true := decide_eq_true (by omega)
    clear c5
    replace H := zO H
    obtain ⟨⟨t161, t164, t167⟩, A60, H⟩ := H
    try dsimp only at H
    have A6 := zA A60
    clear A60
    replace H := zO H
    obtain ⟨t168, A70, H⟩ := H
    try dsimp only at H
    have A7 := zA A70
    clear A70
    have H' := zA H
    clear H
    obtain ⟨Ao8, co8, eo8⟩ := Kd.zbt HO_1.out
    subst eo8
    obtain ⟨Ao9, co9, eo9⟩ := Kd.zbn HO_0.out
    subst eo9
    go_wp2_with (first | ((with_reducible refine zah (f := 60) rfl ?_); refine zba (some 16) rfl rfl Tryd.func60 (by kernel_rfl) rfl #[.slice Ao9 x0_1.length co9, .slice Ao8 x1_1.length co8] rfl (zE) ?_; (with_reducible refine (za0.calls k1 _ _ x0_1 _ _ x1_1 t161 t164 t167 _ ?side1 ?side2 ?side3 ?side4 A6.out).mono ?_); (case side1 => exact zJ (Kd.zat HO_0.out).2.2); (case side2 => exact (Kd.zat HO_0.out).2.1); (case side3 => exact zJ (Kd.zas HO_1.out).2.2); (case side4 => exact (Kd.zas HO_1.out).2.1); rintro e w10 ⟨v162, v165, rfl, ho0, ho1, hb⟩; refine ⟨_, rfl, ?_⟩; have n0_ := zA (Kd.zax (zR HO_0) hb); have n1_ := zA (Kd.zao (zV HO_1) hb); have n2_ := zA (Kd.zbi (Kd.zak (ok' := fun k_ => (P1_ k_ ∨ w.heap.size ≤ k_) ∧ some k_ ≠ (.slice Ao9 x0_1.length co9 : Value).ownBlock) ho0 (fun k_ hk_ => ⟨(.inr (Nat.le_trans (za (zB HB)) hk_)), (Kd.fresh' (Kd.R_lt (zR HO_0)) k_ hk_)⟩)) (za (zB HB))); have n3_ := zA (Kd.zbi (Kd.zak (ok' := fun k_ => (P1_ k_ ∨ w.heap.size ≤ k_) ∧ some k_ ≠ (.slice Ao9 x0_1.length co9 : Value).ownBlock) ho1 (fun k_ hk_ => ⟨(.inr (Nat.le_trans (za (zB HB)) hk_)), (Kd.fresh' (Kd.R_lt (zR HO_0)) k_ hk_)⟩)) (za (zB HB))); have n4_ := zA (zaf (zB HB) hb); clear HO_0 HO_1 HB; have HO_0 := n0_; have HO_1 := n1_; have HO163 := n2_; have HO166 := n3_; have HB := n4_; clear n0_ n1_ n2_ n3_ n4_; (try clear hb); (try clear hb2); (try clear hk); (try clear hi); (try clear ho0); (try clear ho1)) | ((with_reducible refine zah (f := 81) rfl ?_); refine zba (some 21) rfl rfl Tryd.func81 (by kernel_rfl) rfl #[.slice Ao8 x1_1.length co8] rfl (zE) ?_; (with_reducible refine (zbr.calls _ _ x1_1 t168 _ ?side1 ?side2 A7.out).mono ?_); (case side1 => exact zJ (Kd.zas HO_1.out).2.2); (case side2 => exact (Kd.zas HO_1.out).2.1); rintro e w11 ⟨v169, rfl, ho0, hb⟩; refine ⟨_, rfl, ?_⟩; have n0_ := zA (Kd.zbp (zR HO_0) (Kd.za1 ho0) hb); have n1_ := zA (Kd.V_elder' (zV HO_1) (Kd.za1 ho0) hb); have n2_ := zA (Kd.V_elder' (zV HO163) (Kd.za1 ho0) hb); have n3_ := zA (Kd.V_elder' (zV HO166) (Kd.za1 ho0) hb); have n4_ := zA (Kd.zbm (Kd.zbk (Kd.zc4 (M := fun k_ => (w.heap.size ≤ k_)) ho0 (za (zB HB)) (fun k_ h_ => h_)) (Kd.R_lt (zR HO_0))) (za (zB HB))); have n5_ := zA (zaf (zB HB) hb); clear HO_0 HO_1 HO163 HO166 HB; have HO_0 := n0_; have HO_1 := n1_; have HO163 := n2_; have HO166 := n3_; have HO170 := n4_; have HB := n5_; clear n0_ n1_ n2_ n3_ n4_ n5_; (try clear hb); (try clear hb2); (try clear hk); (try clear hi); (try clear ho0)))
    go_roundg k1
    case measure => have := HK1.out; omega
    case rel => exact ⟨(t168), (t164), H', ⟨by have := HK1.out; omega⟩, ⟨by (with_reducible repeat (first | apply Kd.za3 | apply Kd.za4 | apply Kd.zbb)); exact Kd.zav HO170.out (fun _ hk => hk.1.1)⟩, ⟨by (with_reducible repeat (first | apply Kd.za8 | apply Kd.za9 | apply Kd.zbc)); exact Kd.zak HO166.out (fun _ hk => ⟨hk.1.1, hk.2⟩)⟩, ⟨zB HB⟩⟩
   ·
    rw [if_neg c5] at H
    have c5b0 : decide (0 < (x1_1.length : Int)) = false := decide_eq_false c5
    have c5b1 : decide (0 < x1_1.length) = false := decide_eq_false (by omega)
    clear c5
    obtain rfl := Option.some.inj H
    obtain ⟨Ao12, co12, eo12⟩ := Kd.zbt HO_1.out
    subst eo12
    go_wp2
    go_ret
    exact ⟨_, zW, zR HO_0, zB HB⟩
def zb7.f (k : Nat) (l0 : List Int) (l1 : List Int) : Option (List Int × List Int) := (zcg.f k l0 l1).bind fun t172 => ((za0.f k l0 t172).bind fun bt175 => ((za0.f k l1 t172).bind fun bt182 => (some (bt175.1, bt182.1))))
theorem zb7.mono : ∀ a0 a1 k, LeO (zb7.f k a0 a1) (zb7.f (k + 1) a0 a1) := by
 intro a0 a1 k
 unfold zb7.f
 repeat' first
   | (with_reducible exact za0.mono _ _ _)
   | (with_reducible exact zcg.mono _ _ _)
   | (with_reducible exact LeO.refl _)
   | (with_reducible exact LeO.none _)
   | (with_reducible refine LeO.ite ?_ ?_)
   | (with_reducible refine LeO.bind ?_ (fun _ => ?_))
   | exact za0.mono _ _ _
   | exact zcg.mono _ _ _
   | exact LeO.none _
   | refine LeO.ite ?_ ?_
   | refine LeO.bind ?_ (fun _ => ?_)
theorem zb7.calls (k : Nat) (A0 : Option Addr) (c0 : Nat) (l0 : List Int) (A1 : Option Addr) (c1 : Nat) (l1 : List Int) (r1 : List Int) (r2 : List Int) (w : World) (hr0 : Kd.C (Kd.int .u64) w A0 l0.length l0) (hc0 : l0.length ≤ c0) (hr1 : Kd.C (Kd.int .u64) w A1 l1.length l1) (hc1 : l1.length ≤ c1) (h : zb7.f k l0 l1 = some (r1, r2)) :
  Calls Tryd.prog 58 #[.slice A0 l0.length c0, .slice A1 l1.length c1] w fun e w' => ∃ v0_ v1_ : Value, e = .returned (.agg #[v0_, v1_]) ∧ Kd.V (Kd.int .u64) 57 w' w.heap.size (fun k_ => (w.heap.size ≤ k_)) v0_ r1 ∧ Kd.V (Kd.int .u64) 57 w' w.heap.size (fun k_ => (w.heap.size ≤ k_)) v1_ r2 ∧ Below w.heap.size w w' := by
 have hu28 := Tryd.underlying28
 have HR0 := zA hr0
 have HC0 := zA hc0
 clear hr0 hc0
 have HR1 := zA hr1
 have HC1 := zA hc1
 clear hr1 hc1
 have HB := zA (Below.refl w.heap.size w)
 have H : ((zcg.f k l0 l1).bind fun t172 => ((za0.f k l0 t172).bind fun bt175 => ((za0.f k l1 t172).bind fun bt182 => (some (bt175.1, bt182.1))))) = some (r1, r2) := h
 clear h
 replace H := zO H
 obtain ⟨t172, A30, H⟩ := H
 try dsimp only at H
 have A3 := zA A30
 clear A30
 replace H := zO H
 obtain ⟨⟨t175, t178, t181⟩, A40, H⟩ := H
 try dsimp only at H
 have A4 := zA A40
 clear A40
 replace H := zO H
 obtain ⟨⟨t182, t185, t188⟩, A50, H⟩ := H
 try dsimp only at H
 have A5 := zA A50
 clear A50
 simp only [Option.some.injEq, Prod.mk.injEq] at H
 obtain ⟨rfl, rfl⟩ := H
 go_enter Tryd.func58, Tryd.ntmps58
 go_wp2_with (first | ((with_reducible refine zbh (N := 4) rfl ?_); refine zbj ?hg (N := 4) ?hd (cs := #[.slice none 0 0, .slice none 0 0]) (t := 28) ?hr ?_; (case hd => rfl); (case hg => rfl); (case hr => first | (go_simp; done) | (go_simp; rfl)); intro gb171 hg w6 hbox hb; have n0_ := zA (zaf (zB HB) hb); have n1_ := zA (hbox); have n2_ := zA ((by rw [hg]; exact (za (zB HB)) : w.heap.size ≤ gb171)); have n3_ := zA ((by rw [hg]; exact (za (zB HB)) : w.heap.size ≤ gb171)); clear HB; have HB := n0_; have BK171 := n1_; have GW171 := n2_; have GE171 := n3_; clear n0_ n1_ n2_ n3_ hb hbox hg) | ((with_reducible refine zah (f := 53) rfl ?_); refine zba (some 14) rfl rfl Tryd.func53 (by kernel_rfl) rfl #[.slice A0 l0.length c0, .slice A1 l1.length c1] rfl (zE) ?_; (with_reducible refine (zcg.calls k _ _ l0 (fun k_ => k_ < w.heap.size) _ _ l1 t172 _ ?side1 ?side2 ?side3 A3.out).mono ?_); (case side1 => exact zJ (Kd.za6 HR0.out HB.out)); (case side2 => exact HC0.out); (case side3 => exact Kd.V_mk HC1.out (Kd.F_below (Kd.C_F (Kd.heap_int .u64) HR1.out) (zB HB))); rintro e w7 ⟨v173, rfl, ho0, hb⟩; refine ⟨_, rfl, ?_⟩; have n0_ := zA (Kd.zbm (Kd.zc4 (M := fun k_ => (w.heap.size ≤ k_)) (Kd.zav (ok' := fun k_ => True) ho0 (fun _ hk_ => trivial)) (za (zB HB)) (fun k_ h_ => h_)) (za (zB HB))); have n1_ := zA (zaa (g := gb171) (o := .cells #[.slice none 0 0, .slice none 0 0] 28 (0, 0)) (zK BK171) hb); have n2_ := zA (zaf (zB HB) hb); clear BK171 HB; have HO174 := n0_; have BK171 := n1_; have HB := n2_; clear n0_ n1_ n2_; (try clear hb); (try clear hb2); (try clear hk); (try clear hi); (try clear ho0); obtain ⟨Ao8, co8, eo8⟩ := Kd.zbn HO174.out; subst eo8) | ((with_reducible refine zah (f := 60) rfl ?_); refine zba (some 18) rfl rfl Tryd.func60 (by kernel_rfl) rfl #[.slice A0 l0.length c0, .slice Ao8 t172.length co8] rfl (zE) ?_; (with_reducible refine (za0.calls k _ _ l0 _ _ t172 t175 t178 t181 _ ?side1 ?side2 ?side3 ?side4 A4.out).mono ?_); (case side1 => exact zJ (Kd.za6 HR0.out HB.out)); (case side2 => exact HC0.out); (case side3 => exact zJ (Kd.zat HO174.out).2.2); (case side4 => exact (Kd.zat HO174.out).2.1); rintro e w9 ⟨v176, v179, rfl, ho0, ho1, hb⟩; refine ⟨_, rfl, ?_⟩; have n0_ := zA (Kd.zax (zR HO174) hb); have n1_ := zA (Kd.zbi (Kd.zak (ok' := fun k_ => (w.heap.size ≤ k_) ∧ some k_ ≠ (.slice Ao8 t172.length co8 : Value).ownBlock ∧ k_ ≠ gb171) ho0 (fun k_ hk_ => ⟨(Nat.le_trans (za (zB HB)) hk_), (Kd.fresh' (Kd.R_lt (zR HO174)) k_ hk_), (Kd.freshB (g := gb171) (o := .cells #[.slice none 0 0, .slice none 0 0] 28 (0, 0)) (zK BK171) k_ hk_)⟩)) (za (zB HB))); have n2_ := zA (Kd.zbi (Kd.zak (ok' := fun k_ => (w.heap.size ≤ k_) ∧ some k_ ≠ (.slice Ao8 t172.length co8 : Value).ownBlock ∧ k_ ≠ gb171) ho1 (fun k_ hk_ => ⟨(Nat.le_trans (za (zB HB)) hk_), (Kd.fresh' (Kd.R_lt (zR HO174)) k_ hk_), (Kd.freshB (g := gb171) (o := .cells #[.slice none 0 0, .slice none 0 0] 28 (0, 0)) (zK BK171) k_ hk_)⟩)) (za (zB HB))); have n3_ := zA (zaa (g := gb171) (o := .cells #[.slice none 0 0, .slice none 0 0] 28 (0, 0)) (zK BK171) hb); have n4_ := zA (zaf (zB HB) hb); clear HO174 BK171 HB; have HO174 := n0_; have HO177 := n1_; have HO180 := n2_; have BK171 := n3_; have HB := n4_; clear n0_ n1_ n2_ n3_ n4_; (try clear hb); (try clear hb2); (try clear hk); (try clear hi); (try clear ho0); (try clear ho1)) | ((with_reducible refine zah (f := 60) rfl ?_); refine zba (some 25) rfl rfl Tryd.func60 (by kernel_rfl) rfl #[.slice A1 l1.length c1, .slice Ao8 t172.length co8] rfl (zE) ?_; (with_reducible refine (za0.calls k _ _ l1 _ _ t172 t182 t185 t188 _ ?side1 ?side2 ?side3 ?side4 A5.out).mono ?_); (case side1 => exact zJ (Kd.za6 HR1.out HB.out)); (case side2 => exact HC1.out); (case side3 => exact zJ (Kd.zat HO174.out).2.2); (case side4 => exact (Kd.zat HO174.out).2.1); rintro e w10 ⟨v183, v186, rfl, ho0, ho1, hb⟩; refine ⟨_, rfl, ?_⟩; have n0_ := zA (Kd.zax (zR HO174) hb); have n1_ := zA (Kd.zao (zV HO177) hb); have n2_ := zA (Kd.zao (zV HO180) hb); have n3_ := zA (Kd.zbi (Kd.zak (ok' := fun k_ => (w.heap.size ≤ k_) ∧ some k_ ≠ (.slice Ao8 t172.length co8 : Value).ownBlock ∧ k_ ≠ gb171) ho0 (fun k_ hk_ => ⟨(Nat.le_trans (za (zB HB)) hk_), (Kd.fresh' (Kd.R_lt (zR HO174)) k_ hk_), (Kd.freshB (g := gb171) (o := .cells #[.slice none 0 0, .slice none 0 0] 28 (0, 0)) (zK BK171) k_ hk_)⟩)) (za (zB HB))); have n4_ := zA (Kd.zbi (Kd.zak (ok' := fun k_ => (w.heap.size ≤ k_) ∧ some k_ ≠ (.slice Ao8 t172.length co8 : Value).ownBlock ∧ k_ ≠ gb171) ho1 (fun k_ hk_ => ⟨(Nat.le_trans (za (zB HB)) hk_), (Kd.fresh' (Kd.R_lt (zR HO174)) k_ hk_), (Kd.freshB (g := gb171) (o := .cells #[.slice none 0 0, .slice none 0 0] 28 (0, 0)) (zK BK171) k_ hk_)⟩)) (za (zB HB))); have n5_ := zA (zaa (g := gb171) (o := .cells #[.slice none 0 0, .slice none 0 0] 28 (0, 0)) (zK BK171) hb); have n6_ := zA (zaf (zB HB) hb); clear HO174 HO177 HO180 BK171 HB; have HO174 := n0_; have HO177 := n1_; have HO180 := n2_; have HO184 := n3_; have HO187 := n4_; have BK171 := n5_; have HB := n6_; clear n0_ n1_ n2_ n3_ n4_ n5_ n6_; (try clear hb); (try clear hb2); (try clear hk); (try clear hi); (try clear ho0); (try clear ho1); obtain ⟨Ao11, co11, eo11⟩ := Kd.zbt HO184.out; subst eo11; obtain ⟨Ao12, co12, eo12⟩ := Kd.zbt HO177.out; subst eo12; have hcz13_0 : w10.cell? ⟨gb171, 0, none⟩ = some (.slice none 0 0) := (zad BK171.out 0).trans rfl; have hcz13_1 : w10.cell? ⟨gb171, 1, none⟩ = some (.slice none 0 0) := (zad BK171.out 1).trans rfl; have hfz13_0 := zal BK171.out 0; have hfz13_1 := zal BK171.out 1))
 refine bodyPost_ret (results_cell_row rfl _ _ gb171 28 #[.slice Ao12 t175.length co12, .slice Ao11 t182.length co11] (0, 0) _ rfl (by (with_reducible repeat (first | refine zab ?_ _ | refine zae ?_ | refine zac ?_ _)); refine zbo (cs := #[.slice Ao12 t175.length co12, .slice none 0 0]) ?_ 1 _ rfl; (with_reducible repeat (first | refine zab ?_ _ | refine zae ?_ | refine zac ?_ _)); refine zbo (cs := #[.slice none 0 0, .slice none 0 0]) ?_ 0 _ rfl; (with_reducible repeat (first | refine zab ?_ _ | refine zae ?_ | refine zac ?_ _)); exact BK171.out) Tryd.underlying28 rfl (by kernel_rfl)) rfl ?_
 exact ⟨_, _, zW, by (with_reducible repeat (first | apply Kd.za8 | apply Kd.za9 | apply Kd.zbc)); exact Kd.zak (Kd.V_far (p := ⟨gb171, 1, none⟩) (Kd.V_far (p := ⟨gb171, 0, none⟩) (Kd.zak HO177.out (fun k_ hk => (⟨hk, hk.2.2⟩ : _ ∧ k_ ≠ gb171))) (fun _ hk => hk.2) (.slice Ao12 t175.length co12)) (fun _ hk => hk.2) (.slice Ao11 t182.length co11)) (fun _ hk => hk.1.1), by (with_reducible repeat (first | apply Kd.za8 | apply Kd.za9 | apply Kd.zbc)); exact Kd.zak (Kd.V_far (p := ⟨gb171, 1, none⟩) (Kd.V_far (p := ⟨gb171, 0, none⟩) (Kd.zak HO184.out (fun k_ hk => (⟨hk, hk.2.2⟩ : _ ∧ k_ ≠ gb171))) (fun _ hk => hk.2) (.slice Ao12 t175.length co12)) (fun _ hk => hk.2) (.slice Ao11 t182.length co11)) (fun _ hk => hk.1.1), zB HB⟩
def zcq.f (k : Nat) (l0 : List Int) (l1 : List Int) : Option (List Int × List Int × Int) := if (l1.length : Int) = 0 then (some (([] : List Int), ([] : List Int), 16)) else ((zb7.f k l0 l1).bind fun bt190 => (some (bt190.1, bt190.2, 0)))
theorem zcq.mono : ∀ a0 a1 k, LeO (zcq.f k a0 a1) (zcq.f (k + 1) a0 a1) := by
 intro a0 a1 k
 unfold zcq.f
 repeat' first
   | (with_reducible exact zb7.mono _ _ _)
   | (with_reducible exact LeO.refl _)
   | (with_reducible exact LeO.none _)
   | (with_reducible refine LeO.ite ?_ ?_)
   | (with_reducible refine LeO.bind ?_ (fun _ => ?_))
   | exact zb7.mono _ _ _
   | exact LeO.none _
   | refine LeO.ite ?_ ?_
   | refine LeO.bind ?_ (fun _ => ?_)
theorem zcq.calls (k : Nat) (A0 : Option Addr) (c0 : Nat) (l0 : List Int) (A1 : Option Addr) (c1 : Nat) (l1 : List Int) (r1 : List Int) (r2 : List Int) (r3 : Int) (w : World) (hr0 : Kd.C (Kd.int .u64) w A0 l0.length l0) (hc0 : l0.length ≤ c0) (hr1 : Kd.C (Kd.int .u64) w A1 l1.length l1) (hc1 : l1.length ≤ c1) (h : zcq.f k l0 l1 = some (r1, r2, r3)) :
  Calls Tryd.prog 24 #[.slice A0 l0.length c0, .slice A1 l1.length c1] w fun e w' => ∃ v0_ v1_ : Value, e = .returned (.tuple #[.agg #[v0_, v1_], .int .i64 r3]) ∧ Kd.V (Kd.int .u64) 57 w' w.heap.size (fun k_ => (w.heap.size ≤ k_)) v0_ r1 ∧ Kd.V (Kd.int .u64) 57 w' w.heap.size (fun k_ => (w.heap.size ≤ k_)) v1_ r2 ∧ Below w.heap.size w w' := by
 have hu28 := Tryd.underlying28
 have HR0 := zA hr0
 have HC0 := zA hc0
 clear hr0 hc0
 have HR1 := zA hr1
 have HC1 := zA hc1
 clear hr1 hc1
 have HB := zA (Below.refl w.heap.size w)
 have H : (if (l1.length : Int) = 0 then (some (([] : List Int), ([] : List Int), 16)) else ((zb7.f k l0 l1).bind fun bt190 => (some (bt190.1, bt190.2, 0)))) = some (r1, r2, r3) := h
 clear h
 by_cases c3 : (l1.length : Int) = 0
 ·
  rw [if_pos c3] at H
  have c3b0 : ((l1.length : Int) == 0) = true := beq_iff_eq.mpr c3
  have c3b1 : ((l1.length : Int) != 0) = false := bne_eq_false_iff_eq.mpr c3
  clear c3
  simp only [Option.some.injEq, Prod.mk.injEq] at H
  obtain ⟨rfl, rfl, rfl⟩ := H
  go_enter Tryd.func24, Tryd.ntmps24
  go_wp2_with (first | ((with_reducible refine zbh (N := 4) rfl ?_); refine zbj ?hg (N := 4) ?hd (cs := #[.slice none 0 0, .slice none 0 0]) (t := 28) ?hr ?_; (case hd => rfl); (case hg => rfl); (case hr => first | (go_simp; done) | (go_simp; rfl)); intro gb189 hg w4 hbox hb; have n0_ := zA (zaf (zB HB) hb); have n1_ := zA (hbox); have n2_ := zA ((by rw [hg]; exact (za (zB HB)) : w.heap.size ≤ gb189)); have n3_ := zA ((by rw [hg]; exact (za (zB HB)) : w.heap.size ≤ gb189)); clear HB; have HB := n0_; have BK189 := n1_; have GW189 := n2_; have GE189 := n3_; clear n0_ n1_ n2_ n3_ hb hbox hg; have hcz5_0 : w4.cell? ⟨gb189, 0, none⟩ = some (.slice none 0 0) := (zad BK189.out 0).trans rfl; have hcz5_1 : w4.cell? ⟨gb189, 1, none⟩ = some (.slice none 0 0) := (zad BK189.out 1).trans rfl; have hfz5_0 := zal BK189.out 0; have hfz5_1 := zal BK189.out 1))
  refine bodyPost_ret (results_ct rfl _ _ gb189 28 #[.slice none 0 0, .slice none 0 0] (0, 0) _ rfl (by (with_reducible repeat (first | refine zab ?_ _ | refine zae ?_ | refine zac ?_ _)); refine zbo (cs := #[.slice none 0 0, .slice none 0 0]) ?_ 1 _ rfl; (with_reducible repeat (first | refine zab ?_ _ | refine zae ?_ | refine zac ?_ _)); refine zbo (cs := #[.slice none 0 0, .slice none 0 0]) ?_ 0 _ rfl; (with_reducible repeat (first | refine zab ?_ _ | refine zae ?_ | refine zac ?_ _)); exact BK189.out) Tryd.underlying28 rfl (by kernel_rfl)) rfl ?_
  exact ⟨_, _, zW, Kd.V_nil _ _ _ _ _, Kd.V_nil _ _ _ _ _, zB HB⟩
 ·
  rw [if_neg c3] at H
  have c3b0 : ((l1.length : Int) == 0) = false := beq_eq_false_iff_ne.mpr c3
  have c3b1 : ((l1.length : Int) != 0) = true := bne_iff_ne.mpr c3
  have c3b2 : ¬ (l1 = []) := fun h_ => c3 (by rw [h_]; rfl)
  replace H := zO H
  obtain ⟨⟨t190, t193⟩, A60, H⟩ := H
  try dsimp only at H
  have A6 := zA A60
  clear A60
  simp only [Option.some.injEq, Prod.mk.injEq] at H
  obtain ⟨rfl, rfl, rfl⟩ := H
  go_enter Tryd.func24, Tryd.ntmps24
  go_wp2_with (first | ((with_reducible refine zbh (N := 4) rfl ?_); refine zbj ?hg (N := 4) ?hd (cs := #[.slice none 0 0, .slice none 0 0]) (t := 28) ?hr ?_; (case hd => rfl); (case hg => rfl); (case hr => first | (go_simp; done) | (go_simp; rfl)); intro gb189 hg w7 hbox hb; have n0_ := zA (zaf (zB HB) hb); have n1_ := zA (hbox); have n2_ := zA ((by rw [hg]; exact (za (zB HB)) : w.heap.size ≤ gb189)); have n3_ := zA ((by rw [hg]; exact (za (zB HB)) : w.heap.size ≤ gb189)); clear HB; have HB := n0_; have BK189 := n1_; have GW189 := n2_; have GE189 := n3_; clear n0_ n1_ n2_ n3_ hb hbox hg) | ((with_reducible refine zah (f := 58) rfl ?_); refine zba (some 12) rfl rfl Tryd.func58 (by kernel_rfl) rfl #[.slice A0 l0.length c0, .slice A1 l1.length c1] rfl (zE) ?_; (with_reducible refine (zb7.calls k _ _ l0 _ _ l1 t190 t193 _ ?side1 ?side2 ?side3 ?side4 A6.out).mono ?_); (case side1 => exact zJ (Kd.za6 HR0.out HB.out)); (case side2 => exact HC0.out); (case side3 => exact zJ (Kd.za6 HR1.out HB.out)); (case side4 => exact HC1.out); rintro e w8 ⟨v191, v194, rfl, ho0, ho1, hb⟩; refine ⟨_, rfl, ?_⟩; have n0_ := zA (Kd.zbi (Kd.zak (ok' := fun k_ => (w.heap.size ≤ k_) ∧ k_ ≠ gb189) ho0 (fun k_ hk_ => ⟨(Nat.le_trans (za (zB HB)) hk_), (Kd.freshB (g := gb189) (o := .cells #[.slice none 0 0, .slice none 0 0] 28 (0, 0)) (zK BK189) k_ hk_)⟩)) (za (zB HB))); have n1_ := zA (Kd.zbi (Kd.zak (ok' := fun k_ => (w.heap.size ≤ k_) ∧ k_ ≠ gb189) ho1 (fun k_ hk_ => ⟨(Nat.le_trans (za (zB HB)) hk_), (Kd.freshB (g := gb189) (o := .cells #[.slice none 0 0, .slice none 0 0] 28 (0, 0)) (zK BK189) k_ hk_)⟩)) (za (zB HB))); have n2_ := zA (zaa (g := gb189) (o := .cells #[.slice none 0 0, .slice none 0 0] 28 (0, 0)) (zK BK189) hb); have n3_ := zA (zaf (zB HB) hb); clear BK189 HB; have HO192 := n0_; have HO195 := n1_; have BK189 := n2_; have HB := n3_; clear n0_ n1_ n2_ n3_; (try clear hb); (try clear hb2); (try clear hk); (try clear hi); (try clear ho0); (try clear ho1); obtain ⟨Ao9, co9, eo9⟩ := Kd.zbt HO192.out; subst eo9; have hcz10_0 : w8.cell? ⟨gb189, 0, none⟩ = some (.slice none 0 0) := (zad BK189.out 0).trans rfl; have hcz10_1 : w8.cell? ⟨gb189, 1, none⟩ = some (.slice none 0 0) := (zad BK189.out 1).trans rfl; have hfz10_0 := zal BK189.out 0; have hfz10_1 := zal BK189.out 1; obtain ⟨Ao11, co11, eo11⟩ := Kd.zbt HO195.out; subst eo11))
  refine bodyPost_ret (results_ct rfl _ _ gb189 28 #[.slice Ao9 t190.length co9, .slice Ao11 t193.length co11] (0, 0) _ rfl (by (with_reducible repeat (first | refine zab ?_ _ | refine zae ?_ | refine zac ?_ _)); refine zbo (cs := #[.slice Ao9 t190.length co9, .slice none 0 0]) ?_ 1 _ rfl; (with_reducible repeat (first | refine zab ?_ _ | refine zae ?_ | refine zac ?_ _)); refine zbo (cs := #[.slice none 0 0, .slice none 0 0]) ?_ 0 _ rfl; (with_reducible repeat (first | refine zab ?_ _ | refine zae ?_ | refine zac ?_ _)); exact BK189.out) Tryd.underlying28 rfl (by kernel_rfl)) rfl ?_
  exact ⟨_, _, zW, by (with_reducible repeat (first | apply Kd.za8 | apply Kd.za9 | apply Kd.zbc)); exact Kd.zak (Kd.V_far (p := ⟨gb189, 1, none⟩) (Kd.V_far (p := ⟨gb189, 0, none⟩) (Kd.zak HO192.out (fun k_ hk => (⟨hk, hk.2⟩ : _ ∧ k_ ≠ gb189))) (fun _ hk => hk.2) (.slice Ao9 t190.length co9)) (fun _ hk => hk.2) (.slice Ao11 t193.length co11)) (fun _ hk => hk.1.1), by (with_reducible repeat (first | apply Kd.za8 | apply Kd.za9 | apply Kd.zbc)); exact Kd.zak (Kd.V_far (p := ⟨gb189, 1, none⟩) (Kd.V_far (p := ⟨gb189, 0, none⟩) (Kd.zak HO195.out (fun k_ hk => (⟨hk, hk.2⟩ : _ ∧ k_ ≠ gb189))) (fun _ hk => hk.2) (.slice Ao9 t190.length co9)) (fun _ hk => hk.2) (.slice Ao11 t193.length co11)) (fun _ hk => hk.1.1), zB HB⟩
def zb9.f (k : Nat) (l0_0 : List Int) (l0_1 : List Int) : Option (List Int) := (za0.f k l0_0 l0_1).bind fun bt197 => (some bt197.1)
theorem zb9.mono : ∀ a0 a1 k, LeO (zb9.f k a0 a1) (zb9.f (k + 1) a0 a1) := by
 intro a0 a1 k
 unfold zb9.f
 repeat' first
   | (with_reducible exact za0.mono _ _ _)
   | (with_reducible exact LeO.refl _)
   | (with_reducible exact LeO.none _)
   | (with_reducible refine LeO.ite ?_ ?_)
   | (with_reducible refine LeO.bind ?_ (fun _ => ?_))
   | exact za0.mono _ _ _
   | exact LeO.none _
   | refine LeO.ite ?_ ?_
   | refine LeO.bind ?_ (fun _ => ?_)
theorem zb9.calls (k : Nat) (A0_0 : Option Addr) (c0_0 : Nat) (l0_0 : List Int) (A0_1 : Option Addr) (c0_1 : Nat) (l0_1 : List Int) (r : List Int) (w : World) (hr0_0 : Kd.C (Kd.int .u64) w A0_0 l0_0.length l0_0) (hc0_0 : l0_0.length ≤ c0_0) (hr0_1 : Kd.C (Kd.int .u64) w A0_1 l0_1.length l0_1) (hc0_1 : l0_1.length ≤ c0_1) (h : zb9.f k l0_0 l0_1 = some r) :
  Calls Tryd.prog 27 #[.agg #[.slice A0_0 l0_0.length c0_0, .slice A0_1 l0_1.length c0_1]] w fun e w' => ∃ v0_ : Value, e = .returned (v0_) ∧ Kd.V (Kd.int .u64) 57 w' w.heap.size (fun k_ => (w.heap.size ≤ k_)) v0_ r ∧ Below w.heap.size w w' := by
 have hu28 := Tryd.underlying28
 have HR0_0 := zA hr0_0
 have HC0_0 := zA hc0_0
 clear hr0_0 hc0_0
 have HR0_1 := zA hr0_1
 have HC0_1 := zA hc0_1
 clear hr0_1 hc0_1
 have HB := zA (Below.refl w.heap.size w)
 have H : ((za0.f k l0_0 l0_1).bind fun bt197 => (some bt197.1)) = some r := h
 clear h
 replace H := zO H
 obtain ⟨⟨t197, t200, t203⟩, A20, H⟩ := H
 try dsimp only at H
 have A2 := zA A20
 clear A20
 obtain rfl := Option.some.inj H
 go_enter Tryd.func27, Tryd.ntmps27
 go_wp2_with (first | ((with_reducible refine zbh (N := 1) rfl ?_); refine zbj ?hg (N := 1) ?hd (cs := #[.slice A0_0 l0_0.length c0_0, .slice A0_1 l0_1.length c0_1]) (t := 28) ?hr ?_; (case hd => rfl); (case hg => rfl); (case hr => first | (go_simp; done) | (go_simp; rfl)); intro gb196 hg w3 hbox hb; have n0_ := zA (zaf (zB HB) hb); have n1_ := zA (hbox); have n2_ := zA ((by rw [hg]; exact (za (zB HB)) : w.heap.size ≤ gb196)); have n3_ := zA ((by rw [hg]; exact (za (zB HB)) : w.heap.size ≤ gb196)); clear HB; have HB := n0_; have BK196 := n1_; have GW196 := n2_; have GE196 := n3_; clear n0_ n1_ n2_ n3_ hb hbox hg; have hcz4_0 : w3.cell? ⟨gb196, 0, none⟩ = some (.slice A0_0 l0_0.length c0_0) := (zad BK196.out 0).trans rfl; have hcz4_1 : w3.cell? ⟨gb196, 1, none⟩ = some (.slice A0_1 l0_1.length c0_1) := (zad BK196.out 1).trans rfl; have hfz4_0 := zal BK196.out 0; have hfz4_1 := zal BK196.out 1) | ((with_reducible refine zah (f := 60) rfl ?_); refine zba (some 11) rfl rfl Tryd.func60 (by kernel_rfl) rfl #[.slice A0_0 l0_0.length c0_0, .slice A0_1 l0_1.length c0_1] rfl (zE) ?_; (with_reducible refine (za0.calls k _ _ l0_0 _ _ l0_1 t197 t200 t203 _ ?side1 ?side2 ?side3 ?side4 A2.out).mono ?_); (case side1 => exact zJ (Kd.za6 HR0_0.out HB.out)); (case side2 => exact HC0_0.out); (case side3 => exact zJ (Kd.za6 HR0_1.out HB.out)); (case side4 => exact HC0_1.out); rintro e w5 ⟨v198, v201, rfl, ho0, ho1, hb⟩; refine ⟨_, rfl, ?_⟩; have n0_ := zA (Kd.zbi (Kd.zak (ok' := fun k_ => (w.heap.size ≤ k_) ∧ k_ ≠ gb196) ho0 (fun k_ hk_ => ⟨(Nat.le_trans (za (zB HB)) hk_), (Kd.freshB (g := gb196) (o := .cells #[.slice A0_0 l0_0.length c0_0, .slice A0_1 l0_1.length c0_1] 28 (0, 0)) (zK BK196) k_ hk_)⟩)) (za (zB HB))); have n1_ := zA (Kd.zbi (Kd.zak (ok' := fun k_ => (w.heap.size ≤ k_) ∧ k_ ≠ gb196) ho1 (fun k_ hk_ => ⟨(Nat.le_trans (za (zB HB)) hk_), (Kd.freshB (g := gb196) (o := .cells #[.slice A0_0 l0_0.length c0_0, .slice A0_1 l0_1.length c0_1] 28 (0, 0)) (zK BK196) k_ hk_)⟩)) (za (zB HB))); have n2_ := zA (zaa (g := gb196) (o := .cells #[.slice A0_0 l0_0.length c0_0, .slice A0_1 l0_1.length c0_1] 28 (0, 0)) (zK BK196) hb); have n3_ := zA (zaf (zB HB) hb); clear BK196 HB; have HO199 := n0_; have HO202 := n1_; have BK196 := n2_; have HB := n3_; clear n0_ n1_ n2_ n3_; (try clear hb); (try clear hb2); (try clear hk); (try clear hi); (try clear ho0); (try clear ho1)))
 go_ret
 exact ⟨_, zW, by (with_reducible repeat (first | apply Kd.za8 | apply Kd.za9 | apply Kd.zbc)); exact Kd.zak HO199.out (fun _ hk => hk.1), zB HB⟩
def zc5.f (k : Nat) (a0 : Int) : Option (List Int) := (zbd.f k (([a0] : List Int))).bind fun t207 => (some t207)
theorem zc5.mono : ∀ a0 k, LeO (zc5.f k a0) (zc5.f (k + 1) a0) := by
 intro a0 k
 unfold zc5.f
 repeat' first
   | (with_reducible exact zbd.mono _ _)
   | (with_reducible exact LeO.refl _)
   | (with_reducible exact LeO.none _)
   | (with_reducible refine LeO.ite ?_ ?_)
   | (with_reducible refine LeO.bind ?_ (fun _ => ?_))
   | exact zbd.mono _ _
   | exact LeO.none _
   | refine LeO.ite ?_ ?_
   | refine LeO.bind ?_ (fun _ => ?_)
theorem zc5.calls (k : Nat) (a0 : Int) (r : List Int) (w : World) (h : zc5.f k a0 = some r) :
  Calls Tryd.prog 36 #[.int .u64 a0] w fun e w' => ∃ v0_ : Value, e = .returned (v0_) ∧ Kd.V (Kd.int .u64) 57 w' w.heap.size (fun k_ => (w.heap.size ≤ k_)) v0_ r ∧ Below w.heap.size w w' := by
 have HB := zA (Below.refl w.heap.size w)
 have H : ((zbd.f k (([a0] : List Int))).bind fun t207 => (some t207)) = some r := h
 clear h
 obtain ⟨y204, hy204⟩ : ∃ y_ : List Int, y_ = (([a0] : List Int)) := ⟨_, rfl⟩
 replace H : ((zbd.f k y204).bind fun t207 => (some t207)) = some r := by first | (rw [hy204]; with_reducible exact H) | (have H2_ := (Option.bind_some _ _).symm.trans H; rw [hy204]; with_reducible exact H2_) | (have H2_ := (Option.bind_some _ _).symm.trans H; with_reducible exact H2_) | with_reducible exact H | (rw [hy204]; exact H) | exact H
 have Ny204 := zA hy204
 clear hy204
 replace H := zO H
 obtain ⟨t207, A20, H⟩ := H
 try dsimp only at H
 have A2 := zA A20
 clear A20
 obtain rfl := Option.some.inj H
 go_enter Tryd.func36, Tryd.ntmps36
 go_wp2_with (first | ((with_reducible refine zbh (N := 4) rfl ?_); refine Kd.R_lit (Kd.int .u64) _ 57 ?hg (N := 4) ?hd (xs := ([a0] : List Int)) (inner := [.int .u64 a0]) (ok := fun _ => True) (okp := fun _ => True) ?hr ?hp (fun _ hk => hk) trivial (Below.refl _ _) (Nat.le_refl _) (by simp) ?_; (case hd => rfl); (case hg => rfl); (case hr => first | (go_simp; done) | (go_simp; rfl)); (case hp => exact (Reps.one (show Kd.M (Kd.int .u64) _ _ _ a0 [.int .u64 a0] from rfl) (Reps.none _ _))); intro v205 w3 ho4 hb hg_ hnew_; clear hg_ hnew_; (first | rw [← Ny204.out] at ho4 | (simp only [Int.reduceToNat] at ho4; rw [← Ny204.out] at ho4)); have n0_ := zA (Kd.zbm (Kd.zc4 (M := fun k_ => (w.heap.size ≤ k_)) ho4 (za (zB HB)) (fun k_ h_ => h_)) (za (zB HB))); have n1_ := zA (zaf (zB HB) hb); clear HB; have HO206 := n0_; have HB := n1_; clear n0_ n1_ hb ho4; obtain ⟨Ao5, co5, eo5⟩ := Kd.zbn HO206.out; subst eo5) | ((with_reducible refine zah (f := 65) rfl ?_); refine zba (some 5) rfl rfl Tryd.func65 (by kernel_rfl) rfl #[.slice Ao5 y204.length co5] rfl (zE) ?_; (with_reducible refine (zbd.calls k (fun k_ => some k_ = (.slice Ao5 y204.length co5 : Value).ownBlock) _ _ y204 t207 _ ?side1 A2.out).mono ?_); (case side1 => exact Kd.R_V (Kd.zdf rfl (HO206.out))); rintro e w6 ⟨v208, rfl, ho0, hb⟩; refine ⟨_, rfl, ?_⟩; have n0_ := zA (Kd.zax (zR HO206) hb); have n1_ := zA (Kd.zbi (Kd.zak (ok' := fun k_ => (w.heap.size ≤ k_)) ho0 (fun k_ hk_ => Or.elim hk_ (fun hs_ => ((HO206.out).1 k_ hs_.symm).1) (fun hn_ => (Nat.le_trans (za (zB HB)) hn_)))) (za (zB HB))); have n2_ := zA (zaf (zB HB) hb); clear HO206 HB; have HO206 := n0_; have HO209 := n1_; have HB := n2_; clear n0_ n1_ n2_; (try clear hb); (try clear hb2); (try clear hk); (try clear hi); (try clear ho0)))
 go_ret
 exact ⟨_, zW, zV HO209, zB HB⟩
def bits_LeadingZeros64.f (a0 : Int) : Option (Int) := (bits_Len64.f a0).bind fun t210 => (some (wrap64 (64 - t210)))
theorem bits_LeadingZeros64.calls (a0 : Int) (r : Int) (w : World) (h : bits_LeadingZeros64.f a0 = some r) :
  Calls Tryd.prog 108 #[.int .u64 a0] w fun e w' => e = .returned (.int .i64 r) ∧ Drawn0 w w' := by
 have H : ((bits_Len64.f a0).bind fun t210 => (some (wrap64 (64 - t210)))) = some r := h
 clear h
 replace H := zO H
 obtain ⟨t210, A20, H⟩ := H
 try dsimp only at H
 have A2 := zA A20
 clear A20
 obtain rfl := Option.some.inj H
 go_enter Tryd.func108, Tryd.ntmps108
 go_wp2_with (first | ((with_reducible refine zah (f := 104) rfl ?_); refine zba (some 4) rfl rfl Tryd.func104 (by kernel_rfl) rfl #[.int .u64 a0] rfl (zE) ?_; (with_reducible refine (bits_Len64.calls a0 t210 _ A2.out).mono ?_); rintro e w' ⟨rfl, ⟨nd, rfl⟩⟩; refine ⟨_, rfl, ?_⟩))
 go_ret
 exact ⟨zF, by repeat (first | exact Drawn0.refl _ | apply Drawn0.step)⟩
mutual
def zaw.j2 : Nat → Int → Int → Int → Int → Int → Int → Int → Int → Option (Int × Int)
 | 0, _, _, _, _, _, _, _, _ => none
 | k + 1, x2, x8, x9, x10, x11, x13, x14, x15 => if x9 = 0 then (none) else (zaw.l1 k x2 x8 x9 x10 x14 x15 (IntKind.u64.wrap ((IntKind.u64.wrap ((IntKind.u64.wrap ((IntKind.u64.wrap (x11 * 4294967296)) + x13)) - (IntKind.u64.wrap (x15 * x2)))) - (IntKind.u64.wrap ((IntKind.u64.wrap (Int.tdiv (IntKind.u64.wrap ((IntKind.u64.wrap ((IntKind.u64.wrap (x11 * 4294967296)) + x13)) - (IntKind.u64.wrap (x15 * x2)))) x9)) * x9)))) (IntKind.u64.wrap ((IntKind.u64.wrap ((IntKind.u64.wrap (x11 * 4294967296)) + x13)) - (IntKind.u64.wrap (x15 * x2)))) (IntKind.u64.wrap (Int.tdiv (IntKind.u64.wrap ((IntKind.u64.wrap ((IntKind.u64.wrap (x11 * 4294967296)) + x13)) - (IntKind.u64.wrap (x15 * x2)))) x9)))
def zaw.l1 : Nat → Int → Int → Int → Int → Int → Int → Int → Int → Int → Option (Int × Int)
 | 0, _, _, _, _, _, _, _, _, _ => none
 | k + 1, x2, x8, x9, x10, x14, x15, x16, x17, x18 => if x18 ≥ 4294967296 then (zaw.j4 k x2 x8 x9 x10 x14 x15 x16 x17 x18 true) else (zaw.j4 k x2 x8 x9 x10 x14 x15 x16 x17 x18 (decide ((IntKind.u64.wrap (x18 * x10)) > (IntKind.u64.wrap ((IntKind.u64.wrap (4294967296 * x16)) + x14)))))
def zaw.j4 : Nat → Int → Int → Int → Int → Int → Int → Int → Int → Int → Bool → Option (Int × Int)
 | 0, _, _, _, _, _, _, _, _, _, _ => none
 | k + 1, x2, x8, x9, x10, x14, x15, x16, x17, x18, x113 => if x113 = true then (if (IntKind.u64.wrap (x16 + x9)) ≥ 4294967296 then (if 0 ≤ x8 then (some (IntKind.u64.wrap ((IntKind.u64.wrap (x15 * 4294967296)) + (IntKind.u64.wrap (x18 - 1))), shr .u64 (IntKind.u64.wrap ((IntKind.u64.wrap ((IntKind.u64.wrap (x17 * 4294967296)) + x14)) - (IntKind.u64.wrap ((IntKind.u64.wrap (x18 - 1)) * x2)))) x8)) else (none)) else (zaw.l1 k x2 x8 x9 x10 x14 x15 (IntKind.u64.wrap (x16 + x9)) x17 (IntKind.u64.wrap (x18 - 1)))) else (if 0 ≤ x8 then (some (IntKind.u64.wrap ((IntKind.u64.wrap (x15 * 4294967296)) + x18), shr .u64 (IntKind.u64.wrap ((IntKind.u64.wrap ((IntKind.u64.wrap (x17 * 4294967296)) + x14)) - (IntKind.u64.wrap (x18 * x2)))) x8)) else (none))
def zaw.l0 : Nat → Int → Int → Int → Int → Int → Int → Int → Int → Int → Option (Int × Int)
 | 0, _, _, _, _, _, _, _, _, _ => none
 | k + 1, x2, x8, x9, x10, x11, x13, x14, x15, x16 => if x15 ≥ 4294967296 then (zaw.j1 k x2 x8 x9 x10 x11 x13 x14 x15 x16 true) else (zaw.j1 k x2 x8 x9 x10 x11 x13 x14 x15 x16 (decide ((IntKind.u64.wrap (x15 * x10)) > (IntKind.u64.wrap ((IntKind.u64.wrap (4294967296 * x16)) + x13)))))
def zaw.j1 : Nat → Int → Int → Int → Int → Int → Int → Int → Int → Int → Bool → Option (Int × Int)
 | 0, _, _, _, _, _, _, _, _, _, _ => none
 | k + 1, x2, x8, x9, x10, x11, x13, x14, x15, x16, x78 => if x78 = true then (if (IntKind.u64.wrap (x16 + x9)) ≥ 4294967296 then (zaw.j2 k x2 x8 x9 x10 x11 x13 x14 (IntKind.u64.wrap (x15 - 1))) else (zaw.l0 k x2 x8 x9 x10 x11 x13 x14 (IntKind.u64.wrap (x15 - 1)) (IntKind.u64.wrap (x16 + x9)))) else (zaw.j2 k x2 x8 x9 x10 x11 x13 x14 x15)
end
def zaw.f (k : Nat) (a0 : Int) (a1 : Int) (a2 : Int) : Option (Int × Int) := if a2 = 0 then (none) else (if a2 ≤ a0 then (none) else (if a0 = 0 then (some (IntKind.u64.wrap (Int.tdiv a1 a2), Int.tmod a1 a2)) else ((bits_LeadingZeros64.f a2).bind fun t211 => (if 0 ≤ (IntKind.u64.wrap (t211)) then (if 0 ≤ (IntKind.u64.wrap (64 - (IntKind.u64.wrap (t211)))) then (if ((shl .u64 a2 (IntKind.u64.wrap (t211))) / 4294967296) = 0 then (none) else (zaw.l0 k (shl .u64 a2 (IntKind.u64.wrap (t211))) (IntKind.u64.wrap (t211)) ((shl .u64 a2 (IntKind.u64.wrap (t211))) / 4294967296) (Go.bits .and .u64 (shl .u64 a2 (IntKind.u64.wrap (t211))) 4294967295) (Go.bits .or .u64 (shl .u64 a0 (IntKind.u64.wrap (t211))) (shr .u64 a1 (IntKind.u64.wrap (64 - (IntKind.u64.wrap (t211)))))) ((shl .u64 a1 (IntKind.u64.wrap (t211))) / 4294967296) (Go.bits .and .u64 (shl .u64 a1 (IntKind.u64.wrap (t211))) 4294967295) (IntKind.u64.wrap (Int.tdiv (Go.bits .or .u64 (shl .u64 a0 (IntKind.u64.wrap (t211))) (shr .u64 a1 (IntKind.u64.wrap (64 - (IntKind.u64.wrap (t211)))))) ((shl .u64 a2 (IntKind.u64.wrap (t211))) / 4294967296))) (IntKind.u64.wrap ((Go.bits .or .u64 (shl .u64 a0 (IntKind.u64.wrap (t211))) (shr .u64 a1 (IntKind.u64.wrap (64 - (IntKind.u64.wrap (t211)))))) - (IntKind.u64.wrap ((IntKind.u64.wrap (Int.tdiv (Go.bits .or .u64 (shl .u64 a0 (IntKind.u64.wrap (t211))) (shr .u64 a1 (IntKind.u64.wrap (64 - (IntKind.u64.wrap (t211)))))) ((shl .u64 a2 (IntKind.u64.wrap (t211))) / 4294967296))) * ((shl .u64 a2 (IntKind.u64.wrap (t211))) / 4294967296))))))) else (none)) else (none)))))
theorem zaw.calls (k : Nat) (a0 : Int) (a1 : Int) (a2 : Int) (r1 : Int) (r2 : Int) (w : World) (h : zaw.f k a0 a1 a2 = some (r1, r2)) :
  Calls Tryd.prog 93 #[.int .u64 a0, .int .u64 a1, .int .u64 a2] w fun e w' => e = .returned (.tuple #[.int .u64 r1, .int .u64 r2]) ∧ Drawn0 w w' := by
 have H : (if a2 = 0 then (none) else (if a2 ≤ a0 then (none) else (if a0 = 0 then (some (IntKind.u64.wrap (Int.tdiv a1 a2), Int.tmod a1 a2)) else ((bits_LeadingZeros64.f a2).bind fun t211 => (if 0 ≤ (IntKind.u64.wrap (t211)) then (if 0 ≤ (IntKind.u64.wrap (64 - (IntKind.u64.wrap (t211)))) then (if ((shl .u64 a2 (IntKind.u64.wrap (t211))) / 4294967296) = 0 then (none) else (zaw.l0 k (shl .u64 a2 (IntKind.u64.wrap (t211))) (IntKind.u64.wrap (t211)) ((shl .u64 a2 (IntKind.u64.wrap (t211))) / 4294967296) (Go.bits .and .u64 (shl .u64 a2 (IntKind.u64.wrap (t211))) 4294967295) (Go.bits .or .u64 (shl .u64 a0 (IntKind.u64.wrap (t211))) (shr .u64 a1 (IntKind.u64.wrap (64 - (IntKind.u64.wrap (t211)))))) ((shl .u64 a1 (IntKind.u64.wrap (t211))) / 4294967296) (Go.bits .and .u64 (shl .u64 a1 (IntKind.u64.wrap (t211))) 4294967295) (IntKind.u64.wrap (Int.tdiv (Go.bits .or .u64 (shl .u64 a0 (IntKind.u64.wrap (t211))) (shr .u64 a1 (IntKind.u64.wrap (64 - (IntKind.u64.wrap (t211)))))) ((shl .u64 a2 (IntKind.u64.wrap (t211))) / 4294967296))) (IntKind.u64.wrap ((Go.bits .or .u64 (shl .u64 a0 (IntKind.u64.wrap (t211))) (shr .u64 a1 (IntKind.u64.wrap (64 - (IntKind.u64.wrap (t211)))))) - (IntKind.u64.wrap ((IntKind.u64.wrap (Int.tdiv (Go.bits .or .u64 (shl .u64 a0 (IntKind.u64.wrap (t211))) (shr .u64 a1 (IntKind.u64.wrap (64 - (IntKind.u64.wrap (t211)))))) ((shl .u64 a2 (IntKind.u64.wrap (t211))) / 4294967296))) * ((shl .u64 a2 (IntKind.u64.wrap (t211))) / 4294967296))))))) else (none)) else (none)))))) = some (r1, r2) := h
 clear h
 by_cases c4 : a2 = 0
 ·
  rw [if_pos c4] at H
  exact absurd H (by simp)
 ·
  rw [if_neg c4] at H
  have c4b0 : (a2 == 0) = false := beq_eq_false_iff_ne.mpr c4
  have c4b1 : (a2 != 0) = true := bne_iff_ne.mpr c4
  by_cases c5 : a2 ≤ a0
  ·
   rw [if_pos c5] at H
   exact absurd H (by simp)
  ·
   rw [if_neg c5] at H
   have c5b0 : decide (a2 ≤ a0) = false := decide_eq_false c5
   clear c5
   by_cases c6 : a0 = 0
   ·
    rw [if_pos c6] at H
    have c6b0 : (a0 == 0) = true := beq_iff_eq.mpr c6
    have c6b1 : (a0 != 0) = false := bne_eq_false_iff_eq.mpr c6
    clear c6
    simp only [Option.some.injEq, Prod.mk.injEq] at H
    obtain ⟨rfl, rfl⟩ := H
    go_enter Tryd.func93, Tryd.ntmps93
    go_wp2
    repeat (go_quiet (fail); try go_wp2)
    go_ret2
    exact ⟨zF, by repeat (first | exact Drawn0.refl _ | apply Drawn0.step)⟩
   ·
    rw [if_neg c6] at H
    have c6b0 : (a0 == 0) = false := beq_eq_false_iff_ne.mpr c6
    have c6b1 : (a0 != 0) = true := bne_iff_ne.mpr c6
    replace H := zO H
    obtain ⟨t211, A70, H⟩ := H
    try dsimp only at H
    have A7 := zA A70
    clear A70
    obtain ⟨ji8, hji8⟩ : ∃ j_ : Int, (IntKind.u64.wrap (t211)) = j_ := ⟨_, rfl⟩
    replace H : (if 0 ≤ (ji8) then (if 0 ≤ (IntKind.u64.wrap (64 - (ji8))) then (if ((shl .u64 a2 (ji8)) / 4294967296) = 0 then (none) else (zaw.l0 k (shl .u64 a2 (ji8)) ji8 ((shl .u64 a2 (ji8)) / 4294967296) (Go.bits .and .u64 (shl .u64 a2 (ji8)) 4294967295) (Go.bits .or .u64 (shl .u64 a0 (ji8)) (shr .u64 a1 (IntKind.u64.wrap (64 - (ji8))))) ((shl .u64 a1 (ji8)) / 4294967296) (Go.bits .and .u64 (shl .u64 a1 (ji8)) 4294967295) (IntKind.u64.wrap (Int.tdiv (Go.bits .or .u64 (shl .u64 a0 (ji8)) (shr .u64 a1 (IntKind.u64.wrap (64 - (ji8))))) ((shl .u64 a2 (ji8)) / 4294967296))) (IntKind.u64.wrap ((Go.bits .or .u64 (shl .u64 a0 (ji8)) (shr .u64 a1 (IntKind.u64.wrap (64 - (ji8))))) - (IntKind.u64.wrap ((IntKind.u64.wrap (Int.tdiv (Go.bits .or .u64 (shl .u64 a0 (ji8)) (shr .u64 a1 (IntKind.u64.wrap (64 - (ji8))))) ((shl .u64 a2 (ji8)) / 4294967296))) * ((shl .u64 a2 (ji8)) / 4294967296))))))) else (none)) else (none)) = some (r1, r2) := by first | (rw [hji8] at H; exact H) | (simp only [hji8] at H ⊢; exact H)
    (try rw [hji8] at A7)
    by_cases c9 : 0 ≤ (ji8)
    ·
     rw [if_pos c9] at H
     have c9b0 := eq_true c9
     have c9b1 : decide (0 ≤ (ji8)) = true := decide_eq_true c9
     clear c9
     obtain ⟨ji10, hji10⟩ : ∃ j_ : Int, (shl .u64 a2 (ji8)) = j_ := ⟨_, rfl⟩
     replace H : (if 0 ≤ (IntKind.u64.wrap (64 - (ji8))) then (if ((ji10) / 4294967296) = 0 then (none) else (zaw.l0 k ji10 ji8 ((ji10) / 4294967296) (Go.bits .and .u64 (ji10) 4294967295) (Go.bits .or .u64 (shl .u64 a0 (ji8)) (shr .u64 a1 (IntKind.u64.wrap (64 - (ji8))))) ((shl .u64 a1 (ji8)) / 4294967296) (Go.bits .and .u64 (shl .u64 a1 (ji8)) 4294967295) (IntKind.u64.wrap (Int.tdiv (Go.bits .or .u64 (shl .u64 a0 (ji8)) (shr .u64 a1 (IntKind.u64.wrap (64 - (ji8))))) ((ji10) / 4294967296))) (IntKind.u64.wrap ((Go.bits .or .u64 (shl .u64 a0 (ji8)) (shr .u64 a1 (IntKind.u64.wrap (64 - (ji8))))) - (IntKind.u64.wrap ((IntKind.u64.wrap (Int.tdiv (Go.bits .or .u64 (shl .u64 a0 (ji8)) (shr .u64 a1 (IntKind.u64.wrap (64 - (ji8))))) ((ji10) / 4294967296))) * ((ji10) / 4294967296))))))) else (none)) = some (r1, r2) := by first | (rw [hji10] at H; exact H) | (simp only [hji10] at H ⊢; exact H)
     (try rw [hji10] at A7)
     have hji10_ : (IntKind.u64.wrap (a2 * 2 ^ min (ji8).toNat 64)) = ji10 := hji10
     have hji10z : (ji8) ≤ 64 → (IntKind.u64.wrap (a2 * 2 ^ (ji8).toNat)) = ji10 := shl_small hji10
     have c11b0 := eq_true (of_decide_eq_true (by first | (with_reducible assumption) | assumption) : 0 ≤ (ji8))
     obtain ⟨ji12, hji12⟩ : ∃ j_ : Int, (shl .u64 a0 (ji8)) = j_ := ⟨_, rfl⟩
     replace H : (if 0 ≤ (IntKind.u64.wrap (64 - (ji8))) then (if ((ji10) / 4294967296) = 0 then (none) else (zaw.l0 k ji10 ji8 ((ji10) / 4294967296) (Go.bits .and .u64 (ji10) 4294967295) (Go.bits .or .u64 (ji12) (shr .u64 a1 (IntKind.u64.wrap (64 - (ji8))))) ((shl .u64 a1 (ji8)) / 4294967296) (Go.bits .and .u64 (shl .u64 a1 (ji8)) 4294967295) (IntKind.u64.wrap (Int.tdiv (Go.bits .or .u64 (ji12) (shr .u64 a1 (IntKind.u64.wrap (64 - (ji8))))) ((ji10) / 4294967296))) (IntKind.u64.wrap ((Go.bits .or .u64 (ji12) (shr .u64 a1 (IntKind.u64.wrap (64 - (ji8))))) - (IntKind.u64.wrap ((IntKind.u64.wrap (Int.tdiv (Go.bits .or .u64 (ji12) (shr .u64 a1 (IntKind.u64.wrap (64 - (ji8))))) ((ji10) / 4294967296))) * ((ji10) / 4294967296))))))) else (none)) = some (r1, r2) := by first | (rw [hji12] at H; exact H) | (simp only [hji12] at H ⊢; exact H)
     (try rw [hji12] at A7)
     have hji12_ : (IntKind.u64.wrap (a0 * 2 ^ min (ji8).toNat 64)) = ji12 := hji12
     have hji12z : (ji8) ≤ 64 → (IntKind.u64.wrap (a0 * 2 ^ (ji8).toNat)) = ji12 := shl_small hji12
     obtain ⟨ji13, hji13⟩ : ∃ j_ : Int, (IntKind.u64.wrap (64 - (ji8))) = j_ := ⟨_, rfl⟩
     replace H : (if 0 ≤ (ji13) then (if ((ji10) / 4294967296) = 0 then (none) else (zaw.l0 k ji10 ji8 ((ji10) / 4294967296) (Go.bits .and .u64 (ji10) 4294967295) (Go.bits .or .u64 (ji12) (shr .u64 a1 (ji13))) ((shl .u64 a1 (ji8)) / 4294967296) (Go.bits .and .u64 (shl .u64 a1 (ji8)) 4294967295) (IntKind.u64.wrap (Int.tdiv (Go.bits .or .u64 (ji12) (shr .u64 a1 (ji13))) ((ji10) / 4294967296))) (IntKind.u64.wrap ((Go.bits .or .u64 (ji12) (shr .u64 a1 (ji13))) - (IntKind.u64.wrap ((IntKind.u64.wrap (Int.tdiv (Go.bits .or .u64 (ji12) (shr .u64 a1 (ji13))) ((ji10) / 4294967296))) * ((ji10) / 4294967296))))))) else (none)) = some (r1, r2) := by first | (rw [hji13] at H; exact H) | (simp only [hji13] at H ⊢; exact H)
     (try rw [hji13] at A7)
     by_cases c14 : 0 ≤ (ji13)
     ·
      rw [if_pos c14] at H
      have c14b0 := eq_true c14
      have c14b1 : decide (0 ≤ (ji13)) = true := decide_eq_true c14
      clear c14
      obtain ⟨ji15, hji15⟩ : ∃ j_ : Int, (shr .u64 a1 (ji13)) = j_ := ⟨_, rfl⟩
      replace H : (if ((ji10) / 4294967296) = 0 then (none) else (zaw.l0 k ji10 ji8 ((ji10) / 4294967296) (Go.bits .and .u64 (ji10) 4294967295) (Go.bits .or .u64 (ji12) (ji15)) ((shl .u64 a1 (ji8)) / 4294967296) (Go.bits .and .u64 (shl .u64 a1 (ji8)) 4294967295) (IntKind.u64.wrap (Int.tdiv (Go.bits .or .u64 (ji12) (ji15)) ((ji10) / 4294967296))) (IntKind.u64.wrap ((Go.bits .or .u64 (ji12) (ji15)) - (IntKind.u64.wrap ((IntKind.u64.wrap (Int.tdiv (Go.bits .or .u64 (ji12) (ji15)) ((ji10) / 4294967296))) * ((ji10) / 4294967296))))))) = some (r1, r2) := by first | (rw [hji15] at H; exact H) | (simp only [hji15] at H ⊢; exact H)
      (try rw [hji15] at A7)
      have hji15_ : (a1 / 2 ^ min (ji13).toNat 64) = ji15 := hji15
      have hji15z : (ji13) ≤ 64 → (a1 / 2 ^ (ji13).toNat) = ji15 := shr_small hji15
      have c16b0 := eq_true (of_decide_eq_true (by first | (with_reducible assumption) | assumption) : 0 ≤ (ji8))
      obtain ⟨ji17, hji17⟩ : ∃ j_ : Int, (shl .u64 a1 (ji8)) = j_ := ⟨_, rfl⟩
      replace H : (if ((ji10) / 4294967296) = 0 then (none) else (zaw.l0 k ji10 ji8 ((ji10) / 4294967296) (Go.bits .and .u64 (ji10) 4294967295) (Go.bits .or .u64 (ji12) (ji15)) ((ji17) / 4294967296) (Go.bits .and .u64 (ji17) 4294967295) (IntKind.u64.wrap (Int.tdiv (Go.bits .or .u64 (ji12) (ji15)) ((ji10) / 4294967296))) (IntKind.u64.wrap ((Go.bits .or .u64 (ji12) (ji15)) - (IntKind.u64.wrap ((IntKind.u64.wrap (Int.tdiv (Go.bits .or .u64 (ji12) (ji15)) ((ji10) / 4294967296))) * ((ji10) / 4294967296))))))) = some (r1, r2) := by first | (rw [hji17] at H; exact H) | (simp only [hji17] at H ⊢; exact H)
      (try rw [hji17] at A7)
      have hji17_ : (IntKind.u64.wrap (a1 * 2 ^ min (ji8).toNat 64)) = ji17 := hji17
      have hji17z : (ji8) ≤ 64 → (IntKind.u64.wrap (a1 * 2 ^ (ji8).toNat)) = ji17 := shl_small hji17
      by_cases c18 : ((ji10) / 4294967296) = 0
      ·
       rw [if_pos c18] at H
       exact absurd H (by simp)
      ·
       rw [if_neg c18] at H
       have c18b0 : (((ji10) / 4294967296) == 0) = false := beq_eq_false_iff_ne.mpr c18
       have c18b1 : (((ji10) / 4294967296) != 0) = true := bne_iff_ne.mpr c18
       have HC19 := zA H
       clear H
       go_enter Tryd.func93, Tryd.ntmps93
       go_upto_block 0 with (first | (go_at_call 108; (with_reducible refine (bits_LeadingZeros64.calls a2 t211 _ A7.out).mono ?_); rintro e w' ⟨rfl, ⟨nd, rfl⟩⟩; (try first | exact ⟨rfl, _, World.drewN_drewN _ _ _⟩ | exact ⟨rfl, _, Eq.trans (World.drewN_drewN _ _ _) (congrArg (World.drewN _) (Nat.add_assoc _ _ _))⟩)))
       repeat (go_quiet (first | (go_at_call 108; (with_reducible refine (bits_LeadingZeros64.calls a2 t211 _ A7.out).mono ?_); rintro e w' ⟨rfl, ⟨nd, rfl⟩⟩; (try first | exact ⟨rfl, _, World.drewN_drewN _ _ _⟩ | exact ⟨rfl, _, Eq.trans (World.drewN_drewN _ _ _) (congrArg (World.drewN _) (Nat.add_assoc _ _ _))⟩))); go_upto_block 0 with (first | (go_at_call 108; (with_reducible refine (bits_LeadingZeros64.calls a2 t211 _ A7.out).mono ?_); rintro e w' ⟨rfl, ⟨nd, rfl⟩⟩; (try first | exact ⟨rfl, _, World.drewN_drewN _ _ _⟩ | exact ⟨rfl, _, Eq.trans (World.drewN_drewN _ _ _) (congrArg (World.drewN _) (Nat.add_assoc _ _ _))⟩))))
       (try simp only [Act.put, zs1, zs2, zs3])
       go_cut [15] (fun v15 wc => ∃ (kq : Nat) (x15_18 : Int), v15 = .int .u64 x15_18 ∧ Aside0 (zaw.j2 kq ji10 ji8 ((ji10) / 4294967296) (Go.bits .and .u64 (ji10) 4294967295) (Go.bits .or .u64 (ji12) (ji15)) ((ji17) / 4294967296) (Go.bits .and .u64 (ji17) 4294967295) x15_18 = some (r1, r2)) ∧ Aside0 (kq ≤ k) ∧ Drawn0 w wc)
       case first =>
        have H := HC19.out
        clear HC19
        have H' := zA H
        clear H
        go_wp2
        repeat (go_quiet (fail); try go_wp2)
        go_loopg [15, 16] k (fun kq v15 v16 w' => ∃ (x15_1 : Int) (x16_1 : Int), v15 = .int .u64 x15_1 ∧ v16 = .int .u64 x16_1 ∧ Aside0 (zaw.l0 kq ji10 ji8 ((ji10) / 4294967296) (Go.bits .and .u64 (ji10) 4294967295) (Go.bits .or .u64 (ji12) (ji15)) ((ji17) / 4294967296) (Go.bits .and .u64 (ji17) 4294967295) x15_1 x16_1 = some (r1, r2)) ∧ Aside0 (kq ≤ k) ∧ Drawn0 w w')
        case atStart => exact ⟨(IntKind.u64.wrap (Int.tdiv (Go.bits .or .u64 (ji12) (ji15)) ((ji10) / 4294967296))), (IntKind.u64.wrap ((Go.bits .or .u64 (ji12) (ji15)) - (IntKind.u64.wrap ((IntKind.u64.wrap (Int.tdiv (Go.bits .or .u64 (ji12) (ji15)) ((ji10) / 4294967296))) * ((ji10) / 4294967296))))), (by first | rfl | (simp; done) | (simp only [← hji10, ← hji12, ← hji15] <;> (first | rfl | simp)) | (simp [*]; done)), (by first | rfl | (simp; done) | (simp only [← hji10, ← hji12, ← hji15] <;> (first | rfl | simp)) | (simp [*]; done)), H', ⟨Nat.le_refl _⟩, by repeat (first | exact Drawn0.refl _ | apply Drawn0.step)⟩
        case round =>
         clear H'
         try clear c1
         try clear p2
         try clear c4
         try clear c4b0
         try clear c4b1
         try clear c5
         try clear c5b0
         try clear c6
         try clear c6b0
         try clear c6b1
         try clear c9
         try clear c9b0
         try clear c9b1
         try clear c11
         try clear c11b0
         try clear c14
         try clear c14b0
         try clear c14b1
         try clear c16
         try clear c16b0
         try clear c18
         try clear c18b0
         try clear c18b1
         obtain ⟨x15_1, x16_1, rfl, rfl, HA, HK1, ⟨m1, rfl⟩⟩ := hrel
         cases gk with
         | zero => exact absurd HA.out (by simp [zaw.l0])
         | succ k1 =>
          have H := HA.out
          clear HA
          simp only [zaw.l0] at H
          have HC20 := zA H
          clear H
          go_upto_region 17 with (fail)
          repeat (go_quiet (fail); go_upto_region 17 with (fail))
          go_cut [78] (fun v78 wc => ∃ (kq : Nat) (x78_19 : Bool), v78 = .bool x78_19 ∧ Aside0 (zaw.j1 kq ji10 ji8 ((ji10) / 4294967296) (Go.bits .and .u64 (ji10) 4294967295) (Go.bits .or .u64 (ji12) (ji15)) ((ji17) / 4294967296) (Go.bits .and .u64 (ji17) 4294967295) x15_1 x16_1 x78_19 = some (r1, r2)) ∧ Aside0 (kq ≤ k1) ∧ Drawn0 w wc)
          case first =>
           have H := HC20.out
           clear HC20
           by_cases c21 : x15_1 ≥ 4294967296
           ·
            rw [if_pos c21] at H
            have c21b0 : decide (4294967296 ≤ x15_1) = true := decide_eq_true c21
            clear c21
            (first | rw [c21b0] | (simp only [i64_w, i32_w]; rw [c21b0]) | skip)
            have H' := zA H
            clear H
            go_wp2
            repeat (go_quiet (fail); try go_wp2)
            go_meet
            case rel => exact ⟨_, (true), (zF), H', ⟨by have := HK1.out; first | omega | exact Nat.le_refl _⟩, by repeat (first | exact Drawn0.refl _ | apply Drawn0.step)⟩
           ·
            rw [if_neg c21] at H
            have c21b0 : decide (4294967296 ≤ x15_1) = false := decide_eq_false c21
            clear c21
            (first | rw [c21b0] | (simp only [i64_w, i32_w]; rw [c21b0]) | skip)
            have H' := zA H
            clear H
            go_wp2
            repeat (go_quiet (fail); try go_wp2)
            go_meet
            case rel => exact ⟨_, (decide ((IntKind.u64.wrap (x15_1 * (Go.bits .and .u64 (ji10) 4294967295))) > (IntKind.u64.wrap ((IntKind.u64.wrap (4294967296 * x16_1)) + ((ji17) / 4294967296))))), (by first | rfl | (simp; done) | (simp only [← hji10, ← hji17] <;> (first | rfl | simp)) | (simp [*]; done)), H', ⟨by have := HK1.out; first | omega | exact Nat.le_refl _⟩, by repeat (first | exact Drawn0.refl _ | apply Drawn0.step)⟩
          case rest =>
           clear HC20
           try clear c1
           try clear c2
           try clear p2
           try clear c4
           try clear c4b0
           try clear c4b1
           try clear c5
           try clear c5b0
           try clear c6
           try clear c6b0
           try clear c6b1
           try clear c9
           try clear c9b0
           try clear c9b1
           try clear c11
           try clear c11b0
           try clear c14
           try clear c14b0
           try clear c14b1
           try clear c16
           try clear c16b0
           try clear c18
           try clear c18b0
           try clear c18b1
           try clear c21
           try clear c21b0
           try clear p2
           obtain ⟨kq, x78_19, rfl, HA, HJ19, ⟨mc19, rfl⟩⟩ := hcut
           cases kq with
           | zero => exact absurd HA.out (by simp [zaw.j1])
           | succ kj19 =>
            have H := HA.out
            clear HA
            simp only [zaw.j1] at H
            by_cases c22 : x78_19 = true
            ·
             subst c22
             rw [if_pos rfl] at H
             by_cases c23 : (IntKind.u64.wrap (x16_1 + ((ji10) / 4294967296))) ≥ 4294967296
             ·
              rw [if_pos c23] at H
              have c23b0 : decide (4294967296 ≤ (IntKind.u64.wrap (x16_1 + ((ji10) / 4294967296)))) = true := decide_eq_true c23
              clear c23
              have H' := zA H
              clear H
              go_wp2
              repeat (go_quiet (fail); try go_wp2)
              go_meet
              case rel => exact ⟨_, (IntKind.u64.wrap (x15_1 - 1)), (zF), H', ⟨by have := HK1.out; have := HJ19.out; first | omega | exact Nat.le_refl _⟩, by repeat (first | exact Drawn0.refl _ | apply Drawn0.step)⟩
             ·
              rw [if_neg c23] at H
              have c23b0 : decide (4294967296 ≤ (IntKind.u64.wrap (x16_1 + ((ji10) / 4294967296)))) = false := decide_eq_false c23
              clear c23
              have H' := zA H
              clear H
              go_wp2
              repeat (go_quiet (fail); try go_wp2)
              go_roundg kj19
              case measure => have := HK1.out; have := HJ19.out; omega
              case rel => exact ⟨(IntKind.u64.wrap (x15_1 - 1)), (IntKind.u64.wrap (x16_1 + ((ji10) / 4294967296))), (zF), (by first | rfl | (simp; done) | (simp only [← hji10] <;> (first | rfl | simp)) | (simp [*]; done)), H', ⟨by have := HK1.out; have := HJ19.out; omega⟩, by repeat (first | exact Drawn0.refl _ | apply Drawn0.step)⟩
            ·
             replace c22 := Bool.eq_false_iff.mpr c22
             subst c22
             rw [if_neg (show ¬ (false = true) by decide)] at H
             have H' := zA H
             clear H
             go_wp2
             repeat (go_quiet (fail); try go_wp2)
             go_meet
             case rel => exact ⟨_, (x15_1), (zF), H', ⟨by have := HK1.out; have := HJ19.out; first | omega | exact Nat.le_refl _⟩, by repeat (first | exact Drawn0.refl _ | apply Drawn0.step)⟩
       case rest =>
        clear HC19
        try clear c1
        try clear c2
        try clear p2
        try clear c4
        try clear c4b0
        try clear c4b1
        try clear c5
        try clear c5b0
        try clear c6
        try clear c6b0
        try clear c6b1
        try clear c9
        try clear c9b0
        try clear c9b1
        try clear c11
        try clear c11b0
        try clear c14
        try clear c14b0
        try clear c14b1
        try clear c16
        try clear c16b0
        try clear c18
        try clear c18b0
        try clear c18b1
        try clear c19
        try clear c21
        try clear c21b0
        try clear c22
        try clear c23
        try clear c23b0
        try clear p2
        obtain ⟨kq, x15_18, rfl, HA, HJ18, ⟨mc18, rfl⟩⟩ := hcut
        cases kq with
        | zero => exact absurd HA.out (by simp [zaw.j2])
        | succ kj18 =>
         have H := HA.out
         clear HA
         simp only [zaw.j2] at H
         by_cases c24 : ((ji10) / 4294967296) = 0
         ·
          rw [if_pos c24] at H
          exact absurd H (by simp)
         ·
          rw [if_neg c24] at H
          have c24b0 : (((ji10) / 4294967296) == 0) = false := beq_eq_false_iff_ne.mpr c24
          have c24b1 : (((ji10) / 4294967296) != 0) = true := bne_iff_ne.mpr c24
          have H' := zA H
          clear H
          go_wp2
          repeat (go_quiet (fail); try go_wp2)
          go_loopg [16, 18] kj18 (fun kq v16 v18 w' => ∃ (x16_2 : Int) (x18_2 : Int), v16 = .int .u64 x16_2 ∧ v18 = .int .u64 x18_2 ∧ Aside0 (zaw.l1 kq ji10 ji8 ((ji10) / 4294967296) (Go.bits .and .u64 (ji10) 4294967295) (Go.bits .and .u64 (ji17) 4294967295) x15_18 x16_2 (IntKind.u64.wrap ((IntKind.u64.wrap ((IntKind.u64.wrap ((Go.bits .or .u64 (ji12) (ji15)) * 4294967296)) + ((ji17) / 4294967296))) - (IntKind.u64.wrap (x15_18 * ji10)))) x18_2 = some (r1, r2)) ∧ Aside0 (kq ≤ kj18) ∧ Drawn0 w w')
          case atStart => exact ⟨(IntKind.u64.wrap ((IntKind.u64.wrap ((IntKind.u64.wrap ((IntKind.u64.wrap ((Go.bits .or .u64 (ji12) (ji15)) * 4294967296)) + ((ji17) / 4294967296))) - (IntKind.u64.wrap (x15_18 * ji10)))) - (IntKind.u64.wrap ((IntKind.u64.wrap (Int.tdiv (IntKind.u64.wrap ((IntKind.u64.wrap ((IntKind.u64.wrap ((Go.bits .or .u64 (ji12) (ji15)) * 4294967296)) + ((ji17) / 4294967296))) - (IntKind.u64.wrap (x15_18 * ji10)))) ((ji10) / 4294967296))) * ((ji10) / 4294967296))))), (IntKind.u64.wrap (Int.tdiv (IntKind.u64.wrap ((IntKind.u64.wrap ((IntKind.u64.wrap ((Go.bits .or .u64 (ji12) (ji15)) * 4294967296)) + ((ji17) / 4294967296))) - (IntKind.u64.wrap (x15_18 * ji10)))) ((ji10) / 4294967296))), (by first | rfl | (simp; done) | (simp only [← hji10, ← hji12, ← hji15, ← hji17] <;> (first | rfl | simp)) | (simp [*]; done)), (by first | rfl | (simp; done) | (simp only [← hji10, ← hji12, ← hji15, ← hji17] <;> (first | rfl | simp)) | (simp [*]; done)), H', ⟨Nat.le_refl _⟩, by repeat (first | exact Drawn0.refl _ | apply Drawn0.step)⟩
          case round =>
           clear H'
           try clear c1
           try clear c2
           try clear p2
           try clear c4
           try clear c4b0
           try clear c4b1
           try clear c5
           try clear c5b0
           try clear c6
           try clear c6b0
           try clear c6b1
           try clear c9
           try clear c9b0
           try clear c9b1
           try clear c11
           try clear c11b0
           try clear c14
           try clear c14b0
           try clear c14b1
           try clear c16
           try clear c16b0
           try clear c18
           try clear c18b0
           try clear c18b1
           try clear c19
           try clear c21
           try clear c21b0
           try clear c22
           try clear c23
           try clear c23b0
           try clear c24
           try clear c24b0
           try clear c24b1
           try clear p2
           obtain ⟨x16_2, x18_2, rfl, rfl, HA, HK2, ⟨m2, rfl⟩⟩ := hrel
           cases gk with
           | zero => exact absurd HA.out (by simp [zaw.l1])
           | succ k2 =>
            have H := HA.out
            clear HA
            simp only [zaw.l1] at H
            have HC25 := zA H
            clear H
            go_upto_region 24 with (fail)
            repeat (go_quiet (fail); go_upto_region 24 with (fail))
            go_cut [113] (fun v113 wc => ∃ (kq : Nat) (x113_24 : Bool), v113 = .bool x113_24 ∧ Aside0 (zaw.j4 kq ji10 ji8 ((ji10) / 4294967296) (Go.bits .and .u64 (ji10) 4294967295) (Go.bits .and .u64 (ji17) 4294967295) x15_18 x16_2 (IntKind.u64.wrap ((IntKind.u64.wrap ((IntKind.u64.wrap ((Go.bits .or .u64 (ji12) (ji15)) * 4294967296)) + ((ji17) / 4294967296))) - (IntKind.u64.wrap (x15_18 * ji10)))) x18_2 x113_24 = some (r1, r2)) ∧ Aside0 (kq ≤ k2) ∧ Drawn0 w wc)
            case first =>
             have H := HC25.out
             clear HC25
             by_cases c26 : x18_2 ≥ 4294967296
             ·
              rw [if_pos c26] at H
              have c26b0 : decide (4294967296 ≤ x18_2) = true := decide_eq_true c26
              clear c26
              (first | rw [c26b0] | (simp only [i64_w, i32_w]; rw [c26b0]) | skip)
              have H' := zA H
              clear H
              go_wp2
              repeat (go_quiet (fail); try go_wp2)
              go_meet
              case rel => exact ⟨_, (true), (zF), H', ⟨by have := HJ18.out; have := HK2.out; first | omega | exact Nat.le_refl _⟩, by repeat (first | exact Drawn0.refl _ | apply Drawn0.step)⟩
             ·
              rw [if_neg c26] at H
              have c26b0 : decide (4294967296 ≤ x18_2) = false := decide_eq_false c26
              clear c26
              (first | rw [c26b0] | (simp only [i64_w, i32_w]; rw [c26b0]) | skip)
              have H' := zA H
              clear H
              go_wp2
              repeat (go_quiet (fail); try go_wp2)
              go_meet
              case rel => exact ⟨_, (decide ((IntKind.u64.wrap (x18_2 * (Go.bits .and .u64 (ji10) 4294967295))) > (IntKind.u64.wrap ((IntKind.u64.wrap (4294967296 * x16_2)) + (Go.bits .and .u64 (ji17) 4294967295))))), (by first | rfl | (simp; done) | (simp only [← hji10, ← hji17] <;> (first | rfl | simp)) | (simp [*]; done)), H', ⟨by have := HJ18.out; have := HK2.out; first | omega | exact Nat.le_refl _⟩, by repeat (first | exact Drawn0.refl _ | apply Drawn0.step)⟩
            case rest =>
             clear HC25
             try clear c1
             try clear c2
             try clear p2
             try clear c4
             try clear c4b0
             try clear c4b1
             try clear c5
             try clear c5b0
             try clear c6
             try clear c6b0
             try clear c6b1
             try clear c9
             try clear c9b0
             try clear c9b1
             try clear c11
             try clear c11b0
             try clear c14
             try clear c14b0
             try clear c14b1
             try clear c16
             try clear c16b0
             try clear c18
             try clear c18b0
             try clear c18b1
             try clear c19
             try clear c21
             try clear c21b0
             try clear c22
             try clear c23
             try clear c23b0
             try clear c24
             try clear c24b0
             try clear c24b1
             try clear c26
             try clear c26b0
             try clear p2
             obtain ⟨kq, x113_24, rfl, HA, HJ24, ⟨mc24, rfl⟩⟩ := hcut
             cases kq with
             | zero => exact absurd HA.out (by simp [zaw.j4])
             | succ kj24 =>
              have H := HA.out
              clear HA
              simp only [zaw.j4] at H
              by_cases c27 : x113_24 = true
              ·
               subst c27
               rw [if_pos rfl] at H
               by_cases c28 : (IntKind.u64.wrap (x16_2 + ((ji10) / 4294967296))) ≥ 4294967296
               ·
                rw [if_pos c28] at H
                have c28b0 : decide (4294967296 ≤ (IntKind.u64.wrap (x16_2 + ((ji10) / 4294967296)))) = true := decide_eq_true c28
                clear c28
                by_cases c29 : 0 ≤ ji8
                ·
                 rw [if_pos c29] at H
                 have c29b0 := eq_true c29
                 have c29b1 : decide (0 ≤ ji8) = true := decide_eq_true c29
                 clear c29
                 obtain ⟨ji30, hji30⟩ : ∃ j_ : Int, (shr .u64 (IntKind.u64.wrap ((IntKind.u64.wrap ((IntKind.u64.wrap ((IntKind.u64.wrap ((IntKind.u64.wrap ((IntKind.u64.wrap ((Go.bits .or .u64 (ji12) (ji15)) * 4294967296)) + ((ji17) / 4294967296))) - (IntKind.u64.wrap (x15_18 * ji10)))) * 4294967296)) + (Go.bits .and .u64 (ji17) 4294967295))) - (IntKind.u64.wrap ((IntKind.u64.wrap (x18_2 - 1)) * ji10)))) ji8) = j_ := ⟨_, rfl⟩
                 replace H : (some (IntKind.u64.wrap ((IntKind.u64.wrap (x15_18 * 4294967296)) + (IntKind.u64.wrap (x18_2 - 1))), ji30)) = some (r1, r2) := by first | (rw [hji30] at H; exact H) | (simp only [hji30] at H ⊢; exact H)
                 have hji30_ : ((IntKind.u64.wrap ((IntKind.u64.wrap ((IntKind.u64.wrap ((IntKind.u64.wrap ((IntKind.u64.wrap ((IntKind.u64.wrap ((Go.bits .or .u64 (ji12) (ji15)) * 4294967296)) + ((ji17) / 4294967296))) - (IntKind.u64.wrap (x15_18 * ji10)))) * 4294967296)) + (Go.bits .and .u64 (ji17) 4294967295))) - (IntKind.u64.wrap ((IntKind.u64.wrap (x18_2 - 1)) * ji10)))) / 2 ^ min ji8.toNat 64) = ji30 := hji30
                 have hji30z : ji8 ≤ 64 → ((IntKind.u64.wrap ((IntKind.u64.wrap ((IntKind.u64.wrap ((IntKind.u64.wrap ((IntKind.u64.wrap ((IntKind.u64.wrap ((Go.bits .or .u64 (ji12) (ji15)) * 4294967296)) + ((ji17) / 4294967296))) - (IntKind.u64.wrap (x15_18 * ji10)))) * 4294967296)) + (Go.bits .and .u64 (ji17) 4294967295))) - (IntKind.u64.wrap ((IntKind.u64.wrap (x18_2 - 1)) * ji10)))) / 2 ^ ji8.toNat) = ji30 := shr_small hji30
                 simp only [Option.some.injEq, Prod.mk.injEq] at H
                 obtain ⟨rfl, rfl⟩ := H
                 go_wp2
                 repeat (go_quiet (fail); try go_wp2)
                 go_ret2
                 exact ⟨by first | rfl | (simp; done) | (simp only [← hji8, ← hji10, ← hji12, ← hji13, ← hji15, ← hji17, ← hji30] <;> (first | rfl | simp)) | (simp [*]; done), by repeat (first | exact Drawn0.refl _ | apply Drawn0.step)⟩
                ·
                 rw [if_neg c29] at H
                 exact absurd H (by simp)
               ·
                rw [if_neg c28] at H
                have c28b0 : decide (4294967296 ≤ (IntKind.u64.wrap (x16_2 + ((ji10) / 4294967296)))) = false := decide_eq_false c28
                clear c28
                have H' := zA H
                clear H
                go_wp2
                repeat (go_quiet (fail); try go_wp2)
                go_roundg kj24
                case measure => have := HJ18.out; have := HK2.out; have := HJ24.out; omega
                case rel => exact ⟨(IntKind.u64.wrap (x16_2 + ((ji10) / 4294967296))), (IntKind.u64.wrap (x18_2 - 1)), (by first | rfl | (simp; done) | (simp only [← hji10] <;> (first | rfl | simp)) | (simp [*]; done)), (zF), H', ⟨by have := HJ18.out; have := HK2.out; have := HJ24.out; omega⟩, by repeat (first | exact Drawn0.refl _ | apply Drawn0.step)⟩
              ·
               replace c27 := Bool.eq_false_iff.mpr c27
               subst c27
               rw [if_neg (show ¬ (false = true) by decide)] at H
               by_cases c31 : 0 ≤ ji8
               ·
                rw [if_pos c31] at H
                have c31b0 := eq_true c31
                have c31b1 : decide (0 ≤ ji8) = true := decide_eq_true c31
                clear c31
                obtain ⟨ji32, hji32⟩ : ∃ j_ : Int, (shr .u64 (IntKind.u64.wrap ((IntKind.u64.wrap ((IntKind.u64.wrap ((IntKind.u64.wrap ((IntKind.u64.wrap ((IntKind.u64.wrap ((Go.bits .or .u64 (ji12) (ji15)) * 4294967296)) + ((ji17) / 4294967296))) - (IntKind.u64.wrap (x15_18 * ji10)))) * 4294967296)) + (Go.bits .and .u64 (ji17) 4294967295))) - (IntKind.u64.wrap (x18_2 * ji10)))) ji8) = j_ := ⟨_, rfl⟩
                replace H : (some (IntKind.u64.wrap ((IntKind.u64.wrap (x15_18 * 4294967296)) + x18_2), ji32)) = some (r1, r2) := by first | (rw [hji32] at H; exact H) | (simp only [hji32] at H ⊢; exact H)
                have hji32_ : ((IntKind.u64.wrap ((IntKind.u64.wrap ((IntKind.u64.wrap ((IntKind.u64.wrap ((IntKind.u64.wrap ((IntKind.u64.wrap ((Go.bits .or .u64 (ji12) (ji15)) * 4294967296)) + ((ji17) / 4294967296))) - (IntKind.u64.wrap (x15_18 * ji10)))) * 4294967296)) + (Go.bits .and .u64 (ji17) 4294967295))) - (IntKind.u64.wrap (x18_2 * ji10)))) / 2 ^ min ji8.toNat 64) = ji32 := hji32
                have hji32z : ji8 ≤ 64 → ((IntKind.u64.wrap ((IntKind.u64.wrap ((IntKind.u64.wrap ((IntKind.u64.wrap ((IntKind.u64.wrap ((IntKind.u64.wrap ((Go.bits .or .u64 (ji12) (ji15)) * 4294967296)) + ((ji17) / 4294967296))) - (IntKind.u64.wrap (x15_18 * ji10)))) * 4294967296)) + (Go.bits .and .u64 (ji17) 4294967295))) - (IntKind.u64.wrap (x18_2 * ji10)))) / 2 ^ ji8.toNat) = ji32 := shr_small hji32
                simp only [Option.some.injEq, Prod.mk.injEq] at H
                obtain ⟨rfl, rfl⟩ := H
                go_wp2
                repeat (go_quiet (fail); try go_wp2)
                go_ret2
                exact ⟨by first | rfl | (simp; done) | (simp only [← hji8, ← hji10, ← hji12, ← hji13, ← hji15, ← hji17, ← hji32] <;> (first | rfl | simp)) | (simp [*]; done), by repeat (first | exact Drawn0.refl _ | apply Drawn0.step)⟩
               ·
                rw [if_neg c31] at H
                exact absurd H (by simp)
     ·
      rw [if_neg c14] at H
      exact absurd H (by simp)
    ·
     rw [if_neg c9] at H
     exact absurd H (by simp)
end Go.Proofs.YtfjkamhcabckeaaDoor.P
end
