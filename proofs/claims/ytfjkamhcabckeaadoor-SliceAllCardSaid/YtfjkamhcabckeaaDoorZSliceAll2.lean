-- Written by a program of this session (wip/tools/shake.py) out of its own texts and of the kit's printed ones; not trusted: Lean checks it.
import Derived.Test.YtfjkamhcabckeaaDoorZSliceAll1
set_option maxHeartbeats 8000000
set_option maxRecDepth 100000
set_option linter.unusedVariables false
set_option linter.unusedSimpArgs false
section
namespace Go.Proofs.YtfjkamhcabckeaaDoor.P
open Go.RowKit Go.Proofs.YtfjkamhcabckeaaDoorW.PrintWords Go.Proofs.YtfjkamhcabckeaaDoorW.PrintLast Go.Proofs.YtfjkamhcabckeaaDoorW.PrintMore
attribute [local go_sem] zdm zdh max_two min_two zc8 zc9 zdg zdi
def zau.l0 : Nat → List Int → List Int → List Int → Int → Option (List Int × List Int × Int)
 | 0, _, _, _, _ => none
 | k + 1, x1, x7, x8, x9 => if x9 ≥ 0 then ((zat.f k x1 x9).bind fun t149 => ((zcv.f x7 t149).bind fun t152 => (if t152 ≥ 0 then ((zbo.f k x7 t149).bind fun t153 => (if 0 ≤ (wrap64 (Int.tdiv x9 64)) then (if (wrap64 (Int.tdiv x9 64)) < (x8.length : Int) then (if 0 ≤ (Int.tmod x9 64) then (zau.l0 k x1 t153 (x8.set ((wrap64 (Int.tdiv x9 64)) : Int).toNat (Go.bits .or .u64 (rd x8 (wrap64 (Int.tdiv x9 64))) (shl .u64 1 (Int.tmod x9 64)))) (wrap64 (x9 - 1))) else (none)) else (none)) else (none))) else (zau.l0 k x1 x7 x8 (wrap64 (x9 - 1)))))) else ((zax.f k x8).bind fun t146 => (some (t146, x7, 0)))
def zau.f (k : Nat) (l0 : List Int) (l1 : List Int) : Option (List Int × List Int × Int) := if (l1.length : Int) = 0 then (some (([] : List Int), ([] : List Int), 16)) else ((zbb.f l0).bind fun t138 => (if 0 ≤ (l0.length : Int) then (if ((l0.length : Int) : Int).toNat ≤ 35184372088832 then ((zcn.f l0).bind fun t144 => ((zcn.f l1).bind fun t145 => (zau.l0 k l1 t138 (List.replicate ((l0.length : Int) : Int).toNat 0) (wrap64 (t144 - t145))))) else (none)) else (none)))
theorem zau.zcs : ∀ k, (∀ y0 y1 y2 y3, LeO (zau.l0 k y0 y1 y2 y3) (zau.l0 (k + 1) y0 y1 y2 y3))
 | 0 => fun _ _ _ _ r h => by simp [zau.l0] at h
 | k + 1 => by
  have ih0 := zau.zcs k
  ·
   intro y0 y1 y2 y3
   unfold zau.l0
   repeat' first
   | (with_reducible exact ih0 _ _ _ _)
   | (with_reducible exact zat.mono _ _ _)
   | (with_reducible exact zbo.mono _ _ _)
   | (with_reducible exact zax.mono _ _)
   | (with_reducible exact LeO.refl _)
   | (with_reducible exact LeO.none _)
   | (with_reducible refine LeO.ite ?_ ?_)
   | (with_reducible refine LeO.bind ?_ (fun _ => ?_))
   | exact ih0 _ _ _ _
   | exact zat.mono _ _ _
   | exact zbo.mono _ _ _
   | exact zax.mono _ _
   | exact LeO.none _
   | refine LeO.ite ?_ ?_
   | refine LeO.bind ?_ (fun _ => ?_)
theorem zau.mono : ∀ a0 a1 k, LeO (zau.f k a0 a1) (zau.f (k + 1) a0 a1) := by
 intro a0 a1 k
 have ih0 := zau.zcs k
 unfold zau.f
 repeat' first
   | (with_reducible exact ih0 _ _ _ _)
   | (with_reducible exact zat.mono _ _ _)
   | (with_reducible exact zbo.mono _ _ _)
   | (with_reducible exact zax.mono _ _)
   | (with_reducible exact LeO.refl _)
   | (with_reducible exact LeO.none _)
   | (with_reducible refine LeO.ite ?_ ?_)
   | (with_reducible refine LeO.bind ?_ (fun _ => ?_))
   | exact ih0 _ _ _ _
   | exact zat.mono _ _ _
   | exact zbo.mono _ _ _
   | exact zax.mono _ _
   | exact LeO.none _
   | refine LeO.ite ?_ ?_
   | refine LeO.bind ?_ (fun _ => ?_)
def zau.T11 : Bool × List (List Nat × List Nat) := (true, [([], []), ([], []), ([1], [1]), ([0, 2], [0, 2]), ([3], [3]), ([], []), ([5], [5]), ([6], [6]), ([4, 7], [4, 7]), ([0, 2, 0, 1, 2, 3, 4, 5, 6, 7, 8], [0, 2]), ([9, 8, 0, 1, 2, 3, 4, 5, 6, 7, 8], [8, 9])])
def zau.B11 : List Nat := [0, 0, 2, 7, 15, 0, 32, 96, 255, 511, 1023]
theorem zau.tab11 : rtab .any (opsOf Tryd.f60 11) = zau.T11 := by kernel_rfl
theorem zau.bits11 : waitsOk zau.T11.2 zau.B11 = true := by kernel_rfl
theorem zau.calls (k : Nat) (A0 : Option Addr) (c0 : Nat) (l0 : List Int) (A1 : Option Addr) (c1 : Nat) (l1 : List Int) (r1 : List Int) (r2 : List Int) (r3 : Int) (w : World) (hr0 : Kd.C (Kd.int .u64) w A0 l0.length l0) (hc0 : l0.length ≤ c0) (hr1 : Kd.C (Kd.int .u64) w A1 l1.length l1) (hc1 : l1.length ≤ c1) (h : zau.f k l0 l1 = some (r1, r2, r3)) :
  Calls Tryd.prog 60 #[.slice A0 l0.length c0, .slice A1 l1.length c1] w fun e w' => ∃ v0_ v1_ : Value, e = .returned (.tuple #[v0_, v1_, .int .i64 r3]) ∧ Kd.V (Kd.int .u64) 57 w' w.heap.size (fun k_ => (w.heap.size ≤ k_)) v0_ r1 ∧ Kd.V (Kd.int .u64) 57 w' w.heap.size (fun k_ => (w.heap.size ≤ k_)) v1_ r2 ∧ Below w.heap.size w w' := by
 have HR0 := zA hr0
 have HC0 := zA hc0
 clear hr0 hc0
 have HR1 := zA hr1
 have HC1 := zA hc1
 clear hr1 hc1
 have HB := zA (Below.refl w.heap.size w)
 have H : (if (l1.length : Int) = 0 then (some (([] : List Int), ([] : List Int), 16)) else ((zbb.f l0).bind fun t138 => (if 0 ≤ (l0.length : Int) then (if ((l0.length : Int) : Int).toNat ≤ 35184372088832 then ((zcn.f l0).bind fun t144 => ((zcn.f l1).bind fun t145 => (zau.l0 k l1 t138 (List.replicate ((l0.length : Int) : Int).toNat 0) (wrap64 (t144 - t145))))) else (none)) else (none)))) = some (r1, r2, r3) := h
 clear h
 by_cases c3 : (l1.length : Int) = 0
 ·
  rw [if_pos c3] at H
  have c3b0 : ((l1.length : Int) == 0) = true := beq_iff_eq.mpr c3
  have c3b1 : ((l1.length : Int) != 0) = false := bne_eq_false_iff_eq.mpr c3
  clear c3
  simp only [Option.some.injEq, Prod.mk.injEq] at H
  obtain ⟨rfl, rfl, rfl⟩ := H
  go_enter Tryd.func60, Tryd.ntmps60
  go_wp2
  go_ret3
  exact ⟨_, _, zW, Kd.V_nil _ _ _ _ _, Kd.V_nil _ _ _ _ _, zB HB⟩
 ·
  rw [if_neg c3] at H
  have c3b0 : ((l1.length : Int) == 0) = false := beq_eq_false_iff_ne.mpr c3
  have c3b1 : ((l1.length : Int) != 0) = true := bne_iff_ne.mpr c3
  have c3b2 : ¬ (l1 = []) := fun h_ => c3 (by rw [h_]; rfl)
  replace H := zO H
  obtain ⟨t138, A40, H⟩ := H
  try dsimp only at H
  have A4 := zA A40
  clear A40
  by_cases c5 : 0 ≤ (l0.length : Int)
  ·
   rw [if_pos c5] at H
   have c5b0 := eq_true c5
   have c5b1 : decide (0 ≤ (l0.length : Int)) = true := decide_eq_true c5
   clear c5
   by_cases c6 : ((l0.length : Int) : Int).toNat ≤ 35184372088832
   ·
    rw [if_pos c6] at H
    have c6b0 := eq_true c6
    have c6b1 : decide (((l0.length : Int) : Int).toNat ≤ 35184372088832) = true := decide_eq_true c6
    clear c6
    obtain ⟨y141, hy141⟩ : ∃ y_ : List Int, y_ = (List.replicate ((l0.length : Int) : Int).toNat 0) := ⟨_, rfl⟩
    replace H : ((zcn.f l0).bind fun t144 => ((zcn.f l1).bind fun t145 => (zau.l0 k l1 t138 y141 (wrap64 (t144 - t145))))) = some (r1, r2, r3) := by first | (rw [hy141]; with_reducible exact H) | (have H2_ := (Option.bind_some _ _).symm.trans H; rw [hy141]; with_reducible exact H2_) | (have H2_ := (Option.bind_some _ _).symm.trans H; with_reducible exact H2_) | with_reducible exact H | (rw [hy141]; exact H) | exact H
    have Ny141 := zA hy141
    clear hy141
    replace H := zO H
    obtain ⟨t144, A70, H⟩ := H
    try dsimp only at H
    have A7 := zA A70
    clear A70
    replace H := zO H
    obtain ⟨t145, A80, H⟩ := H
    try dsimp only at H
    have A8 := zA A80
    clear A80
    have H' := zA H
    clear H
    go_enter Tryd.func60, Tryd.ntmps60
    go_wp2_with (first | ((with_reducible refine zae (f := 81) rfl ?_); refine za4 (some 15) rfl rfl Tryd.func81 (by kernel_rfl) rfl #[.slice A0 l0.length c0] rfl (zE) ?_; (with_reducible refine (zbb.calls _ _ l0 t138 _ ?side1 ?side2 A4.out).mono ?_); (case side1 => repeat (first | exact HR0.out | (with_reducible refine Kd.zdc ?_ _) | (with_reducible refine Kd.C_drewN ?_ _) | (with_reducible refine Kd.C_drew ?_))); (case side2 => exact HC0.out); rintro e w9 ⟨v139, rfl, ho0, hb⟩; refine ⟨_, rfl, ?_⟩; have n0_ := zA (Kd.zbw (Kd.R_newM (M := fun k_ => (w.heap.size ≤ k_)) ho0 (za (zB HB)) (fun k_ h_ => h_)) (za (zB HB))); have n1_ := zA (zac (zB HB) hb); clear HB; have HO140 := n0_; have HB := n1_; clear n0_ n1_; (try clear hb); (try clear hb2); (try clear hk); (try clear hi); (try clear ho0)) | ((with_reducible refine zbe (N := 18) rfl ?_); refine Kd.R_make (Kd.int .u64) _ 57 rfl (N := 18) rfl 26 _ _ rfl (l0.length : Int) rfl rfl Tryd.underlying26 (.int .u64 0) 8 info57 rfl (by decide) (by omega) 0 (ok := fun _ => True) (okp := fun _ => True) rfl (fun _ hk => hk) trivial (of_decide_eq_true (by first | (with_reducible assumption) | assumption)) (Nat.le_trans (Nat.mul_le_mul_right _ (of_decide_eq_true (by first | (with_reducible assumption) | assumption) : (l0.length : Int).toNat ≤ 35184372088832)) (by omega)) (Below.refl _ _) (Nat.le_refl _) ?_; intro v142 w10 ho11 hb hg_ hnew_; clear hg_ hnew_; (first | rw [← Ny141.out] at ho11 | (simp only [Int.reduceToNat] at ho11; rw [← Ny141.out] at ho11)); have n0_ := zA (Kd.zbv (zR HO140) (Kd.zbk ho11) hb); have n1_ := zA (Kd.zbw (Kd.zcc (Kd.R_newM (M := fun k_ => (w.heap.size ≤ k_)) ho11 (za (zB HB)) (fun k_ h_ => h_)) (Kd.R_lt (zR HO140))) (za (zB HB))); have n2_ := zA (zac (zB HB) hb); clear HO140 HB; have HO140 := n0_; have HO143 := n1_; have HB := n2_; clear n0_ n1_ n2_ hb ho11) | ((with_reducible refine zae (f := 84) rfl ?_); refine za4 (some 20) rfl rfl Tryd.func84 (by kernel_rfl) rfl #[.slice A0 l0.length c0] rfl (zE) ?_; (with_reducible refine (zcn.calls _ _ l0 t144 _ ?side1 ?side2 A7.out).mono ?_); (case side1 => exact zJ (Kd.za6 HR0.out HB.out)); (case side2 => exact HC0.out); rintro e w' ⟨rfl, ⟨nd, rfl⟩⟩; refine ⟨_, rfl, ?_⟩) | ((with_reducible refine zae (f := 84) rfl ?_); refine za4 (some 22) rfl rfl Tryd.func84 (by kernel_rfl) rfl #[.slice A1 l1.length c1] rfl (zE) ?_; (with_reducible refine (zcn.calls _ _ l1 t145 _ ?side1 ?side2 A8.out).mono ?_); (case side1 => exact zJ (Kd.za6 HR1.out (zB HB))); (case side2 => exact HC1.out); rintro e w' ⟨rfl, ⟨nd, rfl⟩⟩; refine ⟨_, rfl, ?_⟩))
    go_loopg [7, 9] k (fun kq v7 v9 w' => ∃ (x7_1 : List Int) (x8_1 : List Int) (x9_1 : Int), v9 = .int .i64 x9_1 ∧ Aside0 (zau.l0 kq l1 x7_1 x8_1 x9_1 = some (r1, r2, r3)) ∧ Aside0 (kq ≤ k) ∧ Aside0 (Kd.V (Kd.int .u64) 57 w' w.heap.size (fun k_ => (w.heap.size ≤ k_) ∧ some k_ ≠ (v142 : Value).ownBlock) v7 x7_1) ∧ Aside0 (Kd.R (Kd.int .u64) 57 w' w.heap.size (fun k_ => (w.heap.size ≤ k_)) v142 x8_1) ∧ Aside0 (Below w.heap.size w w'))
    case atStart => exact ⟨(t138), (y141), (wrap64 (t144 - t145)), (zF), H', ⟨Nat.le_refl _⟩, ⟨Kd.R_V (by (with_reducible repeat (first | apply Kd.zb5 | apply Kd.zb6 | apply Kd.zcg)); exact Kd.zbr HO140.out (fun _ hk => ⟨hk.1.1, hk.2⟩))⟩, ⟨by (with_reducible repeat (first | apply Kd.zb5 | apply Kd.zb6 | apply Kd.zcg)); exact Kd.zbr HO143.out (fun _ hk => hk.1.1)⟩, ⟨zB HB⟩⟩
    case round =>
     clear H'
     try clear c1
     try clear p2
     try clear c3
     try clear c3b0
     try clear c3b1
     try clear c3b2
     try clear c5
     try clear c5b0
     try clear c5b1
     try clear c6
     try clear c6b0
     try clear c6b1
     try clear p6
     try clear c8
     obtain ⟨x7_1, x8_1, x9_1, rfl, HA, HK1, HO_7, HO_8, HB⟩ := hrel
     cases gk with
     | zero => exact absurd HA.out (by simp [zau.l0])
     | succ k1 =>
      have H := HA.out
      clear HA
      simp only [zau.l0] at H
      by_cases c12 : x9_1 ≥ 0
      ·
       rw [if_pos c12] at H
       have c12b0 : decide (0 ≤ x9_1) = true := decide_eq_true c12
       clear c12
       replace H := zO H
       obtain ⟨t149, A130, H⟩ := H
       try dsimp only at H
       have A13 := zA A130
       clear A130
       replace H := zO H
       obtain ⟨t152, A140, H⟩ := H
       try dsimp only at H
       have A14 := zA A140
       clear A140
       by_cases c15 : t152 ≥ 0
       ·
        rw [if_pos c15] at H
        have c15b0 : decide (0 ≤ t152) = true := decide_eq_true c15
        clear c15
        replace H := zO H
        obtain ⟨t153, A160, H⟩ := H
        try dsimp only at H
        have A16 := zA A160
        clear A160
        obtain ⟨ji17, hji17⟩ : ∃ j_ : Int, (wrap64 (Int.tdiv x9_1 64)) = j_ := ⟨_, rfl⟩
        replace H : (if 0 ≤ (ji17) then (if (ji17) < (x8_1.length : Int) then (if 0 ≤ (Int.tmod x9_1 64) then (zau.l0 k1 l1 t153 (x8_1.set ((ji17) : Int).toNat (Go.bits .or .u64 (rd x8_1 (ji17)) (shl .u64 1 (Int.tmod x9_1 64)))) (wrap64 (x9_1 - 1))) else (none)) else (none)) else (none)) = some (r1, r2, r3) := by first | (rw [hji17] at H; exact H) | (simp only [hji17] at H ⊢; exact H)
        (try rw [hji17] at A13)
        (try rw [hji17] at A14)
        (try rw [hji17] at A16)
        have hji17w : (IntKind.i64.wrap (Int.tdiv x9_1 64)) = ji17 := (i64_w _).trans hji17
        by_cases c18 : 0 ≤ (ji17)
        ·
         rw [if_pos c18] at H
         have c18b0 : decide (0 ≤ (ji17)) = true := decide_eq_true c18
         clear c18
         by_cases c19 : (ji17) < (x8_1.length : Int)
         ·
          rw [if_pos c19] at H
          have c19b0 : decide ((ji17) < (x8_1.length : Int)) = true := decide_eq_true c19
          clear c19
          obtain ⟨ji20, hji20⟩ : ∃ j_ : Int, (Int.tmod x9_1 64) = j_ := ⟨_, rfl⟩
          replace H : (if 0 ≤ (ji20) then (zau.l0 k1 l1 t153 (x8_1.set ((ji17) : Int).toNat (Go.bits .or .u64 (rd x8_1 (ji17)) (shl .u64 1 (ji20)))) (wrap64 (x9_1 - 1))) else (none)) = some (r1, r2, r3) := by first | (rw [hji20] at H; exact H) | (simp only [hji20] at H ⊢; exact H)
          (try rw [hji20] at A13)
          (try rw [hji20] at A14)
          (try rw [hji20] at A16)
          by_cases c21 : 0 ≤ (ji20)
          ·
           rw [if_pos c21] at H
           have c21b0 := eq_true c21
           have c21b1 : decide (0 ≤ (ji20)) = true := decide_eq_true c21
           clear c21
           obtain ⟨ji22, hji22⟩ : ∃ j_ : Int, (shl .u64 1 (ji20)) = j_ := ⟨_, rfl⟩
           replace H : (zau.l0 k1 l1 t153 (x8_1.set ((ji17) : Int).toNat (Go.bits .or .u64 (rd x8_1 (ji17)) (ji22))) (wrap64 (x9_1 - 1))) = some (r1, r2, r3) := by first | (rw [hji22] at H; exact H) | (simp only [hji22] at H ⊢; exact H)
           (try rw [hji22] at A13)
           (try rw [hji22] at A14)
           (try rw [hji22] at A16)
           have hji22_ : (IntKind.u64.wrap (1 * 2 ^ min (ji20).toNat 64)) = ji22 := hji22
           have hji22z : (ji20) ≤ 64 → (IntKind.u64.wrap (1 * 2 ^ (ji20).toNat)) = ji22 := shl_small hji22
           have hji22u : (IntKind.u64.wrap (2 ^ min (ji20).toNat 64)) = ji22 := by have h_ := hji22_; rw [Int.one_mul] at h_; exact h_
           have hji22v : (ji20) ≤ 64 → (IntKind.u64.wrap (2 ^ (ji20).toNat)) = ji22 := fun hle_ => by have h_ := hji22z hle_; rw [Int.one_mul] at h_; exact h_
           obtain ⟨y157, hy157⟩ : ∃ y_ : List Int, y_ = (x8_1.set ((ji17) : Int).toNat (Go.bits .or .u64 (rd x8_1 (ji17)) (ji22))) := ⟨_, rfl⟩
           replace H : (zau.l0 k1 l1 t153 y157 (wrap64 (x9_1 - 1))) = some (r1, r2, r3) := by first | (rw [hy157]; with_reducible exact H) | (have H2_ := (Option.bind_some _ _).symm.trans H; rw [hy157]; with_reducible exact H2_) | (have H2_ := (Option.bind_some _ _).symm.trans H; with_reducible exact H2_) | with_reducible exact H | (rw [hy157]; exact H) | exact H
           have Ny157 := zA hy157
           clear hy157
           have H' := zA H
           clear H
           try go_wp2_with (first | ((with_reducible refine zae (f := 85) rfl ?_); refine za4 (some 30) rfl rfl Tryd.func85 (by kernel_rfl) rfl #[.slice A1 l1.length c1, .int .i64 x9_1] rfl (zE) ?_; (with_reducible refine (zat.calls k1 _ _ l1 x9_1 t149 _ ?side1 ?side2 A13.out).mono ?_); (case side1 => exact zJ (Kd.za6 HR1.out HB.out)); (case side2 => exact HC1.out); rintro e w24 ⟨v150, rfl, ho0, hb⟩; refine ⟨_, rfl, ?_⟩; have n0_ := zA (Kd.zar (zV HO_7) hb); have n1_ := zA (Kd.zb0 (zR HO_8) hb); have n2_ := zA (Kd.za2 (Kd.zak (ok' := fun k_ => (w.heap.size ≤ k_) ∧ some k_ ≠ (v142 : Value).ownBlock) ho0 (fun k_ hk_ => ⟨(Nat.le_trans (za (zB HB)) hk_), (Kd.fresh' (Kd.R_lt (zR HO_8)) k_ hk_)⟩)) (za (zB HB))); have n3_ := zA (zac (zB HB) hb); clear HO_7 HO_8 HB; have HO_7 := n0_; have HO_8 := n1_; have HO151 := n2_; have HB := n3_; clear n0_ n1_ n2_ n3_; (try clear hb); (try clear hb2); (try clear hk); (try clear hi); (try clear ho0); obtain ⟨Ao25, co25, eo25⟩ := Kd.za3 HO_7.out; subst eo25; obtain ⟨Ao26, co26, eo26⟩ := Kd.za3 HO151.out; subst eo26) | ((with_reducible refine zae (f := 52) rfl ?_); refine za4 (some 33) rfl rfl Tryd.func52 (by kernel_rfl) rfl #[.slice Ao25 x7_1.length co25, .slice Ao26 t149.length co26] rfl (zE) ?_; (with_reducible refine (zcv.calls _ _ x7_1 _ _ t149 t152 _ ?side1 ?side2 ?side3 ?side4 A14.out).mono ?_); (case side1 => exact zJ (Kd.zal HO_7.out).2.2); (case side2 => exact (Kd.zal HO_7.out).2.1); (case side3 => exact zJ (Kd.zal HO151.out).2.2); (case side4 => exact (Kd.zal HO151.out).2.1); rintro e w27 ⟨rfl, hb⟩; refine ⟨_, rfl, ?_⟩; have n0_ := zA (Kd.zar (zV HO_7) hb); have n1_ := zA (Kd.zb0 (zR HO_8) hb); have n2_ := zA (Kd.zar (zV HO151) hb); have n3_ := zA (zac (zB HB) hb); clear HO_7 HO_8 HO151 HB; have HO_7 := n0_; have HO_8 := n1_; have HO151 := n2_; have HB := n3_; clear n0_ n1_ n2_ n3_; (try clear hb); (try clear hb2); (try clear hk); (try clear hi)) | ((with_reducible refine zae (f := 86) rfl ?_); refine za4 (some 37) rfl rfl Tryd.func86 (by kernel_rfl) rfl #[.slice Ao25 x7_1.length co25, .slice Ao26 t149.length co26] rfl (zE) ?_; (with_reducible refine (zbo.calls k1 _ _ x7_1 _ _ t149 t153 _ ?side1 ?side2 ?side3 ?side4 A16.out).mono ?_); (case side1 => exact zJ (Kd.zal HO_7.out).2.2); (case side2 => exact (Kd.zal HO_7.out).2.1); (case side3 => exact zJ (Kd.zal HO151.out).2.2); (case side4 => exact (Kd.zal HO151.out).2.1); rintro e w28 ⟨v154, rfl, ho0, hb⟩; refine ⟨_, rfl, ?_⟩; have n0_ := zA (Kd.zar (zV HO_7) hb); have n1_ := zA (Kd.zb0 (zR HO_8) hb); have n2_ := zA (Kd.zar (zV HO151) hb); have n3_ := zA (Kd.za2 (Kd.zak (ok' := fun k_ => (w.heap.size ≤ k_) ∧ some k_ ≠ (v142 : Value).ownBlock) ho0 (fun k_ hk_ => ⟨(Nat.le_trans (za (zB HB)) hk_), (Kd.fresh' (Kd.R_lt (zR HO_8)) k_ hk_)⟩)) (za (zB HB))); have n4_ := zA (zac (zB HB) hb); clear HO_7 HO_8 HO151 HB; have HO_7 := n0_; have HO_8 := n1_; have HO151 := n2_; have HO155 := n3_; have HB := n4_; clear n0_ n1_ n2_ n3_ n4_; (try clear hb); (try clear hb2); (try clear hk); (try clear hi); (try clear ho0)))
           have n0_ := zA (Kd.zbd HO_7.out)
           have n1_ := zA (Kd.zcg HO_8.out)
           have n2_ := zA (Kd.zbd HO151.out)
           have n3_ := zA (Kd.zbd HO155.out)
           have n4_ := zA (zbi HB.out)
           clear HO_7 HO_8 HO151 HO155 HB
           have HO_7 := n0_
           have HO_8 := n1_
           have HO151 := n2_
           have HO155 := n3_
           have HB := n4_
           clear n0_ n1_ n2_ n3_ n4_
           obtain ⟨Ao30, co30, eo30⟩ := Kd.zbq HO_8.out
           (first | subst eo30 | (injection eo30 with f1_ f2_ f3_; have f4_ := f1_.symm; have f5_ := f3_.symm; clear f1_ f2_ f3_; subst f4_; subst f5_))
           have p156 : 0 ≤ ((ji17) : Int) := of_decide_eq_true (by first | (with_reducible assumption) | assumption)
           have q156 : (ji17) < (x8_1.length : Int) := of_decide_eq_true (by first | (with_reducible assumption) | assumption)
           obtain ⟨ad156, e156, hx156_0⟩ := Kd.at_int (Kd.zay HO_8.out).2.2 (ji17) p156 q156
           cases e156
           replace p156 := eq_true p156
           replace q156 := eq_true q156
           have p23 : 0 ≤ ((ji17) : Int) := of_decide_eq_true (by first | (with_reducible assumption) | assumption)
           have q23 : ((ji17) : Int) < ((x8_1.length : Int) : Int) := of_decide_eq_true (by first | (with_reducible assumption) | assumption)
           obtain ⟨go23, co23, eo23, gb23, gl23, cl23, HG23⟩ := Kd.R_form HO_8.out (by omega)
           (first | cases eo23 | (injection eo23 with ea_ en_ ec_; (first | subst ea_ | (injection ea_ with ea_; subst ea_)); subst ec_; clear en_))
           have GB23 := zA gb23
           have GG23 := zA HG23
           clear gb23 gl23 HG23
           (first | simp only [add_plain] at hx156_0 | skip)
           obtain ⟨hx23_0, hf23_0⟩ := Kd.zc6 0 HO_8.out ((ji17) : Int) p23 q23
           replace p23 := eq_true p23
           replace q23 := eq_true q23
           have HP31 := Kd.R_putn HO_8.out ((ji17) : Int) (Go.bits .or .u64 (rd x8_1 (ji17)) (ji22))
           rw [← Ny157.out] at HP31
           have HQ31 := zA HP31
           clear HP31
           refine start_ (n := 11) (S := fun w' => w'.cell? ⟨go23, ((ji17)).toNat, none⟩ = some (.int .u64 (rd x8_1 (ji17)))) (ds := [10]) #[false, false, false, false, false, false, false, false, false, false, false] (by kernel_rfl) rfl rfl (hx156_0) (fun hHeld => ?_); refine zcw zau.tab11 zau.bits11 (fun HT_ HW_ => ?_)
           generalize w28.drew = w29 at HO_7 HO_8 HO151 HO155 HB GG23 HQ31 hf23_0 hx156_0 hx23_0 hHeld ⊢
           refine pure_ (i := 0) (N := some 38) (v := ?_) (a' := ?_) #[true, false, false, false, false, false, false, false, false, false, false] rfl rfl (zav HT_.out (by kernel_rfl)) (fun _ _ _ h => h) (Or.inl ⟨by rfl, ?_⟩) ?_ ?_
           rotate_left
           ·
            intro w'
            go_simp
            with_reducible rfl
           rotate_left
           ·
            simp only [Act.put, zs1, zs2, zs3, i64_w, i32_w]
            rfl
           refine pure_ (i := 1) (N := some 39) (v := ?_) (a' := ?_) #[true, true, false, false, false, false, false, false, false, false, false] rfl rfl (zav HT_.out (by kernel_rfl)) (fun _ _ _ h => h) (Or.inl ⟨by rfl, ?_⟩) ?_ ?_
           rotate_left
           ·
            intro w'
            go_simp
            with_reducible rfl
           rotate_left
           ·
            simp only [Act.put, zs1, zs2, zs3, i64_w, i32_w]
            rfl
           refine pure_ (i := 2) (N := some 40) (v := ?_) (a' := ?_) #[true, true, true, false, false, false, false, false, false, false, false] rfl rfl (zav HT_.out (by kernel_rfl)) (fun _ _ _ h => h) (Or.inl ⟨by rfl, ?_⟩) ?_ ?_
           rotate_left
           ·
            intro w'
            go_simp
            with_reducible rfl
           rotate_left
           ·
            simp only [Act.put, zs1, zs2, zs3, i64_w, i32_w]
            rfl
           refine pure_ (i := 3) (N := some 41) (v := ?_) (a' := ?_) #[true, true, true, true, false, false, false, false, false, false, false] rfl rfl (zav HT_.out (by kernel_rfl)) (fun _ _ _ h => h) (Or.inl ⟨by rfl, ?_⟩) ?_ ?_
           rotate_left
           ·
            intro w'
            go_simp
            with_reducible rfl
           rotate_left
           ·
            simp only [Act.put, zs1, zs2, zs3, i64_w, i32_w]
            rfl
           refine pure_ (i := 5) (N := some 43) (v := ?_) (a' := ?_) #[true, true, true, true, false, true, false, false, false, false, false] rfl rfl (zav HT_.out (by kernel_rfl)) (fun _ _ _ h => h) (Or.inl ⟨by rfl, ?_⟩) ?_ ?_
           rotate_left
           ·
            intro w'
            go_simp
            with_reducible rfl
           rotate_left
           ·
            simp only [Act.put, zs1, zs2, zs3, i64_w, i32_w]
            rfl
           refine pure_ (i := 6) (N := some 44) (v := ?_) (a' := ?_) #[true, true, true, true, false, true, true, false, false, false, false] rfl rfl (zav HT_.out (by kernel_rfl)) (fun _ _ _ h => h) (Or.inl ⟨by rfl, ?_⟩) ?_ ?_
           rotate_left
           ·
            intro w'
            go_simp
            with_reducible rfl
           rotate_left
           ·
            simp only [Act.put, zs1, zs2, zs3, i64_w, i32_w]
            rfl
           refine pure_ (i := 7) (N := some 45) (v := ?_) (a' := ?_) #[true, true, true, true, false, true, true, true, false, false, false] rfl rfl (zav HT_.out (by kernel_rfl)) (fun _ _ _ h => h) (Or.inl ⟨by rfl, ?_⟩) ?_ ?_
           rotate_left
           ·
            intro w'
            go_simp
            with_reducible rfl
           rotate_left
           ·
            simp only [Act.put, zs1, zs2, zs3, i64_w, i32_w]
            rfl
           refine take_ (i := 4) (N := some 42) (v := ?_) (a' := ?_) #[true, true, true, true, true, true, true, true, false, false, false] rfl rfl (zb9 HT_.out HW_.out (by kernel_rfl)) (fun _ _ _ h => h) (Or.inl ⟨by rfl, ?_⟩) hHeld ?_ ?_
           rotate_left
           ·
            intro w' s0
            go_simp
            with_reducible rfl
           rotate_left
           ·
            simp only [Act.put, zs1, zs2, zs3, i64_w, i32_w]
            rfl
           refine pure_ (i := 8) (N := some 46) (v := ?_) (a' := ?_) #[true, true, true, true, true, true, true, true, true, false, false] rfl rfl (zav HT_.out (by kernel_rfl)) (fun _ _ _ h => h) (Or.inl ⟨by rfl, ?_⟩) ?_ ?_
           rotate_left
           ·
            intro w'
            go_simp
            with_reducible rfl
           rotate_left
           ·
            simp only [Act.put, zs1, zs2, zs3, i64_w, i32_w]
            rfl
           refine pure_ (i := 9) (N := some 47) (v := ?_) (a' := ?_) #[true, true, true, true, true, true, true, true, true, true, false] rfl rfl (zav HT_.out (by kernel_rfl)) (fun _ _ _ h => h) (Or.inl ⟨by rfl, ?_⟩) ?_ ?_
           rotate_left
           ·
            intro w'
            go_simp
            with_reducible rfl
           rotate_left
           ·
            simp only [Act.put, zs1, zs2, zs3, i64_w, i32_w]
            rfl
           refine last_ (i := 10) (N := none) #[true, true, true, true, true, true, true, true, true, true, true] rfl rfl (zb8 HT_.out (by kernel_rfl)) (by decide) (fun K hK => ?_)
           refine skip_ (w1 := ?_) (by rfl) rfl ?_ ?_
           rotate_left
           ·
            go_simp
            rfl
           refine hK.out _ _ ?_
           clear hK K
           refine done_ (zdk HT_.out (by kernel_rfl)) ?_
           try go_wp2
           go_roundg k1
           case measure => have := HK1.out; omega
           case rel => exact ⟨(t153), (y157), (wrap64 (x9_1 - 1)), (zF), H', ⟨by have := HK1.out; omega⟩, ⟨by (with_reducible repeat (first | apply Kd.za8 | apply Kd.za7 | apply Kd.zbd)); exact Kd.zak (Kd.V_far (p := ⟨go23, ((ji17) : Int).toNat, none⟩) (Kd.zak HO155.out (fun k_ hk => (⟨hk, fun e_ => hk.2 (by rw [e_]; rfl)⟩ : _ ∧ k_ ≠ go23))) (fun _ hk => hk.2) (.int .u64 (Go.bits .or .u64 (rd x8_1 (ji17)) (ji22)))) (fun _ hk => ⟨hk.1.1, hk.1.2⟩)⟩, ⟨zR HQ31⟩, ⟨zB HB⟩⟩
          ·
           rw [if_neg c21] at H
           exact absurd H (by simp)
         ·
          rw [if_neg c19] at H
          exact absurd H (by simp)
        ·
         rw [if_neg c18] at H
         exact absurd H (by simp)
       ·
        rw [if_neg c15] at H
        have c15b0 : decide (0 ≤ t152) = false := decide_eq_false c15
        clear c15
        have H' := zA H
        clear H
        go_wp2_with (first | ((with_reducible refine zae (f := 85) rfl ?_); refine za4 (some 30) rfl rfl Tryd.func85 (by kernel_rfl) rfl #[.slice A1 l1.length c1, .int .i64 x9_1] rfl (zE) ?_; (with_reducible refine (zat.calls k1 _ _ l1 x9_1 t149 _ ?side1 ?side2 A13.out).mono ?_); (case side1 => exact zJ (Kd.za6 HR1.out HB.out)); (case side2 => exact HC1.out); rintro e w32 ⟨v150, rfl, ho0, hb⟩; refine ⟨_, rfl, ?_⟩; have n0_ := zA (Kd.zar (zV HO_7) hb); have n1_ := zA (Kd.zb0 (zR HO_8) hb); have n2_ := zA (Kd.za2 (Kd.zak (ok' := fun k_ => (w.heap.size ≤ k_) ∧ some k_ ≠ (v142 : Value).ownBlock) ho0 (fun k_ hk_ => ⟨(Nat.le_trans (za (zB HB)) hk_), (Kd.fresh' (Kd.R_lt (zR HO_8)) k_ hk_)⟩)) (za (zB HB))); have n3_ := zA (zac (zB HB) hb); clear HO_7 HO_8 HB; have HO_7 := n0_; have HO_8 := n1_; have HO151 := n2_; have HB := n3_; clear n0_ n1_ n2_ n3_; (try clear hb); (try clear hb2); (try clear hk); (try clear hi); (try clear ho0); obtain ⟨Ao33, co33, eo33⟩ := Kd.za3 HO_7.out; subst eo33; obtain ⟨Ao34, co34, eo34⟩ := Kd.za3 HO151.out; subst eo34) | ((with_reducible refine zae (f := 52) rfl ?_); refine za4 (some 33) rfl rfl Tryd.func52 (by kernel_rfl) rfl #[.slice Ao33 x7_1.length co33, .slice Ao34 t149.length co34] rfl (zE) ?_; (with_reducible refine (zcv.calls _ _ x7_1 _ _ t149 t152 _ ?side1 ?side2 ?side3 ?side4 A14.out).mono ?_); (case side1 => exact zJ (Kd.zal HO_7.out).2.2); (case side2 => exact (Kd.zal HO_7.out).2.1); (case side3 => exact zJ (Kd.zal HO151.out).2.2); (case side4 => exact (Kd.zal HO151.out).2.1); rintro e w35 ⟨rfl, hb⟩; refine ⟨_, rfl, ?_⟩; have n0_ := zA (Kd.zar (zV HO_7) hb); have n1_ := zA (Kd.zb0 (zR HO_8) hb); have n2_ := zA (Kd.zar (zV HO151) hb); have n3_ := zA (zac (zB HB) hb); clear HO_7 HO_8 HO151 HB; have HO_7 := n0_; have HO_8 := n1_; have HO151 := n2_; have HB := n3_; clear n0_ n1_ n2_ n3_; (try clear hb); (try clear hb2); (try clear hk); (try clear hi)))
        go_roundg k1
        case measure => have := HK1.out; omega
        case rel => exact ⟨(x7_1), (x8_1), (wrap64 (x9_1 - 1)), (zF), H', ⟨by have := HK1.out; omega⟩, ⟨zV HO_7⟩, ⟨zR HO_8⟩, ⟨zB HB⟩⟩
      ·
       rw [if_neg c12] at H
       have c12b0 : decide (0 ≤ x9_1) = false := decide_eq_false c12
       clear c12
       replace H := zO H
       obtain ⟨t146, A360, H⟩ := H
       try dsimp only at H
       have A36 := zA A360
       clear A360
       simp only [Option.some.injEq, Prod.mk.injEq] at H
       obtain ⟨rfl, rfl, rfl⟩ := H
       obtain ⟨Ao37, co37, eo37⟩ := Kd.zbq HO_8.out
       subst eo37
       go_wp2_with (first | ((with_reducible refine zae (f := 65) rfl ?_); refine za4 (some 49) rfl rfl Tryd.func65 (by kernel_rfl) rfl #[.slice Ao37 x8_1.length co37] rfl (zE) ?_; (with_reducible refine (zax.calls k1 (fun k_ => some k_ = (.slice Ao37 x8_1.length co37 : Value).ownBlock) _ _ x8_1 t146 _ ?side1 A36.out).mono ?_); (case side1 => exact Kd.R_V (Kd.zc7 rfl (HO_8.out))); rintro e w38 ⟨v147, rfl, ho0, hb⟩; refine ⟨_, rfl, ?_⟩; have n0_ := zA (Kd.zar (zV HO_7) hb); have n1_ := zA (Kd.zb0 (zR HO_8) hb); have n2_ := zA (Kd.za2 (Kd.zak (ok' := fun k_ => (w.heap.size ≤ k_)) ho0 (fun k_ hk_ => Or.elim hk_ (fun hs_ => ((HO_8.out).1 k_ hs_.symm)) (fun hn_ => (Nat.le_trans (za (zB HB)) hn_)))) (za (zB HB))); have n3_ := zA (zac (zB HB) hb); clear HO_7 HO_8 HB; have HO_7 := n0_; have HO_8 := n1_; have HO148 := n2_; have HB := n3_; clear n0_ n1_ n2_ n3_; (try clear hb); (try clear hb2); (try clear hk); (try clear hi); (try clear ho0)))
       go_ret3
       exact ⟨_, _, zW, zV HO148, by (with_reducible repeat (first | apply Kd.za8 | apply Kd.za7 | apply Kd.zbd)); exact Kd.zak HO_7.out (fun _ hk => hk.1), zB HB⟩
   ·
    rw [if_neg c6] at H
    exact absurd H (by simp)
  ·
   rw [if_neg c5] at H
   exact absurd H (by simp)
def zca.l0 : Nat → List Int → List Int → Option (List Int)
 | 0, _, _ => none
 | k + 1, x0, x1 => if (x1.length : Int) > 0 then ((zau.f k x0 x1).bind fun bt161 => ((zbb.f x1).bind fun t168 => (zca.l0 k t168 bt161.2.1))) else (some x0)
def zca.f (k : Nat) (l0 : List Int) (l1 : List Int) : Option (List Int) := (zbb.f l0).bind fun t158 => (zca.l0 k t158 l1)
theorem zca.zcs : ∀ k, (∀ y0 y1, LeO (zca.l0 k y0 y1) (zca.l0 (k + 1) y0 y1))
 | 0 => fun _ _ r h => by simp [zca.l0] at h
 | k + 1 => by
  have ih0 := zca.zcs k
  ·
   intro y0 y1
   unfold zca.l0
   repeat' first
   | (with_reducible exact ih0 _ _)
   | (with_reducible exact zau.mono _ _ _)
   | (with_reducible exact LeO.refl _)
   | (with_reducible exact LeO.none _)
   | (with_reducible refine LeO.ite ?_ ?_)
   | (with_reducible refine LeO.bind ?_ (fun _ => ?_))
   | exact ih0 _ _
   | exact zau.mono _ _ _
   | exact LeO.none _
   | refine LeO.ite ?_ ?_
   | refine LeO.bind ?_ (fun _ => ?_)
theorem zca.mono : ∀ a0 a1 k, LeO (zca.f k a0 a1) (zca.f (k + 1) a0 a1) := by
 intro a0 a1 k
 have ih0 := zca.zcs k
 unfold zca.f
 repeat' first
   | (with_reducible exact ih0 _ _)
   | (with_reducible exact zau.mono _ _ _)
   | (with_reducible exact LeO.refl _)
   | (with_reducible exact LeO.none _)
   | (with_reducible refine LeO.ite ?_ ?_)
   | (with_reducible refine LeO.bind ?_ (fun _ => ?_))
   | exact ih0 _ _
   | exact zau.mono _ _ _
   | exact LeO.none _
   | refine LeO.ite ?_ ?_
   | refine LeO.bind ?_ (fun _ => ?_)
theorem zca.calls (k : Nat) (A0 : Option Addr) (c0 : Nat) (l0 : List Int) (P1_ : Nat → Prop) (A1 : Option Addr) (c1 : Nat) (l1 : List Int) (r : List Int) (w : World) (hr0 : Kd.C (Kd.int .u64) w A0 l0.length l0) (hc0 : l0.length ≤ c0) (hs1 : Kd.V (Kd.int .u64) 57 w w.heap.size (fun k_ => P1_ k_) (.slice A1 l1.length c1) l1) (h : zca.f k l0 l1 = some r) :
  Calls Tryd.prog 53 #[.slice A0 l0.length c0, .slice A1 l1.length c1] w fun e w' => ∃ v0_ : Value, e = .returned (v0_) ∧ Kd.R (Kd.int .u64) 57 w' w.heap.size (fun k_ => (w.heap.size ≤ k_)) v0_ r ∧ Below w.heap.size w w' := by
 have HR0 := zA hr0
 have HC0 := zA hc0
 clear hr0 hc0
 have HO1 := zA (show Kd.V (Kd.int .u64) 57 w w.heap.size (fun k_ => (P1_ k_ ∨ w.heap.size ≤ k_)) (.slice A1 l1.length c1) l1 from Kd.zak hs1 (fun k_ hk => .inl hk))
 have HB := zA (Below.refl w.heap.size w)
 have H : ((zbb.f l0).bind fun t158 => (zca.l0 k t158 l1)) = some r := h
 clear h
 replace H := zO H
 obtain ⟨t158, A30, H⟩ := H
 try dsimp only at H
 have A3 := zA A30
 clear A30
 have H' := zA H
 clear H
 go_enter Tryd.func53, Tryd.ntmps53
 go_wp2_with (first | ((with_reducible refine zae (f := 81) rfl ?_); refine za4 (some 9) rfl rfl Tryd.func81 (by kernel_rfl) rfl #[.slice A0 l0.length c0] rfl (zE) ?_; (with_reducible refine (zbb.calls _ _ l0 t158 _ ?side1 ?side2 A3.out).mono ?_); (case side1 => repeat (first | exact HR0.out | (with_reducible refine Kd.zdc ?_ _) | (with_reducible refine Kd.C_drewN ?_ _) | (with_reducible refine Kd.C_drew ?_))); (case side2 => exact HC0.out); rintro e w4 ⟨v159, rfl, ho0, hb⟩; refine ⟨_, rfl, ?_⟩; have n0_ := zA (Kd.zde (zV HO1) (Kd.zbk ho0) hb); have n1_ := zA (Kd.zbw (Kd.R_newM (M := fun k_ => (w.heap.size ≤ k_)) ho0 (za (zB HB)) (fun k_ h_ => h_)) (za (zB HB))); have n2_ := zA (zac (zB HB) hb); clear HO1 HB; have HO1 := n0_; have HO160 := n1_; have HB := n2_; clear n0_ n1_ n2_; (try clear hb); (try clear hb2); (try clear hk); (try clear hi); (try clear ho0)))
 go_loopg [0, 1] k (fun kq v0 v1 w' => ∃ (x0_1 : List Int) (x1_1 : List Int), Aside0 (zca.l0 kq x0_1 x1_1 = some r) ∧ Aside0 (kq ≤ k) ∧ Aside0 (Kd.R (Kd.int .u64) 57 w' w.heap.size (fun k_ => (w.heap.size ≤ k_)) v0 x0_1) ∧ Aside0 (Kd.V (Kd.int .u64) 57 w' w.heap.size (fun k_ => (P1_ k_ ∨ w.heap.size ≤ k_) ∧ some k_ ≠ (v0 : Value).ownBlock) v1 x1_1) ∧ Aside0 (Below w.heap.size w w'))
 case atStart => exact ⟨(t158), (l1), H', ⟨Nat.le_refl _⟩, ⟨by (with_reducible repeat (first | apply Kd.zb5 | apply Kd.zb6 | apply Kd.zcg)); exact Kd.zbr HO160.out (fun _ hk => hk.1)⟩, ⟨zV HO1⟩, ⟨zB HB⟩⟩
 case round =>
  clear H'
  try clear c1
  try clear p2
  obtain ⟨x0_1, x1_1, HA, HK1, HO_0, HO_1, HB⟩ := hrel
  cases gk with
  | zero => exact absurd HA.out (by simp [zca.l0])
  | succ k1 =>
   have H := HA.out
   clear HA
   simp only [zca.l0] at H
   by_cases c5 : (x1_1.length : Int) > 0
   ·
    rw [if_pos c5] at H
    have c5b0 : decide (0 < (x1_1.length : Int)) = true := decide_eq_true c5
    have c5b1 : decide (0 < x1_1.length) = true := decide_eq_true (by omega)
    clear c5
    replace H := zO H
    obtain ⟨⟨t161, t164, t167⟩, A60, H⟩ := H
    try dsimp only at H
    have A6 := zA A60
    clear A60
    replace H := zO H
    obtain ⟨t168, A70, H⟩ := H
    try dsimp only at H
    have A7 := zA A70
    clear A70
    have H' := zA H
    clear H
    obtain ⟨Ao8, co8, eo8⟩ := Kd.za3 HO_1.out
    subst eo8
    obtain ⟨Ao9, co9, eo9⟩ := Kd.zbq HO_0.out
    subst eo9
    go_wp2_with (first | ((with_reducible refine zae (f := 60) rfl ?_); refine za4 (some 16) rfl rfl Tryd.func60 (by kernel_rfl) rfl #[.slice Ao9 x0_1.length co9, .slice Ao8 x1_1.length co8] rfl (zE) ?_; (with_reducible refine (zau.calls k1 _ _ x0_1 _ _ x1_1 t161 t164 t167 _ ?side1 ?side2 ?side3 ?side4 A6.out).mono ?_); (case side1 => exact zJ (Kd.zay HO_0.out).2.2); (case side2 => exact (Kd.zay HO_0.out).2.1); (case side3 => exact zJ (Kd.zal HO_1.out).2.2); (case side4 => exact (Kd.zal HO_1.out).2.1); rintro e w10 ⟨v162, v165, rfl, ho0, ho1, hb⟩; refine ⟨_, rfl, ?_⟩; have n0_ := zA (Kd.zb0 (zR HO_0) hb); have n1_ := zA (Kd.zar (zV HO_1) hb); have n2_ := zA (Kd.za2 (Kd.zak (ok' := fun k_ => (P1_ k_ ∨ w.heap.size ≤ k_) ∧ some k_ ≠ (.slice Ao9 x0_1.length co9 : Value).ownBlock) ho0 (fun k_ hk_ => ⟨(.inr (Nat.le_trans (za (zB HB)) hk_)), (Kd.fresh' (Kd.R_lt (zR HO_0)) k_ hk_)⟩)) (za (zB HB))); have n3_ := zA (Kd.za2 (Kd.zak (ok' := fun k_ => (P1_ k_ ∨ w.heap.size ≤ k_) ∧ some k_ ≠ (.slice Ao9 x0_1.length co9 : Value).ownBlock) ho1 (fun k_ hk_ => ⟨(.inr (Nat.le_trans (za (zB HB)) hk_)), (Kd.fresh' (Kd.R_lt (zR HO_0)) k_ hk_)⟩)) (za (zB HB))); have n4_ := zA (zac (zB HB) hb); clear HO_0 HO_1 HB; have HO_0 := n0_; have HO_1 := n1_; have HO163 := n2_; have HO166 := n3_; have HB := n4_; clear n0_ n1_ n2_ n3_ n4_; (try clear hb); (try clear hb2); (try clear hk); (try clear hi); (try clear ho0); (try clear ho1)) | ((with_reducible refine zae (f := 81) rfl ?_); refine za4 (some 21) rfl rfl Tryd.func81 (by kernel_rfl) rfl #[.slice Ao8 x1_1.length co8] rfl (zE) ?_; (with_reducible refine (zbb.calls _ _ x1_1 t168 _ ?side1 ?side2 A7.out).mono ?_); (case side1 => exact zJ (Kd.zal HO_1.out).2.2); (case side2 => exact (Kd.zal HO_1.out).2.1); rintro e w11 ⟨v169, rfl, ho0, hb⟩; refine ⟨_, rfl, ?_⟩; have n0_ := zA (Kd.zbv (zR HO_0) (Kd.zbk ho0) hb); have n1_ := zA (Kd.zde (zV HO_1) (Kd.zbk ho0) hb); have n2_ := zA (Kd.zde (zV HO163) (Kd.zbk ho0) hb); have n3_ := zA (Kd.zde (zV HO166) (Kd.zbk ho0) hb); have n4_ := zA (Kd.zbw (Kd.zcc (Kd.R_newM (M := fun k_ => (w.heap.size ≤ k_)) ho0 (za (zB HB)) (fun k_ h_ => h_)) (Kd.R_lt (zR HO_0))) (za (zB HB))); have n5_ := zA (zac (zB HB) hb); clear HO_0 HO_1 HO163 HO166 HB; have HO_0 := n0_; have HO_1 := n1_; have HO163 := n2_; have HO166 := n3_; have HO170 := n4_; have HB := n5_; clear n0_ n1_ n2_ n3_ n4_ n5_; (try clear hb); (try clear hb2); (try clear hk); (try clear hi); (try clear ho0)))
    go_roundg k1
    case measure => have := HK1.out; omega
    case rel => exact ⟨(t168), (t164), H', ⟨by have := HK1.out; omega⟩, ⟨by (with_reducible repeat (first | apply Kd.zb5 | apply Kd.zb6 | apply Kd.zcg)); exact Kd.zbr HO170.out (fun _ hk => hk.1.1)⟩, ⟨by (with_reducible repeat (first | apply Kd.za8 | apply Kd.za7 | apply Kd.zbd)); exact Kd.zak HO166.out (fun _ hk => ⟨hk.1.1, hk.2⟩)⟩, ⟨zB HB⟩⟩
   ·
    rw [if_neg c5] at H
    have c5b0 : decide (0 < (x1_1.length : Int)) = false := decide_eq_false c5
    have c5b1 : decide (0 < x1_1.length) = false := decide_eq_false (by omega)
    clear c5
    obtain rfl := Option.some.inj H
    obtain ⟨Ao12, co12, eo12⟩ := Kd.za3 HO_1.out
    subst eo12
    go_wp2
    go_ret
    exact ⟨_, zW, zR HO_0, zB HB⟩
def zbh.f (k : Nat) (l0 : List Int) (l1 : List Int) : Option (List Int × List Int) := (zca.f k l0 l1).bind fun t172 => ((zau.f k l0 t172).bind fun bt175 => ((zau.f k l1 t172).bind fun bt182 => (some (bt175.1, bt182.1))))
theorem zbh.mono : ∀ a0 a1 k, LeO (zbh.f k a0 a1) (zbh.f (k + 1) a0 a1) := by
 intro a0 a1 k
 unfold zbh.f
 repeat' first
   | (with_reducible exact zau.mono _ _ _)
   | (with_reducible exact zca.mono _ _ _)
   | (with_reducible exact LeO.refl _)
   | (with_reducible exact LeO.none _)
   | (with_reducible refine LeO.ite ?_ ?_)
   | (with_reducible refine LeO.bind ?_ (fun _ => ?_))
   | exact zau.mono _ _ _
   | exact zca.mono _ _ _
   | exact LeO.none _
   | refine LeO.ite ?_ ?_
   | refine LeO.bind ?_ (fun _ => ?_)
theorem zbh.calls (k : Nat) (A0 : Option Addr) (c0 : Nat) (l0 : List Int) (A1 : Option Addr) (c1 : Nat) (l1 : List Int) (r1 : List Int) (r2 : List Int) (w : World) (hr0 : Kd.C (Kd.int .u64) w A0 l0.length l0) (hc0 : l0.length ≤ c0) (hr1 : Kd.C (Kd.int .u64) w A1 l1.length l1) (hc1 : l1.length ≤ c1) (h : zbh.f k l0 l1 = some (r1, r2)) :
  Calls Tryd.prog 58 #[.slice A0 l0.length c0, .slice A1 l1.length c1] w fun e w' => ∃ v0_ v1_ : Value, e = .returned (.agg #[v0_, v1_]) ∧ Kd.V (Kd.int .u64) 57 w' w.heap.size (fun k_ => (w.heap.size ≤ k_)) v0_ r1 ∧ Kd.V (Kd.int .u64) 57 w' w.heap.size (fun k_ => (w.heap.size ≤ k_)) v1_ r2 ∧ Below w.heap.size w w' := by
 have hu28 := Tryd.underlying28
 have HR0 := zA hr0
 have HC0 := zA hc0
 clear hr0 hc0
 have HR1 := zA hr1
 have HC1 := zA hc1
 clear hr1 hc1
 have HB := zA (Below.refl w.heap.size w)
 have H : ((zca.f k l0 l1).bind fun t172 => ((zau.f k l0 t172).bind fun bt175 => ((zau.f k l1 t172).bind fun bt182 => (some (bt175.1, bt182.1))))) = some (r1, r2) := h
 clear h
 replace H := zO H
 obtain ⟨t172, A30, H⟩ := H
 try dsimp only at H
 have A3 := zA A30
 clear A30
 replace H := zO H
 obtain ⟨⟨t175, t178, t181⟩, A40, H⟩ := H
 try dsimp only at H
 have A4 := zA A40
 clear A40
 replace H := zO H
 obtain ⟨⟨t182, t185, t188⟩, A50, H⟩ := H
 try dsimp only at H
 have A5 := zA A50
 clear A50
 simp only [Option.some.injEq, Prod.mk.injEq] at H
 obtain ⟨rfl, rfl⟩ := H
 go_enter Tryd.func58, Tryd.ntmps58
 go_wp2_with (first | ((with_reducible refine zbe (N := 4) rfl ?_); refine zbl ?hg (N := 4) ?hd (cs := #[.slice none 0 0, .slice none 0 0]) (t := 28) ?hr ?_; (case hd => rfl); (case hg => rfl); (case hr => first | (go_simp; done) | (go_simp; rfl)); intro gb171 hg w6 hbox hb; have n0_ := zA (zac (zB HB) hb); have n1_ := zA (hbox); have n2_ := zA ((by rw [hg]; exact (za (zB HB)) : w.heap.size ≤ gb171)); have n3_ := zA ((by rw [hg]; exact (za (zB HB)) : w.heap.size ≤ gb171)); clear HB; have HB := n0_; have BK171 := n1_; have GW171 := n2_; have GE171 := n3_; clear n0_ n1_ n2_ n3_ hb hbox hg) | ((with_reducible refine zae (f := 53) rfl ?_); refine za4 (some 14) rfl rfl Tryd.func53 (by kernel_rfl) rfl #[.slice A0 l0.length c0, .slice A1 l1.length c1] rfl (zE) ?_; (with_reducible refine (zca.calls k _ _ l0 (fun k_ => k_ < w.heap.size) _ _ l1 t172 _ ?side1 ?side2 ?side3 A3.out).mono ?_); (case side1 => exact zJ (Kd.za6 HR0.out HB.out)); (case side2 => exact HC0.out); (case side3 => exact Kd.V_mk HC1.out (Kd.F_below (Kd.C_F (Kd.heap_int .u64) HR1.out) (zB HB))); rintro e w7 ⟨v173, rfl, ho0, hb⟩; refine ⟨_, rfl, ?_⟩; have n0_ := zA (Kd.zbw (Kd.R_newM (M := fun k_ => (w.heap.size ≤ k_)) (Kd.zbr (ok' := fun k_ => True) ho0 (fun _ hk_ => trivial)) (za (zB HB)) (fun k_ h_ => h_)) (za (zB HB))); have n1_ := zA (zaf (g := gb171) (o := .cells #[.slice none 0 0, .slice none 0 0] 28 (0, 0)) (zK BK171) hb); have n2_ := zA (zac (zB HB) hb); clear BK171 HB; have HO174 := n0_; have BK171 := n1_; have HB := n2_; clear n0_ n1_ n2_; (try clear hb); (try clear hb2); (try clear hk); (try clear hi); (try clear ho0); obtain ⟨Ao8, co8, eo8⟩ := Kd.zbq HO174.out; subst eo8) | ((with_reducible refine zae (f := 60) rfl ?_); refine za4 (some 18) rfl rfl Tryd.func60 (by kernel_rfl) rfl #[.slice A0 l0.length c0, .slice Ao8 t172.length co8] rfl (zE) ?_; (with_reducible refine (zau.calls k _ _ l0 _ _ t172 t175 t178 t181 _ ?side1 ?side2 ?side3 ?side4 A4.out).mono ?_); (case side1 => exact zJ (Kd.za6 HR0.out HB.out)); (case side2 => exact HC0.out); (case side3 => exact zJ (Kd.zay HO174.out).2.2); (case side4 => exact (Kd.zay HO174.out).2.1); rintro e w9 ⟨v176, v179, rfl, ho0, ho1, hb⟩; refine ⟨_, rfl, ?_⟩; have n0_ := zA (Kd.zb0 (zR HO174) hb); have n1_ := zA (Kd.za2 (Kd.zak (ok' := fun k_ => (w.heap.size ≤ k_) ∧ some k_ ≠ (.slice Ao8 t172.length co8 : Value).ownBlock ∧ k_ ≠ gb171) ho0 (fun k_ hk_ => ⟨(Nat.le_trans (za (zB HB)) hk_), (Kd.fresh' (Kd.R_lt (zR HO174)) k_ hk_), (Kd.freshB (g := gb171) (o := .cells #[.slice none 0 0, .slice none 0 0] 28 (0, 0)) (zK BK171) k_ hk_)⟩)) (za (zB HB))); have n2_ := zA (Kd.za2 (Kd.zak (ok' := fun k_ => (w.heap.size ≤ k_) ∧ some k_ ≠ (.slice Ao8 t172.length co8 : Value).ownBlock ∧ k_ ≠ gb171) ho1 (fun k_ hk_ => ⟨(Nat.le_trans (za (zB HB)) hk_), (Kd.fresh' (Kd.R_lt (zR HO174)) k_ hk_), (Kd.freshB (g := gb171) (o := .cells #[.slice none 0 0, .slice none 0 0] 28 (0, 0)) (zK BK171) k_ hk_)⟩)) (za (zB HB))); have n3_ := zA (zaf (g := gb171) (o := .cells #[.slice none 0 0, .slice none 0 0] 28 (0, 0)) (zK BK171) hb); have n4_ := zA (zac (zB HB) hb); clear HO174 BK171 HB; have HO174 := n0_; have HO177 := n1_; have HO180 := n2_; have BK171 := n3_; have HB := n4_; clear n0_ n1_ n2_ n3_ n4_; (try clear hb); (try clear hb2); (try clear hk); (try clear hi); (try clear ho0); (try clear ho1)) | ((with_reducible refine zae (f := 60) rfl ?_); refine za4 (some 25) rfl rfl Tryd.func60 (by kernel_rfl) rfl #[.slice A1 l1.length c1, .slice Ao8 t172.length co8] rfl (zE) ?_; (with_reducible refine (zau.calls k _ _ l1 _ _ t172 t182 t185 t188 _ ?side1 ?side2 ?side3 ?side4 A5.out).mono ?_); (case side1 => exact zJ (Kd.za6 HR1.out HB.out)); (case side2 => exact HC1.out); (case side3 => exact zJ (Kd.zay HO174.out).2.2); (case side4 => exact (Kd.zay HO174.out).2.1); rintro e w10 ⟨v183, v186, rfl, ho0, ho1, hb⟩; refine ⟨_, rfl, ?_⟩; have n0_ := zA (Kd.zb0 (zR HO174) hb); have n1_ := zA (Kd.zar (zV HO177) hb); have n2_ := zA (Kd.zar (zV HO180) hb); have n3_ := zA (Kd.za2 (Kd.zak (ok' := fun k_ => (w.heap.size ≤ k_) ∧ some k_ ≠ (.slice Ao8 t172.length co8 : Value).ownBlock ∧ k_ ≠ gb171) ho0 (fun k_ hk_ => ⟨(Nat.le_trans (za (zB HB)) hk_), (Kd.fresh' (Kd.R_lt (zR HO174)) k_ hk_), (Kd.freshB (g := gb171) (o := .cells #[.slice none 0 0, .slice none 0 0] 28 (0, 0)) (zK BK171) k_ hk_)⟩)) (za (zB HB))); have n4_ := zA (Kd.za2 (Kd.zak (ok' := fun k_ => (w.heap.size ≤ k_) ∧ some k_ ≠ (.slice Ao8 t172.length co8 : Value).ownBlock ∧ k_ ≠ gb171) ho1 (fun k_ hk_ => ⟨(Nat.le_trans (za (zB HB)) hk_), (Kd.fresh' (Kd.R_lt (zR HO174)) k_ hk_), (Kd.freshB (g := gb171) (o := .cells #[.slice none 0 0, .slice none 0 0] 28 (0, 0)) (zK BK171) k_ hk_)⟩)) (za (zB HB))); have n5_ := zA (zaf (g := gb171) (o := .cells #[.slice none 0 0, .slice none 0 0] 28 (0, 0)) (zK BK171) hb); have n6_ := zA (zac (zB HB) hb); clear HO174 HO177 HO180 BK171 HB; have HO174 := n0_; have HO177 := n1_; have HO180 := n2_; have HO184 := n3_; have HO187 := n4_; have BK171 := n5_; have HB := n6_; clear n0_ n1_ n2_ n3_ n4_ n5_ n6_; (try clear hb); (try clear hb2); (try clear hk); (try clear hi); (try clear ho0); (try clear ho1); obtain ⟨Ao11, co11, eo11⟩ := Kd.za3 HO184.out; subst eo11; obtain ⟨Ao12, co12, eo12⟩ := Kd.za3 HO177.out; subst eo12; have hcz13_0 : w10.cell? ⟨gb171, 0, none⟩ = some (.slice none 0 0) := (zab BK171.out 0).trans rfl; have hcz13_1 : w10.cell? ⟨gb171, 1, none⟩ = some (.slice none 0 0) := (zab BK171.out 1).trans rfl; have hfz13_0 := zan BK171.out 0; have hfz13_1 := zan BK171.out 1))
 refine bodyPost_ret (results_cell_row rfl _ _ gb171 28 #[.slice Ao12 t175.length co12, .slice Ao11 t182.length co11] (0, 0) _ rfl (by (with_reducible repeat (first | refine zai ?_ _ | refine zaj ?_ | refine zah ?_ _)); refine zbn (cs := #[.slice Ao12 t175.length co12, .slice none 0 0]) ?_ 1 _ rfl; (with_reducible repeat (first | refine zai ?_ _ | refine zaj ?_ | refine zah ?_ _)); refine zbn (cs := #[.slice none 0 0, .slice none 0 0]) ?_ 0 _ rfl; (with_reducible repeat (first | refine zai ?_ _ | refine zaj ?_ | refine zah ?_ _)); exact BK171.out) Tryd.underlying28 rfl (by kernel_rfl)) rfl ?_
 exact ⟨_, _, zW, by (with_reducible repeat (first | apply Kd.za8 | apply Kd.za7 | apply Kd.zbd)); exact Kd.zak (Kd.V_far (p := ⟨gb171, 1, none⟩) (Kd.V_far (p := ⟨gb171, 0, none⟩) (Kd.zak HO177.out (fun k_ hk => (⟨hk, hk.2.2⟩ : _ ∧ k_ ≠ gb171))) (fun _ hk => hk.2) (.slice Ao12 t175.length co12)) (fun _ hk => hk.2) (.slice Ao11 t182.length co11)) (fun _ hk => hk.1.1), by (with_reducible repeat (first | apply Kd.za8 | apply Kd.za7 | apply Kd.zbd)); exact Kd.zak (Kd.V_far (p := ⟨gb171, 1, none⟩) (Kd.V_far (p := ⟨gb171, 0, none⟩) (Kd.zak HO184.out (fun k_ hk => (⟨hk, hk.2.2⟩ : _ ∧ k_ ≠ gb171))) (fun _ hk => hk.2) (.slice Ao12 t175.length co12)) (fun _ hk => hk.2) (.slice Ao11 t182.length co11)) (fun _ hk => hk.1.1), zB HB⟩
def zc4.f (k : Nat) (l0 : List Int) (l1 : List Int) : Option (List Int × List Int × Int) := if (l1.length : Int) = 0 then (some (([] : List Int), ([] : List Int), 16)) else ((zbh.f k l0 l1).bind fun bt190 => (some (bt190.1, bt190.2, 0)))
theorem zc4.calls (k : Nat) (A0 : Option Addr) (c0 : Nat) (l0 : List Int) (A1 : Option Addr) (c1 : Nat) (l1 : List Int) (r1 : List Int) (r2 : List Int) (r3 : Int) (w : World) (hr0 : Kd.C (Kd.int .u64) w A0 l0.length l0) (hc0 : l0.length ≤ c0) (hr1 : Kd.C (Kd.int .u64) w A1 l1.length l1) (hc1 : l1.length ≤ c1) (h : zc4.f k l0 l1 = some (r1, r2, r3)) :
  Calls Tryd.prog 24 #[.slice A0 l0.length c0, .slice A1 l1.length c1] w fun e w' => ∃ v0_ v1_ : Value, e = .returned (.tuple #[.agg #[v0_, v1_], .int .i64 r3]) ∧ Kd.V (Kd.int .u64) 57 w' w.heap.size (fun k_ => (w.heap.size ≤ k_)) v0_ r1 ∧ Kd.V (Kd.int .u64) 57 w' w.heap.size (fun k_ => (w.heap.size ≤ k_)) v1_ r2 ∧ Below w.heap.size w w' := by
 have hu28 := Tryd.underlying28
 have HR0 := zA hr0
 have HC0 := zA hc0
 clear hr0 hc0
 have HR1 := zA hr1
 have HC1 := zA hc1
 clear hr1 hc1
 have HB := zA (Below.refl w.heap.size w)
 have H : (if (l1.length : Int) = 0 then (some (([] : List Int), ([] : List Int), 16)) else ((zbh.f k l0 l1).bind fun bt190 => (some (bt190.1, bt190.2, 0)))) = some (r1, r2, r3) := h
 clear h
 by_cases c3 : (l1.length : Int) = 0
 ·
  rw [if_pos c3] at H
  have c3b0 : ((l1.length : Int) == 0) = true := beq_iff_eq.mpr c3
  have c3b1 : ((l1.length : Int) != 0) = false := bne_eq_false_iff_eq.mpr c3
  clear c3
  simp only [Option.some.injEq, Prod.mk.injEq] at H
  obtain ⟨rfl, rfl, rfl⟩ := H
  go_enter Tryd.func24, Tryd.ntmps24
  go_wp2_with (first | ((with_reducible refine zbe (N := 4) rfl ?_); refine zbl ?hg (N := 4) ?hd (cs := #[.slice none 0 0, .slice none 0 0]) (t := 28) ?hr ?_; (case hd => rfl); (case hg => rfl); (case hr => first | (go_simp; done) | (go_simp; rfl)); intro gb189 hg w4 hbox hb; have n0_ := zA (zac (zB HB) hb); have n1_ := zA (hbox); have n2_ := zA ((by rw [hg]; exact (za (zB HB)) : w.heap.size ≤ gb189)); have n3_ := zA ((by rw [hg]; exact (za (zB HB)) : w.heap.size ≤ gb189)); clear HB; have HB := n0_; have BK189 := n1_; have GW189 := n2_; have GE189 := n3_; clear n0_ n1_ n2_ n3_ hb hbox hg; have hcz5_0 : w4.cell? ⟨gb189, 0, none⟩ = some (.slice none 0 0) := (zab BK189.out 0).trans rfl; have hcz5_1 : w4.cell? ⟨gb189, 1, none⟩ = some (.slice none 0 0) := (zab BK189.out 1).trans rfl; have hfz5_0 := zan BK189.out 0; have hfz5_1 := zan BK189.out 1))
  refine bodyPost_ret (results_ct rfl _ _ gb189 28 #[.slice none 0 0, .slice none 0 0] (0, 0) _ rfl (by (with_reducible repeat (first | refine zai ?_ _ | refine zaj ?_ | refine zah ?_ _)); refine zbn (cs := #[.slice none 0 0, .slice none 0 0]) ?_ 1 _ rfl; (with_reducible repeat (first | refine zai ?_ _ | refine zaj ?_ | refine zah ?_ _)); refine zbn (cs := #[.slice none 0 0, .slice none 0 0]) ?_ 0 _ rfl; (with_reducible repeat (first | refine zai ?_ _ | refine zaj ?_ | refine zah ?_ _)); exact BK189.out) Tryd.underlying28 rfl (by kernel_rfl)) rfl ?_
  exact ⟨_, _, zW, Kd.V_nil _ _ _ _ _, Kd.V_nil _ _ _ _ _, zB HB⟩
 ·
  rw [if_neg c3] at H
  have c3b0 : ((l1.length : Int) == 0) = false := beq_eq_false_iff_ne.mpr c3
  have c3b1 : ((l1.length : Int) != 0) = true := bne_iff_ne.mpr c3
  have c3b2 : ¬ (l1 = []) := fun h_ => c3 (by rw [h_]; rfl)
  replace H := zO H
  obtain ⟨⟨t190, t193⟩, A60, H⟩ := H
  try dsimp only at H
  have A6 := zA A60
  clear A60
  simp only [Option.some.injEq, Prod.mk.injEq] at H
  obtain ⟨rfl, rfl, rfl⟩ := H
  go_enter Tryd.func24, Tryd.ntmps24
  go_wp2_with (first | ((with_reducible refine zbe (N := 4) rfl ?_); refine zbl ?hg (N := 4) ?hd (cs := #[.slice none 0 0, .slice none 0 0]) (t := 28) ?hr ?_; (case hd => rfl); (case hg => rfl); (case hr => first | (go_simp; done) | (go_simp; rfl)); intro gb189 hg w7 hbox hb; have n0_ := zA (zac (zB HB) hb); have n1_ := zA (hbox); have n2_ := zA ((by rw [hg]; exact (za (zB HB)) : w.heap.size ≤ gb189)); have n3_ := zA ((by rw [hg]; exact (za (zB HB)) : w.heap.size ≤ gb189)); clear HB; have HB := n0_; have BK189 := n1_; have GW189 := n2_; have GE189 := n3_; clear n0_ n1_ n2_ n3_ hb hbox hg) | ((with_reducible refine zae (f := 58) rfl ?_); refine za4 (some 12) rfl rfl Tryd.func58 (by kernel_rfl) rfl #[.slice A0 l0.length c0, .slice A1 l1.length c1] rfl (zE) ?_; (with_reducible refine (zbh.calls k _ _ l0 _ _ l1 t190 t193 _ ?side1 ?side2 ?side3 ?side4 A6.out).mono ?_); (case side1 => exact zJ (Kd.za6 HR0.out HB.out)); (case side2 => exact HC0.out); (case side3 => exact zJ (Kd.za6 HR1.out HB.out)); (case side4 => exact HC1.out); rintro e w8 ⟨v191, v194, rfl, ho0, ho1, hb⟩; refine ⟨_, rfl, ?_⟩; have n0_ := zA (Kd.za2 (Kd.zak (ok' := fun k_ => (w.heap.size ≤ k_) ∧ k_ ≠ gb189) ho0 (fun k_ hk_ => ⟨(Nat.le_trans (za (zB HB)) hk_), (Kd.freshB (g := gb189) (o := .cells #[.slice none 0 0, .slice none 0 0] 28 (0, 0)) (zK BK189) k_ hk_)⟩)) (za (zB HB))); have n1_ := zA (Kd.za2 (Kd.zak (ok' := fun k_ => (w.heap.size ≤ k_) ∧ k_ ≠ gb189) ho1 (fun k_ hk_ => ⟨(Nat.le_trans (za (zB HB)) hk_), (Kd.freshB (g := gb189) (o := .cells #[.slice none 0 0, .slice none 0 0] 28 (0, 0)) (zK BK189) k_ hk_)⟩)) (za (zB HB))); have n2_ := zA (zaf (g := gb189) (o := .cells #[.slice none 0 0, .slice none 0 0] 28 (0, 0)) (zK BK189) hb); have n3_ := zA (zac (zB HB) hb); clear BK189 HB; have HO192 := n0_; have HO195 := n1_; have BK189 := n2_; have HB := n3_; clear n0_ n1_ n2_ n3_; (try clear hb); (try clear hb2); (try clear hk); (try clear hi); (try clear ho0); (try clear ho1); obtain ⟨Ao9, co9, eo9⟩ := Kd.za3 HO192.out; subst eo9; have hcz10_0 : w8.cell? ⟨gb189, 0, none⟩ = some (.slice none 0 0) := (zab BK189.out 0).trans rfl; have hcz10_1 : w8.cell? ⟨gb189, 1, none⟩ = some (.slice none 0 0) := (zab BK189.out 1).trans rfl; have hfz10_0 := zan BK189.out 0; have hfz10_1 := zan BK189.out 1; obtain ⟨Ao11, co11, eo11⟩ := Kd.za3 HO195.out; subst eo11))
  refine bodyPost_ret (results_ct rfl _ _ gb189 28 #[.slice Ao9 t190.length co9, .slice Ao11 t193.length co11] (0, 0) _ rfl (by (with_reducible repeat (first | refine zai ?_ _ | refine zaj ?_ | refine zah ?_ _)); refine zbn (cs := #[.slice Ao9 t190.length co9, .slice none 0 0]) ?_ 1 _ rfl; (with_reducible repeat (first | refine zai ?_ _ | refine zaj ?_ | refine zah ?_ _)); refine zbn (cs := #[.slice none 0 0, .slice none 0 0]) ?_ 0 _ rfl; (with_reducible repeat (first | refine zai ?_ _ | refine zaj ?_ | refine zah ?_ _)); exact BK189.out) Tryd.underlying28 rfl (by kernel_rfl)) rfl ?_
  exact ⟨_, _, zW, by (with_reducible repeat (first | apply Kd.za8 | apply Kd.za7 | apply Kd.zbd)); exact Kd.zak (Kd.V_far (p := ⟨gb189, 1, none⟩) (Kd.V_far (p := ⟨gb189, 0, none⟩) (Kd.zak HO192.out (fun k_ hk => (⟨hk, hk.2⟩ : _ ∧ k_ ≠ gb189))) (fun _ hk => hk.2) (.slice Ao9 t190.length co9)) (fun _ hk => hk.2) (.slice Ao11 t193.length co11)) (fun _ hk => hk.1.1), by (with_reducible repeat (first | apply Kd.za8 | apply Kd.za7 | apply Kd.zbd)); exact Kd.zak (Kd.V_far (p := ⟨gb189, 1, none⟩) (Kd.V_far (p := ⟨gb189, 0, none⟩) (Kd.zak HO195.out (fun k_ hk => (⟨hk, hk.2⟩ : _ ∧ k_ ≠ gb189))) (fun _ hk => hk.2) (.slice Ao9 t190.length co9)) (fun _ hk => hk.2) (.slice Ao11 t193.length co11)) (fun _ hk => hk.1.1), zB HB⟩
def zbx.f (k : Nat) (l0_0 : List Int) (l0_1 : List Int) : Option (List Int) := (zau.f k l0_0 l0_1).bind fun bt197 => (some bt197.1)
theorem zbx.mono : ∀ a0 a1 k, LeO (zbx.f k a0 a1) (zbx.f (k + 1) a0 a1) := by
 intro a0 a1 k
 unfold zbx.f
 repeat' first
   | (with_reducible exact zau.mono _ _ _)
   | (with_reducible exact LeO.refl _)
   | (with_reducible exact LeO.none _)
   | (with_reducible refine LeO.ite ?_ ?_)
   | (with_reducible refine LeO.bind ?_ (fun _ => ?_))
   | exact zau.mono _ _ _
   | exact LeO.none _
   | refine LeO.ite ?_ ?_
   | refine LeO.bind ?_ (fun _ => ?_)
theorem zbx.calls (k : Nat) (A0_0 : Option Addr) (c0_0 : Nat) (l0_0 : List Int) (A0_1 : Option Addr) (c0_1 : Nat) (l0_1 : List Int) (r : List Int) (w : World) (hr0_0 : Kd.C (Kd.int .u64) w A0_0 l0_0.length l0_0) (hc0_0 : l0_0.length ≤ c0_0) (hr0_1 : Kd.C (Kd.int .u64) w A0_1 l0_1.length l0_1) (hc0_1 : l0_1.length ≤ c0_1) (h : zbx.f k l0_0 l0_1 = some r) :
  Calls Tryd.prog 27 #[.agg #[.slice A0_0 l0_0.length c0_0, .slice A0_1 l0_1.length c0_1]] w fun e w' => ∃ v0_ : Value, e = .returned (v0_) ∧ Kd.V (Kd.int .u64) 57 w' w.heap.size (fun k_ => (w.heap.size ≤ k_)) v0_ r ∧ Below w.heap.size w w' := by
 have hu28 := Tryd.underlying28
 have HR0_0 := zA hr0_0
 have HC0_0 := zA hc0_0
 clear hr0_0 hc0_0
 have HR0_1 := zA hr0_1
 have HC0_1 := zA hc0_1
 clear hr0_1 hc0_1
 have HB := zA (Below.refl w.heap.size w)
 have H : ((zau.f k l0_0 l0_1).bind fun bt197 => (some bt197.1)) = some r := h
 clear h
 replace H := zO H
 obtain ⟨⟨t197, t200, t203⟩, A20, H⟩ := H
 try dsimp only at H
 have A2 := zA A20
 clear A20
 obtain rfl := Option.some.inj H
 go_enter Tryd.func27, Tryd.ntmps27
 go_wp2_with (first | ((with_reducible refine zbe (N := 1) rfl ?_); refine zbl ?hg (N := 1) ?hd (cs := #[.slice A0_0 l0_0.length c0_0, .slice A0_1 l0_1.length c0_1]) (t := 28) ?hr ?_; (case hd => rfl); (case hg => rfl); (case hr => first | (go_simp; done) | (go_simp; rfl)); intro gb196 hg w3 hbox hb; have n0_ := zA (zac (zB HB) hb); have n1_ := zA (hbox); have n2_ := zA ((by rw [hg]; exact (za (zB HB)) : w.heap.size ≤ gb196)); have n3_ := zA ((by rw [hg]; exact (za (zB HB)) : w.heap.size ≤ gb196)); clear HB; have HB := n0_; have BK196 := n1_; have GW196 := n2_; have GE196 := n3_; clear n0_ n1_ n2_ n3_ hb hbox hg; have hcz4_0 : w3.cell? ⟨gb196, 0, none⟩ = some (.slice A0_0 l0_0.length c0_0) := (zab BK196.out 0).trans rfl; have hcz4_1 : w3.cell? ⟨gb196, 1, none⟩ = some (.slice A0_1 l0_1.length c0_1) := (zab BK196.out 1).trans rfl; have hfz4_0 := zan BK196.out 0; have hfz4_1 := zan BK196.out 1) | ((with_reducible refine zae (f := 60) rfl ?_); refine za4 (some 11) rfl rfl Tryd.func60 (by kernel_rfl) rfl #[.slice A0_0 l0_0.length c0_0, .slice A0_1 l0_1.length c0_1] rfl (zE) ?_; (with_reducible refine (zau.calls k _ _ l0_0 _ _ l0_1 t197 t200 t203 _ ?side1 ?side2 ?side3 ?side4 A2.out).mono ?_); (case side1 => exact zJ (Kd.za6 HR0_0.out HB.out)); (case side2 => exact HC0_0.out); (case side3 => exact zJ (Kd.za6 HR0_1.out HB.out)); (case side4 => exact HC0_1.out); rintro e w5 ⟨v198, v201, rfl, ho0, ho1, hb⟩; refine ⟨_, rfl, ?_⟩; have n0_ := zA (Kd.za2 (Kd.zak (ok' := fun k_ => (w.heap.size ≤ k_) ∧ k_ ≠ gb196) ho0 (fun k_ hk_ => ⟨(Nat.le_trans (za (zB HB)) hk_), (Kd.freshB (g := gb196) (o := .cells #[.slice A0_0 l0_0.length c0_0, .slice A0_1 l0_1.length c0_1] 28 (0, 0)) (zK BK196) k_ hk_)⟩)) (za (zB HB))); have n1_ := zA (Kd.za2 (Kd.zak (ok' := fun k_ => (w.heap.size ≤ k_) ∧ k_ ≠ gb196) ho1 (fun k_ hk_ => ⟨(Nat.le_trans (za (zB HB)) hk_), (Kd.freshB (g := gb196) (o := .cells #[.slice A0_0 l0_0.length c0_0, .slice A0_1 l0_1.length c0_1] 28 (0, 0)) (zK BK196) k_ hk_)⟩)) (za (zB HB))); have n2_ := zA (zaf (g := gb196) (o := .cells #[.slice A0_0 l0_0.length c0_0, .slice A0_1 l0_1.length c0_1] 28 (0, 0)) (zK BK196) hb); have n3_ := zA (zac (zB HB) hb); clear BK196 HB; have HO199 := n0_; have HO202 := n1_; have BK196 := n2_; have HB := n3_; clear n0_ n1_ n2_ n3_; (try clear hb); (try clear hb2); (try clear hk); (try clear hi); (try clear ho0); (try clear ho1)))
 go_ret
 exact ⟨_, zW, by (with_reducible repeat (first | apply Kd.za8 | apply Kd.za7 | apply Kd.zbd)); exact Kd.zak HO199.out (fun _ hk => hk.1), zB HB⟩
def zcf.f (k : Nat) (a0 : Int) : Option (List Int) := (zax.f k (([a0] : List Int))).bind fun t207 => (some t207)
theorem zcf.mono : ∀ a0 k, LeO (zcf.f k a0) (zcf.f (k + 1) a0) := by
 intro a0 k
 unfold zcf.f
 repeat' first
   | (with_reducible exact zax.mono _ _)
   | (with_reducible exact LeO.refl _)
   | (with_reducible exact LeO.none _)
   | (with_reducible refine LeO.ite ?_ ?_)
   | (with_reducible refine LeO.bind ?_ (fun _ => ?_))
   | exact zax.mono _ _
   | exact LeO.none _
   | refine LeO.ite ?_ ?_
   | refine LeO.bind ?_ (fun _ => ?_)
theorem zcf.calls (k : Nat) (a0 : Int) (r : List Int) (w : World) (h : zcf.f k a0 = some r) :
  Calls Tryd.prog 36 #[.int .u64 a0] w fun e w' => ∃ v0_ : Value, e = .returned (v0_) ∧ Kd.V (Kd.int .u64) 57 w' w.heap.size (fun k_ => (w.heap.size ≤ k_)) v0_ r ∧ Below w.heap.size w w' := by
 have HB := zA (Below.refl w.heap.size w)
 have H : ((zax.f k (([a0] : List Int))).bind fun t207 => (some t207)) = some r := h
 clear h
 obtain ⟨y204, hy204⟩ : ∃ y_ : List Int, y_ = (([a0] : List Int)) := ⟨_, rfl⟩
 replace H : ((zax.f k y204).bind fun t207 => (some t207)) = some r := by first | (rw [hy204]; with_reducible exact H) | (have H2_ := (Option.bind_some _ _).symm.trans H; rw [hy204]; with_reducible exact H2_) | (have H2_ := (Option.bind_some _ _).symm.trans H; with_reducible exact H2_) | with_reducible exact H | (rw [hy204]; exact H) | exact H
 have Ny204 := zA hy204
 clear hy204
 replace H := zO H
 obtain ⟨t207, A20, H⟩ := H
 try dsimp only at H
 have A2 := zA A20
 clear A20
 obtain rfl := Option.some.inj H
 go_enter Tryd.func36, Tryd.ntmps36
 go_wp2_with (first | ((with_reducible refine zbe (N := 4) rfl ?_); refine Kd.R_lit (Kd.int .u64) _ 57 ?hg (N := 4) ?hd (xs := ([a0] : List Int)) (inner := [.int .u64 a0]) (ok := fun _ => True) (okp := fun _ => True) ?hr ?hp (fun _ hk => hk) trivial (Below.refl _ _) (Nat.le_refl _) (by simp) ?_; (case hd => rfl); (case hg => rfl); (case hr => first | (go_simp; done) | (go_simp; rfl)); (case hp => exact (Reps.one (show Kd.M (Kd.int .u64) _ _ _ a0 [.int .u64 a0] from rfl) (Reps.none _ _))); intro v205 w3 ho4 hb hg_ hnew_; clear hg_ hnew_; (first | rw [← Ny204.out] at ho4 | (simp only [Int.reduceToNat] at ho4; rw [← Ny204.out] at ho4)); have n0_ := zA (Kd.zbw (Kd.R_newM (M := fun k_ => (w.heap.size ≤ k_)) ho4 (za (zB HB)) (fun k_ h_ => h_)) (za (zB HB))); have n1_ := zA (zac (zB HB) hb); clear HB; have HO206 := n0_; have HB := n1_; clear n0_ n1_ hb ho4; obtain ⟨Ao5, co5, eo5⟩ := Kd.zbq HO206.out; subst eo5) | ((with_reducible refine zae (f := 65) rfl ?_); refine za4 (some 5) rfl rfl Tryd.func65 (by kernel_rfl) rfl #[.slice Ao5 y204.length co5] rfl (zE) ?_; (with_reducible refine (zax.calls k (fun k_ => some k_ = (.slice Ao5 y204.length co5 : Value).ownBlock) _ _ y204 t207 _ ?side1 A2.out).mono ?_); (case side1 => exact Kd.R_V (Kd.zc7 rfl (HO206.out))); rintro e w6 ⟨v208, rfl, ho0, hb⟩; refine ⟨_, rfl, ?_⟩; have n0_ := zA (Kd.zb0 (zR HO206) hb); have n1_ := zA (Kd.za2 (Kd.zak (ok' := fun k_ => (w.heap.size ≤ k_)) ho0 (fun k_ hk_ => Or.elim hk_ (fun hs_ => ((HO206.out).1 k_ hs_.symm).1) (fun hn_ => (Nat.le_trans (za (zB HB)) hn_)))) (za (zB HB))); have n2_ := zA (zac (zB HB) hb); clear HO206 HB; have HO206 := n0_; have HO209 := n1_; have HB := n2_; clear n0_ n1_ n2_; (try clear hb); (try clear hb2); (try clear hk); (try clear hi); (try clear ho0)))
 go_ret
 exact ⟨_, zW, zV HO209, zB HB⟩
def bits_LeadingZeros64.f (a0 : Int) : Option (Int) := (bits_Len64.f a0).bind fun t210 => (some (wrap64 (64 - t210)))
theorem bits_LeadingZeros64.calls (a0 : Int) (r : Int) (w : World) (h : bits_LeadingZeros64.f a0 = some r) :
  Calls Tryd.prog 108 #[.int .u64 a0] w fun e w' => e = .returned (.int .i64 r) ∧ Drawn0 w w' := by
 have H : ((bits_Len64.f a0).bind fun t210 => (some (wrap64 (64 - t210)))) = some r := h
 clear h
 replace H := zO H
 obtain ⟨t210, A20, H⟩ := H
 try dsimp only at H
 have A2 := zA A20
 clear A20
 obtain rfl := Option.some.inj H
 go_enter Tryd.func108, Tryd.ntmps108
 go_wp2_with (first | ((with_reducible refine zae (f := 104) rfl ?_); refine za4 (some 4) rfl rfl Tryd.func104 (by kernel_rfl) rfl #[.int .u64 a0] rfl (zE) ?_; (with_reducible refine (bits_Len64.calls a0 t210 _ A2.out).mono ?_); rintro e w' ⟨rfl, ⟨nd, rfl⟩⟩; refine ⟨_, rfl, ?_⟩))
 go_ret
 exact ⟨zF, by repeat (first | exact Drawn0.refl _ | apply Drawn0.step)⟩
def zaw.l0 : Nat → Int → List Int → Option (List Int)
 | 0, _, _ => none
 | k + 1, x0, x3 => if x0 > 0 then (if x3.length < 17592186044416 then (zaw.l0 k (wrap64 (Int.tdiv x0 10000)) (x3 ++ [Int.tmod x0 10000])) else (none)) else (some x3)
def zaw.f (k : Nat) (a0 : Int) : Option (List Int) := zaw.l0 k a0 ([] : List Int)
theorem zaw.calls (k : Nat) (a0 : Int) (r : List Int) (w : World) (h : zaw.f k a0 = some r) :
  Calls Tryd.prog 20 #[.int .i64 a0] w fun e w' => ∃ v0_ : Value, e = .returned (v0_) ∧ Kd.R (Kd.int .i64) 3 w' w.heap.size (fun _ => True) v0_ r ∧ Below w.heap.size w w' := by
 have HB := zA (Below.refl w.heap.size w)
 have H : (zaw.l0 k a0 ([] : List Int)) = some r := h
 clear h
 have H' := zA H
 clear H
 go_enter Tryd.func20, Tryd.ntmps20
 go_wp2
 go_loopg [0, 3] k (fun kq v0 v3 w' => ∃ (x0_1 : Int) (x3_1 : List Int), v0 = .int .i64 x0_1 ∧ Aside0 (zaw.l0 kq x0_1 x3_1 = some r) ∧ Aside0 (kq ≤ k) ∧ Aside0 (Kd.R (Kd.int .i64) 3 w' w.heap.size (fun _ => True) v3 x3_1) ∧ Aside0 (Below w.heap.size w w'))
 case atStart => exact ⟨(a0), (([] : List Int)), (zF), H', ⟨Nat.le_refl _⟩, ⟨by first | exact Kd.R_nil _ _ _ _ _ | exact Kd.N_nil _ _ _ _ _ | exact Kd.V_nil _ _ _ _ _ | exact Kd.Q_nil _ _ _ _ _ | exact Kd.S_nil _ _ _ _ _⟩, ⟨zB HB⟩⟩
 case round =>
  clear H'
  obtain ⟨x0_1, x3_1, rfl, HA, HK1, HO_3, HB⟩ := hrel
  cases gk with
  | zero => exact absurd HA.out (by simp [zaw.l0])
  | succ k1 =>
   have H := HA.out
   clear HA
   simp only [zaw.l0] at H
   by_cases c2 : x0_1 > 0
   ·
    rw [if_pos c2] at H
    have c2b0 : decide (0 < x0_1) = true := decide_eq_true c2
    clear c2
    by_cases c3 : x3_1.length < 17592186044416
    ·
     rw [if_pos c3] at H
     have LMc3 := zA c3
     clear c3
     obtain ⟨y272, hy272⟩ : ∃ y_ : List Int, y_ = (x3_1 ++ [Int.tmod x0_1 10000]) := ⟨_, rfl⟩
     replace H : (zaw.l0 k1 (wrap64 (Int.tdiv x0_1 10000)) y272) = some r := by first | (rw [hy272]; with_reducible exact H) | (have H2_ := (Option.bind_some _ _).symm.trans H; rw [hy272]; with_reducible exact H2_) | (have H2_ := (Option.bind_some _ _).symm.trans H; with_reducible exact H2_) | with_reducible exact H | (rw [hy272]; exact H) | exact H
     have Ny272 := zA hy272
     clear hy272
     have H' := zA H
     clear H
     go_wp2_with (first | ((with_reducible refine zby (b := .append) (xs := #[.tmp 6, .tmp 9]) rfl ?_); at_builtin; refine Kd.zc0 (Kd.int .i64) (w0 := w) w.heap.size rfl (.tmp 6) (.tmp 9) 31 3 (.int .i64 0) 8 rfl Tryd.underlying31 info3 rfl (by decide) (by omega) u3 x3_1 (Int.tmod x0_1 10000) [.int .i64 (Int.tmod x0_1 10000)] (fun _ => True) (fun _ => False) rfl rfl ?aP (fun _ hk => hk.elim) ?aF ?aO ?aB ?aS ?aL ?_; (case aP => exact rfl); (case aB => exact (zB HB)); (case aF => exact (fun _ _ => trivial)); (case aO => exact (zR HO_3)); (case aS => exact (za (zB HB))); (case aL => have := LMc3.out; omega); intro v273 w4 ho hb hg hat; rw [← Ny272.out] at ho; have n0_ := zA (hb); have n1_ := zA (ho); clear HB HO_3; have HB := n0_; have HO274 := n1_; clear n0_ n1_ ho hb hg hat))
     go_roundg k1
     case measure => have := HK1.out; omega
     case rel => exact ⟨(wrap64 (Int.tdiv x0_1 10000)), (y272), (zF), H', ⟨by have := HK1.out; omega⟩, ⟨zR HO274⟩, ⟨zB HB⟩⟩
    ·
     rw [if_neg c3] at H
     exact absurd H (by simp)
   ·
    rw [if_neg c2] at H
    have c2b0 : decide (0 < x0_1) = false := decide_eq_false c2
    clear c2
    obtain rfl := Option.some.inj H
    go_wp2
    go_ret
    exact ⟨_, zW, zR HO_3, zB HB⟩
def zas.l0 : Nat → List Int → Int → Option (List Int)
 | 0, _, _ => none
 | k + 1, x0, x3 => if x3 > 0 then (if 0 ≤ (wrap64 (x3 - 1)) then (if (wrap64 (x3 - 1)) < (x0.length : Int) then (if (rd x0 (wrap64 (x3 - 1))) = 0 then (zas.l0 k x0 (wrap64 (x3 - 1))) else (if 0 ≤ x3 then (if x3 ≤ (x0.length : Int) then (some (x0.take (x3 : Int).toNat)) else (none)) else (none))) else (none)) else (none)) else (if 0 ≤ x3 then (if x3 ≤ (x0.length : Int) then (some (x0.take (x3 : Int).toNat)) else (none)) else (none))
def zas.f (k : Nat) (l0 : List Int) : Option (List Int) := zas.l0 k l0 (l0.length : Int)
theorem zas.calls (k : Nat) (P0_ : Nat → Prop) (u9000_ : Value) (l0 : List Int) (r : List Int) (w0 w : World) (hB : Below w0.heap.size w0 w) (ho0 : Kd.R (Kd.int .i64) 3 w w0.heap.size P0_ u9000_ l0) (h : zas.f k l0 = some r) :
  Calls Tryd.prog 83 #[u9000_] w fun e w' => ∃ v0_ : Value, e = .returned (v0_) ∧ Kd.R (Kd.int .i64) 3 w' w0.heap.size (fun k_ => (P0_ k_ ∨ w.heap.size ≤ k_)) v0_ r ∧ Below w0.heap.size w0 w' ∧ Kept w w' (fun k_ => P0_ k_) := by
 have HO0 := zA (show Kd.R (Kd.int .i64) 3 w w0.heap.size (fun k_ => (P0_ k_ ∨ w.heap.size ≤ k_)) u9000_ l0 from Kd.zbr ho0 (fun k_ hk => (.inl hk)))
 have HK := zA (Kept.refl w (fun k_ => P0_ k_))
 have HW0 := zA hB.size
 have HB := zA hB
 clear hB
 have H : (zas.l0 k l0 (l0.length : Int)) = some r := h
 clear h
 have H' := zA H
 clear H
 obtain ⟨Ao2, co2, eo2⟩ := Kd.zbq HO0.out
 subst eo2
 go_enter Tryd.func83, Tryd.ntmps83
 go_wp2
 go_loopg [3] k (fun kq v3 w' => ∃ (x3_1 : Int), v3 = .int .i64 x3_1 ∧ Aside0 (zas.l0 kq l0 x3_1 = some r) ∧ Aside0 (kq ≤ k) ∧ Aside0 (Kd.R (Kd.int .i64) 3 w' w0.heap.size (fun k_ => (P0_ k_ ∨ w.heap.size ≤ k_)) (.slice Ao2 l0.length co2) l0) ∧ Aside0 (Kept w w' (fun k_ => P0_ k_)) ∧ Aside0 (Below w0.heap.size w0 w'))
 case atStart => exact ⟨((l0.length : Int)), (zF), H', ⟨Nat.le_refl _⟩, ⟨zR HO0⟩, ⟨by repeat (first | (with_reducible first | exact HK.out | apply Kept.alloc | apply Kept.drewN | apply Kept.drew) | exact HK.out)⟩, ⟨zB HB⟩⟩
 case round =>
  clear H'
  try clear p2
  obtain ⟨x3_1, rfl, HA, HK1, HO_0, HK, HB⟩ := hrel
  cases gk with
  | zero => exact absurd HA.out (by simp [zas.l0])
  | succ k1 =>
   have H := HA.out
   clear HA
   simp only [zas.l0] at H
   by_cases c3 : x3_1 > 0
   ·
    rw [if_pos c3] at H
    have c3b0 : decide (0 < x3_1) = true := decide_eq_true c3
    clear c3
    obtain ⟨ji4, hji4⟩ : ∃ j_ : Int, (wrap64 (x3_1 - 1)) = j_ := ⟨_, rfl⟩
    replace H : (if 0 ≤ (ji4) then (if (ji4) < (l0.length : Int) then (if (rd l0 (ji4)) = 0 then (zas.l0 k1 l0 ji4) else (if 0 ≤ x3_1 then (if x3_1 ≤ (l0.length : Int) then (some (l0.take (x3_1 : Int).toNat)) else (none)) else (none))) else (none)) else (none)) = some r := by first | (rw [hji4] at H; exact H) | (simp only [hji4] at H ⊢; exact H)
    have hji4w : (IntKind.i64.wrap (x3_1 - 1)) = ji4 := (i64_w _).trans hji4
    by_cases c5 : 0 ≤ (ji4)
    ·
     rw [if_pos c5] at H
     have c5b0 : decide (0 ≤ (ji4)) = true := decide_eq_true c5
     clear c5
     by_cases c6 : (ji4) < (l0.length : Int)
     ·
      rw [if_pos c6] at H
      have c6b0 : decide ((ji4) < (l0.length : Int)) = true := decide_eq_true c6
      clear c6
      by_cases c7 : (rd l0 (ji4)) = 0
      ·
       rw [if_pos c7] at H
       have c7b0 : ((rd l0 (ji4)) == 0) = true := beq_iff_eq.mpr c7
       have c7b1 : ((rd l0 (ji4)) != 0) = false := bne_eq_false_iff_eq.mpr c7
       clear c7
       have H' := zA H
       clear H
       have p281 : 0 ≤ ((ji4) : Int) := of_decide_eq_true (by first | (with_reducible assumption) | assumption)
       have q281 : (ji4) < (l0.length : Int) := of_decide_eq_true (by first | (with_reducible assumption) | assumption)
       obtain ⟨ad281, e281, hx281_0⟩ := Kd.at_int (Kd.zay HO_0.out).2.2 (ji4) p281 q281
       cases e281
       replace p281 := eq_true p281
       replace q281 := eq_true q281
       go_wp2
       go_roundg k1
       case measure => have := HK1.out; omega
       case rel => exact ⟨(ji4), (by first | rfl | (simp; done) | (simp only [← hji4] <;> (first | rfl | simp)) | (simp [*]; done)), H', ⟨by have := HK1.out; omega⟩, ⟨zR HO_0⟩, ⟨by repeat (first | (with_reducible first | exact HK.out | apply Kept.alloc | apply Kept.drewN | apply Kept.drew) | exact HK.out)⟩, ⟨zB HB⟩⟩
      ·
       rw [if_neg c7] at H
       have c7b0 : ((rd l0 (ji4)) == 0) = false := beq_eq_false_iff_ne.mpr c7
       have c7b1 : ((rd l0 (ji4)) != 0) = true := bne_iff_ne.mpr c7
       by_cases c8 : 0 ≤ x3_1
       ·
        rw [if_pos c8] at H
        have c8b0 := eq_true c8
        have c8b1 : decide (0 ≤ x3_1) = true := decide_eq_true c8
        clear c8
        by_cases c9 : x3_1 ≤ (l0.length : Int)
        ·
         rw [if_pos c9] at H
         have c9b0 := eq_true c9
         have c9b1 : decide (x3_1 ≤ (l0.length : Int)) = true := decide_eq_true c9
         clear c9
         obtain ⟨y282, hy282⟩ : ∃ y_ : List Int, y_ = (l0.take (x3_1 : Int).toNat) := ⟨_, rfl⟩
         replace H : (some y282) = some r := by first | (rw [hy282]; with_reducible exact H) | (have H2_ := (Option.bind_some _ _).symm.trans H; rw [hy282]; with_reducible exact H2_) | (have H2_ := (Option.bind_some _ _).symm.trans H; with_reducible exact H2_) | with_reducible exact H | (rw [hy282]; exact H) | exact H
         have Ny282 := zA hy282
         clear hy282
         obtain rfl := Option.some.inj H
         have p281 : 0 ≤ ((ji4) : Int) := of_decide_eq_true (by first | (with_reducible assumption) | assumption)
         have q281 : (ji4) < (l0.length : Int) := of_decide_eq_true (by first | (with_reducible assumption) | assumption)
         obtain ⟨ad281, e281, hx281_0⟩ := Kd.at_int (Kd.zay HO_0.out).2.2 (ji4) p281 q281
         cases e281
         replace p281 := eq_true p281
         replace q281 := eq_true q281
         have q10 : (x3_1 : Int) ≤ ((l0.length : Int) : Int) := of_decide_eq_true (by first | (with_reducible assumption) | assumption)
         obtain ⟨i010, hi010, _, hsz10, _⟩ := info_parts info3
         have hcut10 := cut_to (P := Tryd.prog) 31 3 .i64 Tryd.underlying31 hi010 (some ad281) l0.length co2 x3_1 (of_decide_eq_true (by first | (with_reducible assumption) | assumption)) q10 (Kd.zay HO_0.out).2.1
         have hr10 := Kd.R_take (m := (x3_1 : Int).toNat) HO_0.out (by omega)
         have hy10 : y282.length = (x3_1 : Int).toNat := (by rw [Ny282.out, List.length_take]; omega)
         rw [← Ny282.out] at hr10
         rw [← hy10] at hr10 hcut10
         clear hy10 hi010 hsz10 HO_0
         have HO284 := zA hr10
         clear hr10
         replace q10 := eq_true q10
         go_wp2
         go_ret
         exact ⟨_, by first | rfl | (simp [zb3, zb2] <;> rfl) | (simp only [← hji4]; first | rfl | (simp [zb3, zb2] <;> rfl)) | (simp [*, zb3, zb2] <;> rfl), zR HO284, zB HB, by repeat (first | (with_reducible first | exact HK.out | apply Kept.alloc | apply Kept.drewN | apply Kept.drew) | exact HK.out)⟩
        ·
         rw [if_neg c9] at H
         exact absurd H (by simp)
       ·
        rw [if_neg c8] at H
        exact absurd H (by simp)
     ·
      rw [if_neg c6] at H
      exact absurd H (by simp)
    ·
     rw [if_neg c5] at H
     exact absurd H (by simp)
   ·
    rw [if_neg c3] at H
    have c3b0 : decide (0 < x3_1) = false := decide_eq_false c3
    clear c3
    by_cases c11 : 0 ≤ x3_1
    ·
     rw [if_pos c11] at H
     have c11b0 := eq_true c11
     have c11b1 : decide (0 ≤ x3_1) = true := decide_eq_true c11
     clear c11
     by_cases c12 : x3_1 ≤ (l0.length : Int)
     ·
      rw [if_pos c12] at H
      have c12b0 := eq_true c12
      have c12b1 : decide (x3_1 ≤ (l0.length : Int)) = true := decide_eq_true c12
      clear c12
      obtain ⟨y285, hy285⟩ : ∃ y_ : List Int, y_ = (l0.take (x3_1 : Int).toNat) := ⟨_, rfl⟩
      replace H : (some y285) = some r := by first | (rw [hy285]; with_reducible exact H) | (have H2_ := (Option.bind_some _ _).symm.trans H; rw [hy285]; with_reducible exact H2_) | (have H2_ := (Option.bind_some _ _).symm.trans H; with_reducible exact H2_) | with_reducible exact H | (rw [hy285]; exact H) | exact H
      have Ny285 := zA hy285
      clear hy285
      obtain rfl := Option.some.inj H
      have q13 : (x3_1 : Int) ≤ ((l0.length : Int) : Int) := of_decide_eq_true (by first | (with_reducible assumption) | assumption)
      obtain ⟨i013, hi013, _, hsz13, _⟩ := info_parts info3
      have hcut13 := cut_to (P := Tryd.prog) 31 3 .i64 Tryd.underlying31 hi013 Ao2 l0.length co2 x3_1 (of_decide_eq_true (by first | (with_reducible assumption) | assumption)) q13 (Kd.zay HO_0.out).2.1
      have hr13 := Kd.R_take (m := (x3_1 : Int).toNat) HO_0.out (by omega)
      have hy13 : y285.length = (x3_1 : Int).toNat := (by rw [Ny285.out, List.length_take]; omega)
      rw [← Ny285.out] at hr13
      rw [← hy13] at hr13 hcut13
      clear hy13 hi013 hsz13 HO_0
      have HO287 := zA hr13
      clear hr13
      replace q13 := eq_true q13
      go_wp2
      go_ret
      exact ⟨_, zW, zR HO287, zB HB, by repeat (first | (with_reducible first | exact HK.out | apply Kept.alloc | apply Kept.drewN | apply Kept.drew) | exact HK.out)⟩
     ·
      rw [if_neg c12] at H
      exact absurd H (by simp)
    ·
     rw [if_neg c11] at H
     exact absurd H (by simp)
mutual
def zam.l0 : Nat → List Int → List Int → List Int → Int → Int → Option (List Int)
 | 0, _, _, _, _, _ => none
 | k + 1, x0, x1, x5, x17, x18 => if x18 < x17 then (zam.l1 k x0 x1 x5 x18 0 x17 x18 (x1.length : Int) 0) else ((zas.f k x5).bind fun t291 => (some t291))
def zam.l1 : Nat → List Int → List Int → List Int → Int → Int → Int → Int → Int → Int → Option (List Int)
 | 0, _, _, _, _, _, _, _, _, _ => none
 | k + 1, x0, x1, x5, x6, x7, x17, x18, x22, x23 => if x23 < x22 then (if 0 ≤ (wrap64 (x6 + x23)) then (if (wrap64 (x6 + x23)) < (x5.length : Int) then (if 0 ≤ x6 then (if x6 < (x0.length : Int) then (if 0 ≤ x23 then (if x23 < (x1.length : Int) then (zam.l1 k x0 x1 (x5.set ((wrap64 (x6 + x23)) : Int).toNat (Int.tmod (wrap64 ((wrap64 ((rd x5 (wrap64 (x6 + x23))) + (wrap64 ((rd x0 x6) * (rd x1 x23))))) + x7)) 10000)) x6 (wrap64 (Int.tdiv (wrap64 ((wrap64 ((rd x5 (wrap64 (x6 + x23))) + (wrap64 ((rd x0 x6) * (rd x1 x23))))) + x7)) 10000)) x17 x18 x22 (wrap64 (x23 + 1))) else (none)) else (none)) else (none)) else (none)) else (none)) else (none)) else (if 0 ≤ (wrap64 (x6 + (x1.length : Int))) then (if (wrap64 (x6 + (x1.length : Int))) < (x5.length : Int) then (zam.l0 k x0 x1 (x5.set ((wrap64 (x6 + (x1.length : Int))) : Int).toNat (wrap64 ((rd x5 (wrap64 (x6 + (x1.length : Int)))) + x7))) x17 (wrap64 (x18 + 1))) else (none)) else (none))
end
def zam.f (k : Nat) (l0 : List Int) (l1 : List Int) : Option (List Int) := if 0 ≤ (wrap64 ((l0.length : Int) + (l1.length : Int))) then (if (wrap64 ((l0.length : Int) + (l1.length : Int)) : Int).toNat ≤ 35184372088832 then (zam.l0 k l0 l1 (List.replicate (wrap64 ((l0.length : Int) + (l1.length : Int)) : Int).toNat 0) (l0.length : Int) 0) else (none)) else (none)
theorem zam.calls (k : Nat) (A0 : Option Addr) (c0 : Nat) (l0 : List Int) (A1 : Option Addr) (c1 : Nat) (l1 : List Int) (r : List Int) (w : World) (hr0 : Kd.C (Kd.int .i64) w A0 l0.length l0) (hc0 : l0.length ≤ c0) (hr1 : Kd.C (Kd.int .i64) w A1 l1.length l1) (hc1 : l1.length ≤ c1) (h : zam.f k l0 l1 = some r) :
  Calls Tryd.prog 56 #[.slice A0 l0.length c0, .slice A1 l1.length c1] w fun e w' => ∃ v0_ : Value, e = .returned (v0_) ∧ Kd.R (Kd.int .i64) 3 w' w.heap.size (fun _ => True) v0_ r ∧ Below w.heap.size w w' := by
 have HR0 := zA hr0
 have HC0 := zA hc0
 clear hr0 hc0
 have HR1 := zA hr1
 have HC1 := zA hc1
 clear hr1 hc1
 have HB := zA (Below.refl w.heap.size w)
 have H : (if 0 ≤ (wrap64 ((l0.length : Int) + (l1.length : Int))) then (if (wrap64 ((l0.length : Int) + (l1.length : Int)) : Int).toNat ≤ 35184372088832 then (zam.l0 k l0 l1 (List.replicate (wrap64 ((l0.length : Int) + (l1.length : Int)) : Int).toNat 0) (l0.length : Int) 0) else (none)) else (none)) = some r := h
 clear h
 obtain ⟨ji3, hji3⟩ : ∃ j_ : Int, (wrap64 ((l0.length : Int) + (l1.length : Int))) = j_ := ⟨_, rfl⟩
 replace H : (if 0 ≤ (ji3) then (if (ji3 : Int).toNat ≤ 35184372088832 then (zam.l0 k l0 l1 (List.replicate (ji3 : Int).toNat 0) (l0.length : Int) 0) else (none)) else (none)) = some r := by first | (rw [hji3] at H; exact H) | (simp only [hji3] at H ⊢; exact H)
 have hji3w : (IntKind.i64.wrap ((l0.length : Int) + (l1.length : Int))) = ji3 := (i64_w _).trans hji3
 by_cases c4 : 0 ≤ (ji3)
 ·
  rw [if_pos c4] at H
  have c4b0 := eq_true c4
  have c4b1 : decide (0 ≤ (ji3)) = true := decide_eq_true c4
  clear c4
  by_cases c5 : (ji3 : Int).toNat ≤ 35184372088832
  ·
   rw [if_pos c5] at H
   have c5b0 := eq_true c5
   have c5b1 : decide ((ji3 : Int).toNat ≤ 35184372088832) = true := decide_eq_true c5
   clear c5
   obtain ⟨y288, hy288⟩ : ∃ y_ : List Int, y_ = (List.replicate (ji3 : Int).toNat 0) := ⟨_, rfl⟩
   replace H : (zam.l0 k l0 l1 y288 (l0.length : Int) 0) = some r := by first | (rw [hy288]; with_reducible exact H) | (have H2_ := (Option.bind_some _ _).symm.trans H; rw [hy288]; with_reducible exact H2_) | (have H2_ := (Option.bind_some _ _).symm.trans H; with_reducible exact H2_) | with_reducible exact H | (rw [hy288]; exact H) | exact H
   have Ny288 := zA hy288
   clear hy288
   have H' := zA H
   clear H
   go_enter Tryd.func56, Tryd.ntmps56
   go_wp2_with (first | ((with_reducible refine zbe (N := 15) rfl ?_); refine Kd.R_make (Kd.int .i64) _ 3 rfl (N := 15) rfl 31 _ _ rfl ji3 rfl rfl Tryd.underlying31 (.int .i64 0) 8 info3 rfl (by decide) (by omega) 0 (ok := fun _ => True) (okp := fun _ => True) rfl (fun _ hk => hk) trivial (of_decide_eq_true (by first | (with_reducible assumption) | assumption)) (Nat.le_trans (Nat.mul_le_mul_right _ (of_decide_eq_true (by first | (with_reducible assumption) | assumption) : ji3.toNat ≤ 35184372088832)) (by omega)) (Below.refl _ _) (Nat.le_refl _) ?_; intro v289 w6 ho7 hb hg_ hnew_; clear hg_ hnew_; (first | rw [← Ny288.out] at ho7 | (simp only [Int.reduceToNat] at ho7; rw [← Ny288.out] at ho7)); have n0_ := zA (Kd.zbw ho7 (za (zB HB))); have n1_ := zA (zac (zB HB) hb); clear HB; have HO290 := n0_; have HB := n1_; clear n0_ n1_ hb ho7))
   repeat (go_quiet (first | ((with_reducible refine zbe (N := 15) rfl ?_); refine Kd.R_make (Kd.int .i64) _ 3 rfl (N := 15) rfl 31 _ _ rfl ji3 rfl rfl Tryd.underlying31 (.int .i64 0) 8 info3 rfl (by decide) (by omega) 0 (ok := fun _ => True) (okp := fun _ => True) rfl (fun _ hk => hk) trivial (of_decide_eq_true (by first | (with_reducible assumption) | assumption)) (Nat.le_trans (Nat.mul_le_mul_right _ (of_decide_eq_true (by first | (with_reducible assumption) | assumption) : ji3.toNat ≤ 35184372088832)) (by omega)) (Below.refl _ _) (Nat.le_refl _) ?_; intro v289 w6 ho7 hb hg_ hnew_; clear hg_ hnew_; (first | rw [← Ny288.out] at ho7 | (simp only [Int.reduceToNat] at ho7; rw [← Ny288.out] at ho7)); have n0_ := zA (Kd.zbw ho7 (za (zB HB))); have n1_ := zA (zac (zB HB) hb); clear HB; have HO290 := n0_; have HB := n1_; clear n0_ n1_ hb ho7)); try go_wp2_with (first | ((with_reducible refine zbe (N := 15) rfl ?_); refine Kd.R_make (Kd.int .i64) _ 3 rfl (N := 15) rfl 31 _ _ rfl ji3 rfl rfl Tryd.underlying31 (.int .i64 0) 8 info3 rfl (by decide) (by omega) 0 (ok := fun _ => True) (okp := fun _ => True) rfl (fun _ hk => hk) trivial (of_decide_eq_true (by first | (with_reducible assumption) | assumption)) (Nat.le_trans (Nat.mul_le_mul_right _ (of_decide_eq_true (by first | (with_reducible assumption) | assumption) : ji3.toNat ≤ 35184372088832)) (by omega)) (Below.refl _ _) (Nat.le_refl _) ?_; intro v289 w6 ho7 hb hg_ hnew_; clear hg_ hnew_; (first | rw [← Ny288.out] at ho7 | (simp only [Int.reduceToNat] at ho7; rw [← Ny288.out] at ho7)); have n0_ := zA (Kd.zbw ho7 (za (zB HB))); have n1_ := zA (zac (zB HB) hb); clear HB; have HO290 := n0_; have HB := n1_; clear n0_ n1_ hb ho7)))
   go_loopg [18] k (fun kq v18 w' => ∃ (x5_1 : List Int) (x18_1 : Int), v18 = .int .i64 x18_1 ∧ Aside0 (zam.l0 kq l0 l1 x5_1 (l0.length : Int) x18_1 = some r) ∧ Aside0 (kq ≤ k) ∧ Aside0 (Kd.R (Kd.int .i64) 3 w' w.heap.size (fun _ => True) v289 x5_1) ∧ Aside0 (Below w.heap.size w w'))
   case atStart => exact ⟨(y288), (0), (zF), H', ⟨Nat.le_refl _⟩, ⟨zR HO290⟩, ⟨zB HB⟩⟩
   case round =>
    clear H'
    try clear c1
    try clear p2
    try clear c4
    try clear c4b0
    try clear c4b1
    try clear c5
    try clear c5b0
    try clear c5b1
    try clear p6
    obtain ⟨x5_1, x18_1, rfl, HA, HK1, HO_5, HB⟩ := hrel
    cases gk with
    | zero => exact absurd HA.out (by simp [zam.l0])
    | succ k1 =>
     have H := HA.out
     clear HA
     simp only [zam.l0] at H
     by_cases c8 : x18_1 < (l0.length : Int)
     ·
      rw [if_pos c8] at H
      have c8b0 : decide (x18_1 < (l0.length : Int)) = true := decide_eq_true c8
      clear c8
      have H' := zA H
      clear H
      go_wp2
      repeat (go_quiet (fail); try go_wp2)
      go_loopg [7, 23] k1 (fun kq v7 v23 w' => ∃ (x5_2 : List Int) (x7_2 : Int) (x23_2 : Int), v7 = .int .i64 x7_2 ∧ v23 = .int .i64 x23_2 ∧ Aside0 (zam.l1 kq l0 l1 x5_2 x18_1 x7_2 (l0.length : Int) x18_1 (l1.length : Int) x23_2 = some r) ∧ Aside0 (kq ≤ k1) ∧ Aside0 (Kd.R (Kd.int .i64) 3 w' w.heap.size (fun _ => True) v289 x5_2) ∧ Aside0 (Below w.heap.size w w'))
      case atStart => exact ⟨(x5_1), (0), (0), (zF), (zF), H', ⟨Nat.le_refl _⟩, ⟨zR HO_5⟩, ⟨zB HB⟩⟩
      case round =>
       clear H'
       try clear c1
       try clear p2
       try clear c4
       try clear c4b0
       try clear c4b1
       try clear c5
       try clear c5b0
       try clear c5b1
       try clear p6
       try clear c8
       try clear c8b0
       try clear p2
       try clear p6
       obtain ⟨x5_2, x7_2, x23_2, rfl, rfl, HA, HK2, HO_5, HB⟩ := hrel
       cases gk with
       | zero => exact absurd HA.out (by simp [zam.l1])
       | succ k2 =>
        have H := HA.out
        clear HA
        simp only [zam.l1] at H
        by_cases c9 : x23_2 < (l1.length : Int)
        ·
         rw [if_pos c9] at H
         have c9b0 : decide (x23_2 < (l1.length : Int)) = true := decide_eq_true c9
         clear c9
         obtain ⟨ji10, hji10⟩ : ∃ j_ : Int, (wrap64 (x18_1 + x23_2)) = j_ := ⟨_, rfl⟩
         replace H : (if 0 ≤ (ji10) then (if (ji10) < (x5_2.length : Int) then (if 0 ≤ x18_1 then (if x18_1 < (l0.length : Int) then (if 0 ≤ x23_2 then (if x23_2 < (l1.length : Int) then (zam.l1 k2 l0 l1 (x5_2.set ((ji10) : Int).toNat (Int.tmod (wrap64 ((wrap64 ((rd x5_2 (ji10)) + (wrap64 ((rd l0 x18_1) * (rd l1 x23_2))))) + x7_2)) 10000)) x18_1 (wrap64 (Int.tdiv (wrap64 ((wrap64 ((rd x5_2 (ji10)) + (wrap64 ((rd l0 x18_1) * (rd l1 x23_2))))) + x7_2)) 10000)) (l0.length : Int) x18_1 (l1.length : Int) (wrap64 (x23_2 + 1))) else (none)) else (none)) else (none)) else (none)) else (none)) else (none)) = some r := by first | (rw [hji10] at H; exact H) | (simp only [hji10] at H ⊢; exact H)
         have hji10w : (IntKind.i64.wrap (x18_1 + x23_2)) = ji10 := (i64_w _).trans hji10
         by_cases c11 : 0 ≤ (ji10)
         ·
          rw [if_pos c11] at H
          have c11b0 : decide (0 ≤ (ji10)) = true := decide_eq_true c11
          clear c11
          by_cases c12 : (ji10) < (x5_2.length : Int)
          ·
           rw [if_pos c12] at H
           have c12b0 : decide ((ji10) < (x5_2.length : Int)) = true := decide_eq_true c12
           clear c12
           by_cases c13 : 0 ≤ x18_1
           ·
            rw [if_pos c13] at H
            have c13b0 : decide (0 ≤ x18_1) = true := decide_eq_true c13
            clear c13
            by_cases c14 : x18_1 < (l0.length : Int)
            ·
             rw [if_pos c14] at H
             have c14b0 : decide (x18_1 < (l0.length : Int)) = true := decide_eq_true c14
             clear c14
             by_cases c15 : 0 ≤ x23_2
             ·
              rw [if_pos c15] at H
              have c15b0 : decide (0 ≤ x23_2) = true := decide_eq_true c15
              clear c15
              by_cases c16 : x23_2 < (l1.length : Int)
              ·
               rw [if_pos c16] at H
               have c16b0 : decide (x23_2 < (l1.length : Int)) = true := decide_eq_true c16
               clear c16
               obtain ⟨y297, hy297⟩ : ∃ y_ : List Int, y_ = (x5_2.set ((ji10) : Int).toNat (Int.tmod (wrap64 ((wrap64 ((rd x5_2 (ji10)) + (wrap64 ((rd l0 x18_1) * (rd l1 x23_2))))) + x7_2)) 10000)) := ⟨_, rfl⟩
               replace H : (zam.l1 k2 l0 l1 y297 x18_1 (wrap64 (Int.tdiv (wrap64 ((wrap64 ((rd x5_2 (ji10)) + (wrap64 ((rd l0 x18_1) * (rd l1 x23_2))))) + x7_2)) 10000)) (l0.length : Int) x18_1 (l1.length : Int) (wrap64 (x23_2 + 1))) = some r := by first | (rw [hy297]; with_reducible exact H) | (have H2_ := (Option.bind_some _ _).symm.trans H; rw [hy297]; with_reducible exact H2_) | (have H2_ := (Option.bind_some _ _).symm.trans H; with_reducible exact H2_) | with_reducible exact H | (rw [hy297]; exact H) | exact H
               have Ny297 := zA hy297
               clear hy297
               have H' := zA H
               clear H
               obtain ⟨Ao18, co18, eo18⟩ := Kd.zbq HO_5.out
               subst eo18
               have p294 : 0 ≤ ((ji10) : Int) := of_decide_eq_true (by first | (with_reducible assumption) | assumption)
               have q294 : (ji10) < (x5_2.length : Int) := of_decide_eq_true (by first | (with_reducible assumption) | assumption)
               obtain ⟨ad294, e294, hx294_0⟩ := Kd.at_int (Kd.zay HO_5.out).2.2 (ji10) p294 q294
               cases e294
               replace p294 := eq_true p294
               replace q294 := eq_true q294
               have p295 : 0 ≤ (x18_1 : Int) := of_decide_eq_true (by first | (with_reducible assumption) | assumption)
               have q295 : x18_1 < (l0.length : Int) := of_decide_eq_true (by first | (with_reducible assumption) | assumption)
               obtain ⟨ad295, e295, hx295_0⟩ := Kd.at_int HR0.out x18_1 p295 q295
               cases e295
               replace hx295_0 := (HB.out.cell (World.block_lt_of_cell? w _ hx295_0)).trans hx295_0
               replace p295 := eq_true p295
               replace q295 := eq_true q295
               have p296 : 0 ≤ (x23_2 : Int) := of_decide_eq_true (by first | (with_reducible assumption) | assumption)
               have q296 : x23_2 < (l1.length : Int) := of_decide_eq_true (by first | (with_reducible assumption) | assumption)
               obtain ⟨ad296, e296, hx296_0⟩ := Kd.at_int HR1.out x23_2 p296 q296
               cases e296
               replace hx296_0 := (HB.out.cell (World.block_lt_of_cell? w _ hx296_0)).trans hx296_0
               replace p296 := eq_true p296
               replace q296 := eq_true q296
               have p17 : 0 ≤ ((ji10) : Int) := of_decide_eq_true (by first | (with_reducible assumption) | assumption)
               have q17 : ((ji10) : Int) < ((x5_2.length : Int) : Int) := of_decide_eq_true (by first | (with_reducible assumption) | assumption)
               obtain ⟨go17, co17, eo17, gb17, gl17, cl17, HG17⟩ := Kd.R_form HO_5.out (by omega)
               (first | cases eo17 | (injection eo17 with ea_ en_ ec_; (first | subst ea_ | (injection ea_ with ea_; subst ea_)); subst ec_; clear en_))
               have GB17 := zA gb17
               have GG17 := zA HG17
               clear gb17 gl17 HG17
               (first | simp only [add_plain] at hx294_0 | skip)
               obtain ⟨hx17_0, hf17_0⟩ := Kd.zc6 0 HO_5.out ((ji10) : Int) p17 q17
               replace p17 := eq_true p17
               replace q17 := eq_true q17
               have HP19 := Kd.R_putg HO_5.out ((ji10) : Int) (Int.tmod (wrap64 ((wrap64 ((rd x5_2 (ji10)) + (wrap64 ((rd l0 x18_1) * (rd l1 x23_2))))) + x7_2)) 10000)
               go_wp2_with (first | ((with_reducible refine zdb (t := 3) (p := 50) rfl ?_); (try (rw [drewN_self wr]; generalize hq_ : World.drewN wr _ = wr; have n0_ := zA (Kd.R_at hq_ HO_5.out); have n1_ := zA (below_at hq_ HB.out); clear hq_ HO_5 HB; have HO_5 := n0_; have HB := n1_; clear n0_ n1_; (try (have HP19 := Kd.R_putg HO_5.out ((ji10) : Int) (Int.tmod (wrap64 ((wrap64 ((rd x5_2 (ji10)) + (wrap64 ((rd l0 x18_1) * (rd l1 x23_2))))) + x7_2)) 10000))); (try (obtain ⟨hx17_0, hf17_0⟩ := Kd.zc6 0 HO_5.out ((ji10) : Int) (of_eq_true p17) (of_eq_true q17))))); refine zc1 (t := 3) (p := 50) (v := ?vo_w20) (w1 := (wr.setCell ⟨go17, ((ji10) : Int).toNat, none⟩ (.int .i64 (Int.tmod (wrap64 ((wrap64 ((rd x5_2 (ji10)) + (wrap64 ((rd l0 x18_1) * (rd l1 x23_2))))) + x7_2)) 10000)))) ?hg ?ho ?hn ?hr ?_; (case ho => rfl); (case hg => rfl); (case hn => rfl); (case hr => first | (go_simp; done) | (go_simp; rfl)); intro w20 hw; have hg : wr.grownBy w20 (some go17) := (by rw [hw]; exact HP19.2); have hp_ : Kd.R (Kd.int .i64) 3 w20 w.heap.size (fun _ => True) (.slice (some ⟨go17, 0, none⟩) x5_2.length co18) y297 := (by rw [hw, Ny297.out]; exact HP19.1); clear HP19; have n0_ := zA (hp_); have n1_ := zA ((by rw [hw]; exact zdd (HB.out) GB17.out : Below w.heap.size w w20)); clear HO_5 HB; have HO_5 := n0_; have HB := n1_; clear n0_ n1_ hg hw hp_))
               repeat (go_quiet (first | ((with_reducible refine zdb (t := 3) (p := 50) rfl ?_); (try (rw [drewN_self wr]; generalize hq_ : World.drewN wr _ = wr; have n0_ := zA (Kd.R_at hq_ HO_5.out); have n1_ := zA (below_at hq_ HB.out); clear hq_ HO_5 HB; have HO_5 := n0_; have HB := n1_; clear n0_ n1_; (try (have HP19 := Kd.R_putg HO_5.out ((ji10) : Int) (Int.tmod (wrap64 ((wrap64 ((rd x5_2 (ji10)) + (wrap64 ((rd l0 x18_1) * (rd l1 x23_2))))) + x7_2)) 10000))); (try (obtain ⟨hx17_0, hf17_0⟩ := Kd.zc6 0 HO_5.out ((ji10) : Int) (of_eq_true p17) (of_eq_true q17))))); refine zc1 (t := 3) (p := 50) (v := ?vo_w20) (w1 := (wr.setCell ⟨go17, ((ji10) : Int).toNat, none⟩ (.int .i64 (Int.tmod (wrap64 ((wrap64 ((rd x5_2 (ji10)) + (wrap64 ((rd l0 x18_1) * (rd l1 x23_2))))) + x7_2)) 10000)))) ?hg ?ho ?hn ?hr ?_; (case ho => rfl); (case hg => rfl); (case hn => rfl); (case hr => first | (go_simp; done) | (go_simp; rfl)); intro w20 hw; have hg : wr.grownBy w20 (some go17) := (by rw [hw]; exact HP19.2); have hp_ : Kd.R (Kd.int .i64) 3 w20 w.heap.size (fun _ => True) (.slice (some ⟨go17, 0, none⟩) x5_2.length co18) y297 := (by rw [hw, Ny297.out]; exact HP19.1); clear HP19; have n0_ := zA (hp_); have n1_ := zA ((by rw [hw]; exact zdd (HB.out) GB17.out : Below w.heap.size w w20)); clear HO_5 HB; have HO_5 := n0_; have HB := n1_; clear n0_ n1_ hg hw hp_)); try go_wp2_with (first | ((with_reducible refine zdb (t := 3) (p := 50) rfl ?_); (try (rw [drewN_self wr]; generalize hq_ : World.drewN wr _ = wr; have n0_ := zA (Kd.R_at hq_ HO_5.out); have n1_ := zA (below_at hq_ HB.out); clear hq_ HO_5 HB; have HO_5 := n0_; have HB := n1_; clear n0_ n1_; (try (have HP19 := Kd.R_putg HO_5.out ((ji10) : Int) (Int.tmod (wrap64 ((wrap64 ((rd x5_2 (ji10)) + (wrap64 ((rd l0 x18_1) * (rd l1 x23_2))))) + x7_2)) 10000))); (try (obtain ⟨hx17_0, hf17_0⟩ := Kd.zc6 0 HO_5.out ((ji10) : Int) (of_eq_true p17) (of_eq_true q17))))); refine zc1 (t := 3) (p := 50) (v := ?vo_w20) (w1 := (wr.setCell ⟨go17, ((ji10) : Int).toNat, none⟩ (.int .i64 (Int.tmod (wrap64 ((wrap64 ((rd x5_2 (ji10)) + (wrap64 ((rd l0 x18_1) * (rd l1 x23_2))))) + x7_2)) 10000)))) ?hg ?ho ?hn ?hr ?_; (case ho => rfl); (case hg => rfl); (case hn => rfl); (case hr => first | (go_simp; done) | (go_simp; rfl)); intro w20 hw; have hg : wr.grownBy w20 (some go17) := (by rw [hw]; exact HP19.2); have hp_ : Kd.R (Kd.int .i64) 3 w20 w.heap.size (fun _ => True) (.slice (some ⟨go17, 0, none⟩) x5_2.length co18) y297 := (by rw [hw, Ny297.out]; exact HP19.1); clear HP19; have n0_ := zA (hp_); have n1_ := zA ((by rw [hw]; exact zdd (HB.out) GB17.out : Below w.heap.size w w20)); clear HO_5 HB; have HO_5 := n0_; have HB := n1_; clear n0_ n1_ hg hw hp_)))
               go_roundg k2
               case measure => have := HK1.out; have := HK2.out; omega
               case rel => exact ⟨(y297), (wrap64 (Int.tdiv (wrap64 ((wrap64 ((rd x5_2 (ji10)) + (wrap64 ((rd l0 x18_1) * (rd l1 x23_2))))) + x7_2)) 10000)), (wrap64 (x23_2 + 1)), (by first | rfl | (simp; done) | (simp only [← hji10] <;> (first | rfl | simp)) | (simp [*]; done)), (zF), H', ⟨by have := HK1.out; have := HK2.out; omega⟩, ⟨zR HO_5⟩, ⟨zB HB⟩⟩
              ·
               rw [if_neg c16] at H
               exact absurd H (by simp)
             ·
              rw [if_neg c15] at H
              exact absurd H (by simp)
            ·
             rw [if_neg c14] at H
             exact absurd H (by simp)
           ·
            rw [if_neg c13] at H
            exact absurd H (by simp)
          ·
           rw [if_neg c12] at H
           exact absurd H (by simp)
         ·
          rw [if_neg c11] at H
          exact absurd H (by simp)
        ·
         rw [if_neg c9] at H
         have c9b0 : decide (x23_2 < (l1.length : Int)) = false := decide_eq_false c9
         clear c9
         obtain ⟨ji21, hji21⟩ : ∃ j_ : Int, (wrap64 (x18_1 + (l1.length : Int))) = j_ := ⟨_, rfl⟩
         replace H : (if 0 ≤ (ji21) then (if (ji21) < (x5_2.length : Int) then (zam.l0 k2 l0 l1 (x5_2.set ((ji21) : Int).toNat (wrap64 ((rd x5_2 (ji21)) + x7_2))) (l0.length : Int) (wrap64 (x18_1 + 1))) else (none)) else (none)) = some r := by first | (rw [hji21] at H; exact H) | (simp only [hji21] at H ⊢; exact H)
         have hji21w : (IntKind.i64.wrap (x18_1 + (l1.length : Int))) = ji21 := (i64_w _).trans hji21
         by_cases c22 : 0 ≤ (ji21)
         ·
          rw [if_pos c22] at H
          have c22b0 : decide (0 ≤ (ji21)) = true := decide_eq_true c22
          clear c22
          by_cases c23 : (ji21) < (x5_2.length : Int)
          ·
           rw [if_pos c23] at H
           have c23b0 : decide ((ji21) < (x5_2.length : Int)) = true := decide_eq_true c23
           clear c23
           obtain ⟨y299, hy299⟩ : ∃ y_ : List Int, y_ = (x5_2.set ((ji21) : Int).toNat (wrap64 ((rd x5_2 (ji21)) + x7_2))) := ⟨_, rfl⟩
           replace H : (zam.l0 k2 l0 l1 y299 (l0.length : Int) (wrap64 (x18_1 + 1))) = some r := by first | (rw [hy299]; with_reducible exact H) | (have H2_ := (Option.bind_some _ _).symm.trans H; rw [hy299]; with_reducible exact H2_) | (have H2_ := (Option.bind_some _ _).symm.trans H; with_reducible exact H2_) | with_reducible exact H | (rw [hy299]; exact H) | exact H
           have Ny299 := zA hy299
           clear hy299
           have H' := zA H
           clear H
           obtain ⟨Ao25, co25, eo25⟩ := Kd.zbq HO_5.out
           subst eo25
           have p298 : 0 ≤ ((ji21) : Int) := of_decide_eq_true (by first | (with_reducible assumption) | assumption)
           have q298 : (ji21) < (x5_2.length : Int) := of_decide_eq_true (by first | (with_reducible assumption) | assumption)
           obtain ⟨ad298, e298, hx298_0⟩ := Kd.at_int (Kd.zay HO_5.out).2.2 (ji21) p298 q298
           cases e298
           replace p298 := eq_true p298
           replace q298 := eq_true q298
           have p24 : 0 ≤ ((ji21) : Int) := of_decide_eq_true (by first | (with_reducible assumption) | assumption)
           have q24 : ((ji21) : Int) < ((x5_2.length : Int) : Int) := of_decide_eq_true (by first | (with_reducible assumption) | assumption)
           obtain ⟨go24, co24, eo24, gb24, gl24, cl24, HG24⟩ := Kd.R_form HO_5.out (by omega)
           (first | cases eo24 | (injection eo24 with ea_ en_ ec_; (first | subst ea_ | (injection ea_ with ea_; subst ea_)); subst ec_; clear en_))
           have GB24 := zA gb24
           have GG24 := zA HG24
           clear gb24 gl24 HG24
           (first | simp only [add_plain] at hx298_0 | skip)
           obtain ⟨hx24_0, hf24_0⟩ := Kd.zc6 0 HO_5.out ((ji21) : Int) p24 q24
           replace p24 := eq_true p24
           replace q24 := eq_true q24
           have HP26 := Kd.R_putg HO_5.out ((ji21) : Int) (wrap64 ((rd x5_2 (ji21)) + x7_2))
           go_wp2_with (first | ((with_reducible refine zdb (t := 3) (p := 68) rfl ?_); (try (rw [drewN_self wr]; generalize hq_ : World.drewN wr _ = wr; have n0_ := zA (Kd.R_at hq_ HO_5.out); have n1_ := zA (below_at hq_ HB.out); clear hq_ HO_5 HB; have HO_5 := n0_; have HB := n1_; clear n0_ n1_; (try (have HP26 := Kd.R_putg HO_5.out ((ji21) : Int) (wrap64 ((rd x5_2 (ji21)) + x7_2)))); (try (obtain ⟨hx24_0, hf24_0⟩ := Kd.zc6 0 HO_5.out ((ji21) : Int) (of_eq_true p24) (of_eq_true q24))))); refine zc1 (t := 3) (p := 68) (v := ?vo_w27) (w1 := (wr.setCell ⟨go24, ((ji21) : Int).toNat, none⟩ (.int .i64 (wrap64 ((rd x5_2 (ji21)) + x7_2))))) ?hg ?ho ?hn ?hr ?_; (case ho => rfl); (case hg => rfl); (case hn => rfl); (case hr => first | (go_simp; done) | (go_simp; rfl)); intro w27 hw; have hg : wr.grownBy w27 (some go24) := (by rw [hw]; exact HP26.2); have hp_ : Kd.R (Kd.int .i64) 3 w27 w.heap.size (fun _ => True) (.slice (some ⟨go24, 0, none⟩) x5_2.length co25) y299 := (by rw [hw, Ny299.out]; exact HP26.1); clear HP26; have n0_ := zA (hp_); have n1_ := zA ((by rw [hw]; exact zdd (HB.out) GB24.out : Below w.heap.size w w27)); clear HO_5 HB; have HO_5 := n0_; have HB := n1_; clear n0_ n1_ hg hw hp_))
           repeat (go_quiet (first | ((with_reducible refine zdb (t := 3) (p := 68) rfl ?_); (try (rw [drewN_self wr]; generalize hq_ : World.drewN wr _ = wr; have n0_ := zA (Kd.R_at hq_ HO_5.out); have n1_ := zA (below_at hq_ HB.out); clear hq_ HO_5 HB; have HO_5 := n0_; have HB := n1_; clear n0_ n1_; (try (have HP26 := Kd.R_putg HO_5.out ((ji21) : Int) (wrap64 ((rd x5_2 (ji21)) + x7_2)))); (try (obtain ⟨hx24_0, hf24_0⟩ := Kd.zc6 0 HO_5.out ((ji21) : Int) (of_eq_true p24) (of_eq_true q24))))); refine zc1 (t := 3) (p := 68) (v := ?vo_w27) (w1 := (wr.setCell ⟨go24, ((ji21) : Int).toNat, none⟩ (.int .i64 (wrap64 ((rd x5_2 (ji21)) + x7_2))))) ?hg ?ho ?hn ?hr ?_; (case ho => rfl); (case hg => rfl); (case hn => rfl); (case hr => first | (go_simp; done) | (go_simp; rfl)); intro w27 hw; have hg : wr.grownBy w27 (some go24) := (by rw [hw]; exact HP26.2); have hp_ : Kd.R (Kd.int .i64) 3 w27 w.heap.size (fun _ => True) (.slice (some ⟨go24, 0, none⟩) x5_2.length co25) y299 := (by rw [hw, Ny299.out]; exact HP26.1); clear HP26; have n0_ := zA (hp_); have n1_ := zA ((by rw [hw]; exact zdd (HB.out) GB24.out : Below w.heap.size w w27)); clear HO_5 HB; have HO_5 := n0_; have HB := n1_; clear n0_ n1_ hg hw hp_)); try go_wp2_with (first | ((with_reducible refine zdb (t := 3) (p := 68) rfl ?_); (try (rw [drewN_self wr]; generalize hq_ : World.drewN wr _ = wr; have n0_ := zA (Kd.R_at hq_ HO_5.out); have n1_ := zA (below_at hq_ HB.out); clear hq_ HO_5 HB; have HO_5 := n0_; have HB := n1_; clear n0_ n1_; (try (have HP26 := Kd.R_putg HO_5.out ((ji21) : Int) (wrap64 ((rd x5_2 (ji21)) + x7_2)))); (try (obtain ⟨hx24_0, hf24_0⟩ := Kd.zc6 0 HO_5.out ((ji21) : Int) (of_eq_true p24) (of_eq_true q24))))); refine zc1 (t := 3) (p := 68) (v := ?vo_w27) (w1 := (wr.setCell ⟨go24, ((ji21) : Int).toNat, none⟩ (.int .i64 (wrap64 ((rd x5_2 (ji21)) + x7_2))))) ?hg ?ho ?hn ?hr ?_; (case ho => rfl); (case hg => rfl); (case hn => rfl); (case hr => first | (go_simp; done) | (go_simp; rfl)); intro w27 hw; have hg : wr.grownBy w27 (some go24) := (by rw [hw]; exact HP26.2); have hp_ : Kd.R (Kd.int .i64) 3 w27 w.heap.size (fun _ => True) (.slice (some ⟨go24, 0, none⟩) x5_2.length co25) y299 := (by rw [hw, Ny299.out]; exact HP26.1); clear HP26; have n0_ := zA (hp_); have n1_ := zA ((by rw [hw]; exact zdd (HB.out) GB24.out : Below w.heap.size w w27)); clear HO_5 HB; have HO_5 := n0_; have HB := n1_; clear n0_ n1_ hg hw hp_)))
           go_roundg k2
           case measure => have := HK1.out; have := HK2.out; omega
           case rel => exact ⟨(y299), (wrap64 (x18_1 + 1)), (zF), H', ⟨by have := HK1.out; have := HK2.out; omega⟩, ⟨zR HO_5⟩, ⟨zB HB⟩⟩
          ·
           rw [if_neg c23] at H
           exact absurd H (by simp)
         ·
          rw [if_neg c22] at H
          exact absurd H (by simp)
     ·
      rw [if_neg c8] at H
      have c8b0 : decide (x18_1 < (l0.length : Int)) = false := decide_eq_false c8
      clear c8
      replace H := zO H
      obtain ⟨t291, A280, H⟩ := H
      try dsimp only at H
      have A28 := zA A280
      clear A280
      obtain rfl := Option.some.inj H
      obtain ⟨Ao29, co29, eo29⟩ := Kd.zbq HO_5.out
      subst eo29
      go_wp2_with (first | (go_at_call 83; (with_reducible refine (zas.calls k1 (fun k_ => some k_ = (.slice Ao29 x5_1.length co29 : Value).ownBlock) (.slice Ao29 x5_1.length co29) x5_1 t291 w _ ?side1 ?side2 A28.out).mono ?_); (case side1 => repeat (first | (with_reducible first | exact HB.out | apply zbu | apply zbj | apply zbi) | exact HB.out)); (case side2 => exact Kd.zc7 rfl HO_5.out); rintro e w30 ⟨v292, rfl, ho0, hb, hkp⟩; have n0_ := zA (Kd.zbr (ok' := fun k_ => True) ho0 (fun k_ hk_ => trivial)); have n1_ := zA (hb); clear HB HO_5; have HO293 := n0_; have HB := n1_; clear n0_ n1_; (try clear hb); (try clear hkp); (try clear ho0)))
      repeat (go_quiet (first | (go_at_call 83; (with_reducible refine (zas.calls k1 (fun k_ => some k_ = (.slice Ao29 x5_1.length co29 : Value).ownBlock) (.slice Ao29 x5_1.length co29) x5_1 t291 w _ ?side1 ?side2 A28.out).mono ?_); (case side1 => repeat (first | (with_reducible first | exact HB.out | apply zbu | apply zbj | apply zbi) | exact HB.out)); (case side2 => exact Kd.zc7 rfl HO_5.out); rintro e w30 ⟨v292, rfl, ho0, hb, hkp⟩; have n0_ := zA (Kd.zbr (ok' := fun k_ => True) ho0 (fun k_ hk_ => trivial)); have n1_ := zA (hb); clear HB HO_5; have HO293 := n0_; have HB := n1_; clear n0_ n1_; (try clear hb); (try clear hkp); (try clear ho0))); try go_wp2_with (first | (go_at_call 83; (with_reducible refine (zas.calls k1 (fun k_ => some k_ = (.slice Ao29 x5_1.length co29 : Value).ownBlock) (.slice Ao29 x5_1.length co29) x5_1 t291 w _ ?side1 ?side2 A28.out).mono ?_); (case side1 => repeat (first | (with_reducible first | exact HB.out | apply zbu | apply zbj | apply zbi) | exact HB.out)); (case side2 => exact Kd.zc7 rfl HO_5.out); rintro e w30 ⟨v292, rfl, ho0, hb, hkp⟩; have n0_ := zA (Kd.zbr (ok' := fun k_ => True) ho0 (fun k_ hk_ => trivial)); have n1_ := zA (hb); clear HB HO_5; have HO293 := n0_; have HB := n1_; clear n0_ n1_; (try clear hb); (try clear hkp); (try clear ho0))))
      go_ret
      exact ⟨_, by first | rfl | (simp [zb3, zb2] <;> rfl) | (simp only [← hji3]; first | rfl | (simp [zb3, zb2] <;> rfl)) | (simp [*, zb3, zb2] <;> rfl), zR HO293, zB HB⟩
  ·
   rw [if_neg c5] at H
   exact absurd H (by simp)
 ·
  rw [if_neg c4] at H
  exact absurd H (by simp)
def zaz.l0 : Nat → List Int → List Int → Int → Option (Int)
 | 0, _, _, _ => none
 | k + 1, x0, x1, x5 => if x5 ≥ 0 then (if 0 ≤ x5 then (if x5 < (x0.length : Int) then (if x5 < (x1.length : Int) then (if (rd x0 x5) < (rd x1 x5) then (some (-1)) else (if (rd x0 x5) > (rd x1 x5) then (some 1) else (zaz.l0 k x0 x1 (wrap64 (x5 - 1))))) else (none)) else (none)) else (none)) else (some 0)
def zaz.f (k : Nat) (l0 : List Int) (l1 : List Int) : Option (Int) := if (l0.length : Int) = (l1.length : Int) then (zaz.l0 k l0 l1 (wrap64 ((l0.length : Int) - 1))) else (if (l0.length : Int) < (l1.length : Int) then (some (-1)) else (some 1))
theorem zaz.calls (k : Nat) (A0 : Option Addr) (c0 : Nat) (l0 : List Int) (A1 : Option Addr) (c1 : Nat) (l1 : List Int) (r : Int) (w : World) (hr0 : Kd.C (Kd.int .i64) w A0 l0.length l0) (hc0 : l0.length ≤ c0) (hr1 : Kd.C (Kd.int .i64) w A1 l1.length l1) (hc1 : l1.length ≤ c1) (h : zaz.f k l0 l1 = some r) :
  Calls Tryd.prog 18 #[.slice A0 l0.length c0, .slice A1 l1.length c1] w fun e w' => e = .returned (.int .i64 r) ∧ Drawn0 w w' := by
 have HR0 := zA hr0
 have HC0 := zA hc0
 clear hr0 hc0
 have HR1 := zA hr1
 have HC1 := zA hc1
 clear hr1 hc1
 have H : (if (l0.length : Int) = (l1.length : Int) then (zaz.l0 k l0 l1 (wrap64 ((l0.length : Int) - 1))) else (if (l0.length : Int) < (l1.length : Int) then (some (-1)) else (some 1))) = some r := h
 clear h
 by_cases c3 : (l0.length : Int) = (l1.length : Int)
 ·
  rw [if_pos c3] at H
  have c3b0 : ((l0.length : Int) == (l1.length : Int)) = true := beq_iff_eq.mpr c3
  have c3b1 : ((l0.length : Int) != (l1.length : Int)) = false := bne_eq_false_iff_eq.mpr c3
  have c3b2 : (l0.length == l1.length) = true := by first | simpa using c3 | (simp at c3 ⊢; omega)
  clear c3
  have H' := zA H
  clear H
  go_enter Tryd.func18, Tryd.ntmps18
  go_wp2
  repeat (go_quiet (fail); try go_wp2)
  go_loopg [5] k (fun kq v5 w' => ∃ (x5_1 : Int), v5 = .int .i64 x5_1 ∧ Aside0 (zaz.l0 kq l0 l1 x5_1 = some r) ∧ Aside0 (kq ≤ k) ∧ Drawn0 w w')
  case atStart => exact ⟨(wrap64 ((l0.length : Int) - 1)), (zF), H', ⟨Nat.le_refl _⟩, by repeat (first | exact Drawn0.refl _ | apply Drawn0.step)⟩
  case round =>
   clear H'
   try clear c1
   try clear p2
   try clear c3
   try clear c3b0
   try clear c3b1
   try clear c3b2
   obtain ⟨x5_1, rfl, HA, HK1, ⟨m1, rfl⟩⟩ := hrel
   cases gk with
   | zero => exact absurd HA.out (by simp [zaz.l0])
   | succ k1 =>
    have H := HA.out
    clear HA
    simp only [zaz.l0] at H
    by_cases c4 : x5_1 ≥ 0
    ·
     rw [if_pos c4] at H
     have c4b0 : decide (0 ≤ x5_1) = true := decide_eq_true c4
     clear c4
     by_cases c5 : 0 ≤ x5_1
     ·
      rw [if_pos c5] at H
      have c5b0 : decide (0 ≤ x5_1) = true := decide_eq_true c5
      clear c5
      by_cases c6 : x5_1 < (l0.length : Int)
      ·
       rw [if_pos c6] at H
       have c6b0 : decide (x5_1 < (l0.length : Int)) = true := decide_eq_true c6
       clear c6
       by_cases c7 : x5_1 < (l1.length : Int)
       ·
        rw [if_pos c7] at H
        have c7b0 : decide (x5_1 < (l1.length : Int)) = true := decide_eq_true c7
        clear c7
        by_cases c8 : (rd l0 x5_1) < (rd l1 x5_1)
        ·
         rw [if_pos c8] at H
         have c8b0 : decide ((rd l0 x5_1) < (rd l1 x5_1)) = true := decide_eq_true c8
         clear c8
         obtain rfl := Option.some.inj H
         have p313 : 0 ≤ (x5_1 : Int) := of_decide_eq_true (by first | (with_reducible assumption) | assumption)
         have q313 : x5_1 < (l0.length : Int) := of_decide_eq_true (by first | (with_reducible assumption) | assumption)
         obtain ⟨ad313, e313, hx313_0⟩ := Kd.at_int HR0.out x5_1 p313 q313
         cases e313
         replace p313 := eq_true p313
         replace q313 := eq_true q313
         have p314 : 0 ≤ (x5_1 : Int) := of_decide_eq_true (by first | (with_reducible assumption) | assumption)
         have q314 : x5_1 < (l1.length : Int) := of_decide_eq_true (by first | (with_reducible assumption) | assumption)
         obtain ⟨ad314, e314, hx314_0⟩ := Kd.at_int HR1.out x5_1 p314 q314
         cases e314
         replace p314 := eq_true p314
         replace q314 := eq_true q314
         go_wp2
         repeat (go_quiet (fail); try go_wp2)
         go_ret
         exact ⟨zF, by repeat (first | exact Drawn0.refl _ | apply Drawn0.step)⟩
        ·
         rw [if_neg c8] at H
         have c8b0 : decide ((rd l0 x5_1) < (rd l1 x5_1)) = false := decide_eq_false c8
         clear c8
         by_cases c9 : (rd l0 x5_1) > (rd l1 x5_1)
         ·
          rw [if_pos c9] at H
          have c9b0 : decide ((rd l1 x5_1) < (rd l0 x5_1)) = true := decide_eq_true c9
          clear c9
          obtain rfl := Option.some.inj H
          have p313 : 0 ≤ (x5_1 : Int) := of_decide_eq_true (by first | (with_reducible assumption) | assumption)
          have q313 : x5_1 < (l0.length : Int) := of_decide_eq_true (by first | (with_reducible assumption) | assumption)
          obtain ⟨ad313, e313, hx313_0⟩ := Kd.at_int HR0.out x5_1 p313 q313
          cases e313
          replace p313 := eq_true p313
          replace q313 := eq_true q313
          have p314 : 0 ≤ (x5_1 : Int) := of_decide_eq_true (by first | (with_reducible assumption) | assumption)
          have q314 : x5_1 < (l1.length : Int) := of_decide_eq_true (by first | (with_reducible assumption) | assumption)
          obtain ⟨ad314, e314, hx314_0⟩ := Kd.at_int HR1.out x5_1 p314 q314
          cases e314
          replace p314 := eq_true p314
          replace q314 := eq_true q314
          have p315 : 0 ≤ (x5_1 : Int) := of_decide_eq_true (by first | (with_reducible assumption) | assumption)
          have q315 : x5_1 < (l0.length : Int) := of_decide_eq_true (by first | (with_reducible assumption) | assumption)
          obtain ⟨ad315, e315, hx315_0⟩ := Kd.at_int HR0.out x5_1 p315 q315
          obtain rfl : ad313 = ad315 := (by injection e315)
          replace p315 := eq_true p315
          replace q315 := eq_true q315
          have p316 : 0 ≤ (x5_1 : Int) := of_decide_eq_true (by first | (with_reducible assumption) | assumption)
          have q316 : x5_1 < (l1.length : Int) := of_decide_eq_true (by first | (with_reducible assumption) | assumption)
          obtain ⟨ad316, e316, hx316_0⟩ := Kd.at_int HR1.out x5_1 p316 q316
          obtain rfl : ad314 = ad316 := (by injection e316)
          replace p316 := eq_true p316
          replace q316 := eq_true q316
          go_wp2
          repeat (go_quiet (fail); try go_wp2)
          go_ret
          exact ⟨zF, by repeat (first | exact Drawn0.refl _ | apply Drawn0.step)⟩
         ·
          rw [if_neg c9] at H
          have c9b0 : decide ((rd l1 x5_1) < (rd l0 x5_1)) = false := decide_eq_false c9
          clear c9
          have H' := zA H
          clear H
          have p313 : 0 ≤ (x5_1 : Int) := of_decide_eq_true (by first | (with_reducible assumption) | assumption)
          have q313 : x5_1 < (l0.length : Int) := of_decide_eq_true (by first | (with_reducible assumption) | assumption)
          obtain ⟨ad313, e313, hx313_0⟩ := Kd.at_int HR0.out x5_1 p313 q313
          cases e313
          replace p313 := eq_true p313
          replace q313 := eq_true q313
          have p314 : 0 ≤ (x5_1 : Int) := of_decide_eq_true (by first | (with_reducible assumption) | assumption)
          have q314 : x5_1 < (l1.length : Int) := of_decide_eq_true (by first | (with_reducible assumption) | assumption)
          obtain ⟨ad314, e314, hx314_0⟩ := Kd.at_int HR1.out x5_1 p314 q314
          cases e314
          replace p314 := eq_true p314
          replace q314 := eq_true q314
          have p315 : 0 ≤ (x5_1 : Int) := of_decide_eq_true (by first | (with_reducible assumption) | assumption)
          have q315 : x5_1 < (l0.length : Int) := of_decide_eq_true (by first | (with_reducible assumption) | assumption)
          obtain ⟨ad315, e315, hx315_0⟩ := Kd.at_int HR0.out x5_1 p315 q315
          obtain rfl : ad313 = ad315 := (by injection e315)
          replace p315 := eq_true p315
          replace q315 := eq_true q315
          have p316 : 0 ≤ (x5_1 : Int) := of_decide_eq_true (by first | (with_reducible assumption) | assumption)
          have q316 : x5_1 < (l1.length : Int) := of_decide_eq_true (by first | (with_reducible assumption) | assumption)
          obtain ⟨ad316, e316, hx316_0⟩ := Kd.at_int HR1.out x5_1 p316 q316
          obtain rfl : ad314 = ad316 := (by injection e316)
          replace p316 := eq_true p316
          replace q316 := eq_true q316
          go_wp2
          repeat (go_quiet (fail); try go_wp2)
          go_roundg k1
          case measure => have := HK1.out; omega
          case rel => exact ⟨(wrap64 (x5_1 - 1)), (zF), H', ⟨by have := HK1.out; omega⟩, by repeat (first | exact Drawn0.refl _ | apply Drawn0.step)⟩
       ·
        rw [if_neg c7] at H
        exact absurd H (by simp)
      ·
       rw [if_neg c6] at H
       exact absurd H (by simp)
     ·
      rw [if_neg c5] at H
      exact absurd H (by simp)
    ·
     rw [if_neg c4] at H
     have c4b0 : decide (0 ≤ x5_1) = false := decide_eq_false c4
     clear c4
     obtain rfl := Option.some.inj H
     go_wp2
     repeat (go_quiet (fail); try go_wp2)
     go_ret
     exact ⟨zF, by repeat (first | exact Drawn0.refl _ | apply Drawn0.step)⟩
 ·
  rw [if_neg c3] at H
  have c3b0 : ((l0.length : Int) == (l1.length : Int)) = false := beq_eq_false_iff_ne.mpr c3
  have c3b1 : ((l0.length : Int) != (l1.length : Int)) = true := bne_iff_ne.mpr c3
  have c3b2 : (l0.length == l1.length) = false := by first | simpa using c3 | (simp at c3 ⊢; omega)
  by_cases c10 : (l0.length : Int) < (l1.length : Int)
  ·
   rw [if_pos c10] at H
   have c10b0 : decide ((l0.length : Int) < (l1.length : Int)) = true := decide_eq_true c10
   have c10b1 : decide (l0.length < l1.length) = true := decide_eq_true (Int.ofNat_lt.mp c10)
   clear c10
   obtain rfl := Option.some.inj H
   go_enter Tryd.func18, Tryd.ntmps18
   go_wp2
   repeat (go_quiet (fail); try go_wp2)
   go_ret
   exact ⟨zF, by repeat (first | exact Drawn0.refl _ | apply Drawn0.step)⟩
  ·
   rw [if_neg c10] at H
   have c10b0 : decide ((l0.length : Int) < (l1.length : Int)) = false := decide_eq_false c10
   have c10b1 : decide (l0.length < l1.length) = false := decide_eq_false (fun h => c10 (Int.ofNat_lt.mpr h))
   clear c10
   obtain rfl := Option.some.inj H
   go_enter Tryd.func18, Tryd.ntmps18
   go_wp2
   repeat (go_quiet (fail); try go_wp2)
   go_ret
   exact ⟨zF, by repeat (first | exact Drawn0.refl _ | apply Drawn0.step)⟩
def zcb.f (l0 : List Int) (a1 : Int) : Option (Int) := if a1 < (l0.length : Int) then (if 0 ≤ a1 then (some (rd l0 a1)) else (none)) else (some 0)
theorem zcb.calls (A0 : Option Addr) (c0 : Nat) (l0 : List Int) (a1 : Int) (r : Int) (w : World) (hr0 : Kd.C (Kd.int .i64) w A0 l0.length l0) (hc0 : l0.length ≤ c0) (h : zcb.f l0 a1 = some r) :
  Calls Tryd.prog 82 #[.slice A0 l0.length c0, .int .i64 a1] w fun e w' => e = .returned (.int .i64 r) ∧ Drawn0 w w' := by
 have HR0 := zA hr0
 have HC0 := zA hc0
 clear hr0 hc0
 have H : (if a1 < (l0.length : Int) then (if 0 ≤ a1 then (some (rd l0 a1)) else (none)) else (some 0)) = some r := h
 clear h
 by_cases c3 : a1 < (l0.length : Int)
 ·
  rw [if_pos c3] at H
  have c3b0 : decide (a1 < (l0.length : Int)) = true := decide_eq_true c3
  clear c3
  by_cases c4 : 0 ≤ a1
  ·
   rw [if_pos c4] at H
   have c4b0 : decide (0 ≤ a1) = true := decide_eq_true c4
   clear c4
   obtain rfl := Option.some.inj H
   have p275 : 0 ≤ (a1 : Int) := of_decide_eq_true (by first | (with_reducible assumption) | assumption)
   have q275 : a1 < (l0.length : Int) := of_decide_eq_true (by first | (with_reducible assumption) | assumption)
   obtain ⟨ad275, e275, hx275_0⟩ := Kd.at_int HR0.out a1 p275 q275
   cases e275
   replace p275 := eq_true p275
   replace q275 := eq_true q275
   go_enter Tryd.func82, Tryd.ntmps82
   go_wp2
   go_ret
   exact ⟨zF, by repeat (first | exact Drawn0.refl _ | apply Drawn0.step)⟩
  ·
   rw [if_neg c4] at H
   exact absurd H (by simp)
 ·
  rw [if_neg c3] at H
  have c3b0 : decide (a1 < (l0.length : Int)) = false := decide_eq_false c3
  clear c3
  obtain rfl := Option.some.inj H
  go_enter Tryd.func82, Tryd.ntmps82
  go_wp2
  go_ret
  exact ⟨zF, by repeat (first | exact Drawn0.refl _ | apply Drawn0.step)⟩
def zb.l0 : Nat → List Int → List Int → List Int → Int → Int → Int → Option (List Int)
 | 0, _, _, _, _, _, _ => none
 | k + 1, x0, x1, x5, x6, x10, x11 => if x11 < x10 then (if 0 ≤ x11 then (if x11 < (x0.length : Int) then ((zcb.f x1 x11).bind fun t318 => (if (wrap64 ((wrap64 ((rd x0 x11) - t318)) - x6)) < 0 then (if x5.length < 17592186044416 then (zb.l0 k x0 x1 (x5 ++ [wrap64 ((wrap64 ((wrap64 ((rd x0 x11) - t318)) - x6)) + 10000)]) 1 x10 (wrap64 (x11 + 1))) else (none)) else (if x5.length < 17592186044416 then (zb.l0 k x0 x1 (x5 ++ [wrap64 ((wrap64 ((rd x0 x11) - t318)) - x6)]) 0 x10 (wrap64 (x11 + 1))) else (none)))) else (none)) else (none)) else ((zas.f k x5).bind fun t325 => (some t325))
def zb.f (k : Nat) (l0 : List Int) (l1 : List Int) : Option (List Int) := zb.l0 k l0 l1 ([] : List Int) 0 (l0.length : Int) 0
theorem zb.calls (k : Nat) (A0 : Option Addr) (c0 : Nat) (l0 : List Int) (A1 : Option Addr) (c1 : Nat) (l1 : List Int) (r : List Int) (w : World) (hr0 : Kd.C (Kd.int .i64) w A0 l0.length l0) (hc0 : l0.length ≤ c0) (hr1 : Kd.C (Kd.int .i64) w A1 l1.length l1) (hc1 : l1.length ≤ c1) (h : zb.f k l0 l1 = some r) :
  Calls Tryd.prog 66 #[.slice A0 l0.length c0, .slice A1 l1.length c1] w fun e w' => ∃ v0_ : Value, e = .returned (v0_) ∧ Kd.R (Kd.int .i64) 3 w' w.heap.size (fun _ => True) v0_ r ∧ Below w.heap.size w w' := by
 have HR0 := zA hr0
 have HC0 := zA hc0
 clear hr0 hc0
 have HR1 := zA hr1
 have HC1 := zA hc1
 clear hr1 hc1
 have HB := zA (Below.refl w.heap.size w)
 have H : (zb.l0 k l0 l1 ([] : List Int) 0 (l0.length : Int) 0) = some r := h
 clear h
 have H' := zA H
 clear H
 go_enter Tryd.func66, Tryd.ntmps66
 go_wp2
 repeat (go_quiet (fail); try go_wp2)
 go_loopg [5, 6, 11] k (fun kq v5 v6 v11 w' => ∃ (x5_1 : List Int) (x6_1 : Int) (x11_1 : Int), v6 = .int .i64 x6_1 ∧ v11 = .int .i64 x11_1 ∧ Aside0 (zb.l0 kq l0 l1 x5_1 x6_1 (l0.length : Int) x11_1 = some r) ∧ Aside0 (kq ≤ k) ∧ Aside0 (Kd.R (Kd.int .i64) 3 w' w.heap.size (fun _ => True) v5 x5_1) ∧ Aside0 (Below w.heap.size w w'))
 case atStart => exact ⟨(([] : List Int)), (0), (0), (zF), (zF), H', ⟨Nat.le_refl _⟩, ⟨by first | exact Kd.R_nil _ _ _ _ _ | exact Kd.N_nil _ _ _ _ _ | exact Kd.V_nil _ _ _ _ _ | exact Kd.Q_nil _ _ _ _ _ | exact Kd.S_nil _ _ _ _ _⟩, ⟨zB HB⟩⟩
 case round =>
  clear H'
  try clear c1
  try clear p2
  obtain ⟨x5_1, x6_1, x11_1, rfl, rfl, HA, HK1, HO_5, HB⟩ := hrel
  cases gk with
  | zero => exact absurd HA.out (by simp [zb.l0])
  | succ k1 =>
   have H := HA.out
   clear HA
   simp only [zb.l0] at H
   by_cases c3 : x11_1 < (l0.length : Int)
   ·
    rw [if_pos c3] at H
    have c3b0 : decide (x11_1 < (l0.length : Int)) = true := decide_eq_true c3
    clear c3
    by_cases c4 : 0 ≤ x11_1
    ·
     rw [if_pos c4] at H
     have c4b0 : decide (0 ≤ x11_1) = true := decide_eq_true c4
     clear c4
     by_cases c5 : x11_1 < (l0.length : Int)
     ·
      rw [if_pos c5] at H
      have c5b0 : decide (x11_1 < (l0.length : Int)) = true := decide_eq_true c5
      clear c5
      replace H := zO H
      obtain ⟨t318, A60, H⟩ := H
      try dsimp only at H
      have A6 := zA A60
      clear A60
      by_cases c7 : (wrap64 ((wrap64 ((rd l0 x11_1) - t318)) - x6_1)) < 0
      ·
       rw [if_pos c7] at H
       have c7b0 : decide ((wrap64 ((wrap64 ((rd l0 x11_1) - t318)) - x6_1)) < 0) = true := decide_eq_true c7
       clear c7
       by_cases c8 : x5_1.length < 17592186044416
       ·
        rw [if_pos c8] at H
        have LMc8 := zA c8
        clear c8
        obtain ⟨y319, hy319⟩ : ∃ y_ : List Int, y_ = (x5_1 ++ [wrap64 ((wrap64 ((wrap64 ((rd l0 x11_1) - t318)) - x6_1)) + 10000)]) := ⟨_, rfl⟩
        replace H : (zb.l0 k1 l0 l1 y319 1 (l0.length : Int) (wrap64 (x11_1 + 1))) = some r := by first | (rw [hy319]; with_reducible exact H) | (have H2_ := (Option.bind_some _ _).symm.trans H; rw [hy319]; with_reducible exact H2_) | (have H2_ := (Option.bind_some _ _).symm.trans H; with_reducible exact H2_) | with_reducible exact H | (rw [hy319]; exact H) | exact H
        have Ny319 := zA hy319
        clear hy319
        have H' := zA H
        clear H
        have p317 : 0 ≤ (x11_1 : Int) := of_decide_eq_true (by first | (with_reducible assumption) | assumption)
        have q317 : x11_1 < (l0.length : Int) := of_decide_eq_true (by first | (with_reducible assumption) | assumption)
        obtain ⟨ad317, e317, hx317_0⟩ := Kd.at_int HR0.out x11_1 p317 q317
        cases e317
        replace hx317_0 := (HB.out.cell (World.block_lt_of_cell? w _ hx317_0)).trans hx317_0
        replace p317 := eq_true p317
        replace q317 := eq_true q317
        go_wp2_with (first | (go_at_call 82; (with_reducible refine (zcb.calls _ _ l1 x11_1 t318 _ ?side1 ?side2 A6.out).mono ?_); (case side1 => exact zJ (Kd.za6 HR1.out HB.out)); (case side2 => exact HC1.out); rintro e w' ⟨rfl, ⟨nd, rfl⟩⟩; (try first | exact ⟨rfl, _, World.drewN_drewN _ _ _⟩ | exact ⟨rfl, _, Eq.trans (World.drewN_drewN _ _ _) (congrArg (World.drewN _) (Nat.add_assoc _ _ _))⟩)) | ((with_reducible refine zby (b := .append) (xs := #[.tmp 28, .tmp 30]) rfl ?_); at_builtin; refine Kd.zc0 (Kd.int .i64) (w0 := w) w.heap.size rfl (.tmp 28) (.tmp 30) 31 3 (.int .i64 0) 8 rfl Tryd.underlying31 info3 rfl (by decide) (by omega) u5 x5_1 (wrap64 ((wrap64 ((wrap64 ((rd l0 x11_1) - t318)) - x6_1)) + 10000)) [.int .i64 (wrap64 ((wrap64 ((wrap64 ((rd l0 x11_1) - t318)) - x6_1)) + 10000))] (fun _ => True) (fun _ => False) rfl rfl ?aP (fun _ hk => hk.elim) ?aF ?aO ?aB ?aS ?aL ?_; (case aP => exact rfl); (case aB => exact (zB HB)); (case aF => exact (fun _ _ => trivial)); (case aO => exact (zR HO_5)); (case aS => exact (za (zB HB))); (case aL => have := LMc8.out; omega); intro v320 w9 ho hb hg hat; rw [← Ny319.out] at ho; have n0_ := zA (hb); have n1_ := zA (ho); clear HB HO_5; have HB := n0_; have HO321 := n1_; clear n0_ n1_ ho hb hg hat))
        repeat (go_quiet (first | (go_at_call 82; (with_reducible refine (zcb.calls _ _ l1 x11_1 t318 _ ?side1 ?side2 A6.out).mono ?_); (case side1 => exact zJ (Kd.za6 HR1.out HB.out)); (case side2 => exact HC1.out); rintro e w' ⟨rfl, ⟨nd, rfl⟩⟩; (try first | exact ⟨rfl, _, World.drewN_drewN _ _ _⟩ | exact ⟨rfl, _, Eq.trans (World.drewN_drewN _ _ _) (congrArg (World.drewN _) (Nat.add_assoc _ _ _))⟩)) | ((with_reducible refine zby (b := .append) (xs := #[.tmp 28, .tmp 30]) rfl ?_); at_builtin; refine Kd.zc0 (Kd.int .i64) (w0 := w) w.heap.size rfl (.tmp 28) (.tmp 30) 31 3 (.int .i64 0) 8 rfl Tryd.underlying31 info3 rfl (by decide) (by omega) u5 x5_1 (wrap64 ((wrap64 ((wrap64 ((rd l0 x11_1) - t318)) - x6_1)) + 10000)) [.int .i64 (wrap64 ((wrap64 ((wrap64 ((rd l0 x11_1) - t318)) - x6_1)) + 10000))] (fun _ => True) (fun _ => False) rfl rfl ?aP (fun _ hk => hk.elim) ?aF ?aO ?aB ?aS ?aL ?_; (case aP => exact rfl); (case aB => exact (zB HB)); (case aF => exact (fun _ _ => trivial)); (case aO => exact (zR HO_5)); (case aS => exact (za (zB HB))); (case aL => have := LMc8.out; omega); intro v320 w9 ho hb hg hat; rw [← Ny319.out] at ho; have n0_ := zA (hb); have n1_ := zA (ho); clear HB HO_5; have HB := n0_; have HO321 := n1_; clear n0_ n1_ ho hb hg hat)); try go_wp2_with (first | (go_at_call 82; (with_reducible refine (zcb.calls _ _ l1 x11_1 t318 _ ?side1 ?side2 A6.out).mono ?_); (case side1 => exact zJ (Kd.za6 HR1.out HB.out)); (case side2 => exact HC1.out); rintro e w' ⟨rfl, ⟨nd, rfl⟩⟩; (try first | exact ⟨rfl, _, World.drewN_drewN _ _ _⟩ | exact ⟨rfl, _, Eq.trans (World.drewN_drewN _ _ _) (congrArg (World.drewN _) (Nat.add_assoc _ _ _))⟩)) | ((with_reducible refine zby (b := .append) (xs := #[.tmp 28, .tmp 30]) rfl ?_); at_builtin; refine Kd.zc0 (Kd.int .i64) (w0 := w) w.heap.size rfl (.tmp 28) (.tmp 30) 31 3 (.int .i64 0) 8 rfl Tryd.underlying31 info3 rfl (by decide) (by omega) u5 x5_1 (wrap64 ((wrap64 ((wrap64 ((rd l0 x11_1) - t318)) - x6_1)) + 10000)) [.int .i64 (wrap64 ((wrap64 ((wrap64 ((rd l0 x11_1) - t318)) - x6_1)) + 10000))] (fun _ => True) (fun _ => False) rfl rfl ?aP (fun _ hk => hk.elim) ?aF ?aO ?aB ?aS ?aL ?_; (case aP => exact rfl); (case aB => exact (zB HB)); (case aF => exact (fun _ _ => trivial)); (case aO => exact (zR HO_5)); (case aS => exact (za (zB HB))); (case aL => have := LMc8.out; omega); intro v320 w9 ho hb hg hat; rw [← Ny319.out] at ho; have n0_ := zA (hb); have n1_ := zA (ho); clear HB HO_5; have HB := n0_; have HO321 := n1_; clear n0_ n1_ ho hb hg hat)))
        go_roundg k1
        case measure => have := HK1.out; omega
        case rel => exact ⟨(y319), (1), (wrap64 (x11_1 + 1)), (zF), (zF), H', ⟨by have := HK1.out; omega⟩, ⟨zR HO321⟩, ⟨zB HB⟩⟩
       ·
        rw [if_neg c8] at H
        exact absurd H (by simp)
      ·
       rw [if_neg c7] at H
       have c7b0 : decide ((wrap64 ((wrap64 ((rd l0 x11_1) - t318)) - x6_1)) < 0) = false := decide_eq_false c7
       clear c7
       by_cases c10 : x5_1.length < 17592186044416
       ·
        rw [if_pos c10] at H
        have LMc10 := zA c10
        clear c10
        obtain ⟨y322, hy322⟩ : ∃ y_ : List Int, y_ = (x5_1 ++ [wrap64 ((wrap64 ((rd l0 x11_1) - t318)) - x6_1)]) := ⟨_, rfl⟩
        replace H : (zb.l0 k1 l0 l1 y322 0 (l0.length : Int) (wrap64 (x11_1 + 1))) = some r := by first | (rw [hy322]; with_reducible exact H) | (have H2_ := (Option.bind_some _ _).symm.trans H; rw [hy322]; with_reducible exact H2_) | (have H2_ := (Option.bind_some _ _).symm.trans H; with_reducible exact H2_) | with_reducible exact H | (rw [hy322]; exact H) | exact H
        have Ny322 := zA hy322
        clear hy322
        have H' := zA H
        clear H
        have p317 : 0 ≤ (x11_1 : Int) := of_decide_eq_true (by first | (with_reducible assumption) | assumption)
        have q317 : x11_1 < (l0.length : Int) := of_decide_eq_true (by first | (with_reducible assumption) | assumption)
        obtain ⟨ad317, e317, hx317_0⟩ := Kd.at_int HR0.out x11_1 p317 q317
        cases e317
        replace hx317_0 := (HB.out.cell (World.block_lt_of_cell? w _ hx317_0)).trans hx317_0
        replace p317 := eq_true p317
        replace q317 := eq_true q317
        go_wp2_with (first | (go_at_call 82; (with_reducible refine (zcb.calls _ _ l1 x11_1 t318 _ ?side1 ?side2 A6.out).mono ?_); (case side1 => exact zJ (Kd.za6 HR1.out HB.out)); (case side2 => exact HC1.out); rintro e w' ⟨rfl, ⟨nd, rfl⟩⟩; (try first | exact ⟨rfl, _, World.drewN_drewN _ _ _⟩ | exact ⟨rfl, _, Eq.trans (World.drewN_drewN _ _ _) (congrArg (World.drewN _) (Nat.add_assoc _ _ _))⟩)) | ((with_reducible refine zby (b := .append) (xs := #[.tmp 28, .tmp 30]) rfl ?_); at_builtin; refine Kd.zc0 (Kd.int .i64) (w0 := w) w.heap.size rfl (.tmp 28) (.tmp 30) 31 3 (.int .i64 0) 8 rfl Tryd.underlying31 info3 rfl (by decide) (by omega) u5 x5_1 (wrap64 ((wrap64 ((rd l0 x11_1) - t318)) - x6_1)) [.int .i64 (wrap64 ((wrap64 ((rd l0 x11_1) - t318)) - x6_1))] (fun _ => True) (fun _ => False) rfl rfl ?aP (fun _ hk => hk.elim) ?aF ?aO ?aB ?aS ?aL ?_; (case aP => exact rfl); (case aB => exact (zB HB)); (case aF => exact (fun _ _ => trivial)); (case aO => exact (zR HO_5)); (case aS => exact (za (zB HB))); (case aL => have := LMc10.out; omega); intro v323 w11 ho hb hg hat; rw [← Ny322.out] at ho; have n0_ := zA (hb); have n1_ := zA (ho); clear HB HO_5; have HB := n0_; have HO324 := n1_; clear n0_ n1_ ho hb hg hat))
        repeat (go_quiet (first | (go_at_call 82; (with_reducible refine (zcb.calls _ _ l1 x11_1 t318 _ ?side1 ?side2 A6.out).mono ?_); (case side1 => exact zJ (Kd.za6 HR1.out HB.out)); (case side2 => exact HC1.out); rintro e w' ⟨rfl, ⟨nd, rfl⟩⟩; (try first | exact ⟨rfl, _, World.drewN_drewN _ _ _⟩ | exact ⟨rfl, _, Eq.trans (World.drewN_drewN _ _ _) (congrArg (World.drewN _) (Nat.add_assoc _ _ _))⟩)) | ((with_reducible refine zby (b := .append) (xs := #[.tmp 28, .tmp 30]) rfl ?_); at_builtin; refine Kd.zc0 (Kd.int .i64) (w0 := w) w.heap.size rfl (.tmp 28) (.tmp 30) 31 3 (.int .i64 0) 8 rfl Tryd.underlying31 info3 rfl (by decide) (by omega) u5 x5_1 (wrap64 ((wrap64 ((rd l0 x11_1) - t318)) - x6_1)) [.int .i64 (wrap64 ((wrap64 ((rd l0 x11_1) - t318)) - x6_1))] (fun _ => True) (fun _ => False) rfl rfl ?aP (fun _ hk => hk.elim) ?aF ?aO ?aB ?aS ?aL ?_; (case aP => exact rfl); (case aB => exact (zB HB)); (case aF => exact (fun _ _ => trivial)); (case aO => exact (zR HO_5)); (case aS => exact (za (zB HB))); (case aL => have := LMc10.out; omega); intro v323 w11 ho hb hg hat; rw [← Ny322.out] at ho; have n0_ := zA (hb); have n1_ := zA (ho); clear HB HO_5; have HB := n0_; have HO324 := n1_; clear n0_ n1_ ho hb hg hat)); try go_wp2_with (first | (go_at_call 82; (with_reducible refine (zcb.calls _ _ l1 x11_1 t318 _ ?side1 ?side2 A6.out).mono ?_); (case side1 => exact zJ (Kd.za6 HR1.out HB.out)); (case side2 => exact HC1.out); rintro e w' ⟨rfl, ⟨nd, rfl⟩⟩; (try first | exact ⟨rfl, _, World.drewN_drewN _ _ _⟩ | exact ⟨rfl, _, Eq.trans (World.drewN_drewN _ _ _) (congrArg (World.drewN _) (Nat.add_assoc _ _ _))⟩)) | ((with_reducible refine zby (b := .append) (xs := #[.tmp 28, .tmp 30]) rfl ?_); at_builtin; refine Kd.zc0 (Kd.int .i64) (w0 := w) w.heap.size rfl (.tmp 28) (.tmp 30) 31 3 (.int .i64 0) 8 rfl Tryd.underlying31 info3 rfl (by decide) (by omega) u5 x5_1 (wrap64 ((wrap64 ((rd l0 x11_1) - t318)) - x6_1)) [.int .i64 (wrap64 ((wrap64 ((rd l0 x11_1) - t318)) - x6_1))] (fun _ => True) (fun _ => False) rfl rfl ?aP (fun _ hk => hk.elim) ?aF ?aO ?aB ?aS ?aL ?_; (case aP => exact rfl); (case aB => exact (zB HB)); (case aF => exact (fun _ _ => trivial)); (case aO => exact (zR HO_5)); (case aS => exact (za (zB HB))); (case aL => have := LMc10.out; omega); intro v323 w11 ho hb hg hat; rw [← Ny322.out] at ho; have n0_ := zA (hb); have n1_ := zA (ho); clear HB HO_5; have HB := n0_; have HO324 := n1_; clear n0_ n1_ ho hb hg hat)))
        go_roundg k1
        case measure => have := HK1.out; omega
        case rel => exact ⟨(y322), (0), (wrap64 (x11_1 + 1)), (zF), (zF), H', ⟨by have := HK1.out; omega⟩, ⟨zR HO324⟩, ⟨zB HB⟩⟩
       ·
        rw [if_neg c10] at H
        exact absurd H (by simp)
     ·
      rw [if_neg c5] at H
      exact absurd H (by simp)
    ·
     rw [if_neg c4] at H
     exact absurd H (by simp)
   ·
    rw [if_neg c3] at H
    have c3b0 : decide (x11_1 < (l0.length : Int)) = false := decide_eq_false c3
    clear c3
    replace H := zO H
    obtain ⟨t325, A120, H⟩ := H
    try dsimp only at H
    have A12 := zA A120
    clear A120
    obtain rfl := Option.some.inj H
    obtain ⟨Ao13, co13, eo13⟩ := Kd.zbq HO_5.out
    subst eo13
    go_wp2_with (first | (go_at_call 83; (with_reducible refine (zas.calls k1 (fun k_ => some k_ = (.slice Ao13 x5_1.length co13 : Value).ownBlock) (.slice Ao13 x5_1.length co13) x5_1 t325 w _ ?side1 ?side2 A12.out).mono ?_); (case side1 => repeat (first | (with_reducible first | exact HB.out | apply zbu | apply zbj | apply zbi) | exact HB.out)); (case side2 => exact Kd.zc7 rfl HO_5.out); rintro e w14 ⟨v326, rfl, ho0, hb, hkp⟩; have n0_ := zA (Kd.zbr (ok' := fun k_ => True) ho0 (fun k_ hk_ => trivial)); have n1_ := zA (hb); clear HB HO_5; have HO327 := n0_; have HB := n1_; clear n0_ n1_; (try clear hb); (try clear hkp); (try clear ho0)))
    repeat (go_quiet (first | (go_at_call 83; (with_reducible refine (zas.calls k1 (fun k_ => some k_ = (.slice Ao13 x5_1.length co13 : Value).ownBlock) (.slice Ao13 x5_1.length co13) x5_1 t325 w _ ?side1 ?side2 A12.out).mono ?_); (case side1 => repeat (first | (with_reducible first | exact HB.out | apply zbu | apply zbj | apply zbi) | exact HB.out)); (case side2 => exact Kd.zc7 rfl HO_5.out); rintro e w14 ⟨v326, rfl, ho0, hb, hkp⟩; have n0_ := zA (Kd.zbr (ok' := fun k_ => True) ho0 (fun k_ hk_ => trivial)); have n1_ := zA (hb); clear HB HO_5; have HO327 := n0_; have HB := n1_; clear n0_ n1_; (try clear hb); (try clear hkp); (try clear ho0))); try go_wp2_with (first | (go_at_call 83; (with_reducible refine (zas.calls k1 (fun k_ => some k_ = (.slice Ao13 x5_1.length co13 : Value).ownBlock) (.slice Ao13 x5_1.length co13) x5_1 t325 w _ ?side1 ?side2 A12.out).mono ?_); (case side1 => repeat (first | (with_reducible first | exact HB.out | apply zbu | apply zbj | apply zbi) | exact HB.out)); (case side2 => exact Kd.zc7 rfl HO_5.out); rintro e w14 ⟨v326, rfl, ho0, hb, hkp⟩; have n0_ := zA (Kd.zbr (ok' := fun k_ => True) ho0 (fun k_ hk_ => trivial)); have n1_ := zA (hb); clear HB HO_5; have HO327 := n0_; have HB := n1_; clear n0_ n1_; (try clear hb); (try clear hkp); (try clear ho0))))
    go_ret
    exact ⟨_, zW, zR HO327, zB HB⟩
end Go.Proofs.YtfjkamhcabckeaaDoor.P
end
