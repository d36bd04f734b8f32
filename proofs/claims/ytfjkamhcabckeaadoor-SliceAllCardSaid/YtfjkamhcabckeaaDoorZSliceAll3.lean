-- Written by a program of this session (wip/tools/shake.py) out of its own texts and of the kit's printed ones; not trusted: Lean checks it.
import Derived.Test.YtfjkamhcabckeaaDoorZSliceAll2
set_option maxHeartbeats 8000000
set_option maxRecDepth 100000
set_option linter.unusedVariables false
set_option linter.unusedSimpArgs false
section
namespace Go.Proofs.YtfjkamhcabckeaaDoor.P
open Go.RowKit Go.Proofs.YtfjkamhcabckeaaDoorW.PrintWords Go.Proofs.YtfjkamhcabckeaaDoorW.PrintLast Go.Proofs.YtfjkamhcabckeaaDoorW.PrintMore
attribute [local go_sem] zdm zdh max_two min_two zc8 zc9 zdg zdi
mutual
def zao.l0 : Nat → List Int → List Int → List Int → List Int → Int → Option (List Int × List Int)
 | 0, _, _, _, _, _ => none
 | k + 1, x0, x1, x6, x7, x8 => if x8 ≥ 0 then (if 0 ≤ x8 then (if x8 < (x0.length : Int) then ((some (([rd x0 x8] : List Int) : List Int)).bind fun y335 => (if y335.length + x7.length < 17592186044416 then ((zas.f k (y335 ++ x7)).bind fun t341 => (zao.l1 k x0 x1 x6 t341 x8 0 9999)) else (none))) else (none)) else (none)) else ((zas.f k x6).bind fun t331 => (some (t331, x7)))
def zao.l1 : Nat → List Int → List Int → List Int → List Int → Int → Int → Int → Option (List Int × List Int)
 | 0, _, _, _, _, _, _, _ => none
 | k + 1, x0, x1, x6, x7, x8, x9, x10 => if x9 < x10 then ((zaw.f k (wrap64 (Int.tdiv (wrap64 ((wrap64 (x9 + x10)) + 1)) 2))).bind fun t354 => ((zam.f k x1 t354).bind fun t357 => ((zaz.f k t357 x7).bind fun t360 => (if t360 ≤ 0 then (zao.l1 k x0 x1 x6 x7 x8 (wrap64 (Int.tdiv (wrap64 ((wrap64 (x9 + x10)) + 1)) 2)) x10) else (zao.l1 k x0 x1 x6 x7 x8 x9 (wrap64 ((wrap64 (Int.tdiv (wrap64 ((wrap64 (x9 + x10)) + 1)) 2)) - 1))))))) else (if 0 ≤ x8 then (if x8 < (x6.length : Int) then ((zaw.f k x9).bind fun t345 => ((zam.f k x1 t345).bind fun t348 => ((zb.f k x7 t348).bind fun t351 => (zao.l0 k x0 x1 (x6.set (x8 : Int).toNat x9) t351 (wrap64 (x8 - 1)))))) else (none)) else (none))
end
def zao.f (k : Nat) (l0 : List Int) (l1 : List Int) : Option (List Int × List Int) := if 0 ≤ (l0.length : Int) then (if ((l0.length : Int) : Int).toNat ≤ 35184372088832 then (zao.l0 k l0 l1 (List.replicate ((l0.length : Int) : Int).toNat 0) ([] : List Int) (wrap64 ((l0.length : Int) - 1))) else (none)) else (none)
theorem zao.calls (k : Nat) (A0 : Option Addr) (c0 : Nat) (l0 : List Int) (A1 : Option Addr) (c1 : Nat) (l1 : List Int) (r1 : List Int) (r2 : List Int) (w : World) (hr0 : Kd.C (Kd.int .i64) w A0 l0.length l0) (hc0 : l0.length ≤ c0) (hr1 : Kd.C (Kd.int .i64) w A1 l1.length l1) (hc1 : l1.length ≤ c1) (h : zao.f k l0 l1 = some (r1, r2)) :
  Calls Tryd.prog 57 #[.slice A0 l0.length c0, .slice A1 l1.length c1] w fun e w' => ∃ v0_ v1_ : Value, e = .returned (.tuple #[v0_, v1_]) ∧ Kd.R (Kd.int .i64) 3 w' w.heap.size (fun k_ => some k_ ≠ (v1_ : Value).ownBlock) v0_ r1 ∧ Kd.R (Kd.int .i64) 3 w' w.heap.size (fun k_ => some k_ ≠ (v0_ : Value).ownBlock) v1_ r2 ∧ Below w.heap.size w w' := by
 have HR0 := zA hr0
 have HC0 := zA hc0
 clear hr0 hc0
 have HR1 := zA hr1
 have HC1 := zA hc1
 clear hr1 hc1
 have HB := zA (Below.refl w.heap.size w)
 have H : (if 0 ≤ (l0.length : Int) then (if ((l0.length : Int) : Int).toNat ≤ 35184372088832 then (zao.l0 k l0 l1 (List.replicate ((l0.length : Int) : Int).toNat 0) ([] : List Int) (wrap64 ((l0.length : Int) - 1))) else (none)) else (none)) = some (r1, r2) := h
 clear h
 by_cases c3 : 0 ≤ (l0.length : Int)
 ·
  rw [if_pos c3] at H
  have c3b0 := eq_true c3
  have c3b1 : decide (0 ≤ (l0.length : Int)) = true := decide_eq_true c3
  clear c3
  by_cases c4 : ((l0.length : Int) : Int).toNat ≤ 35184372088832
  ·
   rw [if_pos c4] at H
   have c4b0 := eq_true c4
   have c4b1 : decide (((l0.length : Int) : Int).toNat ≤ 35184372088832) = true := decide_eq_true c4
   clear c4
   obtain ⟨y328, hy328⟩ : ∃ y_ : List Int, y_ = (List.replicate ((l0.length : Int) : Int).toNat 0) := ⟨_, rfl⟩
   replace H : (zao.l0 k l0 l1 y328 ([] : List Int) (wrap64 ((l0.length : Int) - 1))) = some (r1, r2) := by first | (rw [hy328]; with_reducible exact H) | (have H2_ := (Option.bind_some _ _).symm.trans H; rw [hy328]; with_reducible exact H2_) | (have H2_ := (Option.bind_some _ _).symm.trans H; with_reducible exact H2_) | with_reducible exact H | (rw [hy328]; exact H) | exact H
   have Ny328 := zA hy328
   clear hy328
   have H' := zA H
   clear H
   go_enter Tryd.func57, Tryd.ntmps57
   go_wp2_with (first | ((with_reducible refine zbe (N := 14) rfl ?_); refine Kd.R_make (Kd.int .i64) _ 3 rfl (N := 14) rfl 31 _ _ rfl (l0.length : Int) rfl rfl Tryd.underlying31 (.int .i64 0) 8 info3 rfl (by decide) (by omega) 0 (ok := fun _ => True) (okp := fun _ => True) rfl (fun _ hk => hk) trivial (of_decide_eq_true (by first | (with_reducible assumption) | assumption)) (Nat.le_trans (Nat.mul_le_mul_right _ (of_decide_eq_true (by first | (with_reducible assumption) | assumption) : (l0.length : Int).toNat ≤ 35184372088832)) (by omega)) (Below.refl _ _) (Nat.le_refl _) ?_; intro v329 w5 ho6 hb hg_ hnew_; clear hg_ hnew_; (first | rw [← Ny328.out] at ho6 | (simp only [Int.reduceToNat] at ho6; rw [← Ny328.out] at ho6)); have n0_ := zA (Kd.zbw ho6 (za (zB HB))); have n1_ := zA (zac (zB HB) hb); clear HB; have HO330 := n0_; have HB := n1_; clear n0_ n1_ hb ho6))
   go_loopg [7, 8] k (fun kq v7 v8 w' => ∃ (x6_1 : List Int) (x7_1 : List Int) (x8_1 : Int), v8 = .int .i64 x8_1 ∧ Aside0 (zao.l0 kq l0 l1 x6_1 x7_1 x8_1 = some (r1, r2)) ∧ Aside0 (kq ≤ k) ∧ Aside0 (Kd.R (Kd.int .i64) 3 w' w.heap.size (fun k_ => some k_ ≠ (v7 : Value).ownBlock) v329 x6_1) ∧ Aside0 (Kd.R (Kd.int .i64) 3 w' w.heap.size (fun k_ => some k_ ≠ (v329 : Value).ownBlock) v7 x7_1) ∧ Aside0 (Below w.heap.size w w'))
   case atStart => exact ⟨(y328), (([] : List Int)), (wrap64 ((l0.length : Int) - 1)), (zF), H', ⟨Nat.le_refl _⟩, ⟨by (with_reducible repeat (first | apply Kd.zb5 | apply Kd.zb6 | apply Kd.zcg)); exact Kd.zbr HO330.out (fun _ hk => (by simp [Value.ownBlock]))⟩, ⟨by first | exact Kd.R_nil _ _ _ _ _ | exact Kd.N_nil _ _ _ _ _ | exact Kd.V_nil _ _ _ _ _ | exact Kd.Q_nil _ _ _ _ _ | exact Kd.S_nil _ _ _ _ _⟩, ⟨zB HB⟩⟩
   case round =>
    clear H'
    try clear c1
    try clear p2
    try clear c3
    try clear c3b0
    try clear c3b1
    try clear c4
    try clear c4b0
    try clear c4b1
    try clear c5
    try clear p6
    obtain ⟨x6_1, x7_1, x8_1, rfl, HA, HK1, HO_6, HO_7, HB⟩ := hrel
    cases gk with
    | zero => exact absurd HA.out (by simp [zao.l0])
    | succ k1 =>
     have H := HA.out
     clear HA
     simp only [zao.l0] at H
     by_cases c7 : x8_1 ≥ 0
     ·
      rw [if_pos c7] at H
      have c7b0 : decide (0 ≤ x8_1) = true := decide_eq_true c7
      clear c7
      by_cases c8 : 0 ≤ x8_1
      ·
       rw [if_pos c8] at H
       have c8b0 : decide (0 ≤ x8_1) = true := decide_eq_true c8
       clear c8
       by_cases c9 : x8_1 < (l0.length : Int)
       ·
        rw [if_pos c9] at H
        have c9b0 : decide (x8_1 < (l0.length : Int)) = true := decide_eq_true c9
        clear c9
        obtain ⟨y335, hy335⟩ : ∃ y_ : List Int, y_ = (([rd l0 x8_1] : List Int)) := ⟨_, rfl⟩
        replace H : (if y335.length + x7_1.length < 17592186044416 then ((zas.f k1 (y335 ++ x7_1)).bind fun t341 => (zao.l1 k1 l0 l1 x6_1 t341 x8_1 0 9999)) else (none)) = some (r1, r2) := by first | (rw [hy335]; with_reducible exact H) | (have H2_ := (Option.bind_some _ _).symm.trans H; rw [hy335]; with_reducible exact H2_) | (have H2_ := (Option.bind_some _ _).symm.trans H; with_reducible exact H2_) | with_reducible exact H | (rw [hy335]; exact H) | exact H
        have Ny335 := zA hy335
        clear hy335
        by_cases c10 : y335.length + x7_1.length < 17592186044416
        ·
         rw [if_pos c10] at H
         have LMc10 := zA c10
         clear c10
         obtain ⟨y338, hy338⟩ : ∃ y_ : List Int, y_ = (y335 ++ x7_1) := ⟨_, rfl⟩
         replace H : ((zas.f k1 y338).bind fun t341 => (zao.l1 k1 l0 l1 x6_1 t341 x8_1 0 9999)) = some (r1, r2) := by first | (rw [hy338]; with_reducible exact H) | (have H2_ := (Option.bind_some _ _).symm.trans H; rw [hy338]; with_reducible exact H2_) | (have H2_ := (Option.bind_some _ _).symm.trans H; with_reducible exact H2_) | with_reducible exact H | (rw [hy338]; exact H) | exact H
         have Ny338 := zA hy338
         clear hy338
         replace H := zO H
         obtain ⟨t341, A110, H⟩ := H
         try dsimp only at H
         have A11 := zA A110
         clear A110
         have H' := zA H
         clear H
         have p334 : 0 ≤ (x8_1 : Int) := of_decide_eq_true (by first | (with_reducible assumption) | assumption)
         have q334 : x8_1 < (l0.length : Int) := of_decide_eq_true (by first | (with_reducible assumption) | assumption)
         obtain ⟨ad334, e334, hx334_0⟩ := Kd.at_int HR0.out x8_1 p334 q334
         cases e334
         replace hx334_0 := (HB.out.cell (World.block_lt_of_cell? w _ hx334_0)).trans hx334_0
         replace p334 := eq_true p334
         replace q334 := eq_true q334
         go_wp2_with (first | ((with_reducible refine zbe (N := 26) rfl ?_); refine Kd.R_lit (Kd.int .i64) _ 3 ?hg (N := 26) ?hd (xs := ([rd l0 x8_1] : List Int)) (inner := [.int .i64 (rd l0 x8_1)]) (ok := fun _ => True) (okp := fun _ => True) ?hr ?hp (fun _ hk => hk) trivial (Below.refl _ _) (Nat.le_refl _) (by simp) ?_; (case hd => rfl); (case hg => rfl); (case hr => first | (go_simp; done) | (go_simp; rfl)); (case hp => exact (Reps.one (show Kd.M (Kd.int .i64) _ _ _ (rd l0 x8_1) [.int .i64 (rd l0 x8_1)] from rfl) (Reps.none _ _))); intro v336 w12 ho13 hb hg_ hnew_; clear hg_ hnew_; (first | rw [← Ny335.out] at ho13 | (simp only [Int.reduceToNat] at ho13; rw [← Ny335.out] at ho13)); have n0_ := zA (Kd.zbv (zR HO_6) (Kd.zbk ho13) hb); have n1_ := zA (Kd.zbv (zR HO_7) (Kd.zbk ho13) hb); have n2_ := zA (Kd.zbw (Kd.zcc (Kd.zcc ho13 (Kd.R_lt (zR HO_6))) (Kd.R_lt (zR HO_7))) (za (zB HB))); have n3_ := zA (zac (zB HB) hb); clear HO_6 HO_7 HB; have HO_6 := n0_; have HO_7 := n1_; have HO337 := n2_; have HB := n3_; clear n0_ n1_ n2_ n3_ hb ho13; obtain ⟨Ao15, co15, eo15⟩ := Kd.zbq HO_7.out; subst eo15) | ((with_reducible refine zby (b := .append) (xs := #[.tmp 26, .tmp 27]) rfl ?_); at_builtin; refine Kd.R_append_rows (Kd.int .i64) (w0 := w) w.heap.size rfl (.tmp 26) (.tmp 27) 31 3 (.int .i64 0) 8 rfl Tryd.underlying31 info3 rfl (by decide) (by omega) v336 y335 x7_1 _ _ _ (fun k_ => some k_ ≠ (v329 : Value).ownBlock ∧ some k_ ≠ (.slice Ao15 x7_1.length co15 : Value).ownBlock) (fun _ => False) rfl rfl ?aO ?aR (fun _ _ h => h) (fun _ h => h.elim) ?aF ?aB ?aS ?aL ?_; (case aR => exact zJ (Kd.zay HO_7.out).2.2); (case aB => exact (zB HB)); (case aF => exact (fun k_ hk => ⟨Kd.fresh' (Kd.R_lt (zR HO_6)) k_ hk, Kd.fresh' (Kd.R_lt (zR HO_7)) k_ hk⟩)); (case aO => exact (by (with_reducible repeat (first | apply Kd.zb5 | apply Kd.zb6 | apply Kd.zcg)); exact Kd.zbr HO337.out (fun _ hk => ⟨hk.1.2, hk.2⟩))); (case aS => exact (za (zB HB))); (case aL => have := LMc10.out; omega); intro v339 w14 ho hb hg hat; rw [← Ny338.out] at ho; have n0_ := zA (Kd.R_after (ok := (fun k_ => some k_ ≠ (.slice Ao15 x7_1.length co15 : Value).ownBlock)) (zR HO_6) hg hat); have n1_ := zA (Kd.R_after (ok := (fun k_ => some k_ ≠ (v329 : Value).ownBlock)) (zR HO_7) hg hat); have n2_ := zA (hb); have n3_ := zA (ho); clear HO_6 HO_7 HB HO337; have HO_6 := n0_; have HO_7 := n1_; have HB := n2_; have HO340 := n3_; clear n0_ n1_ n2_ n3_ ho hb hg hat; obtain ⟨Ao16, co16, eo16⟩ := Kd.zbq HO340.out; subst eo16) | ((with_reducible refine zae (f := 83) rfl ?_); refine za4 (some 29) rfl rfl Tryd.func83 (by kernel_rfl) rfl #[.slice Ao16 y338.length co16] rfl (zE) ?_; (with_reducible refine (zas.calls k1 (fun k_ => some k_ = (.slice Ao16 y338.length co16 : Value).ownBlock) (.slice Ao16 y338.length co16) y338 t341 w _ ?side1 ?side2 A11.out).mono ?_); (case side1 => repeat (first | (with_reducible first | exact HB.out | apply zbu | apply zbj | apply zbi) | exact HB.out)); (case side2 => exact Kd.zc7 rfl HO340.out); rintro e w17 ⟨v342, rfl, ho0, hb, hkp⟩; refine ⟨_, rfl, ?_⟩; have n0_ := zA (Kd.zbr (ok' := fun k_ => some k_ ≠ (.slice Ao15 x7_1.length co15 : Value).ownBlock ∧ some k_ ≠ (v342 : Value).ownBlock) (Kd.R_keptB (HO_6.out) hkp (fun k_ hk_ hs_ => (hk_.2) hs_)) (fun k_ hk_ => ⟨hk_.1.1, fun e_ => Or.elim (ho0.1 k_ e_.symm) (fun hs_ => hk_.2.1 hs_) (fun hn_ => Nat.not_le.2 hk_.2.2 hn_)⟩)); have n1_ := zA (Kd.zbr (ok' := fun k_ => some k_ ≠ (v329 : Value).ownBlock ∧ some k_ ≠ (v342 : Value).ownBlock) (Kd.R_keptB (HO_7.out) hkp (fun k_ hk_ hs_ => (hk_.2) hs_)) (fun k_ hk_ => ⟨hk_.1.1, fun e_ => Or.elim (ho0.1 k_ e_.symm) (fun hs_ => hk_.2.1 hs_) (fun hn_ => Nat.not_le.2 hk_.2.2 hn_)⟩)); have n2_ := zA (Kd.zbr (ok' := fun k_ => some k_ ≠ (v329 : Value).ownBlock ∧ some k_ ≠ (.slice Ao15 x7_1.length co15 : Value).ownBlock) ho0 (fun k_ hk_ => ⟨Or.elim hk_ (fun hs_ => fun e_ => (((HO_6.out).1 k_ e_.symm).2) hs_) (fun hn_ => (Kd.fresh' (Kd.R_lt (zR HO_6)) k_ hn_)), Or.elim hk_ (fun hs_ => fun e_ => (((HO_7.out).1 k_ e_.symm).2) hs_) (fun hn_ => (Kd.fresh' (Kd.R_lt (zR HO_7)) k_ hn_))⟩)); have n3_ := zA (hb); clear HO_6 HO_7 HB HO340; have HO_6 := n0_; have HO_7 := n1_; have HO343 := n2_; have HB := n3_; clear n0_ n1_ n2_ n3_; (try clear hb); (try clear hkp); (try clear ho0)))
         go_loopg [9, 10] k1 (fun kq v9 v10 w' => ∃ (x9_2 : Int) (x10_2 : Int), v9 = .int .i64 x9_2 ∧ v10 = .int .i64 x10_2 ∧ Aside0 (zao.l1 kq l0 l1 x6_1 t341 x8_1 x9_2 x10_2 = some (r1, r2)) ∧ Aside0 (kq ≤ k1) ∧ Aside0 (Kd.R (Kd.int .i64) 3 w' w.heap.size (fun k_ => some k_ ≠ (v342 : Value).ownBlock) v329 x6_1) ∧ Aside0 (Kd.R (Kd.int .i64) 3 w' w.heap.size (fun k_ => some k_ ≠ (v329 : Value).ownBlock) v342 t341) ∧ Aside0 (Below w.heap.size w w'))
         case atStart => exact ⟨(0), (9999), (zF), (zF), H', ⟨Nat.le_refl _⟩, ⟨by (with_reducible repeat (first | apply Kd.zb5 | apply Kd.zb6 | apply Kd.zcg)); exact Kd.zbr HO_6.out (fun _ hk => hk.2)⟩, ⟨by (with_reducible repeat (first | apply Kd.zb5 | apply Kd.zb6 | apply Kd.zcg)); exact Kd.zbr HO343.out (fun _ hk => hk.1)⟩, ⟨zB HB⟩⟩
         case round =>
          clear H'
          try clear c1
          try clear p2
          try clear c3
          try clear c3b0
          try clear c3b1
          try clear p3
          try clear q3
          try clear hx3
          try clear c4
          try clear c4b0
          try clear c4b1
          try clear c5
          try clear p6
          try clear c7
          try clear c7b0
          try clear c8
          try clear c8b0
          try clear c9
          try clear c9b0
          try clear c10
          try clear hx334_0
          try clear p2
          try clear p334
          try clear p6
          try clear q334
          obtain ⟨x9_2, x10_2, rfl, rfl, HA, HK2, HO_6, HO_7, HB⟩ := hrel
          cases gk with
          | zero => exact absurd HA.out (by simp [zao.l1])
          | succ k2 =>
           have H := HA.out
           clear HA
           simp only [zao.l1] at H
           by_cases c18 : x9_2 < x10_2
           ·
            rw [if_pos c18] at H
            have c18b0 : decide (x9_2 < x10_2) = true := decide_eq_true c18
            clear c18
            replace H := zO H
            obtain ⟨t354, A190, H⟩ := H
            try dsimp only at H
            have A19 := zA A190
            clear A190
            replace H := zO H
            obtain ⟨t357, A200, H⟩ := H
            try dsimp only at H
            have A20 := zA A200
            clear A200
            replace H := zO H
            obtain ⟨t360, A210, H⟩ := H
            try dsimp only at H
            have A21 := zA A210
            clear A210
            by_cases c22 : t360 ≤ 0
            ·
             rw [if_pos c22] at H
             have c22b0 : decide (t360 ≤ 0) = true := decide_eq_true c22
             clear c22
             have H' := zA H
             clear H
             go_wp2_with (first | ((with_reducible refine zae (f := 20) rfl ?_); refine za4 (some 40) rfl rfl Tryd.func20 (by kernel_rfl) rfl #[.int .i64 (wrap64 (Int.tdiv (wrap64 ((wrap64 (x9_2 + x10_2)) + 1)) 2))] rfl (zE) ?_; (with_reducible refine (zaw.calls k2 (wrap64 (Int.tdiv (wrap64 ((wrap64 (x9_2 + x10_2)) + 1)) 2)) t354 _ A19.out).mono ?_); rintro e w23 ⟨v355, rfl, ho0, hb⟩; refine ⟨_, rfl, ?_⟩; have n0_ := zA (Kd.zbv (zR HO_6) (Kd.zbk ho0) hb); have n1_ := zA (Kd.zbv (zR HO_7) (Kd.zbk ho0) hb); have n2_ := zA (Kd.zbw (Kd.zcc (Kd.zcc ho0 (Kd.R_lt (zR HO_6))) (Kd.R_lt (zR HO_7))) (za (zB HB))); have n3_ := zA (zac (zB HB) hb); clear HO_6 HO_7 HB; have HO_6 := n0_; have HO_7 := n1_; have HO356 := n2_; have HB := n3_; clear n0_ n1_ n2_ n3_; (try clear hb); (try clear hb2); (try clear hk); (try clear hi); (try clear ho0); obtain ⟨Ao24, co24, eo24⟩ := Kd.zbq HO356.out; subst eo24) | ((with_reducible refine zae (f := 56) rfl ?_); refine za4 (some 41) rfl rfl Tryd.func56 (by kernel_rfl) rfl #[.slice A1 l1.length c1, .slice Ao24 t354.length co24] rfl (zE) ?_; (with_reducible refine (zam.calls k2 _ _ l1 _ _ t354 t357 _ ?side1 ?side2 ?side3 ?side4 A20.out).mono ?_); (case side1 => exact zJ (Kd.za6 HR1.out HB.out)); (case side2 => exact HC1.out); (case side3 => exact zJ (Kd.zay HO356.out).2.2); (case side4 => exact (Kd.zay HO356.out).2.1); rintro e w25 ⟨v358, rfl, ho0, hb⟩; refine ⟨_, rfl, ?_⟩; have n0_ := zA (Kd.zbv (zR HO_6) (Kd.zbk ho0) hb); have n1_ := zA (Kd.zbv (zR HO_7) (Kd.zbk ho0) hb); have n2_ := zA (Kd.zbv (zR HO356) (Kd.zbk ho0) hb); have n3_ := zA (Kd.zbw (Kd.zcc (Kd.zcc (Kd.zcc ho0 (Kd.R_lt (zR HO_6))) (Kd.R_lt (zR HO_7))) (Kd.R_lt (zR HO356))) (za (zB HB))); have n4_ := zA (zac (zB HB) hb); clear HO_6 HO_7 HO356 HB; have HO_6 := n0_; have HO_7 := n1_; have HO356 := n2_; have HO359 := n3_; have HB := n4_; clear n0_ n1_ n2_ n3_ n4_; (try clear hb); (try clear hb2); (try clear hk); (try clear hi); (try clear ho0); obtain ⟨Ao26, co26, eo26⟩ := Kd.zbq HO359.out; subst eo26; obtain ⟨Ao27, co27, eo27⟩ := Kd.zbq HO_7.out; subst eo27) | ((with_reducible refine zae (f := 18) rfl ?_); refine za4 (some 43) rfl rfl Tryd.func18 (by kernel_rfl) rfl #[.slice Ao26 t357.length co26, .slice Ao27 t341.length co27] rfl (zE) ?_; (with_reducible refine (zaz.calls k2 _ _ t357 _ _ t341 t360 _ ?side1 ?side2 ?side3 ?side4 A21.out).mono ?_); (case side1 => exact zJ (Kd.zay HO359.out).2.2); (case side2 => exact (Kd.zay HO359.out).2.1); (case side3 => exact zJ (Kd.zay HO_7.out).2.2); (case side4 => exact (Kd.zay HO_7.out).2.1); rintro e w' ⟨rfl, ⟨nd, rfl⟩⟩; refine ⟨_, rfl, ?_⟩))
             go_roundg k2
             case measure => have := HK1.out; have := HK2.out; omega
             case rel => exact ⟨(wrap64 (Int.tdiv (wrap64 ((wrap64 (x9_2 + x10_2)) + 1)) 2)), (x10_2), (zF), (zF), H', ⟨by have := HK1.out; have := HK2.out; omega⟩, ⟨by (with_reducible repeat (first | apply Kd.zb5 | apply Kd.zb6 | apply Kd.zcg)); exact Kd.zbr HO_6.out (fun _ hk => hk.1.1)⟩, ⟨by (with_reducible repeat (first | apply Kd.zb5 | apply Kd.zb6 | apply Kd.zcg)); exact Kd.zbr HO_7.out (fun _ hk => hk.1.1)⟩, ⟨zB HB⟩⟩
            ·
             rw [if_neg c22] at H
             have c22b0 : decide (t360 ≤ 0) = false := decide_eq_false c22
             clear c22
             have H' := zA H
             clear H
             go_wp2_with (first | ((with_reducible refine zae (f := 20) rfl ?_); refine za4 (some 40) rfl rfl Tryd.func20 (by kernel_rfl) rfl #[.int .i64 (wrap64 (Int.tdiv (wrap64 ((wrap64 (x9_2 + x10_2)) + 1)) 2))] rfl (zE) ?_; (with_reducible refine (zaw.calls k2 (wrap64 (Int.tdiv (wrap64 ((wrap64 (x9_2 + x10_2)) + 1)) 2)) t354 _ A19.out).mono ?_); rintro e w28 ⟨v355, rfl, ho0, hb⟩; refine ⟨_, rfl, ?_⟩; have n0_ := zA (Kd.zbv (zR HO_6) (Kd.zbk ho0) hb); have n1_ := zA (Kd.zbv (zR HO_7) (Kd.zbk ho0) hb); have n2_ := zA (Kd.zbw (Kd.zcc (Kd.zcc ho0 (Kd.R_lt (zR HO_6))) (Kd.R_lt (zR HO_7))) (za (zB HB))); have n3_ := zA (zac (zB HB) hb); clear HO_6 HO_7 HB; have HO_6 := n0_; have HO_7 := n1_; have HO356 := n2_; have HB := n3_; clear n0_ n1_ n2_ n3_; (try clear hb); (try clear hb2); (try clear hk); (try clear hi); (try clear ho0); obtain ⟨Ao29, co29, eo29⟩ := Kd.zbq HO356.out; subst eo29) | ((with_reducible refine zae (f := 56) rfl ?_); refine za4 (some 41) rfl rfl Tryd.func56 (by kernel_rfl) rfl #[.slice A1 l1.length c1, .slice Ao29 t354.length co29] rfl (zE) ?_; (with_reducible refine (zam.calls k2 _ _ l1 _ _ t354 t357 _ ?side1 ?side2 ?side3 ?side4 A20.out).mono ?_); (case side1 => exact zJ (Kd.za6 HR1.out HB.out)); (case side2 => exact HC1.out); (case side3 => exact zJ (Kd.zay HO356.out).2.2); (case side4 => exact (Kd.zay HO356.out).2.1); rintro e w30 ⟨v358, rfl, ho0, hb⟩; refine ⟨_, rfl, ?_⟩; have n0_ := zA (Kd.zbv (zR HO_6) (Kd.zbk ho0) hb); have n1_ := zA (Kd.zbv (zR HO_7) (Kd.zbk ho0) hb); have n2_ := zA (Kd.zbv (zR HO356) (Kd.zbk ho0) hb); have n3_ := zA (Kd.zbw (Kd.zcc (Kd.zcc (Kd.zcc ho0 (Kd.R_lt (zR HO_6))) (Kd.R_lt (zR HO_7))) (Kd.R_lt (zR HO356))) (za (zB HB))); have n4_ := zA (zac (zB HB) hb); clear HO_6 HO_7 HO356 HB; have HO_6 := n0_; have HO_7 := n1_; have HO356 := n2_; have HO359 := n3_; have HB := n4_; clear n0_ n1_ n2_ n3_ n4_; (try clear hb); (try clear hb2); (try clear hk); (try clear hi); (try clear ho0); obtain ⟨Ao31, co31, eo31⟩ := Kd.zbq HO359.out; subst eo31; obtain ⟨Ao32, co32, eo32⟩ := Kd.zbq HO_7.out; subst eo32) | ((with_reducible refine zae (f := 18) rfl ?_); refine za4 (some 43) rfl rfl Tryd.func18 (by kernel_rfl) rfl #[.slice Ao31 t357.length co31, .slice Ao32 t341.length co32] rfl (zE) ?_; (with_reducible refine (zaz.calls k2 _ _ t357 _ _ t341 t360 _ ?side1 ?side2 ?side3 ?side4 A21.out).mono ?_); (case side1 => exact zJ (Kd.zay HO359.out).2.2); (case side2 => exact (Kd.zay HO359.out).2.1); (case side3 => exact zJ (Kd.zay HO_7.out).2.2); (case side4 => exact (Kd.zay HO_7.out).2.1); rintro e w' ⟨rfl, ⟨nd, rfl⟩⟩; refine ⟨_, rfl, ?_⟩))
             go_roundg k2
             case measure => have := HK1.out; have := HK2.out; omega
             case rel => exact ⟨(x9_2), (wrap64 ((wrap64 (Int.tdiv (wrap64 ((wrap64 (x9_2 + x10_2)) + 1)) 2)) - 1)), (zF), (zF), H', ⟨by have := HK1.out; have := HK2.out; omega⟩, ⟨by (with_reducible repeat (first | apply Kd.zb5 | apply Kd.zb6 | apply Kd.zcg)); exact Kd.zbr HO_6.out (fun _ hk => hk.1.1)⟩, ⟨by (with_reducible repeat (first | apply Kd.zb5 | apply Kd.zb6 | apply Kd.zcg)); exact Kd.zbr HO_7.out (fun _ hk => hk.1.1)⟩, ⟨zB HB⟩⟩
           ·
            rw [if_neg c18] at H
            have c18b0 : decide (x9_2 < x10_2) = false := decide_eq_false c18
            clear c18
            by_cases c33 : 0 ≤ x8_1
            ·
             rw [if_pos c33] at H
             have c33b0 : decide (0 ≤ x8_1) = true := decide_eq_true c33
             clear c33
             by_cases c34 : x8_1 < (x6_1.length : Int)
             ·
              rw [if_pos c34] at H
              have c34b0 : decide (x8_1 < (x6_1.length : Int)) = true := decide_eq_true c34
              clear c34
              obtain ⟨y344, hy344⟩ : ∃ y_ : List Int, y_ = (x6_1.set (x8_1 : Int).toNat x9_2) := ⟨_, rfl⟩
              replace H : ((zaw.f k2 x9_2).bind fun t345 => ((zam.f k2 l1 t345).bind fun t348 => ((zb.f k2 t341 t348).bind fun t351 => (zao.l0 k2 l0 l1 y344 t351 (wrap64 (x8_1 - 1)))))) = some (r1, r2) := by first | (rw [hy344]; with_reducible exact H) | (have H2_ := (Option.bind_some _ _).symm.trans H; rw [hy344]; with_reducible exact H2_) | (have H2_ := (Option.bind_some _ _).symm.trans H; with_reducible exact H2_) | with_reducible exact H | (rw [hy344]; exact H) | exact H
              have Ny344 := zA hy344
              clear hy344
              replace H := zO H
              obtain ⟨t345, A360, H⟩ := H
              try dsimp only at H
              have A36 := zA A360
              clear A360
              replace H := zO H
              obtain ⟨t348, A370, H⟩ := H
              try dsimp only at H
              have A37 := zA A370
              clear A370
              replace H := zO H
              obtain ⟨t351, A380, H⟩ := H
              try dsimp only at H
              have A38 := zA A380
              clear A380
              have H' := zA H
              clear H
              have p35 : 0 ≤ (x8_1 : Int) := of_decide_eq_true (by first | (with_reducible assumption) | assumption)
              have q35 : (x8_1 : Int) < ((x6_1.length : Int) : Int) := of_decide_eq_true (by first | (with_reducible assumption) | assumption)
              obtain ⟨go35, co35, eo35, gb35, gl35, cl35, HG35⟩ := Kd.R_form HO_6.out (by omega)
              (first | cases eo35 | (injection eo35 with ea_ en_ ec_; (first | subst ea_ | (injection ea_ with ea_; subst ea_)); subst ec_; clear en_))
              have GB35 := zA gb35
              have GG35 := zA HG35
              clear gb35 gl35 HG35
              obtain ⟨hx35_0, hf35_0⟩ := Kd.zc6 0 HO_6.out (x8_1 : Int) p35 q35
              replace p35 := eq_true p35
              replace q35 := eq_true q35
              have HP39 := Kd.R_putg HO_6.out (x8_1 : Int) x9_2
              go_wp2_with (first | ((with_reducible refine zdb (t := 3) (p := 51) rfl ?_); refine zc1 (t := 3) (p := 51) (v := ?vo_w40) (w1 := (wr.setCell ⟨go35, (x8_1 : Int).toNat, none⟩ (.int .i64 x9_2))) ?hg ?ho ?hn ?hr ?_; (case ho => rfl); (case hg => rfl); (case hn => rfl); (case hr => first | (go_simp; done) | (go_simp; rfl)); intro w40 hw; have hg : wr.grownBy w40 (some go35) := (by rw [hw]; exact HP39.2); have hp_ : Kd.R (Kd.int .i64) 3 w40 w.heap.size (fun k_ => some k_ ≠ (v342 : Value).ownBlock) (.slice (some ⟨go35, 0, none⟩) x6_1.length co35) y344 := (by rw [hw, Ny344.out]; exact HP39.1); clear HP39; have n0_ := zA (hp_); have n1_ := zA (Kd.R_after (v := (.slice (some ⟨go35, 0, none⟩) x6_1.length co35)) (v1 := (.slice (some ⟨go35, 0, none⟩) x6_1.length co35)) (ok := (fun _ => True)) (by (with_reducible repeat (first | apply Kd.zb5 | apply Kd.zb6 | apply Kd.zcg)); exact Kd.zbr HO_7.out (fun _ hk => ⟨trivial, hk⟩)) hg (.inl rfl)); have n2_ := zA ((by rw [hw]; exact zdd (HB.out) GB35.out : Below w.heap.size w w40)); clear HO_6 HO_7 HB; have HO_6 := n0_; have HO_7 := n1_; have HB := n2_; clear n0_ n1_ n2_ hg hw hp_) | ((with_reducible refine zae (f := 20) rfl ?_); refine za4 (some 55) rfl rfl Tryd.func20 (by kernel_rfl) rfl #[.int .i64 x9_2] rfl (zE) ?_; (with_reducible refine (zaw.calls k2 x9_2 t345 _ A36.out).mono ?_); rintro e w41 ⟨v346, rfl, ho0, hb⟩; refine ⟨_, rfl, ?_⟩; have n0_ := zA (Kd.zbv (zR HO_6) (Kd.zbk ho0) hb); have n1_ := zA (Kd.zbv (zR HO_7) (Kd.zbk ho0) hb); have n2_ := zA (Kd.zbw (Kd.zcc (Kd.zcc ho0 (Kd.R_lt (zR HO_6))) (Kd.R_lt (zR HO_7))) (za (zB HB))); have n3_ := zA (zac (zB HB) hb); clear HO_6 HO_7 HB; have HO_6 := n0_; have HO_7 := n1_; have HO347 := n2_; have HB := n3_; clear n0_ n1_ n2_ n3_; (try clear hb); (try clear hb2); (try clear hk); (try clear hi); (try clear ho0); obtain ⟨Ao42, co42, eo42⟩ := Kd.zbq HO347.out; subst eo42) | ((with_reducible refine zae (f := 56) rfl ?_); refine za4 (some 56) rfl rfl Tryd.func56 (by kernel_rfl) rfl #[.slice A1 l1.length c1, .slice Ao42 t345.length co42] rfl (zE) ?_; (with_reducible refine (zam.calls k2 _ _ l1 _ _ t345 t348 _ ?side1 ?side2 ?side3 ?side4 A37.out).mono ?_); (case side1 => exact zJ (Kd.za6 HR1.out HB.out)); (case side2 => exact HC1.out); (case side3 => exact zJ (Kd.zay HO347.out).2.2); (case side4 => exact (Kd.zay HO347.out).2.1); rintro e w43 ⟨v349, rfl, ho0, hb⟩; refine ⟨_, rfl, ?_⟩; have n0_ := zA (Kd.zbv (zR HO_6) (Kd.zbk ho0) hb); have n1_ := zA (Kd.zbv (zR HO_7) (Kd.zbk ho0) hb); have n2_ := zA (Kd.zbv (zR HO347) (Kd.zbk ho0) hb); have n3_ := zA (Kd.zbw (Kd.zcc (Kd.zcc (Kd.zcc ho0 (Kd.R_lt (zR HO_6))) (Kd.R_lt (zR HO_7))) (Kd.R_lt (zR HO347))) (za (zB HB))); have n4_ := zA (zac (zB HB) hb); clear HO_6 HO_7 HO347 HB; have HO_6 := n0_; have HO_7 := n1_; have HO347 := n2_; have HO350 := n3_; have HB := n4_; clear n0_ n1_ n2_ n3_ n4_; (try clear hb); (try clear hb2); (try clear hk); (try clear hi); (try clear ho0); obtain ⟨Ao44, co44, eo44⟩ := Kd.zbq HO_7.out; subst eo44; obtain ⟨Ao45, co45, eo45⟩ := Kd.zbq HO350.out; subst eo45) | ((with_reducible refine zae (f := 66) rfl ?_); refine za4 (some 57) rfl rfl Tryd.func66 (by kernel_rfl) rfl #[.slice Ao44 t341.length co44, .slice Ao45 t348.length co45] rfl (zE) ?_; (with_reducible refine (zb.calls k2 _ _ t341 _ _ t348 t351 _ ?side1 ?side2 ?side3 ?side4 A38.out).mono ?_); (case side1 => exact zJ (Kd.zay HO_7.out).2.2); (case side2 => exact (Kd.zay HO_7.out).2.1); (case side3 => exact zJ (Kd.zay HO350.out).2.2); (case side4 => exact (Kd.zay HO350.out).2.1); rintro e w46 ⟨v352, rfl, ho0, hb⟩; refine ⟨_, rfl, ?_⟩; have n0_ := zA (Kd.zbv (zR HO_6) (Kd.zbk ho0) hb); have n1_ := zA (Kd.zbv (zR HO_7) (Kd.zbk ho0) hb); have n2_ := zA (Kd.zbv (zR HO347) (Kd.zbk ho0) hb); have n3_ := zA (Kd.zbv (zR HO350) (Kd.zbk ho0) hb); have n4_ := zA (Kd.zbw (Kd.zcc (Kd.zcc (Kd.zcc (Kd.zcc ho0 (Kd.R_lt (zR HO_6))) (Kd.R_lt (zR HO_7))) (Kd.R_lt (zR HO347))) (Kd.R_lt (zR HO350))) (za (zB HB))); have n5_ := zA (zac (zB HB) hb); clear HO_6 HO_7 HO347 HO350 HB; have HO_6 := n0_; have HO_7 := n1_; have HO347 := n2_; have HO350 := n3_; have HO353 := n4_; have HB := n5_; clear n0_ n1_ n2_ n3_ n4_ n5_; (try clear hb); (try clear hb2); (try clear hk); (try clear hi); (try clear ho0)))
              go_roundg k2
              case measure => have := HK1.out; have := HK2.out; omega
              case rel => exact ⟨(y344), (t351), (wrap64 (x8_1 - 1)), (zF), H', ⟨by have := HK1.out; have := HK2.out; omega⟩, ⟨by (with_reducible repeat (first | apply Kd.zb5 | apply Kd.zb6 | apply Kd.zcg)); exact Kd.zbr HO_6.out (fun _ hk => hk.2)⟩, ⟨by (with_reducible repeat (first | apply Kd.zb5 | apply Kd.zb6 | apply Kd.zcg)); exact Kd.zbr HO353.out (fun _ hk => hk.1.1.1.2)⟩, ⟨zB HB⟩⟩
             ·
              rw [if_neg c34] at H
              exact absurd H (by simp)
            ·
             rw [if_neg c33] at H
             exact absurd H (by simp)
        ·
         rw [if_neg c10] at H
         exact absurd H (by simp)
       ·
        rw [if_neg c9] at H
        exact absurd H (by simp)
      ·
       rw [if_neg c8] at H
       exact absurd H (by simp)
     ·
      rw [if_neg c7] at H
      have c7b0 : decide (0 ≤ x8_1) = false := decide_eq_false c7
      clear c7
      replace H := zO H
      obtain ⟨t331, A470, H⟩ := H
      try dsimp only at H
      have A47 := zA A470
      clear A470
      simp only [Option.some.injEq, Prod.mk.injEq] at H
      obtain ⟨rfl, rfl⟩ := H
      obtain ⟨Ao48, co48, eo48⟩ := Kd.zbq HO_6.out
      subst eo48
      go_wp2_with (first | ((with_reducible refine zae (f := 83) rfl ?_); refine za4 (some 59) rfl rfl Tryd.func83 (by kernel_rfl) rfl #[.slice Ao48 x6_1.length co48] rfl (zE) ?_; (with_reducible refine (zas.calls k1 (fun k_ => some k_ = (.slice Ao48 x6_1.length co48 : Value).ownBlock) (.slice Ao48 x6_1.length co48) x6_1 t331 w _ ?side1 ?side2 A47.out).mono ?_); (case side1 => repeat (first | (with_reducible first | exact HB.out | apply zbu | apply zbj | apply zbi) | exact HB.out)); (case side2 => exact Kd.zc7 rfl HO_6.out); rintro e w49 ⟨v332, rfl, ho0, hb, hkp⟩; refine ⟨_, rfl, ?_⟩; have n0_ := zA (Kd.zbr (ok' := fun k_ => some k_ ≠ (v332 : Value).ownBlock) (Kd.R_keptB (HO_7.out) hkp (fun k_ hk_ hs_ => (hk_) hs_)) (fun k_ hk_ => fun e_ => Or.elim (ho0.1 k_ e_.symm) (fun hs_ => hk_.2.1 hs_) (fun hn_ => Nat.not_le.2 hk_.2.2 hn_))); have n1_ := zA (Kd.zbr (ok' := fun k_ => some k_ ≠ (u7 : Value).ownBlock) ho0 (fun k_ hk_ => Or.elim hk_ (fun hs_ => fun e_ => (((HO_7.out).1 k_ e_.symm)) hs_) (fun hn_ => (Kd.fresh' (Kd.R_lt (zR HO_7)) k_ hn_)))); have n2_ := zA (hb); clear HO_7 HB HO_6; have HO_7 := n0_; have HO333 := n1_; have HB := n2_; clear n0_ n1_ n2_; (try clear hb); (try clear hkp); (try clear ho0)))
      go_ret2
      exact ⟨_, _, zW, zR HO333, zR HO_7, zB HB⟩
  ·
   rw [if_neg c4] at H
   exact absurd H (by simp)
 ·
  rw [if_neg c3] at H
  exact absurd H (by simp)
def zbg.l0 : Nat → List Int → List Int → Option (List Int)
 | 0, _, _ => none
 | k + 1, x0, x1 => if (x1.length : Int) > 0 then ((zao.f k x0 x1).bind fun bt361 => (zbg.l0 k x1 bt361.2)) else (some x0)
def zbg.f (k : Nat) (l0 : List Int) (l1 : List Int) : Option (List Int) := zbg.l0 k l0 l1
theorem zbg.calls (k : Nat) (P0_ : Nat → Prop) (A0 : Option Addr) (c0 : Nat) (l0 : List Int) (P1_ : Nat → Prop) (A1 : Option Addr) (c1 : Nat) (l1 : List Int) (r : List Int) (w : World) (hs0 : Kd.V (Kd.int .i64) 3 w w.heap.size (fun k_ => P0_ k_) (.slice A0 l0.length c0) l0) (hs1 : Kd.V (Kd.int .i64) 3 w w.heap.size (fun k_ => P1_ k_) (.slice A1 l1.length c1) l1) (h : zbg.f k l0 l1 = some r) :
  Calls Tryd.prog 19 #[.slice A0 l0.length c0, .slice A1 l1.length c1] w fun e w' => ∃ v0_ : Value, e = .returned (v0_) ∧ Kd.V (Kd.int .i64) 3 w' w.heap.size (fun k_ => ((P0_ k_ ∨ P1_ k_) ∨ w.heap.size ≤ k_)) v0_ r ∧ Below w.heap.size w w' := by
 have HO0 := zA (show Kd.V (Kd.int .i64) 3 w w.heap.size (fun k_ => ((P0_ k_ ∨ P1_ k_) ∨ w.heap.size ≤ k_)) (.slice A0 l0.length c0) l0 from Kd.zak hs0 (fun k_ hk => .inl (.inl hk)))
 have HO1 := zA (show Kd.V (Kd.int .i64) 3 w w.heap.size (fun k_ => ((P0_ k_ ∨ P1_ k_) ∨ w.heap.size ≤ k_)) (.slice A1 l1.length c1) l1 from Kd.zak hs1 (fun k_ hk => .inl (.inr hk)))
 have HB := zA (Below.refl w.heap.size w)
 have H : (zbg.l0 k l0 l1) = some r := h
 clear h
 have H' := zA H
 clear H
 go_enter Tryd.func19, Tryd.ntmps19
 go_wp2
 go_loopg [0, 1] k (fun kq v0 v1 w' => ∃ (x0_1 : List Int) (x1_1 : List Int), Aside0 (zbg.l0 kq x0_1 x1_1 = some r) ∧ Aside0 (kq ≤ k) ∧ Aside0 (Kd.V (Kd.int .i64) 3 w' w.heap.size (fun k_ => ((P0_ k_ ∨ P1_ k_) ∨ w.heap.size ≤ k_)) v0 x0_1) ∧ Aside0 (Kd.V (Kd.int .i64) 3 w' w.heap.size (fun k_ => ((P0_ k_ ∨ P1_ k_) ∨ w.heap.size ≤ k_)) v1 x1_1) ∧ Aside0 (Below w.heap.size w w'))
 case atStart => exact ⟨(l0), (l1), H', ⟨Nat.le_refl _⟩, ⟨zV HO0⟩, ⟨zV HO1⟩, ⟨zB HB⟩⟩
 case round =>
  clear H'
  try clear c1
  try clear p2
  obtain ⟨x0_1, x1_1, HA, HK1, HO_0, HO_1, HB⟩ := hrel
  cases gk with
  | zero => exact absurd HA.out (by simp [zbg.l0])
  | succ k1 =>
   have H := HA.out
   clear HA
   simp only [zbg.l0] at H
   by_cases c3 : (x1_1.length : Int) > 0
   ·
    rw [if_pos c3] at H
    have c3b0 : decide (0 < (x1_1.length : Int)) = true := decide_eq_true c3
    have c3b1 : decide (0 < x1_1.length) = true := decide_eq_true (by omega)
    clear c3
    replace H := zO H
    obtain ⟨⟨t361, t362⟩, A40, H⟩ := H
    try dsimp only at H
    have A4 := zA A40
    clear A40
    have H' := zA H
    clear H
    obtain ⟨Ao5, co5, eo5⟩ := Kd.za3 HO_1.out
    subst eo5
    obtain ⟨Ao6, co6, eo6⟩ := Kd.za3 HO_0.out
    subst eo6
    go_wp2_with (first | ((with_reducible refine zae (f := 57) rfl ?_); refine za4 (some 13) rfl rfl Tryd.func57 (by kernel_rfl) rfl #[.slice Ao6 x0_1.length co6, .slice Ao5 x1_1.length co5] rfl (zE) ?_; (with_reducible refine (zao.calls k1 _ _ x0_1 _ _ x1_1 t361 t362 _ ?side1 ?side2 ?side3 ?side4 A4.out).mono ?_); (case side1 => exact zJ (Kd.zal HO_0.out).2.2); (case side2 => exact (Kd.zal HO_0.out).2.1); (case side3 => exact zJ (Kd.zal HO_1.out).2.2); (case side4 => exact (Kd.zal HO_1.out).2.1); rintro e w7 ⟨v363, v365, rfl, ho0, ho1, hb⟩; refine ⟨_, rfl, ?_⟩; have n0_ := zA (Kd.zak (Kd.V_told (Kd.V_told (Kd.V_old (zV HO_0) hb) (Kd.zbk ho0)) (Kd.zbk ho1)) (fun _ h_ => h_.1)); have n1_ := zA (Kd.zak (Kd.V_told (Kd.V_told (Kd.V_old (zV HO_1) hb) (Kd.zbk ho0)) (Kd.zbk ho1)) (fun _ h_ => h_.1)); have n2_ := zA (Kd.zbw (Kd.R_newM (M := fun k_ => (w.heap.size ≤ k_)) ho0 (za (zB HB)) (fun k_ h_ => h_)) (za (zB HB))); have n3_ := zA (Kd.zbw (Kd.R_newM (M := fun k_ => (w.heap.size ≤ k_)) ho1 (za (zB HB)) (fun k_ h_ => h_)) (za (zB HB))); have n4_ := zA (zac (zB HB) hb); clear HO_0 HO_1 HB; have HO_0 := n0_; have HO_1 := n1_; have HO364 := n2_; have HO366 := n3_; have HB := n4_; clear n0_ n1_ n2_ n3_ n4_; (try clear hb); (try clear hb2); (try clear hk); (try clear hi); (try clear ho0); (try clear ho1)))
    go_roundg k1
    case measure => have := HK1.out; omega
    case rel => exact ⟨(x1_1), (t362), H', ⟨by have := HK1.out; omega⟩, ⟨by (with_reducible repeat (first | apply Kd.za8 | apply Kd.za7 | apply Kd.zbd)); exact Kd.zak HO_1.out (fun _ hk => hk.1.1)⟩, ⟨Kd.zak (Kd.R_V (by (with_reducible repeat (first | apply Kd.zb5 | apply Kd.zb6 | apply Kd.zcg)); exact Kd.zbr HO366.out (fun _ hk => hk.1))) (fun k_ hk => by first | exact ⟨(.inr (hk.1)), hk.2⟩ | exact (.inr (hk)))⟩, ⟨zB HB⟩⟩
   ·
    rw [if_neg c3] at H
    have c3b0 : decide (0 < (x1_1.length : Int)) = false := decide_eq_false c3
    have c3b1 : decide (0 < x1_1.length) = false := decide_eq_false (by omega)
    clear c3
    obtain rfl := Option.some.inj H
    obtain ⟨Ao8, co8, eo8⟩ := Kd.za3 HO_1.out
    subst eo8
    go_wp2
    go_ret
    exact ⟨_, zW, zV HO_0, zB HB⟩
def zcy.f (k : Nat) (l0 : List Int) (l1 : List Int) : Option (List Int × List Int) := (zbg.f k l0 l1).bind fun t424 => ((zao.f k l0 t424).bind fun bt427 => ((zao.f k l1 t424).bind fun bt433 => (some (bt427.1, bt433.1))))
theorem zcy.calls (k : Nat) (A0 : Option Addr) (c0 : Nat) (l0 : List Int) (A1 : Option Addr) (c1 : Nat) (l1 : List Int) (r1 : List Int) (r2 : List Int) (w : World) (hr0 : Kd.C (Kd.int .i64) w A0 l0.length l0) (hc0 : l0.length ≤ c0) (hr1 : Kd.C (Kd.int .i64) w A1 l1.length l1) (hc1 : l1.length ≤ c1) (h : zcy.f k l0 l1 = some (r1, r2)) :
  Calls Tryd.prog 59 #[.slice A0 l0.length c0, .slice A1 l1.length c1] w fun e w' => ∃ v0_ v1_ : Value, e = .returned (.agg #[v0_, v1_]) ∧ Kd.R (Kd.int .i64) 3 w' w.heap.size (fun k_ => some k_ ≠ (v1_ : Value).ownBlock) v0_ r1 ∧ Kd.R (Kd.int .i64) 3 w' w.heap.size (fun k_ => some k_ ≠ (v0_ : Value).ownBlock) v1_ r2 ∧ Below w.heap.size w w' := by
 have hu40 := Tryd.underlying40
 have HR0 := zA hr0
 have HC0 := zA hc0
 clear hr0 hc0
 have HR1 := zA hr1
 have HC1 := zA hc1
 clear hr1 hc1
 have HB := zA (Below.refl w.heap.size w)
 have H : ((zbg.f k l0 l1).bind fun t424 => ((zao.f k l0 t424).bind fun bt427 => ((zao.f k l1 t424).bind fun bt433 => (some (bt427.1, bt433.1))))) = some (r1, r2) := h
 clear h
 replace H := zO H
 obtain ⟨t424, A30, H⟩ := H
 try dsimp only at H
 have A3 := zA A30
 clear A30
 replace H := zO H
 obtain ⟨⟨t427, t428⟩, A40, H⟩ := H
 try dsimp only at H
 have A4 := zA A40
 clear A40
 replace H := zO H
 obtain ⟨⟨t433, t434⟩, A50, H⟩ := H
 try dsimp only at H
 have A5 := zA A50
 clear A50
 simp only [Option.some.injEq, Prod.mk.injEq] at H
 obtain ⟨rfl, rfl⟩ := H
 go_enter Tryd.func59, Tryd.ntmps59
 go_wp2_with (first | ((with_reducible refine zbe (N := 4) rfl ?_); refine zbl ?hg (N := 4) ?hd (cs := #[.slice none 0 0, .slice none 0 0]) (t := 40) ?hr ?_; (case hd => rfl); (case hg => rfl); (case hr => first | (go_simp; done) | (go_simp; rfl)); intro gb423 hg w6 hbox hb; have n0_ := zA (zac (zB HB) hb); have n1_ := zA (hbox); have n2_ := zA ((by rw [hg]; exact (za (zB HB)) : w.heap.size ≤ gb423)); have n3_ := zA ((by rw [hg]; exact (za (zB HB)) : w.heap.size ≤ gb423)); clear HB; have HB := n0_; have BK423 := n1_; have GW423 := n2_; have GE423 := n3_; clear n0_ n1_ n2_ n3_ hb hbox hg) | ((with_reducible refine zae (f := 19) rfl ?_); refine za4 (some 12) rfl rfl Tryd.func19 (by kernel_rfl) rfl #[.slice A0 l0.length c0, .slice A1 l1.length c1] rfl (zE) ?_; (with_reducible refine (zbg.calls k (fun k_ => k_ < w.heap.size) _ _ l0 (fun k_ => k_ < w.heap.size) _ _ l1 t424 _ ?side1 ?side2 A3.out).mono ?_); (case side1 => exact Kd.V_mk HC0.out (Kd.F_below (Kd.C_F (Kd.heap_int .i64) HR0.out) (zB HB))); (case side2 => exact Kd.V_mk HC1.out (Kd.F_below (Kd.C_F (Kd.heap_int .i64) HR1.out) (zB HB))); rintro e w7 ⟨v425, rfl, ho0, hb⟩; refine ⟨_, rfl, ?_⟩; have n0_ := zA (Kd.za2 (Kd.zak (ok' := fun k_ => k_ ≠ gb423) ho0 (fun k_ hk_ => Or.elim hk_ (fun hs_ => Or.elim hs_ (fun hs_ => fun e_ => Nat.not_le.2 hs_ (by rw [e_]; exact GW423.out)) (fun hs_ => fun e_ => Nat.not_le.2 hs_ (by rw [e_]; exact GW423.out))) (fun hn_ => (Kd.freshB (g := gb423) (o := .cells #[.slice none 0 0, .slice none 0 0] 40 (0, 0)) (zK BK423) k_ hn_)))) (za (zB HB))); have n1_ := zA (zaf (g := gb423) (o := .cells #[.slice none 0 0, .slice none 0 0] 40 (0, 0)) (zK BK423) hb); have n2_ := zA (zac (zB HB) hb); clear BK423 HB; have HO426 := n0_; have BK423 := n1_; have HB := n2_; clear n0_ n1_ n2_; (try clear hb); (try clear hb2); (try clear hk); (try clear hi); (try clear ho0); obtain ⟨Ao8, co8, eo8⟩ := Kd.za3 HO426.out; subst eo8) | ((with_reducible refine zae (f := 57) rfl ?_); refine za4 (some 16) rfl rfl Tryd.func57 (by kernel_rfl) rfl #[.slice A0 l0.length c0, .slice Ao8 t424.length co8] rfl (zE) ?_; (with_reducible refine (zao.calls k _ _ l0 _ _ t424 t427 t428 _ ?side1 ?side2 ?side3 ?side4 A4.out).mono ?_); (case side1 => exact zJ (Kd.za6 HR0.out HB.out)); (case side2 => exact HC0.out); (case side3 => exact zJ (Kd.zal HO426.out).2.2); (case side4 => exact (Kd.zal HO426.out).2.1); rintro e w9 ⟨v429, v431, rfl, ho0, ho1, hb⟩; refine ⟨_, rfl, ?_⟩; have n0_ := zA (Kd.zak (Kd.V_told (Kd.V_told (Kd.V_old (zV HO426) hb) (Kd.zbk ho0)) (Kd.zbk ho1)) (fun _ h_ => h_.1)); have n1_ := zA (Kd.zbw ho0 (za (zB HB))); have n2_ := zA (Kd.zbw ho1 (za (zB HB))); have n3_ := zA (zaf (g := gb423) (o := .cells #[.slice none 0 0, .slice none 0 0] 40 (0, 0)) (zK BK423) hb); have n4_ := zA (zac (zB HB) hb); clear HO426 BK423 HB; have HO426 := n0_; have HO430 := n1_; have HO432 := n2_; have BK423 := n3_; have HB := n4_; clear n0_ n1_ n2_ n3_ n4_; (try clear hb); (try clear hb2); (try clear hk); (try clear hi); (try clear ho0); (try clear ho1)) | ((with_reducible refine zae (f := 57) rfl ?_); refine za4 (some 22) rfl rfl Tryd.func57 (by kernel_rfl) rfl #[.slice A1 l1.length c1, .slice Ao8 t424.length co8] rfl (zE) ?_; (with_reducible refine (zao.calls k _ _ l1 _ _ t424 t433 t434 _ ?side1 ?side2 ?side3 ?side4 A5.out).mono ?_); (case side1 => exact zJ (Kd.za6 HR1.out HB.out)); (case side2 => exact HC1.out); (case side3 => exact zJ (Kd.zal HO426.out).2.2); (case side4 => exact (Kd.zal HO426.out).2.1); rintro e w10 ⟨v435, v437, rfl, ho0, ho1, hb⟩; refine ⟨_, rfl, ?_⟩; have n0_ := zA (Kd.zak (Kd.V_told (Kd.V_told (Kd.V_old (zV HO426) hb) (Kd.zbk ho0)) (Kd.zbk ho1)) (fun _ h_ => h_.1)); have n1_ := zA (Kd.zbr (Kd.R_told (Kd.R_told (Kd.R_old (zR HO430) hb) (Kd.zbk ho0)) (Kd.zbk ho1)) (fun _ h_ => h_.1)); have n2_ := zA (Kd.zbr (Kd.R_told (Kd.R_told (Kd.R_old (zR HO432) hb) (Kd.zbk ho0)) (Kd.zbk ho1)) (fun _ h_ => h_.1)); have n3_ := zA (Kd.zbw (Kd.zcc (Kd.zcc ho0 (Kd.R_lt (zR HO430))) (Kd.R_lt (zR HO432))) (za (zB HB))); have n4_ := zA (Kd.zbw (Kd.zcc (Kd.zcc ho1 (Kd.R_lt (zR HO430))) (Kd.R_lt (zR HO432))) (za (zB HB))); have n5_ := zA (zaf (g := gb423) (o := .cells #[.slice none 0 0, .slice none 0 0] 40 (0, 0)) (zK BK423) hb); have n6_ := zA (zac (zB HB) hb); clear HO426 HO430 HO432 BK423 HB; have HO426 := n0_; have HO430 := n1_; have HO432 := n2_; have HO436 := n3_; have HO438 := n4_; have BK423 := n5_; have HB := n6_; clear n0_ n1_ n2_ n3_ n4_ n5_ n6_; (try clear hb); (try clear hb2); (try clear hk); (try clear hi); (try clear ho0); (try clear ho1); obtain ⟨Ao11, co11, eo11⟩ := Kd.zbq HO436.out; subst eo11; obtain ⟨Ao12, co12, eo12⟩ := Kd.zbq HO430.out; subst eo12; have hcz13_0 : w10.cell? ⟨gb423, 0, none⟩ = some (.slice none 0 0) := (zab BK423.out 0).trans rfl; have hcz13_1 : w10.cell? ⟨gb423, 1, none⟩ = some (.slice none 0 0) := (zab BK423.out 1).trans rfl; have hfz13_0 := zan BK423.out 0; have hfz13_1 := zan BK423.out 1))
 refine bodyPost_ret (results_cell_row rfl _ _ gb423 40 #[.slice Ao12 t427.length co12, .slice Ao11 t433.length co11] (0, 0) _ rfl (by (with_reducible repeat (first | refine zai ?_ _ | refine zaj ?_ | refine zah ?_ _)); refine zbn (cs := #[.slice Ao12 t427.length co12, .slice none 0 0]) ?_ 1 _ rfl; (with_reducible repeat (first | refine zai ?_ _ | refine zaj ?_ | refine zah ?_ _)); refine zbn (cs := #[.slice none 0 0, .slice none 0 0]) ?_ 0 _ rfl; (with_reducible repeat (first | refine zai ?_ _ | refine zaj ?_ | refine zah ?_ _)); exact BK423.out) Tryd.underlying40 rfl (by kernel_rfl)) rfl ?_
 exact ⟨_, _, zW, by (with_reducible repeat (first | apply Kd.zb5 | apply Kd.zb6 | apply Kd.zcg)); exact Kd.zbr (Kd.R_far (p := ⟨gb423, 1, none⟩) (Kd.R_far (p := ⟨gb423, 0, none⟩) (Kd.zc3 HO430.out BK423.out (by decide)) (fun _ hk => hk.2) (.slice Ao12 t427.length co12)) (fun _ hk => hk.2) (.slice Ao11 t433.length co11)) (fun _ hk => hk.1.1.2), by (with_reducible repeat (first | apply Kd.zb5 | apply Kd.zb6 | apply Kd.zcg)); exact Kd.zbr (Kd.R_far (p := ⟨gb423, 1, none⟩) (Kd.R_far (p := ⟨gb423, 0, none⟩) (Kd.zc3 HO436.out BK423.out (by decide)) (fun _ hk => hk.2) (.slice Ao12 t427.length co12)) (fun _ hk => hk.2) (.slice Ao11 t433.length co11)) (fun _ hk => hk.1.1.2), zB HB⟩
def za0.j0 : Nat → Int → Int → Bool → Option (List Int × List Int × List Int × List Int × Bool)
 | 0, _, _, _ => none
 | k + 1, x0, x1, x19 => if x19 = true then (some (([] : List Int), ([] : List Int), ([] : List Int), ([] : List Int), false)) else ((zcf.f k (IntKind.u64.wrap (x0))).bind fun t1105 => ((zcf.f k (IntKind.u64.wrap (x1))).bind fun t1108 => ((zc4.f k t1105 t1108).bind fun bt1111 => ((zaw.f k x0).bind fun t1119 => ((zaw.f k x1).bind fun t1122 => ((zcy.f k t1119 t1122).bind fun bt1125 => (some (bt1111.1, bt1111.2.1, bt1125.1, bt1125.2, (bt1111.2.2 == 0)))))))))
def za0.f (k : Nat) (a0 : Int) (a1 : Int) : Option (List Int × List Int × List Int × List Int × Bool) := if a0 < 0 then (za0.j0 k a0 a1 true) else (if a1 < 1 then (za0.j0 k a0 a1 true) else (za0.j0 k a0 a1 (decide (a0 > a1))))
def za0.T4 : Bool × List (List Nat × List Nat) := (true, [([], []), ([], []), ([1], [1]), ([], []), ([3, 2], [3]), ([2, 4, 4], [2, 4]), ([], []), ([6], [6]), ([0, 5, 0], [0]), ([5, 8, 0, 1, 2, 3, 4, 5, 8], [5]), ([7, 9, 0, 1, 2, 3, 4, 5, 6, 7, 8, 9], [7])])
def za0.B4 : List Nat := [0, 0, 2, 0, 14, 30, 0, 64, 63, 319, 1023]
theorem za0.tab4 : rtab .any (opsOf Tryd.f44 4) = za0.T4 := by kernel_rfl
theorem za0.bits4 : waitsOk za0.T4.2 za0.B4 = true := by kernel_rfl
theorem za0.calls (k : Nat) (a0 : Int) (a1 : Int) (r1 : List Int) (r2 : List Int) (r3 : List Int) (r4 : List Int) (r5 : Bool) (w : World) (h : za0.f k a0 a1 = some (r1, r2, r3, r4, r5)) :
  Calls Tryd.prog 44 #[.int .i64 a0, .int .i64 a1] w fun e w' => ∃ v0_ v1_ v2_ v3_ : Value, e = .returned (.tuple #[.agg #[v0_, v1_], .agg #[v2_, v3_], .bool r5]) ∧ Kd.V (Kd.int .u64) 57 w' w.heap.size (fun k_ => (w.heap.size ≤ k_) ∧ some k_ ≠ (v2_ : Value).ownBlock ∧ some k_ ≠ (v3_ : Value).ownBlock) v0_ r1 ∧ Kd.V (Kd.int .u64) 57 w' w.heap.size (fun k_ => (w.heap.size ≤ k_) ∧ some k_ ≠ (v2_ : Value).ownBlock ∧ some k_ ≠ (v3_ : Value).ownBlock) v1_ r2 ∧ Kd.R (Kd.int .i64) 3 w' w.heap.size (fun k_ => (w.heap.size ≤ k_) ∧ some k_ ≠ (v3_ : Value).ownBlock) v2_ r3 ∧ Kd.R (Kd.int .i64) 3 w' w.heap.size (fun k_ => (w.heap.size ≤ k_) ∧ some k_ ≠ (v2_ : Value).ownBlock) v3_ r4 ∧ Below w.heap.size w w' := by
 have hu28 := Tryd.underlying28
 have hu40 := Tryd.underlying40
 have HB := zA (Below.refl w.heap.size w)
 have H : (if a0 < 0 then (za0.j0 k a0 a1 true) else (if a1 < 1 then (za0.j0 k a0 a1 true) else (za0.j0 k a0 a1 (decide (a0 > a1))))) = some (r1, r2, r3, r4, r5) := h
 clear h
 have HC3 := zA H
 clear H
 go_enter Tryd.func44, Tryd.ntmps44
 go_upto_region 1 with (first | ((with_reducible refine zbe (N := 4) rfl ?_); refine zbl ?hg (N := 4) ?hd (cs := #[.slice none 0 0, .slice none 0 0]) (t := 28) ?hr ?_; (case hd => rfl); (case hg => rfl); (case hr => first | (go_simp; done) | (go_simp; rfl)); intro gb1103 hg w4 hbox hb; have n0_ := zA (zac (zB HB) hb); have n1_ := zA (hbox); have n2_ := zA ((by rw [hg]; exact (za (zB HB)) : w.heap.size ≤ gb1103)); have n3_ := zA ((by rw [hg]; exact (za (zB HB)) : w.heap.size ≤ gb1103)); clear HB; have HB := n0_; have BK1103 := n1_; have GW1103 := n2_; have GE1103 := n3_; clear n0_ n1_ n2_ n3_ hb hbox hg) | ((with_reducible refine zbe (N := 5) rfl ?_); refine zbl ?hg (N := 5) ?hd (cs := #[.slice none 0 0, .slice none 0 0]) (t := 40) ?hr ?_; (case hd => rfl); (case hg => rfl); (case hr => first | (go_simp; done) | (go_simp; rfl)); intro gb1104 hg w5 hbox hb; have n0_ := zA (zaf (g := gb1103) (o := .cells #[.slice none 0 0, .slice none 0 0] 28 (0, 0)) (zK BK1103) hb); have n1_ := zA (zac (zB HB) hb); have n2_ := zA (hbox); have n3_ := zA ((by rw [hg]; exact (za (zB HB)) : w.heap.size ≤ gb1104)); have n4_ := zA ((by rw [hg]; exact (za (zB HB)) : w.heap.size ≤ gb1104)); have n5_ := zA ((by rw [hg]; exact Nat.ne_of_lt (zb4 (g := gb1103) (o := .cells #[.slice none 0 0, .slice none 0 0] 28 (0, 0)) (zK BK1103)) : gb1103 ≠ gb1104)); have n6_ := zA ((by rw [hg]; exact Nat.ne_of_gt (zb4 (g := gb1103) (o := .cells #[.slice none 0 0, .slice none 0 0] 28 (0, 0)) (zK BK1103)) : gb1104 ≠ gb1103)); clear BK1103 HB; have BK1103 := n0_; have HB := n1_; have BK1104 := n2_; have GW1104 := n3_; have GE1104 := n4_; have NB1103_1104 := n5_; have NB1104_1103 := n6_; clear n0_ n1_ n2_ n3_ n4_ n5_ n6_ hb hbox hg))
 (try simp only [Act.put, zs1, zs2, zs3])
 go_cut [19] (fun v19 wc => ∃ (kq : Nat) (x19_2 : Bool), v19 = .bool x19_2 ∧ Aside0 (za0.j0 kq a0 a1 x19_2 = some (r1, r2, r3, r4, r5)) ∧ Aside0 (kq ≤ k) ∧ Aside0 (wc.heap[gb1103]? = some (.cells #[(.slice none 0 0), (.slice none 0 0)] 28 (0, 0))) ∧ Aside0 (wc.heap[gb1104]? = some (.cells #[(.slice none 0 0), (.slice none 0 0)] 40 (0, 0))) ∧ Aside0 (Below w.heap.size w wc))
 case first =>
  have H := HC3.out
  clear HC3
  by_cases c6 : a0 < 0
  ·
   rw [if_pos c6] at H
   have c6b0 : decide (a0 < 0) = true := decide_eq_true c6
   clear c6
   (first | rw [c6b0] | (simp only [i64_w, i32_w]; rw [c6b0]) | skip)
   have H' := zA H
   clear H
   go_wp2
   go_meet
   case rel => exact ⟨_, (true), (zF), H', ⟨by first | omega | exact Nat.le_refl _⟩, ⟨zK BK1103⟩, ⟨zK BK1104⟩, ⟨zB HB⟩⟩
  ·
   rw [if_neg c6] at H
   have c6b0 : decide (a0 < 0) = false := decide_eq_false c6
   clear c6
   (first | rw [c6b0] | (simp only [i64_w, i32_w]; rw [c6b0]) | skip)
   by_cases c7 : a1 < 1
   ·
    rw [if_pos c7] at H
    have c7b0 : decide (a1 < 1) = true := decide_eq_true c7
    clear c7
    have H' := zA H
    clear H
    go_wp2
    go_meet
    case rel => exact ⟨_, (true), (zF), H', ⟨by first | omega | exact Nat.le_refl _⟩, ⟨zK BK1103⟩, ⟨zK BK1104⟩, ⟨zB HB⟩⟩
   ·
    rw [if_neg c7] at H
    have c7b0 : decide (a1 < 1) = false := decide_eq_false c7
    clear c7
    have H' := zA H
    clear H
    go_wp2
    go_meet
    case rel => exact ⟨_, (decide (a0 > a1)), (zF), H', ⟨by first | omega | exact Nat.le_refl _⟩, ⟨zK BK1103⟩, ⟨zK BK1104⟩, ⟨zB HB⟩⟩
 case rest =>
  clear HC3
  try clear p2
  try clear c4
  try clear c6
  try clear c6b0
  try clear c7
  try clear c7b0
  obtain ⟨kq, x19_2, rfl, HA, HJ2, BK1103, BK1104, HB⟩ := hcut
  cases kq with
  | zero => exact absurd HA.out (by simp [za0.j0])
  | succ kj2 =>
   have H := HA.out
   clear HA
   simp only [za0.j0] at H
   by_cases c8 : x19_2 = true
   ·
    subst c8
    rw [if_pos rfl] at H
    simp only [Option.some.injEq, Prod.mk.injEq] at H
    obtain ⟨rfl, rfl, rfl, rfl, rfl⟩ := H
    have hnb9 := NB1103_1104.out
    have hnc9 := NB1104_1103.out
    have hcz10_0 : wc.cell? ⟨gb1103, 0, none⟩ = some (.slice none 0 0) := (zab BK1103.out 0).trans rfl
    have hcz10_1 : wc.cell? ⟨gb1103, 1, none⟩ = some (.slice none 0 0) := (zab BK1103.out 1).trans rfl
    have hfz10_0 := zan BK1103.out 0
    have hfz10_1 := zan BK1103.out 1
    have hcz11_0 : wc.cell? ⟨gb1104, 0, none⟩ = some (.slice none 0 0) := (zab BK1104.out 0).trans rfl
    have hcz11_1 : wc.cell? ⟨gb1104, 1, none⟩ = some (.slice none 0 0) := (zab BK1104.out 1).trans rfl
    have hfz11_0 := zan BK1104.out 0
    have hfz11_1 := zan BK1104.out 1
    go_wp2
    refine bodyPost_ret (results_list (rs := [.cell 4 28, .cell 5 40, .tmp 6]) rfl (by simp) (.cell gb1103 28 #[.slice none 0 0, .slice none 0 0] (0, 0) _ rfl (by (with_reducible repeat (first | refine zai ?_ _ | refine zaj ?_ | refine zah ?_ _)); refine zco ?_ NB1103_1104.out _; (with_reducible repeat (first | refine zai ?_ _ | refine zaj ?_ | refine zah ?_ _)); refine zco ?_ NB1103_1104.out _; (with_reducible repeat (first | refine zai ?_ _ | refine zaj ?_ | refine zah ?_ _)); refine zbn (cs := #[.slice none 0 0, .slice none 0 0]) ?_ 1 _ rfl; (with_reducible repeat (first | refine zai ?_ _ | refine zaj ?_ | refine zah ?_ _)); refine zbn (cs := #[.slice none 0 0, .slice none 0 0]) ?_ 0 _ rfl; (with_reducible repeat (first | refine zai ?_ _ | refine zaj ?_ | refine zah ?_ _)); exact BK1103.out) Tryd.underlying28 rfl (by kernel_rfl) (.cell gb1104 40 #[.slice none 0 0, .slice none 0 0] (0, 0) _ rfl (by (with_reducible repeat (first | refine zai ?_ _ | refine zaj ?_ | refine zah ?_ _)); refine zbn (cs := #[.slice none 0 0, .slice none 0 0]) ?_ 1 _ rfl; (with_reducible repeat (first | refine zai ?_ _ | refine zaj ?_ | refine zah ?_ _)); refine zbn (cs := #[.slice none 0 0, .slice none 0 0]) ?_ 0 _ rfl; (with_reducible repeat (first | refine zai ?_ _ | refine zaj ?_ | refine zah ?_ _)); refine zco ?_ NB1104_1103.out _; (with_reducible repeat (first | refine zai ?_ _ | refine zaj ?_ | refine zah ?_ _)); refine zco ?_ NB1104_1103.out _; (with_reducible repeat (first | refine zai ?_ _ | refine zaj ?_ | refine zah ?_ _)); exact BK1104.out) Tryd.underlying40 rfl (by kernel_rfl) (.tmp .nil)))) rfl ?_
    exact ⟨_, _, _, _, zW, Kd.V_nil _ _ _ _ _, Kd.V_nil _ _ _ _ _, by first | exact Kd.R_nil _ _ _ _ _ | exact Kd.N_nil _ _ _ _ _ | exact Kd.V_nil _ _ _ _ _ | exact Kd.Q_nil _ _ _ _ _ | exact Kd.S_nil _ _ _ _ _, by first | exact Kd.R_nil _ _ _ _ _ | exact Kd.N_nil _ _ _ _ _ | exact Kd.V_nil _ _ _ _ _ | exact Kd.Q_nil _ _ _ _ _ | exact Kd.S_nil _ _ _ _ _, zB HB⟩
   ·
    replace c8 := Bool.eq_false_iff.mpr c8
    subst c8
    rw [if_neg (show ¬ (false = true) by decide)] at H
    replace H := zO H
    obtain ⟨t1105, A120, H⟩ := H
    try dsimp only at H
    have A12 := zA A120
    clear A120
    replace H := zO H
    obtain ⟨t1108, A130, H⟩ := H
    try dsimp only at H
    have A13 := zA A130
    clear A130
    replace H := zO H
    obtain ⟨⟨t1111, t1114, t1117⟩, A140, H⟩ := H
    try dsimp only at H
    have A14 := zA A140
    clear A140
    replace H := zO H
    obtain ⟨t1119, A150, H⟩ := H
    try dsimp only at H
    have A15 := zA A150
    clear A150
    replace H := zO H
    obtain ⟨t1122, A160, H⟩ := H
    try dsimp only at H
    have A16 := zA A160
    clear A160
    replace H := zO H
    obtain ⟨⟨t1125, t1128⟩, A170, H⟩ := H
    try dsimp only at H
    have A17 := zA A170
    clear A170
    simp only [Option.some.injEq, Prod.mk.injEq] at H
    obtain ⟨rfl, rfl, rfl, rfl, rfl⟩ := H
    try go_wp2_with (first | ((with_reducible refine zae (f := 36) rfl ?_); refine za4 (some 25) rfl rfl Tryd.func36 (by kernel_rfl) rfl #[.int .u64 (IntKind.u64.wrap (a0))] rfl (zE) ?_; (with_reducible refine (zcf.calls kj2 (IntKind.u64.wrap (a0)) t1105 _ A12.out).mono ?_); rintro e w18 ⟨v1106, rfl, ho0, hb⟩; refine ⟨_, rfl, ?_⟩; have n0_ := zA (Kd.za2 (Kd.zak (ok' := fun k_ => (w.heap.size ≤ k_) ∧ k_ ≠ gb1103 ∧ k_ ≠ gb1104) ho0 (fun k_ hk_ => ⟨(Nat.le_trans (za (zB HB)) hk_), (Kd.freshB (g := gb1103) (o := .cells #[.slice none 0 0, .slice none 0 0] 28 (0, 0)) (zK BK1103) k_ hk_), (Kd.freshB (g := gb1104) (o := .cells #[.slice none 0 0, .slice none 0 0] 40 (0, 0)) (zK BK1104) k_ hk_)⟩)) (za (zB HB))); have n1_ := zA (zaf (g := gb1103) (o := .cells #[.slice none 0 0, .slice none 0 0] 28 (0, 0)) (zK BK1103) hb); have n2_ := zA (zaf (g := gb1104) (o := .cells #[.slice none 0 0, .slice none 0 0] 40 (0, 0)) (zK BK1104) hb); have n3_ := zA (zac (zB HB) hb); clear BK1103 BK1104 HB; have HO1107 := n0_; have BK1103 := n1_; have BK1104 := n2_; have HB := n3_; clear n0_ n1_ n2_ n3_; (try clear hb); (try clear hb2); (try clear hk); (try clear hi); (try clear ho0)) | ((with_reducible refine zae (f := 36) rfl ?_); refine za4 (some 28) rfl rfl Tryd.func36 (by kernel_rfl) rfl #[.int .u64 (IntKind.u64.wrap (a1))] rfl (zE) ?_; (with_reducible refine (zcf.calls kj2 (IntKind.u64.wrap (a1)) t1108 _ A13.out).mono ?_); rintro e w19 ⟨v1109, rfl, ho0, hb⟩; refine ⟨_, rfl, ?_⟩; have n0_ := zA (Kd.zar (zV HO1107) hb); have n1_ := zA (Kd.za2 (Kd.zak (ok' := fun k_ => (w.heap.size ≤ k_) ∧ k_ ≠ gb1103 ∧ k_ ≠ gb1104) ho0 (fun k_ hk_ => ⟨(Nat.le_trans (za (zB HB)) hk_), (Kd.freshB (g := gb1103) (o := .cells #[.slice none 0 0, .slice none 0 0] 28 (0, 0)) (zK BK1103) k_ hk_), (Kd.freshB (g := gb1104) (o := .cells #[.slice none 0 0, .slice none 0 0] 40 (0, 0)) (zK BK1104) k_ hk_)⟩)) (za (zB HB))); have n2_ := zA (zaf (g := gb1103) (o := .cells #[.slice none 0 0, .slice none 0 0] 28 (0, 0)) (zK BK1103) hb); have n3_ := zA (zaf (g := gb1104) (o := .cells #[.slice none 0 0, .slice none 0 0] 40 (0, 0)) (zK BK1104) hb); have n4_ := zA (zac (zB HB) hb); clear HO1107 BK1103 BK1104 HB; have HO1107 := n0_; have HO1110 := n1_; have BK1103 := n2_; have BK1104 := n3_; have HB := n4_; clear n0_ n1_ n2_ n3_ n4_; (try clear hb); (try clear hb2); (try clear hk); (try clear hi); (try clear ho0); obtain ⟨Ao20, co20, eo20⟩ := Kd.za3 HO1107.out; subst eo20; obtain ⟨Ao21, co21, eo21⟩ := Kd.za3 HO1110.out; subst eo21) | ((with_reducible refine zae (f := 24) rfl ?_); refine za4 (some 29) rfl rfl Tryd.func24 (by kernel_rfl) rfl #[.slice Ao20 t1105.length co20, .slice Ao21 t1108.length co21] rfl (zE) ?_; (with_reducible refine (zc4.calls kj2 _ _ t1105 _ _ t1108 t1111 t1114 t1117 _ ?side1 ?side2 ?side3 ?side4 A14.out).mono ?_); (case side1 => exact zJ (Kd.zal HO1107.out).2.2); (case side2 => exact (Kd.zal HO1107.out).2.1); (case side3 => exact zJ (Kd.zal HO1110.out).2.2); (case side4 => exact (Kd.zal HO1110.out).2.1); rintro e w22 ⟨v1112, v1115, rfl, ho0, ho1, hb⟩; refine ⟨_, rfl, ?_⟩; have n0_ := zA (Kd.zar (zV HO1107) hb); have n1_ := zA (Kd.zar (zV HO1110) hb); have n2_ := zA (Kd.za2 (Kd.zak (ok' := fun k_ => (w.heap.size ≤ k_) ∧ k_ ≠ gb1103 ∧ k_ ≠ gb1104) ho0 (fun k_ hk_ => ⟨(Nat.le_trans (za (zB HB)) hk_), (Kd.freshB (g := gb1103) (o := .cells #[.slice none 0 0, .slice none 0 0] 28 (0, 0)) (zK BK1103) k_ hk_), (Kd.freshB (g := gb1104) (o := .cells #[.slice none 0 0, .slice none 0 0] 40 (0, 0)) (zK BK1104) k_ hk_)⟩)) (za (zB HB))); have n3_ := zA (Kd.za2 (Kd.zak (ok' := fun k_ => (w.heap.size ≤ k_) ∧ k_ ≠ gb1103 ∧ k_ ≠ gb1104) ho1 (fun k_ hk_ => ⟨(Nat.le_trans (za (zB HB)) hk_), (Kd.freshB (g := gb1103) (o := .cells #[.slice none 0 0, .slice none 0 0] 28 (0, 0)) (zK BK1103) k_ hk_), (Kd.freshB (g := gb1104) (o := .cells #[.slice none 0 0, .slice none 0 0] 40 (0, 0)) (zK BK1104) k_ hk_)⟩)) (za (zB HB))); have n4_ := zA (zaf (g := gb1103) (o := .cells #[.slice none 0 0, .slice none 0 0] 28 (0, 0)) (zK BK1103) hb); have n5_ := zA (zaf (g := gb1104) (o := .cells #[.slice none 0 0, .slice none 0 0] 40 (0, 0)) (zK BK1104) hb); have n6_ := zA (zac (zB HB) hb); clear HO1107 HO1110 BK1103 BK1104 HB; have HO1107 := n0_; have HO1110 := n1_; have HO1113 := n2_; have HO1116 := n3_; have BK1103 := n4_; have BK1104 := n5_; have HB := n6_; clear n0_ n1_ n2_ n3_ n4_ n5_ n6_; (try clear hb); (try clear hb2); (try clear hk); (try clear hi); (try clear ho0); (try clear ho1)) | ((with_reducible refine zbe (N := 7) rfl ?_); refine zbl ?hg (N := 7) ?hd (cs := #[.slice none 0 0, .slice none 0 0]) (t := 28) ?hr ?_; (case hd => rfl); (case hg => rfl); (case hr => first | (go_simp; done) | (go_simp; rfl)); intro gb1118 hg w23 hbox hb; have n0_ := zA (Kd.zar (Kd.zb7 (zV HO1107) gb1118 (Nat.le_of_eq hg.symm)) hb); have n1_ := zA (Kd.zar (Kd.zb7 (zV HO1110) gb1118 (Nat.le_of_eq hg.symm)) hb); have n2_ := zA (Kd.zar (Kd.zb7 (zV HO1113) gb1118 (Nat.le_of_eq hg.symm)) hb); have n3_ := zA (Kd.zar (Kd.zb7 (zV HO1116) gb1118 (Nat.le_of_eq hg.symm)) hb); have n4_ := zA (zaf (g := gb1103) (o := .cells #[.slice none 0 0, .slice none 0 0] 28 (0, 0)) (zK BK1103) hb); have n5_ := zA (zaf (g := gb1104) (o := .cells #[.slice none 0 0, .slice none 0 0] 40 (0, 0)) (zK BK1104) hb); have n6_ := zA (zac (zB HB) hb); have n7_ := zA (hbox); have n8_ := zA ((by rw [hg]; exact (za (zB HB)) : w.heap.size ≤ gb1118)); have n9_ := zA ((by rw [hg]; exact (za (zB HB)) : w.heap.size ≤ gb1118)); have n10_ := zA ((by rw [hg]; exact Nat.ne_of_lt (zb4 (g := gb1103) (o := .cells #[.slice none 0 0, .slice none 0 0] 28 (0, 0)) (zK BK1103)) : gb1103 ≠ gb1118)); have n11_ := zA ((by rw [hg]; exact Nat.ne_of_gt (zb4 (g := gb1103) (o := .cells #[.slice none 0 0, .slice none 0 0] 28 (0, 0)) (zK BK1103)) : gb1118 ≠ gb1103)); have n12_ := zA ((by rw [hg]; exact Nat.ne_of_lt (zb4 (g := gb1104) (o := .cells #[.slice none 0 0, .slice none 0 0] 40 (0, 0)) (zK BK1104)) : gb1104 ≠ gb1118)); have n13_ := zA ((by rw [hg]; exact Nat.ne_of_gt (zb4 (g := gb1104) (o := .cells #[.slice none 0 0, .slice none 0 0] 40 (0, 0)) (zK BK1104)) : gb1118 ≠ gb1104)); clear HO1107 HO1110 HO1113 HO1116 BK1103 BK1104 HB; have HO1107 := n0_; have HO1110 := n1_; have HO1113 := n2_; have HO1116 := n3_; have BK1103 := n4_; have BK1104 := n5_; have HB := n6_; have BK1118 := n7_; have GW1118 := n8_; have GE1118 := n9_; have NB1103_1118 := n10_; have NB1118_1103 := n11_; have NB1104_1118 := n12_; have NB1118_1104 := n13_; clear n0_ n1_ n2_ n3_ n4_ n5_ n6_ n7_ n8_ n9_ n10_ n11_ n12_ n13_ hb hbox hg; obtain ⟨Ao24, co24, eo24⟩ := Kd.za3 HO1113.out; subst eo24; have hnb25 := NB1118_1103.out; have hnc25 := NB1103_1118.out; have hnb26 := NB1118_1104.out; have hnc26 := NB1104_1118.out; have hcz27_0 : w23.cell? ⟨gb1118, 0, none⟩ = some (.slice none 0 0) := (zab BK1118.out 0).trans rfl; have hcz27_1 : w23.cell? ⟨gb1118, 1, none⟩ = some (.slice none 0 0) := (zab BK1118.out 1).trans rfl; have hfz27_0 := zan BK1118.out 0; have hfz27_1 := zan BK1118.out 1; obtain ⟨Ao28, co28, eo28⟩ := Kd.za3 HO1116.out; subst eo28))
    have n0_ : Aside0 (Kd.V (Kd.int .u64) 57 ((w23.setCell ⟨gb1118, 0, none⟩ (.slice Ao24 t1111.length co24)).setCell ⟨gb1118, 1, none⟩ (.slice Ao28 t1114.length co28)) w.heap.size (fun k_ => (w.heap.size ≤ k_) ∧ k_ ≠ gb1103 ∧ k_ ≠ gb1104 ∧ k_ ≠ gb1118) (.slice Ao20 t1105.length co20) t1105) := ⟨by (with_reducible repeat (first | apply Kd.za8 | apply Kd.za7 | apply Kd.zbd)); exact Kd.zak (Kd.V_far (p := ⟨gb1118, 1, none⟩) (Kd.V_far (p := ⟨gb1118, 0, none⟩) (Kd.zak HO1107.out (fun k_ hk => (⟨hk, hk.2⟩ : _ ∧ k_ ≠ gb1118))) (fun _ hk => hk.2) (.slice Ao24 t1111.length co24)) (fun _ hk => hk.2) (.slice Ao28 t1114.length co28)) (fun _ hk => ⟨hk.1.1.1, ⟨hk.1.1.2.1, ⟨hk.1.1.2.2, hk.1.2⟩⟩⟩)⟩
    have n1_ : Aside0 (Kd.V (Kd.int .u64) 57 ((w23.setCell ⟨gb1118, 0, none⟩ (.slice Ao24 t1111.length co24)).setCell ⟨gb1118, 1, none⟩ (.slice Ao28 t1114.length co28)) w.heap.size (fun k_ => (w.heap.size ≤ k_) ∧ k_ ≠ gb1103 ∧ k_ ≠ gb1104 ∧ k_ ≠ gb1118) (.slice Ao21 t1108.length co21) t1108) := ⟨by (with_reducible repeat (first | apply Kd.za8 | apply Kd.za7 | apply Kd.zbd)); exact Kd.zak (Kd.V_far (p := ⟨gb1118, 1, none⟩) (Kd.V_far (p := ⟨gb1118, 0, none⟩) (Kd.zak HO1110.out (fun k_ hk => (⟨hk, hk.2⟩ : _ ∧ k_ ≠ gb1118))) (fun _ hk => hk.2) (.slice Ao24 t1111.length co24)) (fun _ hk => hk.2) (.slice Ao28 t1114.length co28)) (fun _ hk => ⟨hk.1.1.1, ⟨hk.1.1.2.1, ⟨hk.1.1.2.2, hk.1.2⟩⟩⟩)⟩
    have n2_ : Aside0 (Kd.V (Kd.int .u64) 57 ((w23.setCell ⟨gb1118, 0, none⟩ (.slice Ao24 t1111.length co24)).setCell ⟨gb1118, 1, none⟩ (.slice Ao28 t1114.length co28)) w.heap.size (fun k_ => (w.heap.size ≤ k_) ∧ k_ ≠ gb1103 ∧ k_ ≠ gb1104 ∧ k_ ≠ gb1118) (.slice Ao24 t1111.length co24) t1111) := ⟨by (with_reducible repeat (first | apply Kd.za8 | apply Kd.za7 | apply Kd.zbd)); exact Kd.zak (Kd.V_far (p := ⟨gb1118, 1, none⟩) (Kd.V_far (p := ⟨gb1118, 0, none⟩) (Kd.zak HO1113.out (fun k_ hk => (⟨hk, hk.2⟩ : _ ∧ k_ ≠ gb1118))) (fun _ hk => hk.2) (.slice Ao24 t1111.length co24)) (fun _ hk => hk.2) (.slice Ao28 t1114.length co28)) (fun _ hk => ⟨hk.1.1.1, ⟨hk.1.1.2.1, ⟨hk.1.1.2.2, hk.1.2⟩⟩⟩)⟩
    have n3_ : Aside0 (Kd.V (Kd.int .u64) 57 ((w23.setCell ⟨gb1118, 0, none⟩ (.slice Ao24 t1111.length co24)).setCell ⟨gb1118, 1, none⟩ (.slice Ao28 t1114.length co28)) w.heap.size (fun k_ => (w.heap.size ≤ k_) ∧ k_ ≠ gb1103 ∧ k_ ≠ gb1104 ∧ k_ ≠ gb1118) (.slice Ao28 t1114.length co28) t1114) := ⟨by (with_reducible repeat (first | apply Kd.za8 | apply Kd.za7 | apply Kd.zbd)); exact Kd.zak (Kd.V_far (p := ⟨gb1118, 1, none⟩) (Kd.V_far (p := ⟨gb1118, 0, none⟩) (Kd.zak HO1116.out (fun k_ hk => (⟨hk, hk.2⟩ : _ ∧ k_ ≠ gb1118))) (fun _ hk => hk.2) (.slice Ao24 t1111.length co24)) (fun _ hk => hk.2) (.slice Ao28 t1114.length co28)) (fun _ hk => ⟨hk.1.1.1, ⟨hk.1.1.2.1, ⟨hk.1.1.2.2, hk.1.2⟩⟩⟩)⟩
    have n4_ : Aside0 (((w23.setCell ⟨gb1118, 0, none⟩ (.slice Ao24 t1111.length co24)).setCell ⟨gb1118, 1, none⟩ (.slice Ao28 t1114.length co28)).heap[gb1103]? = some (.cells #[.slice none 0 0, .slice none 0 0] 28 (0, 0))) := ⟨by (with_reducible repeat (first | refine zai ?_ _ | refine zaj ?_ | refine zah ?_ _)); refine zco ?_ NB1103_1118.out _; (with_reducible repeat (first | refine zai ?_ _ | refine zaj ?_ | refine zah ?_ _)); refine zco ?_ NB1103_1118.out _; (with_reducible repeat (first | refine zai ?_ _ | refine zaj ?_ | refine zah ?_ _)); exact BK1103.out⟩
    have n5_ : Aside0 (((w23.setCell ⟨gb1118, 0, none⟩ (.slice Ao24 t1111.length co24)).setCell ⟨gb1118, 1, none⟩ (.slice Ao28 t1114.length co28)).heap[gb1104]? = some (.cells #[.slice none 0 0, .slice none 0 0] 40 (0, 0))) := ⟨by (with_reducible repeat (first | refine zai ?_ _ | refine zaj ?_ | refine zah ?_ _)); refine zco ?_ NB1104_1118.out _; (with_reducible repeat (first | refine zai ?_ _ | refine zaj ?_ | refine zah ?_ _)); refine zco ?_ NB1104_1118.out _; (with_reducible repeat (first | refine zai ?_ _ | refine zaj ?_ | refine zah ?_ _)); exact BK1104.out⟩
    have n6_ : Aside0 (((w23.setCell ⟨gb1118, 0, none⟩ (.slice Ao24 t1111.length co24)).setCell ⟨gb1118, 1, none⟩ (.slice Ao28 t1114.length co28)).heap[gb1118]? = some (.cells #[.slice Ao24 t1111.length co24, .slice Ao28 t1114.length co28] 28 (0, 0))) := ⟨by (with_reducible repeat (first | refine zai ?_ _ | refine zaj ?_ | refine zah ?_ _)); refine zbn (cs := #[.slice Ao24 t1111.length co24, .slice none 0 0]) ?_ 1 _ rfl; (with_reducible repeat (first | refine zai ?_ _ | refine zaj ?_ | refine zah ?_ _)); refine zbn (cs := #[.slice none 0 0, .slice none 0 0]) ?_ 0 _ rfl; (with_reducible repeat (first | refine zai ?_ _ | refine zaj ?_ | refine zah ?_ _)); exact BK1118.out⟩
    have n7_ : Aside0 (Below w.heap.size w ((w23.setCell ⟨gb1118, 0, none⟩ (.slice Ao24 t1111.length co24)).setCell ⟨gb1118, 1, none⟩ (.slice Ao28 t1114.length co28))) := ⟨zB HB⟩
    (try clear HO1107)
    (try clear HO1110)
    (try clear HO1113)
    (try clear HO1116)
    (try clear BK1103)
    (try clear BK1104)
    (try clear BK1118)
    (try clear HB)
    generalize ((w23.setCell ⟨gb1118, 0, none⟩ (.slice Ao24 t1111.length co24)).setCell ⟨gb1118, 1, none⟩ (.slice Ao28 t1114.length co28)) = w29 at n0_ n1_ n2_ n3_ n4_ n5_ n6_ n7_ ⊢
    have HO1107 := n0_
    have HO1110 := n1_
    have HO1113 := n2_
    have HO1116 := n3_
    have BK1103 := n4_
    have BK1104 := n5_
    have BK1118 := n6_
    have HB := n7_
    clear n0_ n1_ n2_ n3_ n4_ n5_ n6_ n7_
    have n0_ := zA (Kd.zbd HO1107.out)
    have n1_ := zA (Kd.zbd HO1110.out)
    have n2_ := zA (Kd.zbd HO1113.out)
    have n3_ := zA (Kd.zbd HO1116.out)
    have n4_ := zA (zaj BK1103.out)
    have n5_ := zA (zaj BK1104.out)
    have n6_ := zA (zaj BK1118.out)
    have n7_ := zA (zbi HB.out)
    clear HO1107 HO1110 HO1113 HO1116 BK1103 BK1104 BK1118 HB
    have HO1107 := n0_
    have HO1110 := n1_
    have HO1113 := n2_
    have HO1116 := n3_
    have BK1103 := n4_
    have BK1104 := n5_
    have BK1118 := n6_
    have HB := n7_
    clear n0_ n1_ n2_ n3_ n4_ n5_ n6_ n7_
    refine start_ (n := 11) (S := fun w' => w'.cell? ⟨gb1118, 0, none⟩ = some (.slice Ao24 t1111.length co24) ∧ w'.cell? ⟨gb1118, 1, none⟩ = some (.slice Ao28 t1114.length co28)) (ds := []) #[false, false, false, false, false, false, false, false, false, false, false] (by kernel_rfl) rfl rfl ⟨(zab BK1118.out 0).trans rfl, (zab BK1118.out 1).trans rfl⟩ (fun hHeld => ?_); refine zcw za0.tab4 za0.bits4 (fun HT_ HW_ => ?_)
    generalize w29.drew = w30 at HO1107 HO1110 HO1113 HO1116 BK1103 BK1104 BK1118 HB hHeld ⊢
    refine pure_ (i := 1) (N := some 33) (v := ?_) (a' := ?_) #[false, true, false, false, false, false, false, false, false, false, false] rfl rfl (zav HT_.out (by kernel_rfl)) (fun _ _ _ h => h) (Or.inl ⟨by rfl, ?_⟩) ?_ ?_
    rotate_left
    ·
     intro w'
     go_simp
     with_reducible rfl
    rotate_left
    ·
     simp only [Act.put, zs1, zs2, zs3, i64_w, i32_w]
     rfl
    refine pure_ (i := 3) (N := some 35) (v := ?_) (a' := ?_) #[false, true, false, true, false, false, false, false, false, false, false] rfl rfl (zav HT_.out (by kernel_rfl)) (fun _ _ _ h => h) (Or.inl ⟨by rfl, ?_⟩) ?_ ?_
    rotate_left
    ·
     intro w'
     go_simp
     with_reducible rfl
    rotate_left
    ·
     simp only [Act.put, zs1, zs2, zs3, i64_w, i32_w]
     rfl
    refine pure_ (i := 6) (N := some 38) (v := ?_) (a' := ?_) #[false, true, false, true, false, false, true, false, false, false, false] rfl rfl (zav HT_.out (by kernel_rfl)) (fun _ _ _ h => h) (Or.inl ⟨by rfl, ?_⟩) ?_ ?_
    rotate_left
    ·
     intro w'
     go_simp
     with_reducible rfl
    rotate_left
    ·
     simp only [Act.put, zs1, zs2, zs3, i64_w, i32_w]
     rfl
    refine pure_ (i := 7) (N := some 39) (v := ?_) (a' := ?_) #[false, true, false, true, false, false, true, true, false, false, false] rfl rfl (zav HT_.out (by kernel_rfl)) (fun _ _ _ h => h) (Or.inl ⟨by rfl, ?_⟩) ?_ ?_
    rotate_left
    ·
     intro w'
     go_simp
     with_reducible rfl
    rotate_left
    ·
     simp only [Act.put, zs1, zs2, zs3, i64_w, i32_w]
     rfl
    refine take_ (i := 0) (N := some 32) (v := ?_) (a' := ?_) #[true, true, false, true, false, false, true, true, false, false, false] rfl rfl (zb9 HT_.out HW_.out (by kernel_rfl)) (fun _ _ _ h => h) (Or.inl ⟨by rfl, ?_⟩) hHeld ?_ ?_
    rotate_left
    ·
     rintro w' ⟨s0, s1⟩
     go_simp
     with_reducible rfl
    rotate_left
    ·
     simp only [Act.put, zs1, zs2, zs3, i64_w, i32_w]
     rfl
    refine one_ (i := 2) (N := some 34) #[true, true, true, true, false, false, true, true, false, false, false] rfl rfl (zb8 HT_.out (by kernel_rfl)) (by decide) (fun K hK => ?_)
    refine goes_ Tryd.func20 (by kernel_rfl) rfl #[.int .i64 a0] (by rfl) rfl rfl (zE) ?_
    with_reducible refine (zaw.calls kj2 a0 t1119 _ A15.out).mono ?_
    rintro e w31 ⟨v1120, rfl, ho0, hb⟩
    refine ⟨_, rfl, ?_⟩
    have n0_ := zA (Kd.zde (zV HO1107) (Kd.zbk ho0) hb)
    have n1_ := zA (Kd.zde (zV HO1110) (Kd.zbk ho0) hb)
    have n2_ := zA (Kd.zde (zV HO1113) (Kd.zbk ho0) hb)
    have n3_ := zA (Kd.zde (zV HO1116) (Kd.zbk ho0) hb)
    have n4_ := zA (Kd.zbw (Kd.R_newM (M := fun k_ => (w.heap.size ≤ k_)) ho0 (za (zB HB)) (fun k_ h_ => h_)) (za (zB HB)))
    have n5_ := zA (zaf (g := gb1103) (o := .cells #[.slice none 0 0, .slice none 0 0] 28 (0, 0)) (zK BK1103) hb)
    have n6_ := zA (zaf (g := gb1104) (o := .cells #[.slice none 0 0, .slice none 0 0] 40 (0, 0)) (zK BK1104) hb)
    have n7_ := zA (zaf (g := gb1118) (o := .cells #[.slice Ao24 t1111.length co24, .slice Ao28 t1114.length co28] 28 (0, 0)) (zK BK1118) hb)
    have n8_ := zA (zac (zB HB) hb)
    clear HO1107 HO1110 HO1113 HO1116 BK1103 BK1104 BK1118 HB
    have HO1107 := n0_
    have HO1110 := n1_
    have HO1113 := n2_
    have HO1116 := n3_
    have HO1121 := n4_
    have BK1103 := n5_
    have BK1104 := n6_
    have BK1118 := n7_
    have HB := n8_
    clear n0_ n1_ n2_ n3_ n4_ n5_ n6_ n7_ n8_
    (try clear hb)
    (try clear hb2)
    (try clear hk)
    (try clear hi)
    (try clear ho0)
    refine hK.out _ _ ⟨(zab BK1118.out 0).trans rfl, (zab BK1118.out 1).trans rfl⟩ (fun hHeld => ?_)
    clear hK K
    refine norm_ (a' := ?_) ?_ ?_
    rotate_left
    ·
     show Act.put _ (some 34) _ = _
     simp only [Act.put, zs1, zs2, zs3, i64_w, i32_w]
     rfl
    refine one_ (i := 4) (N := some 36) #[true, true, true, true, true, false, true, true, false, false, false] rfl rfl (zb8 HT_.out (by kernel_rfl)) (by decide) (fun K hK => ?_)
    refine goes_ Tryd.func20 (by kernel_rfl) rfl #[.int .i64 a1] (by rfl) rfl rfl (zE) ?_
    with_reducible refine (zaw.calls kj2 a1 t1122 _ A16.out).mono ?_
    rintro e w32 ⟨v1123, rfl, ho0, hb⟩
    refine ⟨_, rfl, ?_⟩
    have n0_ := zA (Kd.zde (zV HO1107) (Kd.zbk ho0) hb)
    have n1_ := zA (Kd.zde (zV HO1110) (Kd.zbk ho0) hb)
    have n2_ := zA (Kd.zde (zV HO1113) (Kd.zbk ho0) hb)
    have n3_ := zA (Kd.zde (zV HO1116) (Kd.zbk ho0) hb)
    have n4_ := zA (Kd.zbv (zR HO1121) (Kd.zbk ho0) hb)
    have n5_ := zA (Kd.zbw (Kd.zcc (Kd.R_newM (M := fun k_ => (w.heap.size ≤ k_)) ho0 (za (zB HB)) (fun k_ h_ => h_)) (Kd.R_lt (zR HO1121))) (za (zB HB)))
    have n6_ := zA (zaf (g := gb1103) (o := .cells #[.slice none 0 0, .slice none 0 0] 28 (0, 0)) (zK BK1103) hb)
    have n7_ := zA (zaf (g := gb1104) (o := .cells #[.slice none 0 0, .slice none 0 0] 40 (0, 0)) (zK BK1104) hb)
    have n8_ := zA (zaf (g := gb1118) (o := .cells #[.slice Ao24 t1111.length co24, .slice Ao28 t1114.length co28] 28 (0, 0)) (zK BK1118) hb)
    have n9_ := zA (zac (zB HB) hb)
    clear HO1107 HO1110 HO1113 HO1116 HO1121 BK1103 BK1104 BK1118 HB
    have HO1107 := n0_
    have HO1110 := n1_
    have HO1113 := n2_
    have HO1116 := n3_
    have HO1121 := n4_
    have HO1124 := n5_
    have BK1103 := n6_
    have BK1104 := n7_
    have BK1118 := n8_
    have HB := n9_
    clear n0_ n1_ n2_ n3_ n4_ n5_ n6_ n7_ n8_ n9_
    (try clear hb)
    (try clear hb2)
    (try clear hk)
    (try clear hi)
    (try clear ho0)
    obtain ⟨Ao33, co33, eo33⟩ := Kd.zbq HO1121.out
    (first | subst eo33 | (injection eo33 with f1_ f2_ f3_; have f4_ := f1_.symm; have f5_ := f3_.symm; clear f1_ f2_ f3_; subst f4_; subst f5_))
    obtain ⟨Ao34, co34, eo34⟩ := Kd.zbq HO1124.out
    (first | subst eo34 | (injection eo34 with f1_ f2_ f3_; have f4_ := f1_.symm; have f5_ := f3_.symm; clear f1_ f2_ f3_; subst f4_; subst f5_))
    refine hK.out _ _ ⟨(zab BK1118.out 0).trans rfl, (zab BK1118.out 1).trans rfl⟩ (fun hHeld => ?_)
    clear hK K
    refine norm_ (a' := ?_) ?_ ?_
    rotate_left
    ·
     show Act.put _ (some 36) _ = _
     simp only [Act.put, zs1, zs2, zs3, i64_w, i32_w]
     rfl
    refine one_ (i := 5) (N := some 37) #[true, true, true, true, true, true, true, true, false, false, false] rfl rfl (zb8 HT_.out (by kernel_rfl)) (by decide) (fun K hK => ?_)
    refine goes_ Tryd.func59 (by kernel_rfl) rfl #[.slice Ao33 t1119.length co33, .slice Ao34 t1122.length co34] (by rfl) rfl rfl (zE) ?_
    with_reducible refine (zcy.calls kj2 _ _ t1119 _ _ t1122 t1125 t1128 _ ?side1 ?side2 ?side3 ?side4 A17.out).mono ?_
    (case side1 => exact zJ (Kd.zay HO1121.out).2.2)
    (case side2 => exact (Kd.zay HO1121.out).2.1)
    (case side3 => exact zJ (Kd.zay HO1124.out).2.2)
    (case side4 => exact (Kd.zay HO1124.out).2.1)
    rintro e w35 ⟨v1126, v1129, rfl, ho0, ho1, hb⟩
    refine ⟨_, rfl, ?_⟩
    have n0_ := zA (Kd.zak (Kd.V_told (Kd.V_told (Kd.V_old (zV HO1107) hb) (Kd.zbk ho0)) (Kd.zbk ho1)) (fun _ h_ => h_.1))
    have n1_ := zA (Kd.zak (Kd.V_told (Kd.V_told (Kd.V_old (zV HO1110) hb) (Kd.zbk ho0)) (Kd.zbk ho1)) (fun _ h_ => h_.1))
    have n2_ := zA (Kd.zak (Kd.V_told (Kd.V_told (Kd.V_old (zV HO1113) hb) (Kd.zbk ho0)) (Kd.zbk ho1)) (fun _ h_ => h_.1))
    have n3_ := zA (Kd.zak (Kd.V_told (Kd.V_told (Kd.V_old (zV HO1116) hb) (Kd.zbk ho0)) (Kd.zbk ho1)) (fun _ h_ => h_.1))
    have n4_ := zA (Kd.zbr (Kd.R_told (Kd.R_told (Kd.R_old (zR HO1121) hb) (Kd.zbk ho0)) (Kd.zbk ho1)) (fun _ h_ => h_.1))
    have n5_ := zA (Kd.zbr (Kd.R_told (Kd.R_told (Kd.R_old (zR HO1124) hb) (Kd.zbk ho0)) (Kd.zbk ho1)) (fun _ h_ => h_.1))
    have n6_ := zA (Kd.zbw (Kd.zcc (Kd.zcc (Kd.R_newM (M := fun k_ => (w.heap.size ≤ k_)) ho0 (za (zB HB)) (fun k_ h_ => h_)) (Kd.R_lt (zR HO1121))) (Kd.R_lt (zR HO1124))) (za (zB HB)))
    have n7_ := zA (Kd.zbw (Kd.zcc (Kd.zcc (Kd.R_newM (M := fun k_ => (w.heap.size ≤ k_)) ho1 (za (zB HB)) (fun k_ h_ => h_)) (Kd.R_lt (zR HO1121))) (Kd.R_lt (zR HO1124))) (za (zB HB)))
    have n8_ := zA (zaf (g := gb1103) (o := .cells #[.slice none 0 0, .slice none 0 0] 28 (0, 0)) (zK BK1103) hb)
    have n9_ := zA (zaf (g := gb1104) (o := .cells #[.slice none 0 0, .slice none 0 0] 40 (0, 0)) (zK BK1104) hb)
    have n10_ := zA (zaf (g := gb1118) (o := .cells #[.slice Ao24 t1111.length co24, .slice Ao28 t1114.length co28] 28 (0, 0)) (zK BK1118) hb)
    have n11_ := zA (zac (zB HB) hb)
    clear HO1107 HO1110 HO1113 HO1116 HO1121 HO1124 BK1103 BK1104 BK1118 HB
    have HO1107 := n0_
    have HO1110 := n1_
    have HO1113 := n2_
    have HO1116 := n3_
    have HO1121 := n4_
    have HO1124 := n5_
    have HO1127 := n6_
    have HO1130 := n7_
    have BK1103 := n8_
    have BK1104 := n9_
    have BK1118 := n10_
    have HB := n11_
    clear n0_ n1_ n2_ n3_ n4_ n5_ n6_ n7_ n8_ n9_ n10_ n11_
    (try clear hb)
    (try clear hb2)
    (try clear hk)
    (try clear hi)
    (try clear ho0)
    (try clear ho1)
    obtain ⟨Ao38, co38, eo38⟩ := Kd.zbq HO1127.out
    (first | subst eo38 | (injection eo38 with f1_ f2_ f3_; have f4_ := f1_.symm; have f5_ := f3_.symm; clear f1_ f2_ f3_; subst f4_; subst f5_))
    obtain ⟨Ao40, co40, eo40⟩ := Kd.zbq HO1130.out
    (first | subst eo40 | (injection eo40 with f1_ f2_ f3_; have f4_ := f1_.symm; have f5_ := f3_.symm; clear f1_ f2_ f3_; subst f4_; subst f5_))
    refine hK.out _ _ ⟨(zab BK1118.out 0).trans rfl, (zab BK1118.out 1).trans rfl⟩ (fun hHeld => ?_)
    clear hK K
    refine norm_ (a' := ?_) ?_ ?_
    rotate_left
    ·
     show Act.put _ (some 37) _ = _
     simp only [Act.put, zs1, zs2, zs3, i64_w, i32_w]
     rfl
    refine one_ (i := 8) (N := none) #[true, true, true, true, true, true, true, true, true, false, false] rfl rfl (zb8 HT_.out (by kernel_rfl)) (by decide) (fun K hK => ?_)
    have hs36 : w35.cell? ⟨gb1103, 0, none⟩ = some (.slice none 0 0) := (zab BK1103.out 0).trans rfl
    have hfs36 := zan BK1103.out 0
    have hns36_1 := NB1104_1103.out
    have hns36_2 := NB1118_1103.out
    have hms36_1 := NB1103_1104.out
    have hms36_2 := NB1103_1118.out
    have hs37 : w35.cell? ⟨gb1103, 1, none⟩ = some (.slice none 0 0) := (zab BK1103.out 1).trans rfl
    have hfs37 := zan BK1103.out 1
    have hns37_1 := NB1104_1103.out
    have hns37_2 := NB1118_1103.out
    have hms37_1 := NB1103_1104.out
    have hms37_2 := NB1103_1118.out
    refine skip_ (w1 := ?_) (by rfl) rfl ?_ ?_
    rotate_left
    ·
     go_simp
     rfl
    refine hK.out _ _ ⟨((cell_far (p := ⟨gb1103, _, none⟩) NB1118_1103.out _).trans (((cell_far (p := ⟨gb1103, _, none⟩) NB1118_1103.out _).trans (hHeld.1)))), ((cell_far (p := ⟨gb1103, _, none⟩) NB1118_1103.out _).trans (((cell_far (p := ⟨gb1103, _, none⟩) NB1118_1103.out _).trans (hHeld.2))))⟩ (fun hHeld => ?_)
    clear hK K
    refine one_ (i := 9) (N := none) #[true, true, true, true, true, true, true, true, true, true, false] rfl rfl (zb8 HT_.out (by kernel_rfl)) (by decide) (fun K hK => ?_)
    have hs39 : w35.cell? ⟨gb1104, 0, none⟩ = some (.slice none 0 0) := (zab BK1104.out 0).trans rfl
    have hfs39 := zan BK1104.out 0
    have hns39_0 := NB1103_1104.out
    have hns39_2 := NB1118_1104.out
    have hms39_0 := NB1104_1103.out
    have hms39_2 := NB1104_1118.out
    have hs41 : w35.cell? ⟨gb1104, 1, none⟩ = some (.slice none 0 0) := (zab BK1104.out 1).trans rfl
    have hfs41 := zan BK1104.out 1
    have hns41_0 := NB1103_1104.out
    have hns41_2 := NB1118_1104.out
    have hms41_0 := NB1104_1103.out
    have hms41_2 := NB1104_1118.out
    refine skip_ (w1 := ?_) (by rfl) rfl ?_ ?_
    rotate_left
    ·
     go_simp
     rfl
    refine hK.out _ _ ⟨((cell_far (p := ⟨gb1104, _, none⟩) NB1118_1104.out _).trans (((cell_far (p := ⟨gb1104, _, none⟩) NB1118_1104.out _).trans (hHeld.1)))), ((cell_far (p := ⟨gb1104, _, none⟩) NB1118_1104.out _).trans (((cell_far (p := ⟨gb1104, _, none⟩) NB1118_1104.out _).trans (hHeld.2))))⟩ (fun hHeld => ?_)
    clear hK K
    refine pure_ (i := 10) (N := some 6) (v := ?_) (a' := ?_) #[true, true, true, true, true, true, true, true, true, true, true] rfl rfl (zav HT_.out (by kernel_rfl)) (fun _ _ _ h => h) (Or.inl ⟨by rfl, ?_⟩) ?_ ?_
    rotate_left
    ·
     intro w'
     go_simp
     with_reducible rfl
    rotate_left
    ·
     simp only [Act.put, zs1, zs2, zs3, i64_w, i32_w]
     rfl
    refine done_ (zdk HT_.out (by kernel_rfl)) ?_
    try go_wp2
    refine bodyPost_ret (results_list (rs := [.cell 4 28, .cell 5 40, .tmp 6]) rfl (by simp) (.cell gb1103 28 #[.slice Ao24 t1111.length co24, .slice Ao28 t1114.length co28] (0, 0) _ rfl (by (with_reducible repeat (first | refine zai ?_ _ | refine zaj ?_ | refine zah ?_ _)); refine zco ?_ NB1103_1104.out _; (with_reducible repeat (first | refine zai ?_ _ | refine zaj ?_ | refine zah ?_ _)); refine zco ?_ NB1103_1104.out _; (with_reducible repeat (first | refine zai ?_ _ | refine zaj ?_ | refine zah ?_ _)); refine zbn (cs := #[.slice Ao24 t1111.length co24, .slice none 0 0]) ?_ 1 _ rfl; (with_reducible repeat (first | refine zai ?_ _ | refine zaj ?_ | refine zah ?_ _)); refine zbn (cs := #[.slice none 0 0, .slice none 0 0]) ?_ 0 _ rfl; (with_reducible repeat (first | refine zai ?_ _ | refine zaj ?_ | refine zah ?_ _)); exact BK1103.out) Tryd.underlying28 rfl (by kernel_rfl) (.cell gb1104 40 #[.slice Ao38 t1125.length co38, .slice Ao40 t1128.length co40] (0, 0) _ rfl (by (with_reducible repeat (first | refine zai ?_ _ | refine zaj ?_ | refine zah ?_ _)); refine zbn (cs := #[.slice Ao38 t1125.length co38, .slice none 0 0]) ?_ 1 _ rfl; (with_reducible repeat (first | refine zai ?_ _ | refine zaj ?_ | refine zah ?_ _)); refine zbn (cs := #[.slice none 0 0, .slice none 0 0]) ?_ 0 _ rfl; (with_reducible repeat (first | refine zai ?_ _ | refine zaj ?_ | refine zah ?_ _)); refine zco ?_ NB1104_1103.out _; (with_reducible repeat (first | refine zai ?_ _ | refine zaj ?_ | refine zah ?_ _)); refine zco ?_ NB1104_1103.out _; (with_reducible repeat (first | refine zai ?_ _ | refine zaj ?_ | refine zah ?_ _)); exact BK1104.out) Tryd.underlying40 rfl (by kernel_rfl) (.tmp .nil)))) rfl ?_
    exact ⟨_, _, _, _, zW, by (with_reducible repeat (first | apply Kd.za8 | apply Kd.za7 | apply Kd.zbd)); exact Kd.zak (Kd.V_far (p := ⟨gb1104, 1, none⟩) (Kd.V_far (p := ⟨gb1104, 0, none⟩) (Kd.V_far (p := ⟨gb1103, 1, none⟩) (Kd.V_far (p := ⟨gb1103, 0, none⟩) (Kd.zak (Kd.zak HO1113.out (fun k_ hk => (⟨hk, hk.1.1.1.1.2.1⟩ : _ ∧ k_ ≠ gb1103))) (fun k_ hk => (⟨hk, hk.1.1.1.1.1.2.2.1⟩ : _ ∧ k_ ≠ gb1104))) (fun _ hk => hk.1.2) (.slice Ao24 t1111.length co24)) (fun _ hk => hk.1.2) (.slice Ao28 t1114.length co28)) (fun _ hk => hk.2) (.slice Ao38 t1125.length co38)) (fun _ hk => hk.2) (.slice Ao40 t1128.length co40)) (fun _ hk => ⟨hk.1.1.1.1.1.1.1, ⟨hk.1.1.1.2, hk.1.1.2⟩⟩), by (with_reducible repeat (first | apply Kd.za8 | apply Kd.za7 | apply Kd.zbd)); exact Kd.zak (Kd.V_far (p := ⟨gb1104, 1, none⟩) (Kd.V_far (p := ⟨gb1104, 0, none⟩) (Kd.V_far (p := ⟨gb1103, 1, none⟩) (Kd.V_far (p := ⟨gb1103, 0, none⟩) (Kd.zak (Kd.zak HO1116.out (fun k_ hk => (⟨hk, hk.1.1.1.1.2.1⟩ : _ ∧ k_ ≠ gb1103))) (fun k_ hk => (⟨hk, hk.1.1.1.1.1.2.2.1⟩ : _ ∧ k_ ≠ gb1104))) (fun _ hk => hk.1.2) (.slice Ao24 t1111.length co24)) (fun _ hk => hk.1.2) (.slice Ao28 t1114.length co28)) (fun _ hk => hk.2) (.slice Ao38 t1125.length co38)) (fun _ hk => hk.2) (.slice Ao40 t1128.length co40)) (fun _ hk => ⟨hk.1.1.1.1.1.1.1, ⟨hk.1.1.1.2, hk.1.1.2⟩⟩), by (with_reducible repeat (first | apply Kd.zb5 | apply Kd.zb6 | apply Kd.zcg)); exact Kd.zbr (Kd.R_far (p := ⟨gb1104, 1, none⟩) (Kd.R_far (p := ⟨gb1104, 0, none⟩) (Kd.R_far (p := ⟨gb1103, 1, none⟩) (Kd.R_far (p := ⟨gb1103, 0, none⟩) (Kd.zc3 (Kd.zc3 HO1127.out BK1103.out (by decide)) BK1104.out (by decide)) (fun _ hk => hk.1.2) (.slice Ao24 t1111.length co24)) (fun _ hk => hk.1.2) (.slice Ao28 t1114.length co28)) (fun _ hk => hk.2) (.slice Ao38 t1125.length co38)) (fun _ hk => hk.2) (.slice Ao40 t1128.length co40)) (fun _ hk => ⟨hk.1.1.1.1.1, hk.1.1.1.1.2⟩), by (with_reducible repeat (first | apply Kd.zb5 | apply Kd.zb6 | apply Kd.zcg)); exact Kd.zbr (Kd.R_far (p := ⟨gb1104, 1, none⟩) (Kd.R_far (p := ⟨gb1104, 0, none⟩) (Kd.R_far (p := ⟨gb1103, 1, none⟩) (Kd.R_far (p := ⟨gb1103, 0, none⟩) (Kd.zc3 (Kd.zc3 HO1130.out BK1103.out (by decide)) BK1104.out (by decide)) (fun _ hk => hk.1.2) (.slice Ao24 t1111.length co24)) (fun _ hk => hk.1.2) (.slice Ao28 t1114.length co28)) (fun _ hk => hk.2) (.slice Ao38 t1125.length co38)) (fun _ hk => hk.2) (.slice Ao40 t1128.length co40)) (fun _ hk => ⟨hk.1.1.1.1.1, hk.1.1.1.1.2⟩), zB HB⟩
def zcm.f (a0 : Int) : Option (Bool) := if a0 ≥ 1 then (some (decide (a0 ≤ 1000))) else (some false)
theorem zcm.calls (a0 : Int) (r : Bool) (w : World) (h : zcm.f a0 = some r) :
  Calls Tryd.prog 71 #[.int .i64 a0] w fun e w' => e = .returned (.bool r) ∧ Drawn0 w w' := by
 have H : (if a0 ≥ 1 then (some (decide (a0 ≤ 1000))) else (some false)) = some r := h
 clear h
 by_cases c2 : a0 ≥ 1
 ·
  rw [if_pos c2] at H
  have c2b0 : decide (1 ≤ a0) = true := decide_eq_true c2
  clear c2
  obtain rfl := Option.some.inj H
  go_enter Tryd.func71, Tryd.ntmps71
  go_wp2
  go_ret
  exact ⟨zF, by repeat (first | exact Drawn0.refl _ | apply Drawn0.step)⟩
 ·
  rw [if_neg c2] at H
  have c2b0 : decide (1 ≤ a0) = false := decide_eq_false c2
  clear c2
  obtain rfl := Option.some.inj H
  go_enter Tryd.func71, Tryd.ntmps71
  go_wp2
  go_ret
  exact ⟨zF, by repeat (first | exact Drawn0.refl _ | apply Drawn0.step)⟩
def nat_Small.f (l0 : List Int) : Option (Int × Bool) := if (l0.length : Int) > 1 then (some (0, false)) else ((zci.f l0 0).bind fun t1131 => (if t1131 > 4611686018427387904 then (some (0, false)) else ((zci.f l0 0).bind fun t1132 => (some (wrap64 (t1132), true)))))
theorem nat_Small.calls (A0 : Option Addr) (c0 : Nat) (l0 : List Int) (r1 : Int) (r2 : Bool) (w : World) (hr0 : Kd.C (Kd.int .u64) w A0 l0.length l0) (hc0 : l0.length ≤ c0) (h : nat_Small.f l0 = some (r1, r2)) :
  Calls Tryd.prog 72 #[.slice A0 l0.length c0] w fun e w' => e = .returned (.tuple #[.int .i64 r1, .bool r2]) ∧ Drawn0 w w' := by
 have HR0 := zA hr0
 have HC0 := zA hc0
 clear hr0 hc0
 have H : (if (l0.length : Int) > 1 then (some (0, false)) else ((zci.f l0 0).bind fun t1131 => (if t1131 > 4611686018427387904 then (some (0, false)) else ((zci.f l0 0).bind fun t1132 => (some (wrap64 (t1132), true)))))) = some (r1, r2) := h
 clear h
 by_cases c2 : (l0.length : Int) > 1
 ·
  rw [if_pos c2] at H
  have c2b0 : decide (1 < (l0.length : Int)) = true := decide_eq_true c2
  have c2b1 : decide (1 < l0.length) = true := decide_eq_true (by omega)
  clear c2
  simp only [Option.some.injEq, Prod.mk.injEq] at H
  obtain ⟨rfl, rfl⟩ := H
  go_enter Tryd.func72, Tryd.ntmps72
  go_wp2
  go_ret2
  exact ⟨zF, by repeat (first | exact Drawn0.refl _ | apply Drawn0.step)⟩
 ·
  rw [if_neg c2] at H
  have c2b0 : decide (1 < (l0.length : Int)) = false := decide_eq_false c2
  have c2b1 : decide (1 < l0.length) = false := decide_eq_false (by omega)
  clear c2
  replace H := zO H
  obtain ⟨t1131, A30, H⟩ := H
  try dsimp only at H
  have A3 := zA A30
  clear A30
  by_cases c4 : t1131 > 4611686018427387904
  ·
   rw [if_pos c4] at H
   have c4b0 : decide (4611686018427387904 < t1131) = true := decide_eq_true c4
   clear c4
   simp only [Option.some.injEq, Prod.mk.injEq] at H
   obtain ⟨rfl, rfl⟩ := H
   go_enter Tryd.func72, Tryd.ntmps72
   go_wp2_with (first | (go_at_call 89; (with_reducible refine (zci.calls _ _ l0 0 t1131 _ ?side1 ?side2 A3.out).mono ?_); (case side1 => repeat (first | exact HR0.out | (with_reducible refine Kd.zdc ?_ _) | (with_reducible refine Kd.C_drewN ?_ _) | (with_reducible refine Kd.C_drew ?_))); (case side2 => exact HC0.out); rintro e w' ⟨rfl, ⟨nd, rfl⟩⟩))
   go_ret2
   exact ⟨zF, by repeat (first | exact Drawn0.refl _ | apply Drawn0.step)⟩
  ·
   rw [if_neg c4] at H
   have c4b0 : decide (4611686018427387904 < t1131) = false := decide_eq_false c4
   clear c4
   replace H := zO H
   obtain ⟨t1132, A50, H⟩ := H
   try dsimp only at H
   have A5 := zA A50
   clear A50
   simp only [Option.some.injEq, Prod.mk.injEq] at H
   obtain ⟨rfl, rfl⟩ := H
   go_enter Tryd.func72, Tryd.ntmps72
   go_wp2_with (first | (go_at_call 89; (with_reducible refine (zci.calls _ _ l0 0 t1131 _ ?side1 ?side2 A3.out).mono ?_); (case side1 => repeat (first | exact HR0.out | (with_reducible refine Kd.zdc ?_ _) | (with_reducible refine Kd.C_drewN ?_ _) | (with_reducible refine Kd.C_drew ?_))); (case side2 => exact HC0.out); rintro e w' ⟨rfl, ⟨nd, rfl⟩⟩) | ((with_reducible refine zae (f := 89) rfl ?_); refine za4 (some 13) rfl rfl Tryd.func89 (by kernel_rfl) rfl #[.slice A0 l0.length c0, .int .i64 0] rfl (zE) ?_; (with_reducible refine (zci.calls _ _ l0 0 t1132 _ ?side1 ?side2 A5.out).mono ?_); (case side1 => repeat (first | exact HR0.out | (with_reducible refine Kd.zdc ?_ _) | (with_reducible refine Kd.C_drewN ?_ _) | (with_reducible refine Kd.C_drew ?_))); (case side2 => exact HC0.out); rintro e w' ⟨rfl, ⟨nd, rfl⟩⟩; refine ⟨_, rfl, ?_⟩))
   go_ret2
   exact ⟨zF, by repeat (first | exact Drawn0.refl _ | apply Drawn0.step)⟩
def zbt.f (k : Nat)  : Option (List Int) := (zcf.f k 1).bind fun t230 => (some t230)
theorem zbt.mono : ∀ k, LeO (zbt.f k ) (zbt.f (k + 1) ) := by
 intro  k
 unfold zbt.f
 repeat' first
   | (with_reducible exact zcf.mono _ _)
   | (with_reducible exact LeO.refl _)
   | (with_reducible exact LeO.none _)
   | (with_reducible refine LeO.ite ?_ ?_)
   | (with_reducible refine LeO.bind ?_ (fun _ => ?_))
   | exact zcf.mono _ _
   | exact LeO.none _
   | refine LeO.ite ?_ ?_
   | refine LeO.bind ?_ (fun _ => ?_)
theorem zbt.calls (k : Nat)  (r : List Int) (w : World) (h : zbt.f k  = some r) :
  Calls Tryd.prog 54 #[] w fun e w' => ∃ v0_ : Value, e = .returned (v0_) ∧ Kd.V (Kd.int .u64) 57 w' w.heap.size (fun k_ => (w.heap.size ≤ k_)) v0_ r ∧ Below w.heap.size w w' := by
 have HB := zA (Below.refl w.heap.size w)
 have H : ((zcf.f k 1).bind fun t230 => (some t230)) = some r := h
 clear h
 replace H := zO H
 obtain ⟨t230, A10, H⟩ := H
 try dsimp only at H
 have A1 := zA A10
 clear A10
 obtain rfl := Option.some.inj H
 go_enter Tryd.func54, Tryd.ntmps54
 go_wp2_with (first | ((with_reducible refine zae (f := 36) rfl ?_); refine za4 (some 1) rfl rfl Tryd.func36 (by kernel_rfl) rfl #[.int .u64 1] rfl (zE) ?_; (with_reducible refine (zcf.calls k 1 t230 _ A1.out).mono ?_); rintro e w2 ⟨v231, rfl, ho0, hb⟩; refine ⟨_, rfl, ?_⟩; have n0_ := zA (Kd.za2 (Kd.zak (ok' := fun k_ => (w.heap.size ≤ k_)) ho0 (fun k_ hk_ => (Nat.le_trans (za (zB HB)) hk_))) (za (zB HB))); have n1_ := zA (zac (zB HB) hb); clear HB; have HO232 := n0_; have HB := n1_; clear n0_ n1_; (try clear hb); (try clear hb2); (try clear hk); (try clear hi); (try clear ho0)))
 go_ret
 exact ⟨_, zW, zV HO232, zB HB⟩
def zc2.f (l0 : List Int) : Option (Bool) := if (l0.length : Int) = 0 then (some true) else (if 0 ≤ (wrap64 ((l0.length : Int) - 1)) then (if (wrap64 ((l0.length : Int) - 1)) < (l0.length : Int) then (some ((rd l0 (wrap64 ((l0.length : Int) - 1))) != 0)) else (none)) else (none))
theorem zc2.calls (A0 : Option Addr) (c0 : Nat) (l0 : List Int) (r : Bool) (w : World) (hr0 : Kd.C (Kd.int .u64) w A0 l0.length l0) (hc0 : l0.length ≤ c0) (h : zc2.f l0 = some r) :
  Calls Tryd.prog 51 #[.slice A0 l0.length c0] w fun e w' => e = .returned (.bool r) ∧ Drawn0 w w' := by
 have HR0 := zA hr0
 have HC0 := zA hc0
 clear hr0 hc0
 have H : (if (l0.length : Int) = 0 then (some true) else (if 0 ≤ (wrap64 ((l0.length : Int) - 1)) then (if (wrap64 ((l0.length : Int) - 1)) < (l0.length : Int) then (some ((rd l0 (wrap64 ((l0.length : Int) - 1))) != 0)) else (none)) else (none))) = some r := h
 clear h
 by_cases c2 : (l0.length : Int) = 0
 ·
  rw [if_pos c2] at H
  have c2b0 : ((l0.length : Int) == 0) = true := beq_iff_eq.mpr c2
  have c2b1 : ((l0.length : Int) != 0) = false := bne_eq_false_iff_eq.mpr c2
  clear c2
  obtain rfl := Option.some.inj H
  go_enter Tryd.func51, Tryd.ntmps51
  go_wp2
  go_ret
  exact ⟨zF, by repeat (first | exact Drawn0.refl _ | apply Drawn0.step)⟩
 ·
  rw [if_neg c2] at H
  have c2b0 : ((l0.length : Int) == 0) = false := beq_eq_false_iff_ne.mpr c2
  have c2b1 : ((l0.length : Int) != 0) = true := bne_iff_ne.mpr c2
  have c2b2 : ¬ (l0 = []) := fun h_ => c2 (by rw [h_]; rfl)
  obtain ⟨ji3, hji3⟩ : ∃ j_ : Int, (wrap64 ((l0.length : Int) - 1)) = j_ := ⟨_, rfl⟩
  replace H : (if 0 ≤ (ji3) then (if (ji3) < (l0.length : Int) then (some ((rd l0 (ji3)) != 0)) else (none)) else (none)) = some r := by first | (rw [hji3] at H; exact H) | (simp only [hji3] at H ⊢; exact H)
  have hji3w : (IntKind.i64.wrap ((l0.length : Int) - 1)) = ji3 := (i64_w _).trans hji3
  by_cases c4 : 0 ≤ (ji3)
  ·
   rw [if_pos c4] at H
   have c4b0 : decide (0 ≤ (ji3)) = true := decide_eq_true c4
   clear c4
   by_cases c5 : (ji3) < (l0.length : Int)
   ·
    rw [if_pos c5] at H
    have c5b0 : decide ((ji3) < (l0.length : Int)) = true := decide_eq_true c5
    clear c5
    obtain rfl := Option.some.inj H
    have p261 : 0 ≤ ((ji3) : Int) := of_decide_eq_true (by first | (with_reducible assumption) | assumption)
    have q261 : (ji3) < (l0.length : Int) := of_decide_eq_true (by first | (with_reducible assumption) | assumption)
    obtain ⟨ad261, e261, hx261_0⟩ := Kd.at_int HR0.out (ji3) p261 q261
    cases e261
    replace p261 := eq_true p261
    replace q261 := eq_true q261
    go_enter Tryd.func51, Tryd.ntmps51
    go_wp2
    go_ret
    exact ⟨by first | rfl | (simp; done) | (simp only [← hji3] <;> (first | rfl | simp)) | (simp [*]; done), by repeat (first | exact Drawn0.refl _ | apply Drawn0.step)⟩
   ·
    rw [if_neg c5] at H
    exact absurd H (by simp)
  ·
   rw [if_neg c4] at H
   exact absurd H (by simp)
def zbs.f (k : Nat) (l0_0 : List Int) (l0_1 : List Int) : Option (Bool) := (zc2.f l0_0).bind fun t263 => (if t263 = true then ((zc2.f l0_1).bind fun t264 => (if t264 = true then (if (l0_1.length : Int) > 0 then ((zca.f k l0_0 l0_1).bind fun t265 => ((zbt.f k).bind fun t268 => ((zcv.f t265 t268).bind fun t271 => (some (t271 == 0))))) else (some false)) else (some false))) else (some false))
theorem zbs.mono : ∀ a0 a1 k, LeO (zbs.f k a0 a1) (zbs.f (k + 1) a0 a1) := by
 intro a0 a1 k
 unfold zbs.f
 repeat' first
   | (with_reducible exact zca.mono _ _ _)
   | (with_reducible exact zbt.mono _)
   | (with_reducible exact LeO.refl _)
   | (with_reducible exact LeO.none _)
   | (with_reducible refine LeO.ite ?_ ?_)
   | (with_reducible refine LeO.bind ?_ (fun _ => ?_))
   | exact zca.mono _ _ _
   | exact zbt.mono _
   | exact LeO.none _
   | refine LeO.ite ?_ ?_
   | refine LeO.bind ?_ (fun _ => ?_)
theorem zbs.calls (k : Nat) (A0_0 : Option Addr) (c0_0 : Nat) (l0_0 : List Int) (A0_1 : Option Addr) (c0_1 : Nat) (l0_1 : List Int) (r : Bool) (w : World) (hr0_0 : Kd.C (Kd.int .u64) w A0_0 l0_0.length l0_0) (hc0_0 : l0_0.length ≤ c0_0) (hr0_1 : Kd.C (Kd.int .u64) w A0_1 l0_1.length l0_1) (hc0_1 : l0_1.length ≤ c0_1) (h : zbs.f k l0_0 l0_1 = some r) :
  Calls Tryd.prog 16 #[.agg #[.slice A0_0 l0_0.length c0_0, .slice A0_1 l0_1.length c0_1]] w fun e w' => e = .returned (.bool r) ∧ Below w.heap.size w w' := by
 have hu28 := Tryd.underlying28
 have HR0_0 := zA hr0_0
 have HC0_0 := zA hc0_0
 clear hr0_0 hc0_0
 have HR0_1 := zA hr0_1
 have HC0_1 := zA hc0_1
 clear hr0_1 hc0_1
 have HB := zA (Below.refl w.heap.size w)
 have H : ((zc2.f l0_0).bind fun t263 => (if t263 = true then ((zc2.f l0_1).bind fun t264 => (if t264 = true then (if (l0_1.length : Int) > 0 then ((zca.f k l0_0 l0_1).bind fun t265 => ((zbt.f k).bind fun t268 => ((zcv.f t265 t268).bind fun t271 => (some (t271 == 0))))) else (some false)) else (some false))) else (some false))) = some r := h
 clear h
 replace H := zO H
 obtain ⟨t263, A20, H⟩ := H
 try dsimp only at H
 have A2 := zA A20
 clear A20
 by_cases c3 : t263 = true
 ·
  subst c3
  rw [if_pos rfl] at H
  replace H := zO H
  obtain ⟨t264, A40, H⟩ := H
  try dsimp only at H
  have A4 := zA A40
  clear A40
  by_cases c5 : t264 = true
  ·
   subst c5
   rw [if_pos rfl] at H
   by_cases c6 : (l0_1.length : Int) > 0
   ·
    rw [if_pos c6] at H
    have c6b0 : decide (0 < (l0_1.length : Int)) = true := decide_eq_true c6
    have c6b1 : decide (0 < l0_1.length) = true := decide_eq_true (by omega)
    clear c6
    replace H := zO H
    obtain ⟨t265, A70, H⟩ := H
    try dsimp only at H
    have A7 := zA A70
    clear A70
    replace H := zO H
    obtain ⟨t268, A80, H⟩ := H
    try dsimp only at H
    have A8 := zA A80
    clear A80
    replace H := zO H
    obtain ⟨t271, A90, H⟩ := H
    try dsimp only at H
    have A9 := zA A90
    clear A90
    obtain rfl := Option.some.inj H
    go_enter Tryd.func16, Tryd.ntmps16
    go_wp2_with (first | ((with_reducible refine zbe (N := 1) rfl ?_); (try (refine zct (by rfl) ?_; dsimp only)); refine zbl ?hg (N := 1) ?hd (cs := #[.slice A0_0 l0_0.length c0_0, .slice A0_1 l0_1.length c0_1]) (t := 28) ?hr ?_; (case hd => rfl); (case hg => rfl); (case hr => first | (go_simp; done) | (go_simp; rfl)); intro gb262 hg w10 hbox hb; have n0_ := zA (zac (zB HB) hb); have n1_ := zA (hbox); have n2_ := zA ((by rw [hg]; exact (za (zB HB)) : w.heap.size ≤ gb262)); have n3_ := zA ((by rw [hg]; exact (za (zB HB)) : w.heap.size ≤ gb262)); clear HB; have HB := n0_; have BK262 := n1_; have GW262 := n2_; have GE262 := n3_; clear n0_ n1_ n2_ n3_ hb hbox hg; have hcz11_0 : w10.cell? ⟨gb262, 0, none⟩ = some (.slice A0_0 l0_0.length c0_0) := (zab BK262.out 0).trans rfl; have hcz11_1 : w10.cell? ⟨gb262, 1, none⟩ = some (.slice A0_1 l0_1.length c0_1) := (zab BK262.out 1).trans rfl; have hfz11_0 := zan BK262.out 0; have hfz11_1 := zan BK262.out 1) | ((with_reducible refine zae (f := 51) rfl ?_); refine za4 (some 5) rfl rfl Tryd.func51 (by kernel_rfl) rfl #[.slice A0_0 l0_0.length c0_0] rfl (zE) ?_; (with_reducible refine (zc2.calls _ _ l0_0 true _ ?side1 ?side2 A2.out).mono ?_); (case side1 => exact zJ (Kd.za6 HR0_0.out HB.out)); (case side2 => exact HC0_0.out); rintro e w' ⟨rfl, ⟨nd, rfl⟩⟩; refine ⟨_, rfl, ?_⟩) | (go_at_call 51; (with_reducible refine (zc2.calls _ _ l0_1 true _ ?side1 ?side2 A4.out).mono ?_); (case side1 => exact zJ (Kd.za6 HR0_1.out (zB HB))); (case side2 => exact HC0_1.out); rintro e w' ⟨rfl, ⟨nd, rfl⟩⟩) | (go_at_call 53; (with_reducible refine (zca.calls k _ _ l0_0 (fun k_ => k_ < w.heap.size) _ _ l0_1 t265 _ ?side1 ?side2 ?side3 A7.out).mono ?_); (case side1 => exact zJ (Kd.za6 HR0_0.out (zB HB))); (case side2 => exact HC0_0.out); (case side3 => exact Kd.V_mk HC0_1.out (Kd.F_below (Kd.C_F (Kd.heap_int .u64) HR0_1.out) (zB HB))); rintro e w12 ⟨v266, rfl, ho0, hb⟩; have n0_ := zA (Kd.zbw (Kd.zbr (ok' := fun k_ => True) ho0 (fun _ hk_ => trivial)) (za (zB HB))); have n1_ := zA (zaf (g := gb262) (o := .cells #[.slice A0_0 l0_0.length c0_0, .slice A0_1 l0_1.length c0_1] 28 (0, 0)) (zK BK262) hb); have n2_ := zA (zac (zB HB) hb); clear BK262 HB; have HO267 := n0_; have BK262 := n1_; have HB := n2_; clear n0_ n1_ n2_; (try clear hb); (try clear hb2); (try clear hk); (try clear hi); (try clear ho0)) | (go_at_call 54; (with_reducible refine (zbt.calls k  t268 _ A8.out).mono ?_); rintro e w13 ⟨v269, rfl, ho0, hb⟩; have n0_ := zA (Kd.zb0 (zR HO267) hb); have n1_ := zA (Kd.za2 (Kd.zak (ok' := fun k_ => some k_ ≠ (v266 : Value).ownBlock ∧ k_ ≠ gb262) ho0 (fun k_ hk_ => ⟨(Kd.fresh' (Kd.R_lt (zR HO267)) k_ hk_), (Kd.freshB (g := gb262) (o := .cells #[.slice A0_0 l0_0.length c0_0, .slice A0_1 l0_1.length c0_1] 28 (0, 0)) (zK BK262) k_ hk_)⟩)) (za (zB HB))); have n2_ := zA (zaf (g := gb262) (o := .cells #[.slice A0_0 l0_0.length c0_0, .slice A0_1 l0_1.length c0_1] 28 (0, 0)) (zK BK262) hb); have n3_ := zA (zac (zB HB) hb); clear HO267 BK262 HB; have HO267 := n0_; have HO270 := n1_; have BK262 := n2_; have HB := n3_; clear n0_ n1_ n2_ n3_; (try clear hb); (try clear hb2); (try clear hk); (try clear hi); (try clear ho0); obtain ⟨Ao14, co14, eo14⟩ := Kd.zbq HO267.out; subst eo14; obtain ⟨Ao15, co15, eo15⟩ := Kd.za3 HO270.out; subst eo15) | (go_at_call 52; (with_reducible refine (zcv.calls _ _ t265 _ _ t268 t271 _ ?side1 ?side2 ?side3 ?side4 A9.out).mono ?_); (case side1 => exact zJ (Kd.zay HO267.out).2.2); (case side2 => exact (Kd.zay HO267.out).2.1); (case side3 => exact zJ (Kd.zal HO270.out).2.2); (case side4 => exact (Kd.zal HO270.out).2.1); rintro e w16 ⟨rfl, hb⟩; have n0_ := zA (Kd.zb0 (zR HO267) hb); have n1_ := zA (Kd.zar (zV HO270) hb); have n2_ := zA (zaf (g := gb262) (o := .cells #[.slice A0_0 l0_0.length c0_0, .slice A0_1 l0_1.length c0_1] 28 (0, 0)) (zK BK262) hb); have n3_ := zA (zac (zB HB) hb); clear HO267 HO270 BK262 HB; have HO267 := n0_; have HO270 := n1_; have BK262 := n2_; have HB := n3_; clear n0_ n1_ n2_ n3_; (try clear hb); (try clear hb2); (try clear hk); (try clear hi)))
    go_ret
    exact ⟨zW, zB HB⟩
   ·
    rw [if_neg c6] at H
    have c6b0 : decide (0 < (l0_1.length : Int)) = false := decide_eq_false c6
    have c6b1 : decide (0 < l0_1.length) = false := decide_eq_false (by omega)
    clear c6
    obtain rfl := Option.some.inj H
    go_enter Tryd.func16, Tryd.ntmps16
    go_wp2_with (first | ((with_reducible refine zbe (N := 1) rfl ?_); (try (refine zct (by rfl) ?_; dsimp only)); refine zbl ?hg (N := 1) ?hd (cs := #[.slice A0_0 l0_0.length c0_0, .slice A0_1 l0_1.length c0_1]) (t := 28) ?hr ?_; (case hd => rfl); (case hg => rfl); (case hr => first | (go_simp; done) | (go_simp; rfl)); intro gb262 hg w17 hbox hb; have n0_ := zA (zac (zB HB) hb); have n1_ := zA (hbox); have n2_ := zA ((by rw [hg]; exact (za (zB HB)) : w.heap.size ≤ gb262)); have n3_ := zA ((by rw [hg]; exact (za (zB HB)) : w.heap.size ≤ gb262)); clear HB; have HB := n0_; have BK262 := n1_; have GW262 := n2_; have GE262 := n3_; clear n0_ n1_ n2_ n3_ hb hbox hg; have hcz18_0 : w17.cell? ⟨gb262, 0, none⟩ = some (.slice A0_0 l0_0.length c0_0) := (zab BK262.out 0).trans rfl; have hcz18_1 : w17.cell? ⟨gb262, 1, none⟩ = some (.slice A0_1 l0_1.length c0_1) := (zab BK262.out 1).trans rfl; have hfz18_0 := zan BK262.out 0; have hfz18_1 := zan BK262.out 1) | ((with_reducible refine zae (f := 51) rfl ?_); refine za4 (some 5) rfl rfl Tryd.func51 (by kernel_rfl) rfl #[.slice A0_0 l0_0.length c0_0] rfl (zE) ?_; (with_reducible refine (zc2.calls _ _ l0_0 true _ ?side1 ?side2 A2.out).mono ?_); (case side1 => exact zJ (Kd.za6 HR0_0.out HB.out)); (case side2 => exact HC0_0.out); rintro e w' ⟨rfl, ⟨nd, rfl⟩⟩; refine ⟨_, rfl, ?_⟩) | (go_at_call 51; (with_reducible refine (zc2.calls _ _ l0_1 true _ ?side1 ?side2 A4.out).mono ?_); (case side1 => exact zJ (Kd.za6 HR0_1.out (zB HB))); (case side2 => exact HC0_1.out); rintro e w' ⟨rfl, ⟨nd, rfl⟩⟩))
    go_ret
    exact ⟨zW, zB HB⟩
  ·
   replace c5 := Bool.eq_false_iff.mpr c5
   subst c5
   rw [if_neg (show ¬ (false = true) by decide)] at H
   obtain rfl := Option.some.inj H
   go_enter Tryd.func16, Tryd.ntmps16
   go_wp2_with (first | ((with_reducible refine zbe (N := 1) rfl ?_); (try (refine zct (by rfl) ?_; dsimp only)); refine zbl ?hg (N := 1) ?hd (cs := #[.slice A0_0 l0_0.length c0_0, .slice A0_1 l0_1.length c0_1]) (t := 28) ?hr ?_; (case hd => rfl); (case hg => rfl); (case hr => first | (go_simp; done) | (go_simp; rfl)); intro gb262 hg w19 hbox hb; have n0_ := zA (zac (zB HB) hb); have n1_ := zA (hbox); have n2_ := zA ((by rw [hg]; exact (za (zB HB)) : w.heap.size ≤ gb262)); have n3_ := zA ((by rw [hg]; exact (za (zB HB)) : w.heap.size ≤ gb262)); clear HB; have HB := n0_; have BK262 := n1_; have GW262 := n2_; have GE262 := n3_; clear n0_ n1_ n2_ n3_ hb hbox hg; have hcz20_0 : w19.cell? ⟨gb262, 0, none⟩ = some (.slice A0_0 l0_0.length c0_0) := (zab BK262.out 0).trans rfl; have hcz20_1 : w19.cell? ⟨gb262, 1, none⟩ = some (.slice A0_1 l0_1.length c0_1) := (zab BK262.out 1).trans rfl; have hfz20_0 := zan BK262.out 0; have hfz20_1 := zan BK262.out 1) | ((with_reducible refine zae (f := 51) rfl ?_); refine za4 (some 5) rfl rfl Tryd.func51 (by kernel_rfl) rfl #[.slice A0_0 l0_0.length c0_0] rfl (zE) ?_; (with_reducible refine (zc2.calls _ _ l0_0 true _ ?side1 ?side2 A2.out).mono ?_); (case side1 => exact zJ (Kd.za6 HR0_0.out HB.out)); (case side2 => exact HC0_0.out); rintro e w' ⟨rfl, ⟨nd, rfl⟩⟩; refine ⟨_, rfl, ?_⟩) | (go_at_call 51; (with_reducible refine (zc2.calls _ _ l0_1 false _ ?side1 ?side2 A4.out).mono ?_); (case side1 => exact zJ (Kd.za6 HR0_1.out (zB HB))); (case side2 => exact HC0_1.out); rintro e w' ⟨rfl, ⟨nd, rfl⟩⟩))
   go_ret
   exact ⟨zW, zB HB⟩
 ·
  replace c3 := Bool.eq_false_iff.mpr c3
  subst c3
  rw [if_neg (show ¬ (false = true) by decide)] at H
  obtain rfl := Option.some.inj H
  go_enter Tryd.func16, Tryd.ntmps16
  go_wp2_with (first | ((with_reducible refine zbe (N := 1) rfl ?_); (try (refine zct (by rfl) ?_; dsimp only)); refine zbl ?hg (N := 1) ?hd (cs := #[.slice A0_0 l0_0.length c0_0, .slice A0_1 l0_1.length c0_1]) (t := 28) ?hr ?_; (case hd => rfl); (case hg => rfl); (case hr => first | (go_simp; done) | (go_simp; rfl)); intro gb262 hg w21 hbox hb; have n0_ := zA (zac (zB HB) hb); have n1_ := zA (hbox); have n2_ := zA ((by rw [hg]; exact (za (zB HB)) : w.heap.size ≤ gb262)); have n3_ := zA ((by rw [hg]; exact (za (zB HB)) : w.heap.size ≤ gb262)); clear HB; have HB := n0_; have BK262 := n1_; have GW262 := n2_; have GE262 := n3_; clear n0_ n1_ n2_ n3_ hb hbox hg; have hcz22_0 : w21.cell? ⟨gb262, 0, none⟩ = some (.slice A0_0 l0_0.length c0_0) := (zab BK262.out 0).trans rfl; have hcz22_1 : w21.cell? ⟨gb262, 1, none⟩ = some (.slice A0_1 l0_1.length c0_1) := (zab BK262.out 1).trans rfl; have hfz22_0 := zan BK262.out 0; have hfz22_1 := zan BK262.out 1) | ((with_reducible refine zae (f := 51) rfl ?_); refine za4 (some 5) rfl rfl Tryd.func51 (by kernel_rfl) rfl #[.slice A0_0 l0_0.length c0_0] rfl (zE) ?_; (with_reducible refine (zc2.calls _ _ l0_0 false _ ?side1 ?side2 A2.out).mono ?_); (case side1 => exact zJ (Kd.za6 HR0_0.out HB.out)); (case side2 => exact HC0_0.out); rintro e w' ⟨rfl, ⟨nd, rfl⟩⟩; refine ⟨_, rfl, ?_⟩))
  go_ret
  exact ⟨zW, zB HB⟩
def zcj.f (k : Nat) (a0 : Int) : Option (List Int × List Int) := (zcf.f k (IntKind.u64.wrap (mx a0 0))).bind fun t410 => ((zbt.f k).bind fun t413 => (some (t410, t413)))
theorem zcj.mono : ∀ a0 k, LeO (zcj.f k a0) (zcj.f (k + 1) a0) := by
 intro a0 k
 unfold zcj.f
 repeat' first
   | (with_reducible exact zcf.mono _ _)
   | (with_reducible exact zbt.mono _)
   | (with_reducible exact LeO.refl _)
   | (with_reducible exact LeO.none _)
   | (with_reducible refine LeO.ite ?_ ?_)
   | (with_reducible refine LeO.bind ?_ (fun _ => ?_))
   | exact zcf.mono _ _
   | exact zbt.mono _
   | exact LeO.none _
   | refine LeO.ite ?_ ?_
   | refine LeO.bind ?_ (fun _ => ?_)
theorem zcj.calls (k : Nat) (a0 : Int) (r1 : List Int) (r2 : List Int) (w : World) (h : zcj.f k a0 = some (r1, r2)) :
  Calls Tryd.prog 22 #[.int .i64 a0] w fun e w' => ∃ v0_ v1_ : Value, e = .returned (.agg #[v0_, v1_]) ∧ Kd.V (Kd.int .u64) 57 w' w.heap.size (fun k_ => (w.heap.size ≤ k_)) v0_ r1 ∧ Kd.V (Kd.int .u64) 57 w' w.heap.size (fun k_ => (w.heap.size ≤ k_)) v1_ r2 ∧ Below w.heap.size w w' := by
 have hu28 := Tryd.underlying28
 have HB := zA (Below.refl w.heap.size w)
 have H : ((zcf.f k (IntKind.u64.wrap (mx a0 0))).bind fun t410 => ((zbt.f k).bind fun t413 => (some (t410, t413)))) = some (r1, r2) := h
 clear h
 obtain ⟨ji2, hji2⟩ : ∃ j_ : Int, (mx a0 0) = j_ := ⟨_, rfl⟩
 replace H : ((zcf.f k (IntKind.u64.wrap (ji2))).bind fun t410 => ((zbt.f k).bind fun t413 => (some (t410, t413)))) = some (r1, r2) := by first | (rw [hji2] at H; exact H) | (simp only [hji2] at H ⊢; exact H)
 (try (have hji2l : 0 ≤ ji2 := by (rw [← hji2]; unfold mx; (repeat' split) <;> omega)))
 (try (have hji2m : 0 ≤ ji2 := by omega))
 have hji2_ : (if a0 < 0 then 0 else a0) = ji2 := hji2
 (try (have hji2n_ := hji2_; simp only [Int.ofNat_lt] at hji2n_))
 replace H := zO H
 obtain ⟨t410, A30, H⟩ := H
 try dsimp only at H
 have A3 := zA A30
 clear A30
 replace H := zO H
 obtain ⟨t413, A40, H⟩ := H
 try dsimp only at H
 have A4 := zA A40
 clear A40
 simp only [Option.some.injEq, Prod.mk.injEq] at H
 obtain ⟨rfl, rfl⟩ := H
 go_enter Tryd.func22, Tryd.ntmps22
 go_wp2_with (first | ((with_reducible refine zbe (N := 2) rfl ?_); refine zbl ?hg (N := 2) ?hd (cs := #[.slice none 0 0, .slice none 0 0]) (t := 28) ?hr ?_; (case hd => rfl); (case hg => rfl); (case hr => first | (go_simp; done) | (go_simp; rfl)); intro gb409 hg w5 hbox hb; have n0_ := zA (zac (zB HB) hb); have n1_ := zA (hbox); have n2_ := zA ((by rw [hg]; exact (za (zB HB)) : w.heap.size ≤ gb409)); have n3_ := zA ((by rw [hg]; exact (za (zB HB)) : w.heap.size ≤ gb409)); clear HB; have HB := n0_; have BK409 := n1_; have GW409 := n2_; have GE409 := n3_; clear n0_ n1_ n2_ n3_ hb hbox hg) | ((with_reducible refine zae (f := 36) rfl ?_); refine za4 (some 6) rfl rfl Tryd.func36 (by kernel_rfl) rfl #[.int .u64 (IntKind.u64.wrap (ji2))] rfl (by (try simp only [List.map_toArray, List.map_cons, List.map_nil]); first | done | (simp only [hji2]; rfl) | rfl | (simp only [List.length_drop, List.length_take]; rfl) | ((simp [Act.eval, wrap64]) <;> omega) | ((simp [Act.eval, wrap64, IntKind.wrap, IntKind.bits, IntKind.signed]) <;> omega)) ?_; (with_reducible refine (zcf.calls k (IntKind.u64.wrap (ji2)) t410 _ A3.out).mono ?_); rintro e w6 ⟨v411, rfl, ho0, hb⟩; refine ⟨_, rfl, ?_⟩; have n0_ := zA (Kd.za2 (Kd.zak (ok' := fun k_ => (w.heap.size ≤ k_) ∧ k_ ≠ gb409) ho0 (fun k_ hk_ => ⟨(Nat.le_trans (za (zB HB)) hk_), (Kd.freshB (g := gb409) (o := .cells #[.slice none 0 0, .slice none 0 0] 28 (0, 0)) (zK BK409) k_ hk_)⟩)) (za (zB HB))); have n1_ := zA (zaf (g := gb409) (o := .cells #[.slice none 0 0, .slice none 0 0] 28 (0, 0)) (zK BK409) hb); have n2_ := zA (zac (zB HB) hb); clear BK409 HB; have HO412 := n0_; have BK409 := n1_; have HB := n2_; clear n0_ n1_ n2_; (try clear hb); (try clear hb2); (try clear hk); (try clear hi); (try clear ho0)) | ((with_reducible refine zae (f := 54) rfl ?_); refine za4 (some 7) rfl rfl Tryd.func54 (by kernel_rfl) rfl #[] rfl (zE) ?_; (with_reducible refine (zbt.calls k  t413 _ A4.out).mono ?_); rintro e w7 ⟨v414, rfl, ho0, hb⟩; refine ⟨_, rfl, ?_⟩; have n0_ := zA (Kd.zar (zV HO412) hb); have n1_ := zA (Kd.za2 (Kd.zak (ok' := fun k_ => (w.heap.size ≤ k_) ∧ k_ ≠ gb409) ho0 (fun k_ hk_ => ⟨(Nat.le_trans (za (zB HB)) hk_), (Kd.freshB (g := gb409) (o := .cells #[.slice none 0 0, .slice none 0 0] 28 (0, 0)) (zK BK409) k_ hk_)⟩)) (za (zB HB))); have n2_ := zA (zaf (g := gb409) (o := .cells #[.slice none 0 0, .slice none 0 0] 28 (0, 0)) (zK BK409) hb); have n3_ := zA (zac (zB HB) hb); clear HO412 BK409 HB; have HO412 := n0_; have HO415 := n1_; have BK409 := n2_; have HB := n3_; clear n0_ n1_ n2_ n3_; (try clear hb); (try clear hb2); (try clear hk); (try clear hi); (try clear ho0); obtain ⟨Ao8, co8, eo8⟩ := Kd.za3 HO415.out; subst eo8; obtain ⟨Ao9, co9, eo9⟩ := Kd.za3 HO412.out; subst eo9; have hcz10_0 : w7.cell? ⟨gb409, 0, none⟩ = some (.slice none 0 0) := (zab BK409.out 0).trans rfl; have hcz10_1 : w7.cell? ⟨gb409, 1, none⟩ = some (.slice none 0 0) := (zab BK409.out 1).trans rfl; have hfz10_0 := zan BK409.out 0; have hfz10_1 := zan BK409.out 1))
 refine bodyPost_ret (results_cell_row rfl _ _ gb409 28 #[.slice Ao9 t410.length co9, .slice Ao8 t413.length co8] (0, 0) _ rfl (by (with_reducible repeat (first | refine zai ?_ _ | refine zaj ?_ | refine zah ?_ _)); refine zbn (cs := #[.slice Ao9 t410.length co9, .slice none 0 0]) ?_ 1 _ rfl; (with_reducible repeat (first | refine zai ?_ _ | refine zaj ?_ | refine zah ?_ _)); refine zbn (cs := #[.slice none 0 0, .slice none 0 0]) ?_ 0 _ rfl; (with_reducible repeat (first | refine zai ?_ _ | refine zaj ?_ | refine zah ?_ _)); exact BK409.out) Tryd.underlying28 rfl (by kernel_rfl)) rfl ?_
 exact ⟨_, _, by first | rfl | (simp [zb3, zb2] <;> rfl) | (simp only [← hji2]; first | rfl | (simp [zb3, zb2] <;> rfl)) | (simp [*, zb3, zb2] <;> rfl), by (with_reducible repeat (first | apply Kd.za8 | apply Kd.za7 | apply Kd.zbd)); exact Kd.zak (Kd.V_far (p := ⟨gb409, 1, none⟩) (Kd.V_far (p := ⟨gb409, 0, none⟩) (Kd.zak HO412.out (fun k_ hk => (⟨hk, hk.2⟩ : _ ∧ k_ ≠ gb409))) (fun _ hk => hk.2) (.slice Ao9 t410.length co9)) (fun _ hk => hk.2) (.slice Ao8 t413.length co8)) (fun _ hk => hk.1.1), by (with_reducible repeat (first | apply Kd.za8 | apply Kd.za7 | apply Kd.zbd)); exact Kd.zak (Kd.V_far (p := ⟨gb409, 1, none⟩) (Kd.V_far (p := ⟨gb409, 0, none⟩) (Kd.zak HO415.out (fun k_ hk => (⟨hk, hk.2⟩ : _ ∧ k_ ≠ gb409))) (fun _ hk => hk.2) (.slice Ao9 t410.length co9)) (fun _ hk => hk.2) (.slice Ao8 t413.length co8)) (fun _ hk => hk.1.1), zB HB⟩
def bits_Mul64.f (a0 : Int) (a1 : Int) : Option (Int × Int) := some (IntKind.u64.wrap ((IntKind.u64.wrap ((IntKind.u64.wrap ((a0 / 4294967296) * (a1 / 4294967296))) + ((IntKind.u64.wrap ((IntKind.u64.wrap ((a0 / 4294967296) * (Go.bits .and .u64 a1 4294967295))) + ((IntKind.u64.wrap ((Go.bits .and .u64 a0 4294967295) * (Go.bits .and .u64 a1 4294967295))) / 4294967296))) / 4294967296))) + ((IntKind.u64.wrap ((Go.bits .and .u64 (IntKind.u64.wrap ((IntKind.u64.wrap ((a0 / 4294967296) * (Go.bits .and .u64 a1 4294967295))) + ((IntKind.u64.wrap ((Go.bits .and .u64 a0 4294967295) * (Go.bits .and .u64 a1 4294967295))) / 4294967296))) 4294967295) + (IntKind.u64.wrap ((Go.bits .and .u64 a0 4294967295) * (a1 / 4294967296))))) / 4294967296)), IntKind.u64.wrap (a0 * a1))
theorem bits_Mul64.calls (a0 : Int) (a1 : Int) (r1 : Int) (r2 : Int) (w : World) (h : bits_Mul64.f a0 a1 = some (r1, r2)) :
  Calls Tryd.prog 87 #[.int .u64 a0, .int .u64 a1] w fun e w' => e = .returned (.tuple #[.int .u64 r1, .int .u64 r2]) ∧ Drawn0 w w' := by
 have H : (some (IntKind.u64.wrap ((IntKind.u64.wrap ((IntKind.u64.wrap ((a0 / 4294967296) * (a1 / 4294967296))) + ((IntKind.u64.wrap ((IntKind.u64.wrap ((a0 / 4294967296) * (Go.bits .and .u64 a1 4294967295))) + ((IntKind.u64.wrap ((Go.bits .and .u64 a0 4294967295) * (Go.bits .and .u64 a1 4294967295))) / 4294967296))) / 4294967296))) + ((IntKind.u64.wrap ((Go.bits .and .u64 (IntKind.u64.wrap ((IntKind.u64.wrap ((a0 / 4294967296) * (Go.bits .and .u64 a1 4294967295))) + ((IntKind.u64.wrap ((Go.bits .and .u64 a0 4294967295) * (Go.bits .and .u64 a1 4294967295))) / 4294967296))) 4294967295) + (IntKind.u64.wrap ((Go.bits .and .u64 a0 4294967295) * (a1 / 4294967296))))) / 4294967296)), IntKind.u64.wrap (a0 * a1))) = some (r1, r2) := h
 clear h
 simp only [Option.some.injEq, Prod.mk.injEq] at H
 obtain ⟨rfl, rfl⟩ := H
 go_enter Tryd.func87, Tryd.ntmps87
 go_wp2
 go_ret2
 exact ⟨zF, by repeat (first | exact Drawn0.refl _ | apply Drawn0.step)⟩
def bits_Add64.f (x y c : Int) : Option (Int × Int) := if c ≤ 1 then some (((x.toNat + y.toNat + c.toNat) % 18446744073709551616 : Nat), ((x.toNat + y.toNat + c.toNat) / 18446744073709551616 : Nat)) else none
def bits_Add64.entry : Array Value → Sem Value := fun args => do
 let (x, y, c) ← Extern.MathBitsCarry.three "Add64" args
 pure (Extern.MathBitsCarry.pair ((x + y + c) % Extern.MathBitsCarry.m64) ((x + y + c) / Extern.MathBitsCarry.m64))
theorem bits_Add64.run_entry (x y c : Int) (hc : c ≤ 1) (w : World) : (bits_Add64.entry #[.int .u64 x, .int .u64 y, .int .u64 c]).run Tryd.prog w = .ok (.tuple #[.int .u64 ((x.toNat + y.toNat + c.toNat) % 18446744073709551616 : Nat), .int .u64 ((x.toNat + y.toNat + c.toNat) / 18446744073709551616 : Nat)]) w := by
 rcases c with n | n
 ·
  match n, hc with
  | 0, _ => rfl
  | 1, _ => rfl
  | n + 2, hc => exact absurd hc (by simp; omega)
 ·
  rfl
theorem bits_Add64.run {W : World} {x y c r1 r2 : Int} (h : bits_Add64.f x y c = some (r1, r2)) : (callFunc 88 #[.int .u64 x, .int .u64 y, .int .u64 c]).run Tryd.prog W = .ok (.value (.tuple #[.int .u64 r1, .int .u64 r2])) W := by
 unfold bits_Add64.f at h
 split at h
 ·
  rename_i hc
  injection h with h
  injection h with h1 h2
  subst h1; subst h2
  rw [run_callFunc_extern Tryd.func88 (by kernel_rfl) (by kernel_rfl) (by kernel_rfl) (e := bits_Add64.entry) (by kernel_rfl), bits_Add64.run_entry x y c hc]
  rfl
 ·
  cases h
end Go.Proofs.YtfjkamhcabckeaaDoor.P
end
