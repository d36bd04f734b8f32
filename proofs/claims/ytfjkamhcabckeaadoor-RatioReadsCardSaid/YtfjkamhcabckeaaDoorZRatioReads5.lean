-- Written by a program of this session (wip/tools/shake.py) out of its own texts and of the kit's printed ones; not trusted: Lean checks it.
import Derived.Test.YtfjkamhcabckeaaDoorZRatioReads4
set_option maxHeartbeats 8000000
set_option maxRecDepth 100000
set_option linter.unusedVariables false
set_option linter.unusedSimpArgs false
section
namespace Go.Proofs.YtfjkamhcabckeaaDoor.P
open Go.RowKit Go.Proofs.YtfjkamhcabckeaaDoorW.PrintWords Go.Proofs.YtfjkamhcabckeaaDoorW.PrintLast Go.Proofs.YtfjkamhcabckeaaDoorW.PrintMore
attribute [local go_sem] max2_int min2_int max_two min_two zc8 zda max_four min_four
mutual
def zai.l0 : Nat → List Int → List Int → List Int → List Int → Int → Option (List Int × List Int)
 | 0, _, _, _, _, _ => none
 | k + 1, x0, x1, x6, x7, x8 => if x8 ≥ 0 then (if 0 ≤ x8 then (if x8 < (x0.length : Int) then ((some (([rd x0 x8] : List Int) : List Int)).bind fun y335 => (if y335.length + x7.length < 17592186044416 then ((zan.f k (y335 ++ x7)).bind fun t341 => (zai.l1 k x0 x1 x6 t341 x8 0 9999)) else (none))) else (none)) else (none)) else ((zan.f k x6).bind fun t331 => (some (t331, x7)))
def zai.l1 : Nat → List Int → List Int → List Int → List Int → Int → Int → Int → Option (List Int × List Int)
 | 0, _, _, _, _, _, _, _ => none
 | k + 1, x0, x1, x6, x7, x8, x9, x10 => if x9 < x10 then ((zaj.f k (wrap64 (Int.tdiv (wrap64 ((wrap64 (x9 + x10)) + 1)) 2))).bind fun t354 => ((zah.f k x1 t354).bind fun t357 => ((zav.f k t357 x7).bind fun t360 => (if t360 ≤ 0 then (zai.l1 k x0 x1 x6 x7 x8 (wrap64 (Int.tdiv (wrap64 ((wrap64 (x9 + x10)) + 1)) 2)) x10) else (zai.l1 k x0 x1 x6 x7 x8 x9 (wrap64 ((wrap64 (Int.tdiv (wrap64 ((wrap64 (x9 + x10)) + 1)) 2)) - 1))))))) else (if 0 ≤ x8 then (if x8 < (x6.length : Int) then ((zaj.f k x9).bind fun t345 => ((zah.f k x1 t345).bind fun t348 => ((za6.f k x7 t348).bind fun t351 => (zai.l0 k x0 x1 (x6.set (x8 : Int).toNat x9) t351 (wrap64 (x8 - 1)))))) else (none)) else (none))
end
def zai.f (k : Nat) (l0 : List Int) (l1 : List Int) : Option (List Int × List Int) := if 0 ≤ (l0.length : Int) then (if ((l0.length : Int) : Int).toNat ≤ 35184372088832 then (zai.l0 k l0 l1 (List.replicate ((l0.length : Int) : Int).toNat 0) ([] : List Int) (wrap64 ((l0.length : Int) - 1))) else (none)) else (none)
theorem zai.calls (k : Nat) (A0 : Option Addr) (c0 : Nat) (l0 : List Int) (A1 : Option Addr) (c1 : Nat) (l1 : List Int) (r1 : List Int) (r2 : List Int) (w : World) (hr0 : Kd.C (Kd.int .i64) w A0 l0.length l0) (hc0 : l0.length ≤ c0) (hr1 : Kd.C (Kd.int .i64) w A1 l1.length l1) (hc1 : l1.length ≤ c1) (h : zai.f k l0 l1 = some (r1, r2)) :
  Calls Tryd.prog 57 #[.slice A0 l0.length c0, .slice A1 l1.length c1] w fun e w' => ∃ v0_ v1_ : Value, e = .returned (.tuple #[v0_, v1_]) ∧ Kd.R (Kd.int .i64) 3 w' w.heap.size (fun k_ => some k_ ≠ (v1_ : Value).ownBlock) v0_ r1 ∧ Kd.R (Kd.int .i64) 3 w' w.heap.size (fun k_ => some k_ ≠ (v0_ : Value).ownBlock) v1_ r2 ∧ Below w.heap.size w w' := by
 have HR0 := zA hr0
 have HC0 := zA hc0
 clear hr0 hc0
 have HR1 := zA hr1
 have HC1 := zA hc1
 clear hr1 hc1
 have HB := zA (Below.refl w.heap.size w)
 have H : (if 0 ≤ (l0.length : Int) then (if ((l0.length : Int) : Int).toNat ≤ 35184372088832 then (zai.l0 k l0 l1 (List.replicate ((l0.length : Int) : Int).toNat 0) ([] : List Int) (wrap64 ((l0.length : Int) - 1))) else (none)) else (none)) = some (r1, r2) := h
 clear h
 by_cases c3 : 0 ≤ (l0.length : Int)
 ·
  rw [if_pos c3] at H
  have c3b0 := eq_true c3
  have c3b1 : decide (0 ≤ (l0.length : Int)) = true := decide_eq_true c3
  clear c3
  by_cases c4 : ((l0.length : Int) : Int).toNat ≤ 35184372088832
  ·
   rw [if_pos c4] at H
   have c4b0 := eq_true c4
   have c4b1 : decide (((l0.length : Int) : Int).toNat ≤ 35184372088832) = true := decide_eq_true c4
   clear c4
   obtain ⟨y328, hy328⟩ : ∃ y_ : List Int, y_ = (List.replicate ((l0.length : Int) : Int).toNat 0) := ⟨_, rfl⟩
   replace H : (zai.l0 k l0 l1 y328 ([] : List Int) (wrap64 ((l0.length : Int) - 1))) = some (r1, r2) := by first | (rw [hy328]; with_reducible exact H) | (have H2_ := (Option.bind_some _ _).symm.trans H; rw [hy328]; with_reducible exact H2_) | (have H2_ := (Option.bind_some _ _).symm.trans H; with_reducible exact H2_) | with_reducible exact H | (rw [hy328]; exact H) | exact H
   have Ny328 := zA hy328
   clear hy328
   have H' := zA H
   clear H
   go_enter Tryd.func57, Tryd.ntmps57
   go_wp2_with (first | ((with_reducible refine zbs (N := 14) rfl ?_); refine Kd.R_make (Kd.int .i64) _ 3 rfl (N := 14) rfl 31 _ _ rfl (l0.length : Int) rfl rfl Tryd.underlying31 (.int .i64 0) 8 info3 rfl (by decide) (by omega) 0 (ok := fun _ => True) (okp := fun _ => True) rfl (fun _ hk => hk) trivial (of_decide_eq_true (by first | (with_reducible assumption) | assumption)) (Nat.le_trans (Nat.mul_le_mul_right _ (of_decide_eq_true (by first | (with_reducible assumption) | assumption) : (l0.length : Int).toNat ≤ 35184372088832)) (by omega)) (Below.refl _ _) (Nat.le_refl _) ?_; intro v329 w5 ho6 hb hg_ hnew_; clear hg_ hnew_; (first | rw [← Ny328.out] at ho6 | (simp only [Int.reduceToNat] at ho6; rw [← Ny328.out] at ho6)); have n0_ := zA (Kd.zbi ho6 (za (zB HB))); have n1_ := zA (zac (zB HB) hb); clear HB; have HO330 := n0_; have HB := n1_; clear n0_ n1_ hb ho6))
   go_loopg [7, 8] k (fun kq v7 v8 w' => ∃ (x6_1 : List Int) (x7_1 : List Int) (x8_1 : Int), v8 = .int .i64 x8_1 ∧ Aside0 (zai.l0 kq l0 l1 x6_1 x7_1 x8_1 = some (r1, r2)) ∧ Aside0 (kq ≤ k) ∧ Aside0 (Kd.R (Kd.int .i64) 3 w' w.heap.size (fun k_ => some k_ ≠ (v7 : Value).ownBlock) v329 x6_1) ∧ Aside0 (Kd.R (Kd.int .i64) 3 w' w.heap.size (fun k_ => some k_ ≠ (v329 : Value).ownBlock) v7 x7_1) ∧ Aside0 (Below w.heap.size w w'))
   case atStart => exact ⟨(y328), (([] : List Int)), (wrap64 ((l0.length : Int) - 1)), (zF), H', ⟨Nat.le_refl _⟩, ⟨by (with_reducible repeat (first | apply Kd.zby | apply Kd.zb2 | apply Kd.zce)); exact Kd.zbj HO330.out (fun _ hk => (by simp [Value.ownBlock]))⟩, ⟨by first | exact Kd.R_nil _ _ _ _ _ | exact Kd.N_nil _ _ _ _ _ | exact Kd.V_nil _ _ _ _ _ | exact Kd.Q_nil _ _ _ _ _ | exact Kd.S_nil _ _ _ _ _⟩, ⟨zB HB⟩⟩
   case round =>
    clear H'
    try clear c1
    try clear p2
    try clear c3
    try clear c3b0
    try clear c3b1
    try clear c4
    try clear c4b0
    try clear c4b1
    try clear c5
    try clear p6
    obtain ⟨x6_1, x7_1, x8_1, rfl, HA, HK1, HO_6, HO_7, HB⟩ := hrel
    cases gk with
    | zero => exact absurd HA.out (by simp [zai.l0])
    | succ k1 =>
     have H := HA.out
     clear HA
     simp only [zai.l0] at H
     by_cases c7 : x8_1 ≥ 0
     ·
      rw [if_pos c7] at H
      have c7b0 : decide (0 ≤ x8_1) = true := decide_eq_true c7
      clear c7
      by_cases c8 : 0 ≤ x8_1
      ·
       rw [if_pos c8] at H
       have c8b0 : decide (0 ≤ x8_1) = true := decide_eq_true c8
       clear c8
       by_cases c9 : x8_1 < (l0.length : Int)
       ·
        rw [if_pos c9] at H
        have c9b0 : decide (x8_1 < (l0.length : Int)) = true := decide_eq_true c9
        clear c9
        obtain ⟨y335, hy335⟩ : ∃ y_ : List Int, y_ = (([rd l0 x8_1] : List Int)) := ⟨_, rfl⟩
        replace H : (if y335.length + x7_1.length < 17592186044416 then ((zan.f k1 (y335 ++ x7_1)).bind fun t341 => (zai.l1 k1 l0 l1 x6_1 t341 x8_1 0 9999)) else (none)) = some (r1, r2) := by first | (rw [hy335]; with_reducible exact H) | (have H2_ := (Option.bind_some _ _).symm.trans H; rw [hy335]; with_reducible exact H2_) | (have H2_ := (Option.bind_some _ _).symm.trans H; with_reducible exact H2_) | with_reducible exact H | (rw [hy335]; exact H) | exact H
        have Ny335 := zA hy335
        clear hy335
        by_cases c10 : y335.length + x7_1.length < 17592186044416
        ·
         rw [if_pos c10] at H
         have LMc10 := zA c10
         clear c10
         obtain ⟨y338, hy338⟩ : ∃ y_ : List Int, y_ = (y335 ++ x7_1) := ⟨_, rfl⟩
         replace H : ((zan.f k1 y338).bind fun t341 => (zai.l1 k1 l0 l1 x6_1 t341 x8_1 0 9999)) = some (r1, r2) := by first | (rw [hy338]; with_reducible exact H) | (have H2_ := (Option.bind_some _ _).symm.trans H; rw [hy338]; with_reducible exact H2_) | (have H2_ := (Option.bind_some _ _).symm.trans H; with_reducible exact H2_) | with_reducible exact H | (rw [hy338]; exact H) | exact H
         have Ny338 := zA hy338
         clear hy338
         replace H := zO H
         obtain ⟨t341, A110, H⟩ := H
         try dsimp only at H
         have A11 := zA A110
         clear A110
         have H' := zA H
         clear H
         have p334 : 0 ≤ (x8_1 : Int) := of_decide_eq_true (by first | (with_reducible assumption) | assumption)
         have q334 : x8_1 < (l0.length : Int) := of_decide_eq_true (by first | (with_reducible assumption) | assumption)
         obtain ⟨ad334, e334, hx334_0⟩ := Kd.at_int HR0.out x8_1 p334 q334
         cases e334
         replace hx334_0 := (HB.out.cell (World.block_lt_of_cell? w _ hx334_0)).trans hx334_0
         replace p334 := eq_true p334
         replace q334 := eq_true q334
         go_wp2_with (first | ((with_reducible refine zbs (N := 26) rfl ?_); refine Kd.R_lit (Kd.int .i64) _ 3 ?hg (N := 26) ?hd (xs := ([rd l0 x8_1] : List Int)) (inner := [.int .i64 (rd l0 x8_1)]) (ok := fun _ => True) (okp := fun _ => True) ?hr ?hp (fun _ hk => hk) trivial (Below.refl _ _) (Nat.le_refl _) (by simp) ?_; (case hd => rfl); (case hg => rfl); (case hr => first | (go_simp; done) | (go_simp; rfl)); (case hp => exact (Reps.one (show Kd.M (Kd.int .i64) _ _ _ (rd l0 x8_1) [.int .i64 (rd l0 x8_1)] from rfl) (Reps.none _ _))); intro v336 w12 ho13 hb hg_ hnew_; clear hg_ hnew_; (first | rw [← Ny335.out] at ho13 | (simp only [Int.reduceToNat] at ho13; rw [← Ny335.out] at ho13)); have n0_ := zA (Kd.zbc (zR HO_6) (Kd.za8 ho13) hb); have n1_ := zA (Kd.zbc (zR HO_7) (Kd.za8 ho13) hb); have n2_ := zA (Kd.zbi (Kd.zbm (Kd.zbm ho13 (Kd.R_lt (zR HO_6))) (Kd.R_lt (zR HO_7))) (za (zB HB))); have n3_ := zA (zac (zB HB) hb); clear HO_6 HO_7 HB; have HO_6 := n0_; have HO_7 := n1_; have HO337 := n2_; have HB := n3_; clear n0_ n1_ n2_ n3_ hb ho13; obtain ⟨Ao15, co15, eo15⟩ := Kd.zbb HO_7.out; subst eo15) | ((with_reducible refine zb1 (b := .append) (xs := #[.tmp 26, .tmp 27]) rfl ?_); at_builtin; refine Kd.R_append_rows (Kd.int .i64) (w0 := w) w.heap.size rfl (.tmp 26) (.tmp 27) 31 3 (.int .i64 0) 8 rfl Tryd.underlying31 info3 rfl (by decide) (by omega) v336 y335 x7_1 _ _ _ (fun k_ => some k_ ≠ (v329 : Value).ownBlock ∧ some k_ ≠ (.slice Ao15 x7_1.length co15 : Value).ownBlock) (fun _ => False) rfl rfl ?aO ?aR (fun _ _ h => h) (fun _ h => h.elim) ?aF ?aB ?aS ?aL ?_; (case aR => exact zJ (Kd.zar HO_7.out).2.2); (case aB => exact (zB HB)); (case aF => exact (fun k_ hk => ⟨Kd.fresh' (Kd.R_lt (zR HO_6)) k_ hk, Kd.fresh' (Kd.R_lt (zR HO_7)) k_ hk⟩)); (case aO => exact (by (with_reducible repeat (first | apply Kd.zby | apply Kd.zb2 | apply Kd.zce)); exact Kd.zbj HO337.out (fun _ hk => ⟨hk.1.2, hk.2⟩))); (case aS => exact (za (zB HB))); (case aL => have := LMc10.out; omega); intro v339 w14 ho hb hg hat; rw [← Ny338.out] at ho; have n0_ := zA (Kd.R_after (ok := (fun k_ => some k_ ≠ (.slice Ao15 x7_1.length co15 : Value).ownBlock)) (zR HO_6) hg hat); have n1_ := zA (Kd.R_after (ok := (fun k_ => some k_ ≠ (v329 : Value).ownBlock)) (zR HO_7) hg hat); have n2_ := zA (hb); have n3_ := zA (ho); clear HO_6 HO_7 HB HO337; have HO_6 := n0_; have HO_7 := n1_; have HB := n2_; have HO340 := n3_; clear n0_ n1_ n2_ n3_ ho hb hg hat; obtain ⟨Ao16, co16, eo16⟩ := Kd.zbb HO340.out; subst eo16) | ((with_reducible refine zab (f := 83) rfl ?_); refine za3 (some 29) rfl rfl Tryd.func83 (by kernel_rfl) rfl #[.slice Ao16 y338.length co16] rfl (zE) ?_; (with_reducible refine (zan.calls k1 (fun k_ => some k_ = (.slice Ao16 y338.length co16 : Value).ownBlock) (.slice Ao16 y338.length co16) y338 t341 w _ ?side1 ?side2 A11.out).mono ?_); (case side1 => repeat (first | (with_reducible first | exact HB.out | apply zb3 | apply zbf | apply zbt) | exact HB.out)); (case side2 => exact Kd.zcz rfl HO340.out); rintro e w17 ⟨v342, rfl, ho0, hb, hkp⟩; refine ⟨_, rfl, ?_⟩; have n0_ := zA (Kd.zbj (ok' := fun k_ => some k_ ≠ (.slice Ao15 x7_1.length co15 : Value).ownBlock ∧ some k_ ≠ (v342 : Value).ownBlock) (Kd.R_keptB (HO_6.out) hkp (fun k_ hk_ hs_ => (hk_.2) hs_)) (fun k_ hk_ => ⟨hk_.1.1, fun e_ => Or.elim (ho0.1 k_ e_.symm) (fun hs_ => hk_.2.1 hs_) (fun hn_ => Nat.not_le.2 hk_.2.2 hn_)⟩)); have n1_ := zA (Kd.zbj (ok' := fun k_ => some k_ ≠ (v329 : Value).ownBlock ∧ some k_ ≠ (v342 : Value).ownBlock) (Kd.R_keptB (HO_7.out) hkp (fun k_ hk_ hs_ => (hk_.2) hs_)) (fun k_ hk_ => ⟨hk_.1.1, fun e_ => Or.elim (ho0.1 k_ e_.symm) (fun hs_ => hk_.2.1 hs_) (fun hn_ => Nat.not_le.2 hk_.2.2 hn_)⟩)); have n2_ := zA (Kd.zbj (ok' := fun k_ => some k_ ≠ (v329 : Value).ownBlock ∧ some k_ ≠ (.slice Ao15 x7_1.length co15 : Value).ownBlock) ho0 (fun k_ hk_ => ⟨Or.elim hk_ (fun hs_ => fun e_ => (((HO_6.out).1 k_ e_.symm).2) hs_) (fun hn_ => (Kd.fresh' (Kd.R_lt (zR HO_6)) k_ hn_)), Or.elim hk_ (fun hs_ => fun e_ => (((HO_7.out).1 k_ e_.symm).2) hs_) (fun hn_ => (Kd.fresh' (Kd.R_lt (zR HO_7)) k_ hn_))⟩)); have n3_ := zA (hb); clear HO_6 HO_7 HB HO340; have HO_6 := n0_; have HO_7 := n1_; have HO343 := n2_; have HB := n3_; clear n0_ n1_ n2_ n3_; (try clear hb); (try clear hkp); (try clear ho0)))
         go_loopg [9, 10] k1 (fun kq v9 v10 w' => ∃ (x9_2 : Int) (x10_2 : Int), v9 = .int .i64 x9_2 ∧ v10 = .int .i64 x10_2 ∧ Aside0 (zai.l1 kq l0 l1 x6_1 t341 x8_1 x9_2 x10_2 = some (r1, r2)) ∧ Aside0 (kq ≤ k1) ∧ Aside0 (Kd.R (Kd.int .i64) 3 w' w.heap.size (fun k_ => some k_ ≠ (v342 : Value).ownBlock) v329 x6_1) ∧ Aside0 (Kd.R (Kd.int .i64) 3 w' w.heap.size (fun k_ => some k_ ≠ (v329 : Value).ownBlock) v342 t341) ∧ Aside0 (Below w.heap.size w w'))
         case atStart => exact ⟨(0), (9999), (zF), (zF), H', ⟨Nat.le_refl _⟩, ⟨by (with_reducible repeat (first | apply Kd.zby | apply Kd.zb2 | apply Kd.zce)); exact Kd.zbj HO_6.out (fun _ hk => hk.2)⟩, ⟨by (with_reducible repeat (first | apply Kd.zby | apply Kd.zb2 | apply Kd.zce)); exact Kd.zbj HO343.out (fun _ hk => hk.1)⟩, ⟨zB HB⟩⟩
         case round =>
          clear H'
          try clear c1
          try clear p2
          try clear c3
          try clear c3b0
          try clear c3b1
          try clear p3
          try clear q3
          try clear hx3
          try clear c4
          try clear c4b0
          try clear c4b1
          try clear c5
          try clear p6
          try clear c7
          try clear c7b0
          try clear c8
          try clear c8b0
          try clear c9
          try clear c9b0
          try clear c10
          try clear hx334_0
          try clear p2
          try clear p334
          try clear p6
          try clear q334
          obtain ⟨x9_2, x10_2, rfl, rfl, HA, HK2, HO_6, HO_7, HB⟩ := hrel
          cases gk with
          | zero => exact absurd HA.out (by simp [zai.l1])
          | succ k2 =>
           have H := HA.out
           clear HA
           simp only [zai.l1] at H
           by_cases c18 : x9_2 < x10_2
           ·
            rw [if_pos c18] at H
            have c18b0 : decide (x9_2 < x10_2) = true := decide_eq_true c18
            clear c18
            replace H := zO H
            obtain ⟨t354, A190, H⟩ := H
            try dsimp only at H
            have A19 := zA A190
            clear A190
            replace H := zO H
            obtain ⟨t357, A200, H⟩ := H
            try dsimp only at H
            have A20 := zA A200
            clear A200
            replace H := zO H
            obtain ⟨t360, A210, H⟩ := H
            try dsimp only at H
            have A21 := zA A210
            clear A210
            by_cases c22 : t360 ≤ 0
            ·
             rw [if_pos c22] at H
             have c22b0 : decide (t360 ≤ 0) = true := decide_eq_true c22
             clear c22
             have H' := zA H
             clear H
             go_wp2_with (first | ((with_reducible refine zab (f := 20) rfl ?_); refine za3 (some 40) rfl rfl Tryd.func20 (by kernel_rfl) rfl #[.int .i64 (wrap64 (Int.tdiv (wrap64 ((wrap64 (x9_2 + x10_2)) + 1)) 2))] rfl (zE) ?_; (with_reducible refine (zaj.calls k2 (wrap64 (Int.tdiv (wrap64 ((wrap64 (x9_2 + x10_2)) + 1)) 2)) t354 _ A19.out).mono ?_); rintro e w23 ⟨v355, rfl, ho0, hb⟩; refine ⟨_, rfl, ?_⟩; have n0_ := zA (Kd.zbc (zR HO_6) (Kd.za8 ho0) hb); have n1_ := zA (Kd.zbc (zR HO_7) (Kd.za8 ho0) hb); have n2_ := zA (Kd.zbi (Kd.zbm (Kd.zbm ho0 (Kd.R_lt (zR HO_6))) (Kd.R_lt (zR HO_7))) (za (zB HB))); have n3_ := zA (zac (zB HB) hb); clear HO_6 HO_7 HB; have HO_6 := n0_; have HO_7 := n1_; have HO356 := n2_; have HB := n3_; clear n0_ n1_ n2_ n3_; (try clear hb); (try clear hb2); (try clear hk); (try clear hi); (try clear ho0); obtain ⟨Ao24, co24, eo24⟩ := Kd.zbb HO356.out; subst eo24) | ((with_reducible refine zab (f := 56) rfl ?_); refine za3 (some 41) rfl rfl Tryd.func56 (by kernel_rfl) rfl #[.slice A1 l1.length c1, .slice Ao24 t354.length co24] rfl (zE) ?_; (with_reducible refine (zah.calls k2 _ _ l1 _ _ t354 t357 _ ?side1 ?side2 ?side3 ?side4 A20.out).mono ?_); (case side1 => exact zJ (Kd.zbp HR1.out HB.out)); (case side2 => exact HC1.out); (case side3 => exact zJ (Kd.zar HO356.out).2.2); (case side4 => exact (Kd.zar HO356.out).2.1); rintro e w25 ⟨v358, rfl, ho0, hb⟩; refine ⟨_, rfl, ?_⟩; have n0_ := zA (Kd.zbc (zR HO_6) (Kd.za8 ho0) hb); have n1_ := zA (Kd.zbc (zR HO_7) (Kd.za8 ho0) hb); have n2_ := zA (Kd.zbc (zR HO356) (Kd.za8 ho0) hb); have n3_ := zA (Kd.zbi (Kd.zbm (Kd.zbm (Kd.zbm ho0 (Kd.R_lt (zR HO_6))) (Kd.R_lt (zR HO_7))) (Kd.R_lt (zR HO356))) (za (zB HB))); have n4_ := zA (zac (zB HB) hb); clear HO_6 HO_7 HO356 HB; have HO_6 := n0_; have HO_7 := n1_; have HO356 := n2_; have HO359 := n3_; have HB := n4_; clear n0_ n1_ n2_ n3_ n4_; (try clear hb); (try clear hb2); (try clear hk); (try clear hi); (try clear ho0); obtain ⟨Ao26, co26, eo26⟩ := Kd.zbb HO359.out; subst eo26; obtain ⟨Ao27, co27, eo27⟩ := Kd.zbb HO_7.out; subst eo27) | ((with_reducible refine zab (f := 18) rfl ?_); refine za3 (some 43) rfl rfl Tryd.func18 (by kernel_rfl) rfl #[.slice Ao26 t357.length co26, .slice Ao27 t341.length co27] rfl (zE) ?_; (with_reducible refine (zav.calls k2 _ _ t357 _ _ t341 t360 _ ?side1 ?side2 ?side3 ?side4 A21.out).mono ?_); (case side1 => exact zJ (Kd.zar HO359.out).2.2); (case side2 => exact (Kd.zar HO359.out).2.1); (case side3 => exact zJ (Kd.zar HO_7.out).2.2); (case side4 => exact (Kd.zar HO_7.out).2.1); rintro e w' ⟨rfl, ⟨nd, rfl⟩⟩; refine ⟨_, rfl, ?_⟩))
             go_roundg k2
             case measure => have := HK1.out; have := HK2.out; omega
             case rel => exact ⟨(wrap64 (Int.tdiv (wrap64 ((wrap64 (x9_2 + x10_2)) + 1)) 2)), (x10_2), (zF), (zF), H', ⟨by have := HK1.out; have := HK2.out; omega⟩, ⟨by (with_reducible repeat (first | apply Kd.zby | apply Kd.zb2 | apply Kd.zce)); exact Kd.zbj HO_6.out (fun _ hk => hk.1.1)⟩, ⟨by (with_reducible repeat (first | apply Kd.zby | apply Kd.zb2 | apply Kd.zce)); exact Kd.zbj HO_7.out (fun _ hk => hk.1.1)⟩, ⟨zB HB⟩⟩
            ·
             rw [if_neg c22] at H
             have c22b0 : decide (t360 ≤ 0) = false := decide_eq_false c22
             clear c22
             have H' := zA H
             clear H
             go_wp2_with (first | ((with_reducible refine zab (f := 20) rfl ?_); refine za3 (some 40) rfl rfl Tryd.func20 (by kernel_rfl) rfl #[.int .i64 (wrap64 (Int.tdiv (wrap64 ((wrap64 (x9_2 + x10_2)) + 1)) 2))] rfl (zE) ?_; (with_reducible refine (zaj.calls k2 (wrap64 (Int.tdiv (wrap64 ((wrap64 (x9_2 + x10_2)) + 1)) 2)) t354 _ A19.out).mono ?_); rintro e w28 ⟨v355, rfl, ho0, hb⟩; refine ⟨_, rfl, ?_⟩; have n0_ := zA (Kd.zbc (zR HO_6) (Kd.za8 ho0) hb); have n1_ := zA (Kd.zbc (zR HO_7) (Kd.za8 ho0) hb); have n2_ := zA (Kd.zbi (Kd.zbm (Kd.zbm ho0 (Kd.R_lt (zR HO_6))) (Kd.R_lt (zR HO_7))) (za (zB HB))); have n3_ := zA (zac (zB HB) hb); clear HO_6 HO_7 HB; have HO_6 := n0_; have HO_7 := n1_; have HO356 := n2_; have HB := n3_; clear n0_ n1_ n2_ n3_; (try clear hb); (try clear hb2); (try clear hk); (try clear hi); (try clear ho0); obtain ⟨Ao29, co29, eo29⟩ := Kd.zbb HO356.out; subst eo29) | ((with_reducible refine zab (f := 56) rfl ?_); refine za3 (some 41) rfl rfl Tryd.func56 (by kernel_rfl) rfl #[.slice A1 l1.length c1, .slice Ao29 t354.length co29] rfl (zE) ?_; (with_reducible refine (zah.calls k2 _ _ l1 _ _ t354 t357 _ ?side1 ?side2 ?side3 ?side4 A20.out).mono ?_); (case side1 => exact zJ (Kd.zbp HR1.out HB.out)); (case side2 => exact HC1.out); (case side3 => exact zJ (Kd.zar HO356.out).2.2); (case side4 => exact (Kd.zar HO356.out).2.1); rintro e w30 ⟨v358, rfl, ho0, hb⟩; refine ⟨_, rfl, ?_⟩; have n0_ := zA (Kd.zbc (zR HO_6) (Kd.za8 ho0) hb); have n1_ := zA (Kd.zbc (zR HO_7) (Kd.za8 ho0) hb); have n2_ := zA (Kd.zbc (zR HO356) (Kd.za8 ho0) hb); have n3_ := zA (Kd.zbi (Kd.zbm (Kd.zbm (Kd.zbm ho0 (Kd.R_lt (zR HO_6))) (Kd.R_lt (zR HO_7))) (Kd.R_lt (zR HO356))) (za (zB HB))); have n4_ := zA (zac (zB HB) hb); clear HO_6 HO_7 HO356 HB; have HO_6 := n0_; have HO_7 := n1_; have HO356 := n2_; have HO359 := n3_; have HB := n4_; clear n0_ n1_ n2_ n3_ n4_; (try clear hb); (try clear hb2); (try clear hk); (try clear hi); (try clear ho0); obtain ⟨Ao31, co31, eo31⟩ := Kd.zbb HO359.out; subst eo31; obtain ⟨Ao32, co32, eo32⟩ := Kd.zbb HO_7.out; subst eo32) | ((with_reducible refine zab (f := 18) rfl ?_); refine za3 (some 43) rfl rfl Tryd.func18 (by kernel_rfl) rfl #[.slice Ao31 t357.length co31, .slice Ao32 t341.length co32] rfl (zE) ?_; (with_reducible refine (zav.calls k2 _ _ t357 _ _ t341 t360 _ ?side1 ?side2 ?side3 ?side4 A21.out).mono ?_); (case side1 => exact zJ (Kd.zar HO359.out).2.2); (case side2 => exact (Kd.zar HO359.out).2.1); (case side3 => exact zJ (Kd.zar HO_7.out).2.2); (case side4 => exact (Kd.zar HO_7.out).2.1); rintro e w' ⟨rfl, ⟨nd, rfl⟩⟩; refine ⟨_, rfl, ?_⟩))
             go_roundg k2
             case measure => have := HK1.out; have := HK2.out; omega
             case rel => exact ⟨(x9_2), (wrap64 ((wrap64 (Int.tdiv (wrap64 ((wrap64 (x9_2 + x10_2)) + 1)) 2)) - 1)), (zF), (zF), H', ⟨by have := HK1.out; have := HK2.out; omega⟩, ⟨by (with_reducible repeat (first | apply Kd.zby | apply Kd.zb2 | apply Kd.zce)); exact Kd.zbj HO_6.out (fun _ hk => hk.1.1)⟩, ⟨by (with_reducible repeat (first | apply Kd.zby | apply Kd.zb2 | apply Kd.zce)); exact Kd.zbj HO_7.out (fun _ hk => hk.1.1)⟩, ⟨zB HB⟩⟩
           ·
            rw [if_neg c18] at H
            have c18b0 : decide (x9_2 < x10_2) = false := decide_eq_false c18
            clear c18
            by_cases c33 : 0 ≤ x8_1
            ·
             rw [if_pos c33] at H
             have c33b0 : decide (0 ≤ x8_1) = true := decide_eq_true c33
             clear c33
             by_cases c34 : x8_1 < (x6_1.length : Int)
             ·
              rw [if_pos c34] at H
              have c34b0 : decide (x8_1 < (x6_1.length : Int)) = true := decide_eq_true c34
              clear c34
              obtain ⟨y344, hy344⟩ : ∃ y_ : List Int, y_ = (x6_1.set (x8_1 : Int).toNat x9_2) := ⟨_, rfl⟩
              replace H : ((zaj.f k2 x9_2).bind fun t345 => ((zah.f k2 l1 t345).bind fun t348 => ((za6.f k2 t341 t348).bind fun t351 => (zai.l0 k2 l0 l1 y344 t351 (wrap64 (x8_1 - 1)))))) = some (r1, r2) := by first | (rw [hy344]; with_reducible exact H) | (have H2_ := (Option.bind_some _ _).symm.trans H; rw [hy344]; with_reducible exact H2_) | (have H2_ := (Option.bind_some _ _).symm.trans H; with_reducible exact H2_) | with_reducible exact H | (rw [hy344]; exact H) | exact H
              have Ny344 := zA hy344
              clear hy344
              replace H := zO H
              obtain ⟨t345, A360, H⟩ := H
              try dsimp only at H
              have A36 := zA A360
              clear A360
              replace H := zO H
              obtain ⟨t348, A370, H⟩ := H
              try dsimp only at H
              have A37 := zA A370
              clear A370
              replace H := zO H
              obtain ⟨t351, A380, H⟩ := H
              try dsimp only at H
              have A38 := zA A380
              clear A380
              have H' := zA H
              clear H
              have p35 : 0 ≤ (x8_1 : Int) := of_decide_eq_true (by first | (with_reducible assumption) | assumption)
              have q35 : (x8_1 : Int) < ((x6_1.length : Int) : Int) := of_decide_eq_true (by first | (with_reducible assumption) | assumption)
              obtain ⟨go35, co35, eo35, gb35, gl35, cl35, HG35⟩ := Kd.R_form HO_6.out (by omega)
              (first | cases eo35 | (injection eo35 with ea_ en_ ec_; (first | subst ea_ | (injection ea_ with ea_; subst ea_)); subst ec_; clear en_))
              have GB35 := zA gb35
              have GG35 := zA HG35
              clear gb35 gl35 HG35
              obtain ⟨hx35_0, hf35_0⟩ := Kd.zcu 0 HO_6.out (x8_1 : Int) p35 q35
              replace p35 := eq_true p35
              replace q35 := eq_true q35
              have HP39 := Kd.R_putg HO_6.out (x8_1 : Int) x9_2
              go_wp2_with (first | ((with_reducible refine zcw (t := 3) (p := 51) rfl ?_); refine zcp (t := 3) (p := 51) (v := ?vo_w40) (w1 := (wr.setCell ⟨go35, (x8_1 : Int).toNat, none⟩ (.int .i64 x9_2))) ?hg ?ho ?hn ?hr ?_; (case ho => rfl); (case hg => rfl); (case hn => rfl); (case hr => first | (go_simp; done) | (go_simp; rfl)); intro w40 hw; have hg : wr.grownBy w40 (some go35) := (by rw [hw]; exact HP39.2); have hp_ : Kd.R (Kd.int .i64) 3 w40 w.heap.size (fun k_ => some k_ ≠ (v342 : Value).ownBlock) (.slice (some ⟨go35, 0, none⟩) x6_1.length co35) y344 := (by rw [hw, Ny344.out]; exact HP39.1); clear HP39; have n0_ := zA (hp_); have n1_ := zA (Kd.R_after (v := (.slice (some ⟨go35, 0, none⟩) x6_1.length co35)) (v1 := (.slice (some ⟨go35, 0, none⟩) x6_1.length co35)) (ok := (fun _ => True)) (by (with_reducible repeat (first | apply Kd.zby | apply Kd.zb2 | apply Kd.zce)); exact Kd.zbj HO_7.out (fun _ hk => ⟨trivial, hk⟩)) hg (.inl rfl)); have n2_ := zA ((by rw [hw]; exact zc1 (HB.out) GB35.out : Below w.heap.size w w40)); clear HO_6 HO_7 HB; have HO_6 := n0_; have HO_7 := n1_; have HB := n2_; clear n0_ n1_ n2_ hg hw hp_) | ((with_reducible refine zab (f := 20) rfl ?_); refine za3 (some 55) rfl rfl Tryd.func20 (by kernel_rfl) rfl #[.int .i64 x9_2] rfl (zE) ?_; (with_reducible refine (zaj.calls k2 x9_2 t345 _ A36.out).mono ?_); rintro e w41 ⟨v346, rfl, ho0, hb⟩; refine ⟨_, rfl, ?_⟩; have n0_ := zA (Kd.zbc (zR HO_6) (Kd.za8 ho0) hb); have n1_ := zA (Kd.zbc (zR HO_7) (Kd.za8 ho0) hb); have n2_ := zA (Kd.zbi (Kd.zbm (Kd.zbm ho0 (Kd.R_lt (zR HO_6))) (Kd.R_lt (zR HO_7))) (za (zB HB))); have n3_ := zA (zac (zB HB) hb); clear HO_6 HO_7 HB; have HO_6 := n0_; have HO_7 := n1_; have HO347 := n2_; have HB := n3_; clear n0_ n1_ n2_ n3_; (try clear hb); (try clear hb2); (try clear hk); (try clear hi); (try clear ho0); obtain ⟨Ao42, co42, eo42⟩ := Kd.zbb HO347.out; subst eo42) | ((with_reducible refine zab (f := 56) rfl ?_); refine za3 (some 56) rfl rfl Tryd.func56 (by kernel_rfl) rfl #[.slice A1 l1.length c1, .slice Ao42 t345.length co42] rfl (zE) ?_; (with_reducible refine (zah.calls k2 _ _ l1 _ _ t345 t348 _ ?side1 ?side2 ?side3 ?side4 A37.out).mono ?_); (case side1 => exact zJ (Kd.zbp HR1.out HB.out)); (case side2 => exact HC1.out); (case side3 => exact zJ (Kd.zar HO347.out).2.2); (case side4 => exact (Kd.zar HO347.out).2.1); rintro e w43 ⟨v349, rfl, ho0, hb⟩; refine ⟨_, rfl, ?_⟩; have n0_ := zA (Kd.zbc (zR HO_6) (Kd.za8 ho0) hb); have n1_ := zA (Kd.zbc (zR HO_7) (Kd.za8 ho0) hb); have n2_ := zA (Kd.zbc (zR HO347) (Kd.za8 ho0) hb); have n3_ := zA (Kd.zbi (Kd.zbm (Kd.zbm (Kd.zbm ho0 (Kd.R_lt (zR HO_6))) (Kd.R_lt (zR HO_7))) (Kd.R_lt (zR HO347))) (za (zB HB))); have n4_ := zA (zac (zB HB) hb); clear HO_6 HO_7 HO347 HB; have HO_6 := n0_; have HO_7 := n1_; have HO347 := n2_; have HO350 := n3_; have HB := n4_; clear n0_ n1_ n2_ n3_ n4_; (try clear hb); (try clear hb2); (try clear hk); (try clear hi); (try clear ho0); obtain ⟨Ao44, co44, eo44⟩ := Kd.zbb HO_7.out; subst eo44; obtain ⟨Ao45, co45, eo45⟩ := Kd.zbb HO350.out; subst eo45) | ((with_reducible refine zab (f := 66) rfl ?_); refine za3 (some 57) rfl rfl Tryd.func66 (by kernel_rfl) rfl #[.slice Ao44 t341.length co44, .slice Ao45 t348.length co45] rfl (zE) ?_; (with_reducible refine (za6.calls k2 _ _ t341 _ _ t348 t351 _ ?side1 ?side2 ?side3 ?side4 A38.out).mono ?_); (case side1 => exact zJ (Kd.zar HO_7.out).2.2); (case side2 => exact (Kd.zar HO_7.out).2.1); (case side3 => exact zJ (Kd.zar HO350.out).2.2); (case side4 => exact (Kd.zar HO350.out).2.1); rintro e w46 ⟨v352, rfl, ho0, hb⟩; refine ⟨_, rfl, ?_⟩; have n0_ := zA (Kd.zbc (zR HO_6) (Kd.za8 ho0) hb); have n1_ := zA (Kd.zbc (zR HO_7) (Kd.za8 ho0) hb); have n2_ := zA (Kd.zbc (zR HO347) (Kd.za8 ho0) hb); have n3_ := zA (Kd.zbc (zR HO350) (Kd.za8 ho0) hb); have n4_ := zA (Kd.zbi (Kd.zbm (Kd.zbm (Kd.zbm (Kd.zbm ho0 (Kd.R_lt (zR HO_6))) (Kd.R_lt (zR HO_7))) (Kd.R_lt (zR HO347))) (Kd.R_lt (zR HO350))) (za (zB HB))); have n5_ := zA (zac (zB HB) hb); clear HO_6 HO_7 HO347 HO350 HB; have HO_6 := n0_; have HO_7 := n1_; have HO347 := n2_; have HO350 := n3_; have HO353 := n4_; have HB := n5_; clear n0_ n1_ n2_ n3_ n4_ n5_; (try clear hb); (try clear hb2); (try clear hk); (try clear hi); (try clear ho0)))
              go_roundg k2
              case measure => have := HK1.out; have := HK2.out; omega
              case rel => exact ⟨(y344), (t351), (wrap64 (x8_1 - 1)), (zF), H', ⟨by have := HK1.out; have := HK2.out; omega⟩, ⟨by (with_reducible repeat (first | apply Kd.zby | apply Kd.zb2 | apply Kd.zce)); exact Kd.zbj HO_6.out (fun _ hk => hk.2)⟩, ⟨by (with_reducible repeat (first | apply Kd.zby | apply Kd.zb2 | apply Kd.zce)); exact Kd.zbj HO353.out (fun _ hk => hk.1.1.1.2)⟩, ⟨zB HB⟩⟩
             ·
              rw [if_neg c34] at H
              exact absurd H (by simp)
            ·
             rw [if_neg c33] at H
             exact absurd H (by simp)
        ·
         rw [if_neg c10] at H
         exact absurd H (by simp)
       ·
        rw [if_neg c9] at H
        exact absurd H (by simp)
      ·
       rw [if_neg c8] at H
       exact absurd H (by simp)
     ·
      rw [if_neg c7] at H
      have c7b0 : decide (0 ≤ x8_1) = false := decide_eq_false c7
      clear c7
      replace H := zO H
      obtain ⟨t331, A470, H⟩ := H
      try dsimp only at H
      have A47 := zA A470
      clear A470
      simp only [Option.some.injEq, Prod.mk.injEq] at H
      obtain ⟨rfl, rfl⟩ := H
      obtain ⟨Ao48, co48, eo48⟩ := Kd.zbb HO_6.out
      subst eo48
      go_wp2_with (first | ((with_reducible refine zab (f := 83) rfl ?_); refine za3 (some 59) rfl rfl Tryd.func83 (by kernel_rfl) rfl #[.slice Ao48 x6_1.length co48] rfl (zE) ?_; (with_reducible refine (zan.calls k1 (fun k_ => some k_ = (.slice Ao48 x6_1.length co48 : Value).ownBlock) (.slice Ao48 x6_1.length co48) x6_1 t331 w _ ?side1 ?side2 A47.out).mono ?_); (case side1 => repeat (first | (with_reducible first | exact HB.out | apply zb3 | apply zbf | apply zbt) | exact HB.out)); (case side2 => exact Kd.zcz rfl HO_6.out); rintro e w49 ⟨v332, rfl, ho0, hb, hkp⟩; refine ⟨_, rfl, ?_⟩; have n0_ := zA (Kd.zbj (ok' := fun k_ => some k_ ≠ (v332 : Value).ownBlock) (Kd.R_keptB (HO_7.out) hkp (fun k_ hk_ hs_ => (hk_) hs_)) (fun k_ hk_ => fun e_ => Or.elim (ho0.1 k_ e_.symm) (fun hs_ => hk_.2.1 hs_) (fun hn_ => Nat.not_le.2 hk_.2.2 hn_))); have n1_ := zA (Kd.zbj (ok' := fun k_ => some k_ ≠ (u7 : Value).ownBlock) ho0 (fun k_ hk_ => Or.elim hk_ (fun hs_ => fun e_ => (((HO_7.out).1 k_ e_.symm)) hs_) (fun hn_ => (Kd.fresh' (Kd.R_lt (zR HO_7)) k_ hn_)))); have n2_ := zA (hb); clear HO_7 HB HO_6; have HO_7 := n0_; have HO333 := n1_; have HB := n2_; clear n0_ n1_ n2_; (try clear hb); (try clear hkp); (try clear ho0)))
      go_ret2
      exact ⟨_, _, zW, zR HO333, zR HO_7, zB HB⟩
  ·
   rw [if_neg c4] at H
   exact absurd H (by simp)
 ·
  rw [if_neg c3] at H
  exact absurd H (by simp)
def zbd.l0 : Nat → List Int → List Int → Option (List Int)
 | 0, _, _ => none
 | k + 1, x0, x1 => if (x1.length : Int) > 0 then ((zai.f k x0 x1).bind fun bt361 => (zbd.l0 k x1 bt361.2)) else (some x0)
def zbd.f (k : Nat) (l0 : List Int) (l1 : List Int) : Option (List Int) := zbd.l0 k l0 l1
theorem zbd.calls (k : Nat) (P0_ : Nat → Prop) (A0 : Option Addr) (c0 : Nat) (l0 : List Int) (P1_ : Nat → Prop) (A1 : Option Addr) (c1 : Nat) (l1 : List Int) (r : List Int) (w : World) (hs0 : Kd.V (Kd.int .i64) 3 w w.heap.size (fun k_ => P0_ k_) (.slice A0 l0.length c0) l0) (hs1 : Kd.V (Kd.int .i64) 3 w w.heap.size (fun k_ => P1_ k_) (.slice A1 l1.length c1) l1) (h : zbd.f k l0 l1 = some r) :
  Calls Tryd.prog 19 #[.slice A0 l0.length c0, .slice A1 l1.length c1] w fun e w' => ∃ v0_ : Value, e = .returned (v0_) ∧ Kd.V (Kd.int .i64) 3 w' w.heap.size (fun k_ => ((P0_ k_ ∨ P1_ k_) ∨ w.heap.size ≤ k_)) v0_ r ∧ Below w.heap.size w w' := by
 have HO0 := zA (show Kd.V (Kd.int .i64) 3 w w.heap.size (fun k_ => ((P0_ k_ ∨ P1_ k_) ∨ w.heap.size ≤ k_)) (.slice A0 l0.length c0) l0 from Kd.zas hs0 (fun k_ hk => .inl (.inl hk)))
 have HO1 := zA (show Kd.V (Kd.int .i64) 3 w w.heap.size (fun k_ => ((P0_ k_ ∨ P1_ k_) ∨ w.heap.size ≤ k_)) (.slice A1 l1.length c1) l1 from Kd.zas hs1 (fun k_ hk => .inl (.inr hk)))
 have HB := zA (Below.refl w.heap.size w)
 have H : (zbd.l0 k l0 l1) = some r := h
 clear h
 have H' := zA H
 clear H
 go_enter Tryd.func19, Tryd.ntmps19
 go_wp2
 go_loopg [0, 1] k (fun kq v0 v1 w' => ∃ (x0_1 : List Int) (x1_1 : List Int), Aside0 (zbd.l0 kq x0_1 x1_1 = some r) ∧ Aside0 (kq ≤ k) ∧ Aside0 (Kd.V (Kd.int .i64) 3 w' w.heap.size (fun k_ => ((P0_ k_ ∨ P1_ k_) ∨ w.heap.size ≤ k_)) v0 x0_1) ∧ Aside0 (Kd.V (Kd.int .i64) 3 w' w.heap.size (fun k_ => ((P0_ k_ ∨ P1_ k_) ∨ w.heap.size ≤ k_)) v1 x1_1) ∧ Aside0 (Below w.heap.size w w'))
 case atStart => exact ⟨(l0), (l1), H', ⟨Nat.le_refl _⟩, ⟨zV HO0⟩, ⟨zV HO1⟩, ⟨zB HB⟩⟩
 case round =>
  clear H'
  try clear c1
  try clear p2
  obtain ⟨x0_1, x1_1, HA, HK1, HO_0, HO_1, HB⟩ := hrel
  cases gk with
  | zero => exact absurd HA.out (by simp [zbd.l0])
  | succ k1 =>
   have H := HA.out
   clear HA
   simp only [zbd.l0] at H
   by_cases c3 : (x1_1.length : Int) > 0
   ·
    rw [if_pos c3] at H
    have c3b0 : decide (0 < (x1_1.length : Int)) = true := decide_eq_true c3
    have c3b1 : decide (0 < x1_1.length) = true := decide_eq_true (by omega)
    clear c3
    replace H := zO H
    obtain ⟨⟨t361, t362⟩, A40, H⟩ := H
    try dsimp only at H
    have A4 := zA A40
    clear A40
    have H' := zA H
    clear H
    obtain ⟨Ao5, co5, eo5⟩ := Kd.zbh HO_1.out
    subst eo5
    obtain ⟨Ao6, co6, eo6⟩ := Kd.zbh HO_0.out
    subst eo6
    go_wp2_with (first | ((with_reducible refine zab (f := 57) rfl ?_); refine za3 (some 13) rfl rfl Tryd.func57 (by kernel_rfl) rfl #[.slice Ao6 x0_1.length co6, .slice Ao5 x1_1.length co5] rfl (zE) ?_; (with_reducible refine (zai.calls k1 _ _ x0_1 _ _ x1_1 t361 t362 _ ?side1 ?side2 ?side3 ?side4 A4.out).mono ?_); (case side1 => exact zJ (Kd.zaw HO_0.out).2.2); (case side2 => exact (Kd.zaw HO_0.out).2.1); (case side3 => exact zJ (Kd.zaw HO_1.out).2.2); (case side4 => exact (Kd.zaw HO_1.out).2.1); rintro e w7 ⟨v363, v365, rfl, ho0, ho1, hb⟩; refine ⟨_, rfl, ?_⟩; have n0_ := zA (Kd.zas (Kd.V_told (Kd.V_told (Kd.V_old (zV HO_0) hb) (Kd.za8 ho0)) (Kd.za8 ho1)) (fun _ h_ => h_.1)); have n1_ := zA (Kd.zas (Kd.V_told (Kd.V_told (Kd.V_old (zV HO_1) hb) (Kd.za8 ho0)) (Kd.za8 ho1)) (fun _ h_ => h_.1)); have n2_ := zA (Kd.zbi (Kd.R_newM (M := fun k_ => (w.heap.size ≤ k_)) ho0 (za (zB HB)) (fun k_ h_ => h_)) (za (zB HB))); have n3_ := zA (Kd.zbi (Kd.R_newM (M := fun k_ => (w.heap.size ≤ k_)) ho1 (za (zB HB)) (fun k_ h_ => h_)) (za (zB HB))); have n4_ := zA (zac (zB HB) hb); clear HO_0 HO_1 HB; have HO_0 := n0_; have HO_1 := n1_; have HO364 := n2_; have HO366 := n3_; have HB := n4_; clear n0_ n1_ n2_ n3_ n4_; (try clear hb); (try clear hb2); (try clear hk); (try clear hi); (try clear ho0); (try clear ho1)))
    go_roundg k1
    case measure => have := HK1.out; omega
    case rel => exact ⟨(x1_1), (t362), H', ⟨by have := HK1.out; omega⟩, ⟨by (with_reducible repeat (first | apply Kd.zbr | apply Kd.zbq | apply Kd.zb4)); exact Kd.zas HO_1.out (fun _ hk => hk.1.1)⟩, ⟨Kd.zas (Kd.R_V (by (with_reducible repeat (first | apply Kd.zby | apply Kd.zb2 | apply Kd.zce)); exact Kd.zbj HO366.out (fun _ hk => hk.1))) (fun k_ hk => by first | exact ⟨(.inr (hk.1)), hk.2⟩ | exact (.inr (hk)))⟩, ⟨zB HB⟩⟩
   ·
    rw [if_neg c3] at H
    have c3b0 : decide (0 < (x1_1.length : Int)) = false := decide_eq_false c3
    have c3b1 : decide (0 < x1_1.length) = false := decide_eq_false (by omega)
    clear c3
    obtain rfl := Option.some.inj H
    obtain ⟨Ao8, co8, eo8⟩ := Kd.zbh HO_1.out
    subst eo8
    go_wp2
    go_ret
    exact ⟨_, zW, zV HO_0, zB HB⟩
def zcj.f (k : Nat) (l0 : List Int) (l1 : List Int) : Option (List Int × List Int) := (zbd.f k l0 l1).bind fun t424 => ((zai.f k l0 t424).bind fun bt427 => ((zai.f k l1 t424).bind fun bt433 => (some (bt427.1, bt433.1))))
theorem zcj.calls (k : Nat) (A0 : Option Addr) (c0 : Nat) (l0 : List Int) (A1 : Option Addr) (c1 : Nat) (l1 : List Int) (r1 : List Int) (r2 : List Int) (w : World) (hr0 : Kd.C (Kd.int .i64) w A0 l0.length l0) (hc0 : l0.length ≤ c0) (hr1 : Kd.C (Kd.int .i64) w A1 l1.length l1) (hc1 : l1.length ≤ c1) (h : zcj.f k l0 l1 = some (r1, r2)) :
  Calls Tryd.prog 59 #[.slice A0 l0.length c0, .slice A1 l1.length c1] w fun e w' => ∃ v0_ v1_ : Value, e = .returned (.agg #[v0_, v1_]) ∧ Kd.R (Kd.int .i64) 3 w' w.heap.size (fun k_ => some k_ ≠ (v1_ : Value).ownBlock) v0_ r1 ∧ Kd.R (Kd.int .i64) 3 w' w.heap.size (fun k_ => some k_ ≠ (v0_ : Value).ownBlock) v1_ r2 ∧ Below w.heap.size w w' := by
 have hu40 := Tryd.underlying40
 have HR0 := zA hr0
 have HC0 := zA hc0
 clear hr0 hc0
 have HR1 := zA hr1
 have HC1 := zA hc1
 clear hr1 hc1
 have HB := zA (Below.refl w.heap.size w)
 have H : ((zbd.f k l0 l1).bind fun t424 => ((zai.f k l0 t424).bind fun bt427 => ((zai.f k l1 t424).bind fun bt433 => (some (bt427.1, bt433.1))))) = some (r1, r2) := h
 clear h
 replace H := zO H
 obtain ⟨t424, A30, H⟩ := H
 try dsimp only at H
 have A3 := zA A30
 clear A30
 replace H := zO H
 obtain ⟨⟨t427, t428⟩, A40, H⟩ := H
 try dsimp only at H
 have A4 := zA A40
 clear A40
 replace H := zO H
 obtain ⟨⟨t433, t434⟩, A50, H⟩ := H
 try dsimp only at H
 have A5 := zA A50
 clear A50
 simp only [Option.some.injEq, Prod.mk.injEq] at H
 obtain ⟨rfl, rfl⟩ := H
 go_enter Tryd.func59, Tryd.ntmps59
 go_wp2_with (first | ((with_reducible refine zbs (N := 4) rfl ?_); refine zb5 ?hg (N := 4) ?hd (cs := #[.slice none 0 0, .slice none 0 0]) (t := 40) ?hr ?_; (case hd => rfl); (case hg => rfl); (case hr => first | (go_simp; done) | (go_simp; rfl)); intro gb423 hg w6 hbox hb; have n0_ := zA (zac (zB HB) hb); have n1_ := zA (hbox); have n2_ := zA ((by rw [hg]; exact (za (zB HB)) : w.heap.size ≤ gb423)); have n3_ := zA ((by rw [hg]; exact (za (zB HB)) : w.heap.size ≤ gb423)); clear HB; have HB := n0_; have BK423 := n1_; have GW423 := n2_; have GE423 := n3_; clear n0_ n1_ n2_ n3_ hb hbox hg) | ((with_reducible refine zab (f := 19) rfl ?_); refine za3 (some 12) rfl rfl Tryd.func19 (by kernel_rfl) rfl #[.slice A0 l0.length c0, .slice A1 l1.length c1] rfl (zE) ?_; (with_reducible refine (zbd.calls k (fun k_ => k_ < w.heap.size) _ _ l0 (fun k_ => k_ < w.heap.size) _ _ l1 t424 _ ?side1 ?side2 A3.out).mono ?_); (case side1 => exact Kd.V_mk HC0.out (Kd.F_below (Kd.C_F (Kd.heap_int .i64) HR0.out) (zB HB))); (case side2 => exact Kd.V_mk HC1.out (Kd.F_below (Kd.C_F (Kd.heap_int .i64) HR1.out) (zB HB))); rintro e w7 ⟨v425, rfl, ho0, hb⟩; refine ⟨_, rfl, ?_⟩; have n0_ := zA (Kd.zbl (Kd.zas (ok' := fun k_ => k_ ≠ gb423) ho0 (fun k_ hk_ => Or.elim hk_ (fun hs_ => Or.elim hs_ (fun hs_ => fun e_ => Nat.not_le.2 hs_ (by rw [e_]; exact GW423.out)) (fun hs_ => fun e_ => Nat.not_le.2 hs_ (by rw [e_]; exact GW423.out))) (fun hn_ => (Kd.freshB (g := gb423) (o := .cells #[.slice none 0 0, .slice none 0 0] 40 (0, 0)) (zK BK423) k_ hn_)))) (za (zB HB))); have n1_ := zA (za5 (g := gb423) (o := .cells #[.slice none 0 0, .slice none 0 0] 40 (0, 0)) (zK BK423) hb); have n2_ := zA (zac (zB HB) hb); clear BK423 HB; have HO426 := n0_; have BK423 := n1_; have HB := n2_; clear n0_ n1_ n2_; (try clear hb); (try clear hb2); (try clear hk); (try clear hi); (try clear ho0); obtain ⟨Ao8, co8, eo8⟩ := Kd.zbh HO426.out; subst eo8) | ((with_reducible refine zab (f := 57) rfl ?_); refine za3 (some 16) rfl rfl Tryd.func57 (by kernel_rfl) rfl #[.slice A0 l0.length c0, .slice Ao8 t424.length co8] rfl (zE) ?_; (with_reducible refine (zai.calls k _ _ l0 _ _ t424 t427 t428 _ ?side1 ?side2 ?side3 ?side4 A4.out).mono ?_); (case side1 => exact zJ (Kd.zbp HR0.out HB.out)); (case side2 => exact HC0.out); (case side3 => exact zJ (Kd.zaw HO426.out).2.2); (case side4 => exact (Kd.zaw HO426.out).2.1); rintro e w9 ⟨v429, v431, rfl, ho0, ho1, hb⟩; refine ⟨_, rfl, ?_⟩; have n0_ := zA (Kd.zas (Kd.V_told (Kd.V_told (Kd.V_old (zV HO426) hb) (Kd.za8 ho0)) (Kd.za8 ho1)) (fun _ h_ => h_.1)); have n1_ := zA (Kd.zbi ho0 (za (zB HB))); have n2_ := zA (Kd.zbi ho1 (za (zB HB))); have n3_ := zA (za5 (g := gb423) (o := .cells #[.slice none 0 0, .slice none 0 0] 40 (0, 0)) (zK BK423) hb); have n4_ := zA (zac (zB HB) hb); clear HO426 BK423 HB; have HO426 := n0_; have HO430 := n1_; have HO432 := n2_; have BK423 := n3_; have HB := n4_; clear n0_ n1_ n2_ n3_ n4_; (try clear hb); (try clear hb2); (try clear hk); (try clear hi); (try clear ho0); (try clear ho1)) | ((with_reducible refine zab (f := 57) rfl ?_); refine za3 (some 22) rfl rfl Tryd.func57 (by kernel_rfl) rfl #[.slice A1 l1.length c1, .slice Ao8 t424.length co8] rfl (zE) ?_; (with_reducible refine (zai.calls k _ _ l1 _ _ t424 t433 t434 _ ?side1 ?side2 ?side3 ?side4 A5.out).mono ?_); (case side1 => exact zJ (Kd.zbp HR1.out HB.out)); (case side2 => exact HC1.out); (case side3 => exact zJ (Kd.zaw HO426.out).2.2); (case side4 => exact (Kd.zaw HO426.out).2.1); rintro e w10 ⟨v435, v437, rfl, ho0, ho1, hb⟩; refine ⟨_, rfl, ?_⟩; have n0_ := zA (Kd.zas (Kd.V_told (Kd.V_told (Kd.V_old (zV HO426) hb) (Kd.za8 ho0)) (Kd.za8 ho1)) (fun _ h_ => h_.1)); have n1_ := zA (Kd.zbj (Kd.zc5 (Kd.zc5 (Kd.R_old (zR HO430) hb) (Kd.za8 ho0)) (Kd.za8 ho1)) (fun _ h_ => h_.1)); have n2_ := zA (Kd.zbj (Kd.zc5 (Kd.zc5 (Kd.R_old (zR HO432) hb) (Kd.za8 ho0)) (Kd.za8 ho1)) (fun _ h_ => h_.1)); have n3_ := zA (Kd.zbi (Kd.zbm (Kd.zbm ho0 (Kd.R_lt (zR HO430))) (Kd.R_lt (zR HO432))) (za (zB HB))); have n4_ := zA (Kd.zbi (Kd.zbm (Kd.zbm ho1 (Kd.R_lt (zR HO430))) (Kd.R_lt (zR HO432))) (za (zB HB))); have n5_ := zA (za5 (g := gb423) (o := .cells #[.slice none 0 0, .slice none 0 0] 40 (0, 0)) (zK BK423) hb); have n6_ := zA (zac (zB HB) hb); clear HO426 HO430 HO432 BK423 HB; have HO426 := n0_; have HO430 := n1_; have HO432 := n2_; have HO436 := n3_; have HO438 := n4_; have BK423 := n5_; have HB := n6_; clear n0_ n1_ n2_ n3_ n4_ n5_ n6_; (try clear hb); (try clear hb2); (try clear hk); (try clear hi); (try clear ho0); (try clear ho1); obtain ⟨Ao11, co11, eo11⟩ := Kd.zbb HO436.out; subst eo11; obtain ⟨Ao12, co12, eo12⟩ := Kd.zbb HO430.out; subst eo12; have hcz13_0 : w10.cell? ⟨gb423, 0, none⟩ = some (.slice none 0 0) := (zal BK423.out 0).trans rfl; have hcz13_1 : w10.cell? ⟨gb423, 1, none⟩ = some (.slice none 0 0) := (zal BK423.out 1).trans rfl; have hfz13_0 := zaq BK423.out 0; have hfz13_1 := zaq BK423.out 1))
 refine bodyPost_ret (results_cell_row rfl _ _ gb423 40 #[.slice Ao12 t427.length co12, .slice Ao11 t433.length co11] (0, 0) _ rfl (by (with_reducible repeat (first | refine zay ?_ _ | refine za1 ?_ | refine zax ?_ _)); refine zb0 (cs := #[.slice Ao12 t427.length co12, .slice none 0 0]) ?_ 1 _ rfl; (with_reducible repeat (first | refine zay ?_ _ | refine za1 ?_ | refine zax ?_ _)); refine zb0 (cs := #[.slice none 0 0, .slice none 0 0]) ?_ 0 _ rfl; (with_reducible repeat (first | refine zay ?_ _ | refine za1 ?_ | refine zax ?_ _)); exact BK423.out) Tryd.underlying40 rfl (by kernel_rfl)) rfl ?_
 exact ⟨_, _, zW, by (with_reducible repeat (first | apply Kd.zby | apply Kd.zb2 | apply Kd.zce)); exact Kd.zbj (Kd.R_far (p := ⟨gb423, 1, none⟩) (Kd.R_far (p := ⟨gb423, 0, none⟩) (Kd.R_types HO430.out BK423.out (by decide)) (fun _ hk => hk.2) (.slice Ao12 t427.length co12)) (fun _ hk => hk.2) (.slice Ao11 t433.length co11)) (fun _ hk => hk.1.1.2), by (with_reducible repeat (first | apply Kd.zby | apply Kd.zb2 | apply Kd.zce)); exact Kd.zbj (Kd.R_far (p := ⟨gb423, 1, none⟩) (Kd.R_far (p := ⟨gb423, 0, none⟩) (Kd.R_types HO436.out BK423.out (by decide)) (fun _ hk => hk.2) (.slice Ao12 t427.length co12)) (fun _ hk => hk.2) (.slice Ao11 t433.length co11)) (fun _ hk => hk.1.1.2), zB HB⟩
mutual
def zae.l0 : Nat → List Int → ByteArray → Int → Int → Option (ByteArray)
 | 0, _, _, _, _ => none
 | k + 1, x0, x3, x10, x11 => if x11 < x10 then (if 0 ≤ x11 then (if x11 < (x0.length : Int) then (zae.l1 k x0 x3 (rd x0 x11) x10 x11 0) else (none)) else (none)) else (zae.l2 k x3)
def zae.l1 : Nat → List Int → ByteArray → Int → Int → Int → Int → Option (ByteArray)
 | 0, _, _, _, _, _, _ => none
 | k + 1, x0, x3, x5, x10, x11, x18 => if x18 < 4 then (if 0 ≤ (Int.tmod x5 10) then (if (Int.tmod x5 10) ≤ (wrap64 ((Int.tmod x5 10) + 1)) then (if (wrap64 ((Int.tmod x5 10) + 1)) ≤ 10 then (if ((⟨#[48, 49, 50, 51, 52, 53, 54, 55, 56, 57]⟩ : ByteArray).extract ((Int.tmod x5 10) : Int).toNat ((wrap64 ((Int.tmod x5 10) + 1)) : Int).toNat).size + x3.size ≤ 9223372036854775807 then (zae.l1 k x0 (((⟨#[48, 49, 50, 51, 52, 53, 54, 55, 56, 57]⟩ : ByteArray).extract ((Int.tmod x5 10) : Int).toNat ((wrap64 ((Int.tmod x5 10) + 1)) : Int).toNat) ++ x3) (wrap64 (Int.tdiv x5 10)) x10 x11 (wrap64 (x18 + 1))) else (none)) else (none)) else (none)) else (none)) else (zae.l0 k x0 x3 x10 (wrap64 (x11 + 1)))
def zae.l2 : Nat → ByteArray → Option (ByteArray)
 | 0, _ => none
 | k + 1, x3 => if 0 < (x3.size : Int) then (if (bt x3 0) = 48 then (if 1 ≤ (x3.size : Int) then (zae.l2 k (x3.extract 1 x3.size)) else (none)) else (some x3)) else (none)
end
def zae.f (k : Nat) (l0 : List Int) : Option (ByteArray) := if (l0.length : Int) = 0 then (some (⟨#[48]⟩ : ByteArray)) else (zae.l0 k l0 (⟨#[]⟩ : ByteArray) (l0.length : Int) 0)
theorem zae.calls (k : Nat) (A0 : Option Addr) (c0 : Nat) (l0 : List Int) (r : ByteArray) (w : World) (hr0 : Kd.C (Kd.int .i64) w A0 l0.length l0) (hc0 : l0.length ≤ c0) (h : zae.f k l0 = some r) :
  Calls Tryd.prog 69 #[.slice A0 l0.length c0] w fun e w' => e = .returned (.string r) ∧ Drawn0 w w' := by
 have HR0 := zA hr0
 have HC0 := zA hc0
 clear hr0 hc0
 have H : (if (l0.length : Int) = 0 then (some (⟨#[48]⟩ : ByteArray)) else (zae.l0 k l0 (⟨#[]⟩ : ByteArray) (l0.length : Int) 0)) = some r := h
 clear h
 by_cases c2 : (l0.length : Int) = 0
 ·
  rw [if_pos c2] at H
  have c2b0 : ((l0.length : Int) == 0) = true := beq_iff_eq.mpr c2
  have c2b1 : ((l0.length : Int) != 0) = false := bne_eq_false_iff_eq.mpr c2
  clear c2
  obtain rfl := Option.some.inj H
  go_enter Tryd.func69, Tryd.ntmps69
  go_wp2
  go_ret
  exact ⟨zF, by repeat (first | exact Drawn0.refl _ | apply Drawn0.step)⟩
 ·
  rw [if_neg c2] at H
  have c2b0 : ((l0.length : Int) == 0) = false := beq_eq_false_iff_ne.mpr c2
  have c2b1 : ((l0.length : Int) != 0) = true := bne_iff_ne.mpr c2
  have c2b2 : ¬ (l0 = []) := fun h_ => c2 (by rw [h_]; rfl)
  have H' := zA H
  clear H
  go_enter Tryd.func69, Tryd.ntmps69
  go_wp2
  go_loopg [3, 11] k (fun kq v3 v11 w' => ∃ (x3_1 : ByteArray) (x11_1 : Int), v3 = .string x3_1 ∧ v11 = .int .i64 x11_1 ∧ Aside0 (zae.l0 kq l0 x3_1 (l0.length : Int) x11_1 = some r) ∧ Aside0 (kq ≤ k) ∧ Drawn0 w w')
  case atStart => exact ⟨((⟨#[]⟩ : ByteArray)), (0), (zF), (zF), H', ⟨Nat.le_refl _⟩, by repeat (first | exact Drawn0.refl _ | apply Drawn0.step)⟩
  case round =>
   clear H'
   try clear c2
   try clear c2b0
   try clear c2b1
   try clear c2b2
   try clear p2
   obtain ⟨x3_1, x11_1, rfl, rfl, HA, HK1, ⟨m1, rfl⟩⟩ := hrel
   cases gk with
   | zero => exact absurd HA.out (by simp [zae.l0])
   | succ k1 =>
    have H := HA.out
    clear HA
    simp only [zae.l0] at H
    by_cases c3 : x11_1 < (l0.length : Int)
    ·
     rw [if_pos c3] at H
     have c3b0 : decide (x11_1 < (l0.length : Int)) = true := decide_eq_true c3
     clear c3
     by_cases c4 : 0 ≤ x11_1
     ·
      rw [if_pos c4] at H
      have c4b0 : decide (0 ≤ x11_1) = true := decide_eq_true c4
      clear c4
      by_cases c5 : x11_1 < (l0.length : Int)
      ·
       rw [if_pos c5] at H
       have c5b0 : decide (x11_1 < (l0.length : Int)) = true := decide_eq_true c5
       clear c5
       have H' := zA H
       clear H
       have p1008 : 0 ≤ (x11_1 : Int) := of_decide_eq_true (by first | (with_reducible assumption) | assumption)
       have q1008 : x11_1 < (l0.length : Int) := of_decide_eq_true (by first | (with_reducible assumption) | assumption)
       obtain ⟨ad1008, e1008, hx1008_0⟩ := Kd.at_int HR0.out x11_1 p1008 q1008
       cases e1008
       replace p1008 := eq_true p1008
       replace q1008 := eq_true q1008
       go_wp2
       go_loopg [3, 5, 18] k1 (fun kq v3 v5 v18 w' => ∃ (x3_2 : ByteArray) (x5_2 : Int) (x18_2 : Int), v3 = .string x3_2 ∧ v5 = .int .i64 x5_2 ∧ v18 = .int .i64 x18_2 ∧ Aside0 (zae.l1 kq l0 x3_2 x5_2 (l0.length : Int) x11_1 x18_2 = some r) ∧ Aside0 (kq ≤ k1) ∧ Drawn0 w w')
       case atStart => exact ⟨(x3_1), (rd l0 x11_1), (0), (zF), (zF), (zF), H', ⟨Nat.le_refl _⟩, by repeat (first | exact Drawn0.refl _ | apply Drawn0.step)⟩
       case round =>
        clear H'
        try clear p1
        try clear q1
        try clear hx1
        try clear c2
        try clear c2b0
        try clear c2b1
        try clear c2b2
        try clear p2
        try clear c3
        try clear c3b0
        try clear c4
        try clear c4b0
        try clear c5
        try clear c5b0
        try clear hx1008_0
        try clear p1008
        try clear p2
        try clear q1008
        obtain ⟨x3_2, x5_2, x18_2, rfl, rfl, rfl, HA, HK2, ⟨m2, rfl⟩⟩ := hrel
        cases gk with
        | zero => exact absurd HA.out (by simp [zae.l1])
        | succ k2 =>
         have H := HA.out
         clear HA
         simp only [zae.l1] at H
         by_cases c6 : x18_2 < 4
         ·
          rw [if_pos c6] at H
          have c6b0 : decide (x18_2 < 4) = true := decide_eq_true c6
          clear c6
          obtain ⟨ji7, hji7⟩ : ∃ j_ : Int, (Int.tmod x5_2 10) = j_ := ⟨_, rfl⟩
          replace H : (if 0 ≤ (ji7) then (if (ji7) ≤ (wrap64 ((ji7) + 1)) then (if (wrap64 ((ji7) + 1)) ≤ 10 then (if ((⟨#[48, 49, 50, 51, 52, 53, 54, 55, 56, 57]⟩ : ByteArray).extract ((ji7) : Int).toNat ((wrap64 ((ji7) + 1)) : Int).toNat).size + x3_2.size ≤ 9223372036854775807 then (zae.l1 k2 l0 (((⟨#[48, 49, 50, 51, 52, 53, 54, 55, 56, 57]⟩ : ByteArray).extract ((ji7) : Int).toNat ((wrap64 ((ji7) + 1)) : Int).toNat) ++ x3_2) (wrap64 (Int.tdiv x5_2 10)) (l0.length : Int) x11_1 (wrap64 (x18_2 + 1))) else (none)) else (none)) else (none)) else (none)) = some r := by first | (rw [hji7] at H; exact H) | (simp only [hji7] at H ⊢; exact H)
          by_cases c8 : 0 ≤ (ji7)
          ·
           rw [if_pos c8] at H
           have c8b0 := eq_true c8
           have c8b1 : decide (0 ≤ (ji7)) = true := decide_eq_true c8
           clear c8
           by_cases c9 : (ji7) ≤ (wrap64 ((ji7) + 1))
           ·
            rw [if_pos c9] at H
            have c9b0 := eq_true c9
            have c9b1 : decide ((ji7) ≤ (wrap64 ((ji7) + 1))) = true := decide_eq_true c9
            by_cases c10 : (wrap64 ((ji7) + 1)) ≤ 10
            ·
             rw [if_pos c10] at H
             have c10b0 := eq_true c10
             have c10b1 : decide ((wrap64 ((ji7) + 1)) ≤ 10) = true := decide_eq_true c10
             by_cases c11 : ((⟨#[48, 49, 50, 51, 52, 53, 54, 55, 56, 57]⟩ : ByteArray).extract ((ji7) : Int).toNat ((wrap64 ((ji7) + 1)) : Int).toNat).size + x3_2.size ≤ 9223372036854775807
             ·
              rw [if_pos c11] at H
              have c11b0 := eq_true c11
              have c11b1 : decide (((⟨#[48, 49, 50, 51, 52, 53, 54, 55, 56, 57]⟩ : ByteArray).extract ((ji7) : Int).toNat ((wrap64 ((ji7) + 1)) : Int).toNat).size + x3_2.size ≤ 9223372036854775807) = true := decide_eq_true c11
              try have c11b2 : (9223372036854775807 < ((⟨#[48, 49, 50, 51, 52, 53, 54, 55, 56, 57]⟩ : ByteArray).extract ((ji7) : Int).toNat ((wrap64 ((ji7) + 1)) : Int).toNat).size + x3_2.size) = False := eq_false (Nat.not_lt.2 c11)
              have H' := zA H
              clear H
              go_wp2
              go_roundg k2
              case measure => have := HK1.out; have := HK2.out; omega
              case rel => exact ⟨(((⟨#[48, 49, 50, 51, 52, 53, 54, 55, 56, 57]⟩ : ByteArray).extract ((ji7) : Int).toNat ((wrap64 ((ji7) + 1)) : Int).toNat) ++ x3_2), (wrap64 (Int.tdiv x5_2 10)), (wrap64 (x18_2 + 1)), (by first | rfl | (simp; done) | (simp only [← hji7] <;> (first | rfl | simp)) | (simp [*]; done)), (zF), (zF), H', ⟨by have := HK1.out; have := HK2.out; omega⟩, by repeat (first | exact Drawn0.refl _ | apply Drawn0.step)⟩
             ·
              rw [if_neg c11] at H
              exact absurd H (by simp)
            ·
             rw [if_neg c10] at H
             exact absurd H (by simp)
           ·
            rw [if_neg c9] at H
            exact absurd H (by simp)
          ·
           rw [if_neg c8] at H
           exact absurd H (by simp)
         ·
          rw [if_neg c6] at H
          have c6b0 : decide (x18_2 < 4) = false := decide_eq_false c6
          clear c6
          have H' := zA H
          clear H
          go_wp2
          go_roundg k2
          case measure => have := HK1.out; have := HK2.out; omega
          case rel => exact ⟨(x3_2), (wrap64 (x11_1 + 1)), (zF), (zF), H', ⟨by have := HK1.out; have := HK2.out; omega⟩, by repeat (first | exact Drawn0.refl _ | apply Drawn0.step)⟩
      ·
       rw [if_neg c5] at H
       exact absurd H (by simp)
     ·
      rw [if_neg c4] at H
      exact absurd H (by simp)
    ·
     rw [if_neg c3] at H
     have c3b0 : decide (x11_1 < (l0.length : Int)) = false := decide_eq_false c3
     clear c3
     have H' := zA H
     clear H
     go_wp2
     go_loopg [3] k1 (fun kq v3 w' => ∃ (x3_2 : ByteArray), v3 = .string x3_2 ∧ Aside0 (zae.l2 kq x3_2 = some r) ∧ Aside0 (kq ≤ k1) ∧ Drawn0 w w')
     case atStart => exact ⟨(x3_1), (zF), H', ⟨Nat.le_refl _⟩, by repeat (first | exact Drawn0.refl _ | apply Drawn0.step)⟩
     case round =>
      clear H'
      try clear c1
      try clear p1
      try clear q1
      try clear hx1
      try clear c2
      try clear c2b0
      try clear c2b1
      try clear c2b2
      try clear p2
      try clear c3
      try clear c3b0
      try clear c4
      try clear c4b0
      try clear c5
      try clear c5b0
      try clear c6
      try clear c6b0
      try clear p6
      try clear c8
      try clear c8b0
      try clear c8b1
      try clear c9
      try clear c9b0
      try clear c9b1
      try clear c10
      try clear c10b0
      try clear c10b1
      try clear p10
      try clear q10
      try clear hx10
      try clear c11
      try clear c11b0
      try clear c11b1
      try clear c11b2
      try clear hx1008_0
      try clear p1
      try clear p1008
      try clear p2
      try clear q1
      try clear q1008
      obtain ⟨x3_2, rfl, HA, HK2, ⟨m2, rfl⟩⟩ := hrel
      cases gk with
      | zero => exact absurd HA.out (by simp [zae.l2])
      | succ k2 =>
       have H := HA.out
       clear HA
       simp only [zae.l2] at H
       by_cases c12 : 0 < (x3_2.size : Int)
       ·
        rw [if_pos c12] at H
        have c12b0 : decide (0 < (x3_2.size : Int)) = true := decide_eq_true c12
        have c12b1 : decide (0 < x3_2.size) = true := decide_eq_true (by omega)
        clear c12
        by_cases c14 : (bt x3_2 0) = 48
        ·
         rw [if_pos c14] at H
         have c14b0 : ((bt x3_2 0) == 48) = true := beq_iff_eq.mpr c14
         have c14b1 : ((bt x3_2 0) != 48) = false := bne_eq_false_iff_eq.mpr c14
         clear c14
         by_cases c15 : 1 ≤ (x3_2.size : Int)
         ·
          rw [if_pos c15] at H
          have c15b0 := eq_true c15
          have c15b1 : decide (1 ≤ (x3_2.size : Int)) = true := decide_eq_true c15
          clear c15
          have H' := zA H
          clear H
          have p13 : 0 ≤ (0 : Int) := (by omega)
          have q13 : 0 < x3_2.size := (by have : (0 : Int) < (x3_2.size : Int) := of_decide_eq_true (by first | (with_reducible assumption) | assumption); omega)
          have hx13 : ∀ h : 0 < x3_2.size, ((x3_2[0]'h).toNat : Int) = bt x3_2 0 := bt_at x3_2 0
          clear p13
          have qi13 : (0 < (x3_2.size : Int)) = True := eq_true (of_decide_eq_true (by first | (with_reducible assumption) | assumption))
          replace q13 := eq_true q13
          go_wp2
          go_roundg k2
          case measure => have := HK1.out; have := HK2.out; omega
          case rel => exact ⟨(x3_2.extract 1 x3_2.size), (zF), H', ⟨by have := HK1.out; have := HK2.out; omega⟩, by repeat (first | exact Drawn0.refl _ | apply Drawn0.step)⟩
         ·
          rw [if_neg c15] at H
          exact absurd H (by simp)
        ·
         rw [if_neg c14] at H
         have c14b0 : ((bt x3_2 0) == 48) = false := beq_eq_false_iff_ne.mpr c14
         have c14b1 : ((bt x3_2 0) != 48) = true := bne_iff_ne.mpr c14
         obtain rfl := Option.some.inj H
         have p13 : 0 ≤ (0 : Int) := (by omega)
         have q13 : 0 < x3_2.size := (by have : (0 : Int) < (x3_2.size : Int) := of_decide_eq_true (by first | (with_reducible assumption) | assumption); omega)
         have hx13 : ∀ h : 0 < x3_2.size, ((x3_2[0]'h).toNat : Int) = bt x3_2 0 := bt_at x3_2 0
         clear p13
         have qi13 : (0 < (x3_2.size : Int)) = True := eq_true (of_decide_eq_true (by first | (with_reducible assumption) | assumption))
         replace q13 := eq_true q13
         go_wp2
         go_ret
         exact ⟨zF, by repeat (first | exact Drawn0.refl _ | apply Drawn0.step)⟩
       ·
        rw [if_neg c12] at H
        exact absurd H (by simp)
def zbe.f (k : Nat) (l0_0 : List Int) (l0_1 : List Int) : Option (ByteArray) := (zaj.f k 1).bind fun t1010 => ((zav.f k l0_1 t1010).bind fun t1013 => (if t1013 = 0 then ((zae.f k l0_0).bind fun t1014 => (some t1014)) else ((zae.f k l0_0).bind fun t1015 => (if t1015.size + 1 ≤ 9223372036854775807 then ((zae.f k l0_1).bind fun t1016 => (if (t1015 ++ (⟨#[47]⟩ : ByteArray)).size + t1016.size ≤ 9223372036854775807 then (some ((t1015 ++ (⟨#[47]⟩ : ByteArray)) ++ t1016)) else (none))) else (none)))))
def zbe.T3 : Bool × List (List Nat × List Nat) := (true, [([], []), ([0], [0]), ([1], [1]), ([2], [2]), ([], []), ([4], [4]), ([5, 2], [5]), ([3, 6], [3, 6]), ([7, 6, 0, 1, 2, 3, 4, 5, 6, 7], [7])])
def zbe.B3 : List Nat := [0, 1, 3, 7, 0, 16, 55, 127, 255]
theorem zbe.tab3 : rtab .any (opsOf Tryd.f42 3) = zbe.T3 := by kernel_rfl
theorem zbe.bits3 : waitsOk zbe.T3.2 zbe.B3 = true := by kernel_rfl
theorem zbe.calls (k : Nat) (A0_0 : Option Addr) (c0_0 : Nat) (l0_0 : List Int) (A0_1 : Option Addr) (c0_1 : Nat) (l0_1 : List Int) (r : ByteArray) (w : World) (hr0_0 : Kd.C (Kd.int .i64) w A0_0 l0_0.length l0_0) (hc0_0 : l0_0.length ≤ c0_0) (hr0_1 : Kd.C (Kd.int .i64) w A0_1 l0_1.length l0_1) (hc0_1 : l0_1.length ≤ c0_1) (h : zbe.f k l0_0 l0_1 = some r) :
  Calls Tryd.prog 42 #[.agg #[.slice A0_0 l0_0.length c0_0, .slice A0_1 l0_1.length c0_1]] w fun e w' => e = .returned (.string r) ∧ Below w.heap.size w w' := by
 have hu40 := Tryd.underlying40
 have HR0_0 := zA hr0_0
 have HC0_0 := zA hc0_0
 clear hr0_0 hc0_0
 have HR0_1 := zA hr0_1
 have HC0_1 := zA hc0_1
 clear hr0_1 hc0_1
 have HB := zA (Below.refl w.heap.size w)
 have H : ((zaj.f k 1).bind fun t1010 => ((zav.f k l0_1 t1010).bind fun t1013 => (if t1013 = 0 then ((zae.f k l0_0).bind fun t1014 => (some t1014)) else ((zae.f k l0_0).bind fun t1015 => (if t1015.size + 1 ≤ 9223372036854775807 then ((zae.f k l0_1).bind fun t1016 => (if (t1015 ++ (⟨#[47]⟩ : ByteArray)).size + t1016.size ≤ 9223372036854775807 then (some ((t1015 ++ (⟨#[47]⟩ : ByteArray)) ++ t1016)) else (none))) else (none)))))) = some r := h
 clear h
 replace H := zO H
 obtain ⟨t1010, A20, H⟩ := H
 try dsimp only at H
 have A2 := zA A20
 clear A20
 replace H := zO H
 obtain ⟨t1013, A30, H⟩ := H
 try dsimp only at H
 have A3 := zA A30
 clear A30
 by_cases c4 : t1013 = 0
 ·
  rw [if_pos c4] at H
  have c4b0 : (t1013 == 0) = true := beq_iff_eq.mpr c4
  have c4b1 : (t1013 != 0) = false := bne_eq_false_iff_eq.mpr c4
  clear c4
  replace H := zO H
  obtain ⟨t1014, A50, H⟩ := H
  try dsimp only at H
  have A5 := zA A50
  clear A50
  obtain rfl := Option.some.inj H
  go_enter Tryd.func42, Tryd.ntmps42
  try go_wp2_with (first | ((with_reducible refine zbs (N := 1) rfl ?_); refine zb5 ?hg (N := 1) ?hd (cs := #[.slice A0_0 l0_0.length c0_0, .slice A0_1 l0_1.length c0_1]) (t := 40) ?hr ?_; (case hd => rfl); (case hg => rfl); (case hr => first | (go_simp; done) | (go_simp; rfl)); intro gb1009 hg w6 hbox hb; have n0_ := zA (zac (zB HB) hb); have n1_ := zA (hbox); have n2_ := zA ((by rw [hg]; exact (za (zB HB)) : w.heap.size ≤ gb1009)); have n3_ := zA ((by rw [hg]; exact (za (zB HB)) : w.heap.size ≤ gb1009)); clear HB; have HB := n0_; have BK1009 := n1_; have GW1009 := n2_; have GE1009 := n3_; clear n0_ n1_ n2_ n3_ hb hbox hg))
  have n0_ := zA (za1 BK1009.out)
  have n1_ := zA (zbt HB.out)
  clear BK1009 HB
  have BK1009 := n0_
  have HB := n1_
  clear n0_ n1_
  refine start_ (n := 5) (S := fun w' => w'.cell? ⟨gb1009, 0, none⟩ = some (.slice A0_0 l0_0.length c0_0) ∧ w'.cell? ⟨gb1009, 1, none⟩ = some (.slice A0_1 l0_1.length c0_1)) (ds := []) #[false, false, false, false, false] (by kernel_rfl) rfl rfl ⟨(zal BK1009.out 0).trans rfl, (zal BK1009.out 1).trans rfl⟩ (fun hHeld => ?_)
  generalize w6.drew = w7 at BK1009 HB hHeld ⊢
  refine pure_ (i := 0) (N := some 3) (v := ?_) (a' := ?_) #[true, false, false, false, false] rfl rfl (by kernel_rfl) (fun _ _ _ h => h) (Or.inl ⟨by rfl, ?_⟩) ?_ ?_
  rotate_left
  ·
   intro w'
   go_simp
   with_reducible rfl
  rotate_left
  ·
   simp only [Act.put, zs1, zs2, zs3, i64_w, i32_w]
   rfl
  refine take_ (i := 1) (N := some 4) (v := ?_) (a' := ?_) #[true, true, false, false, false] rfl rfl (by kernel_rfl) (fun _ _ _ h => h) (Or.inl ⟨by rfl, ?_⟩) hHeld ?_ ?_
  rotate_left
  ·
   rintro w' ⟨s0, s1⟩
   go_simp
   with_reducible rfl
  rotate_left
  ·
   simp only [Act.put, zs1, zs2, zs3, i64_w, i32_w]
   rfl
  refine one_ (i := 2) (N := some 5) #[true, true, true, false, false] rfl rfl (by kernel_rfl) (by decide) (fun K hK => ?_)
  refine goes_ Tryd.func20 (by kernel_rfl) rfl #[.int .i64 1] (by rfl) rfl rfl (zE) ?_
  with_reducible refine (zaj.calls k 1 t1010 _ A2.out).mono ?_
  rintro e w8 ⟨v1011, rfl, ho0, hb⟩
  refine ⟨_, rfl, ?_⟩
  have n0_ := zA (Kd.zbi ho0 (za (zB HB)))
  have n1_ := zA (za5 (g := gb1009) (o := .cells #[.slice A0_0 l0_0.length c0_0, .slice A0_1 l0_1.length c0_1] 40 (0, 0)) (zK BK1009) hb)
  have n2_ := zA (zac (zB HB) hb)
  clear BK1009 HB
  have HO1012 := n0_
  have BK1009 := n1_
  have HB := n2_
  clear n0_ n1_ n2_
  (try clear hb)
  (try clear hb2)
  (try clear hk)
  (try clear hi)
  (try clear ho0)
  obtain ⟨Ao9, co9, eo9⟩ := Kd.zbb HO1012.out
  (first | subst eo9 | (injection eo9 with f1_ f2_ f3_; have f4_ := f1_.symm; have f5_ := f3_.symm; clear f1_ f2_ f3_; subst f4_; subst f5_))
  refine hK.out _ _ ⟨(zal BK1009.out 0).trans rfl, (zal BK1009.out 1).trans rfl⟩ (fun hHeld => ?_)
  clear hK K
  refine norm_ (a' := ?_) ?_ ?_
  rotate_left
  ·
   show Act.put _ (some 5) _ = _
   simp only [Act.put, zs1, zs2, zs3, i64_w, i32_w]
   rfl
  refine one_ (i := 3) (N := some 6) #[true, true, true, true, false] rfl rfl (by kernel_rfl) (by decide) (fun K hK => ?_)
  refine goes_ Tryd.func18 (by kernel_rfl) rfl #[.slice A0_1 l0_1.length c0_1, .slice Ao9 t1010.length co9] (by rfl) rfl rfl (zE) ?_
  with_reducible refine (zav.calls k _ _ l0_1 _ _ t1010 t1013 _ ?side1 ?side2 ?side3 ?side4 A3.out).mono ?_
  (case side1 => exact zJ (Kd.zbp HR0_1.out HB.out))
  (case side2 => exact HC0_1.out)
  (case side3 => exact zJ (Kd.zar HO1012.out).2.2)
  (case side4 => exact (Kd.zar HO1012.out).2.1)
  rintro e w' ⟨rfl, ⟨nd, rfl⟩⟩
  refine ⟨_, rfl, ?_⟩
  refine hK.out _ _ ⟨(zal BK1009.out 0).trans rfl, (zal BK1009.out 1).trans rfl⟩ (fun hHeld => ?_)
  clear hK K
  refine norm_ (a' := ?_) ?_ ?_
  rotate_left
  ·
   show Act.put _ (some 6) _ = _
   simp only [Act.put, zs1, zs2, zs3, i64_w, i32_w]
   rfl
  refine pure_ (i := 4) (N := some 7) (v := ?_) (a' := ?_) #[true, true, true, true, true] rfl rfl (by kernel_rfl) (fun _ _ _ h => h) (Or.inl ⟨by rfl, ?_⟩) ?_ ?_
  rotate_left
  ·
   intro w'
   go_simp
   with_reducible rfl
  rotate_left
  ·
   simp only [Act.put, zs1, zs2, zs3, i64_w, i32_w]
   rfl
  refine done_ (by kernel_rfl) ?_
  have hcz10_0 : w8.cell? ⟨gb1009, 0, none⟩ = some (.slice A0_0 l0_0.length c0_0) := (zal BK1009.out 0).trans rfl
  have hcz10_1 : w8.cell? ⟨gb1009, 1, none⟩ = some (.slice A0_1 l0_1.length c0_1) := (zal BK1009.out 1).trans rfl
  have hfz10_0 := zaq BK1009.out 0
  have hfz10_1 := zaq BK1009.out 1
  try go_wp2_with (first | ((with_reducible refine zab (f := 69) rfl ?_); refine za3 (some 10) rfl rfl Tryd.func69 (by kernel_rfl) rfl #[.slice A0_0 l0_0.length c0_0] rfl (zE) ?_; (with_reducible refine (zae.calls k _ _ l0_0 t1014 _ ?side1 ?side2 A5.out).mono ?_); (case side1 => exact zJ (Kd.zbp HR0_0.out (zB HB))); (case side2 => exact HC0_0.out); rintro e w' ⟨rfl, ⟨nd, rfl⟩⟩; refine ⟨_, rfl, ?_⟩))
  go_ret
  exact ⟨zW, zB HB⟩
 ·
  rw [if_neg c4] at H
  have c4b0 : (t1013 == 0) = false := beq_eq_false_iff_ne.mpr c4
  have c4b1 : (t1013 != 0) = true := bne_iff_ne.mpr c4
  replace H := zO H
  obtain ⟨t1015, A110, H⟩ := H
  try dsimp only at H
  have A11 := zA A110
  clear A110
  by_cases c12 : t1015.size + 1 ≤ 9223372036854775807
  ·
   rw [if_pos c12] at H
   have c12b0 := eq_true c12
   have c12b1 : decide (t1015.size + 1 ≤ 9223372036854775807) = true := decide_eq_true c12
   try have c12b2 : (9223372036854775807 < t1015.size + 1) = False := eq_false (Nat.not_lt.2 c12)
   replace H := zO H
   obtain ⟨t1016, A130, H⟩ := H
   try dsimp only at H
   have A13 := zA A130
   clear A130
   by_cases c14 : (t1015 ++ (⟨#[47]⟩ : ByteArray)).size + t1016.size ≤ 9223372036854775807
   ·
    rw [if_pos c14] at H
    have c14b0 := eq_true c14
    have c14b1 : decide ((t1015 ++ (⟨#[47]⟩ : ByteArray)).size + t1016.size ≤ 9223372036854775807) = true := decide_eq_true c14
    try have c14b3 : (9223372036854775807 < t1015.size + 1 + t1016.size) = False := by have h_ := eq_false (Nat.not_lt.2 c14); rw [ByteArray.size_append] at h_; exact h_
    try have c14b2 : (9223372036854775807 < (t1015 ++ (⟨#[47]⟩ : ByteArray)).size + t1016.size) = False := eq_false (Nat.not_lt.2 c14)
    obtain rfl := Option.some.inj H
    go_enter Tryd.func42, Tryd.ntmps42
    try go_wp2_with (first | ((with_reducible refine zbs (N := 1) rfl ?_); refine zb5 ?hg (N := 1) ?hd (cs := #[.slice A0_0 l0_0.length c0_0, .slice A0_1 l0_1.length c0_1]) (t := 40) ?hr ?_; (case hd => rfl); (case hg => rfl); (case hr => first | (go_simp; done) | (go_simp; rfl)); intro gb1009 hg w15 hbox hb; have n0_ := zA (zac (zB HB) hb); have n1_ := zA (hbox); have n2_ := zA ((by rw [hg]; exact (za (zB HB)) : w.heap.size ≤ gb1009)); have n3_ := zA ((by rw [hg]; exact (za (zB HB)) : w.heap.size ≤ gb1009)); clear HB; have HB := n0_; have BK1009 := n1_; have GW1009 := n2_; have GE1009 := n3_; clear n0_ n1_ n2_ n3_ hb hbox hg))
    have n0_ := zA (za1 BK1009.out)
    have n1_ := zA (zbt HB.out)
    clear BK1009 HB
    have BK1009 := n0_
    have HB := n1_
    clear n0_ n1_
    refine start_ (n := 5) (S := fun w' => w'.cell? ⟨gb1009, 0, none⟩ = some (.slice A0_0 l0_0.length c0_0) ∧ w'.cell? ⟨gb1009, 1, none⟩ = some (.slice A0_1 l0_1.length c0_1)) (ds := []) #[false, false, false, false, false] (by kernel_rfl) rfl rfl ⟨(zal BK1009.out 0).trans rfl, (zal BK1009.out 1).trans rfl⟩ (fun hHeld => ?_)
    generalize w15.drew = w16 at BK1009 HB hHeld ⊢
    refine pure_ (i := 0) (N := some 3) (v := ?_) (a' := ?_) #[true, false, false, false, false] rfl rfl (by kernel_rfl) (fun _ _ _ h => h) (Or.inl ⟨by rfl, ?_⟩) ?_ ?_
    rotate_left
    ·
     intro w'
     go_simp
     with_reducible rfl
    rotate_left
    ·
     simp only [Act.put, zs1, zs2, zs3, i64_w, i32_w]
     rfl
    refine take_ (i := 1) (N := some 4) (v := ?_) (a' := ?_) #[true, true, false, false, false] rfl rfl (by kernel_rfl) (fun _ _ _ h => h) (Or.inl ⟨by rfl, ?_⟩) hHeld ?_ ?_
    rotate_left
    ·
     rintro w' ⟨s0, s1⟩
     go_simp
     with_reducible rfl
    rotate_left
    ·
     simp only [Act.put, zs1, zs2, zs3, i64_w, i32_w]
     rfl
    refine one_ (i := 2) (N := some 5) #[true, true, true, false, false] rfl rfl (by kernel_rfl) (by decide) (fun K hK => ?_)
    refine goes_ Tryd.func20 (by kernel_rfl) rfl #[.int .i64 1] (by rfl) rfl rfl (zE) ?_
    with_reducible refine (zaj.calls k 1 t1010 _ A2.out).mono ?_
    rintro e w17 ⟨v1011, rfl, ho0, hb⟩
    refine ⟨_, rfl, ?_⟩
    have n0_ := zA (Kd.zbi ho0 (za (zB HB)))
    have n1_ := zA (za5 (g := gb1009) (o := .cells #[.slice A0_0 l0_0.length c0_0, .slice A0_1 l0_1.length c0_1] 40 (0, 0)) (zK BK1009) hb)
    have n2_ := zA (zac (zB HB) hb)
    clear BK1009 HB
    have HO1012 := n0_
    have BK1009 := n1_
    have HB := n2_
    clear n0_ n1_ n2_
    (try clear hb)
    (try clear hb2)
    (try clear hk)
    (try clear hi)
    (try clear ho0)
    obtain ⟨Ao18, co18, eo18⟩ := Kd.zbb HO1012.out
    (first | subst eo18 | (injection eo18 with f1_ f2_ f3_; have f4_ := f1_.symm; have f5_ := f3_.symm; clear f1_ f2_ f3_; subst f4_; subst f5_))
    refine hK.out _ _ ⟨(zal BK1009.out 0).trans rfl, (zal BK1009.out 1).trans rfl⟩ (fun hHeld => ?_)
    clear hK K
    refine norm_ (a' := ?_) ?_ ?_
    rotate_left
    ·
     show Act.put _ (some 5) _ = _
     simp only [Act.put, zs1, zs2, zs3, i64_w, i32_w]
     rfl
    refine one_ (i := 3) (N := some 6) #[true, true, true, true, false] rfl rfl (by kernel_rfl) (by decide) (fun K hK => ?_)
    refine goes_ Tryd.func18 (by kernel_rfl) rfl #[.slice A0_1 l0_1.length c0_1, .slice Ao18 t1010.length co18] (by rfl) rfl rfl (zE) ?_
    with_reducible refine (zav.calls k _ _ l0_1 _ _ t1010 t1013 _ ?side1 ?side2 ?side3 ?side4 A3.out).mono ?_
    (case side1 => exact zJ (Kd.zbp HR0_1.out HB.out))
    (case side2 => exact HC0_1.out)
    (case side3 => exact zJ (Kd.zar HO1012.out).2.2)
    (case side4 => exact (Kd.zar HO1012.out).2.1)
    rintro e w' ⟨rfl, ⟨nd, rfl⟩⟩
    refine ⟨_, rfl, ?_⟩
    refine hK.out _ _ ⟨(zal BK1009.out 0).trans rfl, (zal BK1009.out 1).trans rfl⟩ (fun hHeld => ?_)
    clear hK K
    refine norm_ (a' := ?_) ?_ ?_
    rotate_left
    ·
     show Act.put _ (some 6) _ = _
     simp only [Act.put, zs1, zs2, zs3, i64_w, i32_w]
     rfl
    refine pure_ (i := 4) (N := some 7) (v := ?_) (a' := ?_) #[true, true, true, true, true] rfl rfl (by kernel_rfl) (fun _ _ _ h => h) (Or.inl ⟨by rfl, ?_⟩) ?_ ?_
    rotate_left
    ·
     intro w'
     go_simp
     with_reducible rfl
    rotate_left
    ·
     simp only [Act.put, zs1, zs2, zs3, i64_w, i32_w]
     rfl
    refine done_ (by kernel_rfl) ?_
    try go_wp2
    (try (rw [zc7 w17]; generalize hq_ : World.drewN w17 _ = w17; have n0_ : Aside0 (Kd.R (Kd.int .i64) 3 w17 w.heap.size (fun _ => True) (.slice Ao18 t1010.length co18) t1010) := ⟨by rw [← hq_]; exact (zR HO1012)⟩; have n1_ : Aside0 (w17.heap[gb1009]? = some (.cells #[.slice A0_0 l0_0.length c0_0, .slice A0_1 l0_1.length c0_1] 40 (0, 0))) := ⟨by rw [← hq_]; exact (zK BK1009)⟩; have n2_ : Aside0 (Below w.heap.size w w17) := ⟨by rw [← hq_]; exact (zB HB)⟩; clear HO1012 BK1009 HB hq_; have HO1012 := n0_; have BK1009 := n1_; have HB := n2_; clear n0_ n1_ n2_))
    have n0_ := zA (Kd.zce HO1012.out)
    have n1_ := zA (za1 BK1009.out)
    have n2_ := zA (zbt HB.out)
    clear HO1012 BK1009 HB
    have HO1012 := n0_
    have BK1009 := n1_
    have HB := n2_
    clear n0_ n1_ n2_
    refine start_ (n := 9) (S := fun w' => w'.cell? ⟨gb1009, 0, none⟩ = some (.slice A0_0 l0_0.length c0_0) ∧ w'.cell? ⟨gb1009, 1, none⟩ = some (.slice A0_1 l0_1.length c0_1)) (ds := []) #[false, false, false, false, false, false, false, false, false] (by kernel_rfl) rfl rfl ⟨(zal BK1009.out 0).trans rfl, (zal BK1009.out 1).trans rfl⟩ (fun hHeld => ?_); refine with_tabW zbe.tab3 zbe.bits3 (fun HT_ HW_ => ?_)
    generalize w17.drew = w19 at HO1012 BK1009 HB hHeld ⊢
    refine pure_ (i := 0) (N := some 11) (v := ?_) (a' := ?_) #[true, false, false, false, false, false, false, false, false] rfl rfl (zbx HT_.out (by kernel_rfl)) (fun _ _ _ h => h) (Or.inl ⟨by rfl, ?_⟩) ?_ ?_
    rotate_left
    ·
     intro w'
     go_simp
     with_reducible rfl
    rotate_left
    ·
     simp only [Act.put, zs1, zs2, zs3, i64_w, i32_w]
     rfl
    refine pure_ (i := 4) (N := some 15) (v := ?_) (a' := ?_) #[true, false, false, false, true, false, false, false, false] rfl rfl (zbx HT_.out (by kernel_rfl)) (fun _ _ _ h => h) (Or.inl ⟨by rfl, ?_⟩) ?_ ?_
    rotate_left
    ·
     intro w'
     go_simp
     with_reducible rfl
    rotate_left
    ·
     simp only [Act.put, zs1, zs2, zs3, i64_w, i32_w]
     rfl
    refine take_ (i := 1) (N := some 12) (v := ?_) (a' := ?_) #[true, true, false, false, true, false, false, false, false] rfl rfl (take_ofW HT_.out HW_.out (by kernel_rfl)) (fun _ _ _ h => h) (Or.inl ⟨by rfl, ?_⟩) hHeld ?_ ?_
    rotate_left
    ·
     rintro w' ⟨s0, s1⟩
     go_simp
     with_reducible rfl
    rotate_left
    ·
     simp only [Act.put, zs1, zs2, zs3, i64_w, i32_w]
     rfl
    refine take_ (i := 5) (N := some 16) (v := ?_) (a' := ?_) #[true, true, false, false, true, true, false, false, false] rfl rfl (take_ofW HT_.out HW_.out (by kernel_rfl)) (fun _ _ _ h => h) (Or.inl ⟨by rfl, ?_⟩) hHeld ?_ ?_
    rotate_left
    ·
     rintro w' ⟨s0, s1⟩
     go_simp
     with_reducible rfl
    rotate_left
    ·
     simp only [Act.put, zs1, zs2, zs3, i64_w, i32_w]
     rfl
    refine one_ (i := 2) (N := some 13) #[true, true, true, false, true, true, false, false, false] rfl rfl (one_of HT_.out (by kernel_rfl)) (by decide) (fun K hK => ?_)
    refine goes_ Tryd.func69 (by kernel_rfl) rfl #[.slice A0_0 l0_0.length c0_0] (by rfl) rfl rfl (zE) ?_
    with_reducible refine (zae.calls k _ _ l0_0 t1015 _ ?side1 ?side2 A11.out).mono ?_
    (case side1 => exact zJ (Kd.zbp HR0_0.out HB.out))
    (case side2 => exact HC0_0.out)
    rintro e w' ⟨rfl, ⟨nd, rfl⟩⟩
    refine ⟨_, rfl, ?_⟩
    refine hK.out _ _ ⟨(zal BK1009.out 0).trans rfl, (zal BK1009.out 1).trans rfl⟩ (fun hHeld => ?_)
    clear hK K
    refine norm_ (a' := ?_) ?_ ?_
    rotate_left
    ·
     show Act.put _ (some 13) _ = _
     simp only [Act.put, zs1, zs2, zs3, i64_w, i32_w]
     rfl
    refine pure_ (i := 3) (N := some 14) (v := ?_) (a' := ?_) #[true, true, true, true, true, true, false, false, false] rfl rfl (zbx HT_.out (by kernel_rfl)) (fun _ _ _ h => h) (Or.inl ⟨by rfl, ?_⟩) ?_ ?_
    rotate_left
    ·
     intro w'
     go_simp
     with_reducible rfl
    rotate_left
    ·
     simp only [Act.put, zs1, zs2, zs3, i64_w, i32_w]
     rfl
    refine one_ (i := 6) (N := some 17) #[true, true, true, true, true, true, true, false, false] rfl rfl (one_of HT_.out (by kernel_rfl)) (by decide) (fun K hK => ?_)
    refine goes_ Tryd.func69 (by kernel_rfl) rfl #[.slice A0_1 l0_1.length c0_1] (by rfl) rfl rfl (zE) ?_
    with_reducible refine (zae.calls k _ _ l0_1 t1016 _ ?side1 ?side2 A13.out).mono ?_
    (case side1 => exact zJ (Kd.zbp HR0_1.out (zB HB)))
    (case side2 => exact HC0_1.out)
    rintro e w' ⟨rfl, ⟨nd, rfl⟩⟩
    refine ⟨_, rfl, ?_⟩
    refine hK.out _ _ ⟨(zal BK1009.out 0).trans rfl, (zal BK1009.out 1).trans rfl⟩ (fun hHeld => ?_)
    clear hK K
    refine norm_ (a' := ?_) ?_ ?_
    rotate_left
    ·
     show Act.put _ (some 17) _ = _
     simp only [Act.put, zs1, zs2, zs3, i64_w, i32_w]
     rfl
    refine pure_ (i := 7) (N := some 18) (v := ?_) (a' := ?_) #[true, true, true, true, true, true, true, true, false] rfl rfl (zbx HT_.out (by kernel_rfl)) (fun _ _ _ h => h) (Or.inl ⟨by rfl, ?_⟩) ?_ ?_
    rotate_left
    ·
     intro w'
     go_simp
     with_reducible rfl
    rotate_left
    ·
     simp only [Act.put, zs1, zs2, zs3, i64_w, i32_w]
     rfl
    refine pure_ (i := 8) (N := some 2) (v := ?_) (a' := ?_) #[true, true, true, true, true, true, true, true, true] rfl rfl (zbx HT_.out (by kernel_rfl)) (fun _ _ _ h => h) (Or.inl ⟨by rfl, ?_⟩) ?_ ?_
    rotate_left
    ·
     intro w'
     go_simp
     with_reducible rfl
    rotate_left
    ·
     simp only [Act.put, zs1, zs2, zs3, i64_w, i32_w]
     rfl
    refine done_ (done_of HT_.out (by kernel_rfl)) ?_
    try go_wp2
    go_ret
    exact ⟨zW, zB HB⟩
   ·
    rw [if_neg c14] at H
    exact absurd H (by simp)
  ·
   rw [if_neg c12] at H
   exact absurd H (by simp)
mutual
def zad.j0 : Nat → ByteArray → Bool → Option (List Int × Bool)
 | 0, _, _ => none
 | k + 1, x0, x17 => if x17 = true then (some (([] : List Int), false)) else (zad.l0 k x0 ([] : List Int) (x0.size : Int) 0)
def zad.l0 : Nat → ByteArray → List Int → Int → Int → Option (List Int × Bool)
 | 0, _, _, _, _ => none
 | k + 1, x0, x4, x19, x20 => if x20 < x19 then (if 0 ≤ x20 then (if x20 < (x0.size : Int) then (if (bt x0 x20) < 48 then (zad.j2 k x0 x4 x20 x19 x20 true) else (zad.j2 k x0 x4 x20 x19 x20 (decide ((bt x0 x20) > 57)))) else (none)) else (none)) else (some (x4, true))
def zad.j2 : Nat → ByteArray → List Int → Int → Int → Int → Bool → Option (List Int × Bool)
 | 0, _, _, _, _, _, _ => none
 | k + 1, x0, x4, x5, x19, x20, x32 => if x32 = true then (some (([] : List Int), false)) else ((zaj.f k 10).bind fun t1047 => ((zah.f k x4 t1047).bind fun t1050 => (if 0 ≤ x5 then (if x5 < (x0.size : Int) then ((zaj.f k (((bt x0 x5) - 48) % 256)).bind fun t1053 => ((zau.f k t1050 t1053).bind fun t1056 => (zad.l0 k x0 t1056 x19 (wrap64 (x20 + 1))))) else (none)) else (none))))
end
def zad.f (k : Nat) (a0 : ByteArray) : Option (List Int × Bool) := if a0.toList = ([] : List UInt8) then (zad.j0 k a0 true) else (if 0 < (a0.size : Int) then (if (bt a0 0) = 48 then (zad.j0 k a0 (decide ((a0.size : Int) > 1))) else (zad.j0 k a0 false)) else (none))
def zad.T9 : Bool × List (List Nat × List Nat) := (true, [([], []), ([], []), ([0, 1, 1], [0, 1]), ([], []), ([], []), ([3, 4], [3, 4]), ([5], [5]), ([6], [6]), ([7, 2], [7]), ([2, 8, 8], [2, 8]), ([9, 9, 0, 1, 2, 3, 4, 5, 6, 7, 8, 9], [0, 9])])
def zad.B9 : List Nat := [0, 0, 3, 0, 0, 24, 56, 120, 255, 511, 1023]
theorem zad.tab9 : rtab .any (opsOf Tryd.f70 9) = zad.T9 := by kernel_rfl
theorem zad.bits9 : waitsOk zad.T9.2 zad.B9 = true := by kernel_rfl
theorem zad.calls (k : Nat) (a0 : ByteArray) (r1 : List Int) (r2 : Bool) (w : World) (h : zad.f k a0 = some (r1, r2)) :
  Calls Tryd.prog 70 #[.string a0] w fun e w' => ∃ v0_ : Value, e = .returned (.tuple #[v0_, .bool r2]) ∧ Kd.R (Kd.int .i64) 3 w' w.heap.size (fun _ => True) v0_ r1 ∧ Below w.heap.size w w' := by
 have HB := zA (Below.refl w.heap.size w)
 have H : (if a0.toList = ([] : List UInt8) then (zad.j0 k a0 true) else (if 0 < (a0.size : Int) then (if (bt a0 0) = 48 then (zad.j0 k a0 (decide ((a0.size : Int) > 1))) else (zad.j0 k a0 false)) else (none))) = some (r1, r2) := h
 clear h
 have HC2 := zA H
 clear H
 go_enter Tryd.func70, Tryd.ntmps70
 go_upto_region 1 with (fail)
 go_cut [17] (fun v17 wc => ∃ (kq : Nat) (x17_1 : Bool), v17 = .bool x17_1 ∧ Aside0 (zad.j0 kq a0 x17_1 = some (r1, r2)) ∧ Aside0 (kq ≤ k) ∧ Aside0 (Below w.heap.size w wc))
 case first =>
  have H := HC2.out
  clear HC2
  by_cases c3 : a0.toList = ([] : List UInt8)
  ·
   rw [if_pos c3] at H
   have c3b0 : (a0.toList == ([] : List UInt8)) = true := beq_iff_eq.mpr c3
   have c3b1 : (a0.toList != ([] : List UInt8)) = false := bne_eq_false_iff_eq.mpr c3
   clear c3
   (first | rw [c3b0] | (simp only [i64_w, i32_w]; rw [c3b0]) | skip)
   have H' := zA H
   clear H
   go_wp2
   go_meet
   case rel => exact ⟨_, (true), (zF), H', ⟨by first | omega | exact Nat.le_refl _⟩, ⟨zB HB⟩⟩
  ·
   rw [if_neg c3] at H
   have c3b0 : (a0.toList == ([] : List UInt8)) = false := beq_eq_false_iff_ne.mpr c3
   have c3b1 : (a0.toList != ([] : List UInt8)) = true := bne_iff_ne.mpr c3
   (first | rw [c3b0] | (simp only [i64_w, i32_w]; rw [c3b0]) | skip)
   by_cases c4 : 0 < (a0.size : Int)
   ·
    rw [if_pos c4] at H
    have c4b0 : decide (0 < (a0.size : Int)) = true := decide_eq_true c4
    have c4b1 : decide (0 < a0.size) = true := decide_eq_true (by omega)
    clear c4
    by_cases c6 : (bt a0 0) = 48
    ·
     rw [if_pos c6] at H
     have c6b0 : ((bt a0 0) == 48) = true := beq_iff_eq.mpr c6
     have c6b1 : ((bt a0 0) != 48) = false := bne_eq_false_iff_eq.mpr c6
     clear c6
     have H' := zA H
     clear H
     have p5 : 0 ≤ (0 : Int) := (by omega)
     have q5 : 0 < a0.size := (by have : (0 : Int) < (a0.size : Int) := of_decide_eq_true (by first | (with_reducible assumption) | assumption); omega)
     have hx5 : ∀ h : 0 < a0.size, ((a0[0]'h).toNat : Int) = bt a0 0 := bt_at a0 0
     clear p5
     have qi5 : (0 < (a0.size : Int)) = True := eq_true (of_decide_eq_true (by first | (with_reducible assumption) | assumption))
     replace q5 := eq_true q5
     go_wp2
     go_meet
     case rel => exact ⟨_, (decide ((a0.size : Int) > 1)), (zF), H', ⟨by first | omega | exact Nat.le_refl _⟩, ⟨zB HB⟩⟩
    ·
     rw [if_neg c6] at H
     have c6b0 : ((bt a0 0) == 48) = false := beq_eq_false_iff_ne.mpr c6
     have c6b1 : ((bt a0 0) != 48) = true := bne_iff_ne.mpr c6
     have H' := zA H
     clear H
     have p5 : 0 ≤ (0 : Int) := (by omega)
     have q5 : 0 < a0.size := (by have : (0 : Int) < (a0.size : Int) := of_decide_eq_true (by first | (with_reducible assumption) | assumption); omega)
     have hx5 : ∀ h : 0 < a0.size, ((a0[0]'h).toNat : Int) = bt a0 0 := bt_at a0 0
     clear p5
     have qi5 : (0 < (a0.size : Int)) = True := eq_true (of_decide_eq_true (by first | (with_reducible assumption) | assumption))
     replace q5 := eq_true q5
     go_wp2
     go_meet
     case rel => exact ⟨_, (false), (zF), H', ⟨by first | omega | exact Nat.le_refl _⟩, ⟨zB HB⟩⟩
   ·
    rw [if_neg c4] at H
    exact absurd H (by simp)
 case rest =>
  clear HC2
  try clear p2
  try clear c3
  try clear c3b0
  try clear c3b1
  try clear c4
  try clear c4b0
  try clear c4b1
  try clear p5
  try clear q5
  try clear hx5
  try clear qi5
  try clear c6
  try clear c6b0
  try clear c6b1
  try clear p5
  try clear q5
  obtain ⟨kq, x17_1, rfl, HA, HJ1, HB⟩ := hcut
  cases kq with
  | zero => exact absurd HA.out (by simp [zad.j0])
  | succ kj1 =>
   have H := HA.out
   clear HA
   simp only [zad.j0] at H
   by_cases c7 : x17_1 = true
   ·
    subst c7
    rw [if_pos rfl] at H
    simp only [Option.some.injEq, Prod.mk.injEq] at H
    obtain ⟨rfl, rfl⟩ := H
    go_wp2
    go_ret2
    exact ⟨_, zW, by first | exact Kd.R_nil _ _ _ _ _ | exact Kd.N_nil _ _ _ _ _ | exact Kd.V_nil _ _ _ _ _ | exact Kd.Q_nil _ _ _ _ _ | exact Kd.S_nil _ _ _ _ _, zB HB⟩
   ·
    replace c7 := Bool.eq_false_iff.mpr c7
    subst c7
    rw [if_neg (show ¬ (false = true) by decide)] at H
    have H' := zA H
    clear H
    go_wp2
    go_loopg [4, 20] kj1 (fun kq v4 v20 w' => ∃ (x4_2 : List Int) (x20_2 : Int), v20 = .int .i64 x20_2 ∧ Aside0 (zad.l0 kq a0 x4_2 (a0.size : Int) x20_2 = some (r1, r2)) ∧ Aside0 (kq ≤ kj1) ∧ Aside0 (Kd.R (Kd.int .i64) 3 w' w.heap.size (fun _ => True) v4 x4_2) ∧ Aside0 (Below w.heap.size w w'))
    case atStart => exact ⟨(([] : List Int)), (0), (zF), H', ⟨Nat.le_refl _⟩, ⟨by first | exact Kd.R_nil _ _ _ _ _ | exact Kd.N_nil _ _ _ _ _ | exact Kd.V_nil _ _ _ _ _ | exact Kd.Q_nil _ _ _ _ _ | exact Kd.S_nil _ _ _ _ _⟩, ⟨zB HB⟩⟩
    case round =>
     clear H'
     try clear p2
     try clear c3
     try clear c3b0
     try clear c3b1
     try clear c4
     try clear c4b0
     try clear c4b1
     try clear p5
     try clear q5
     try clear hx5
     try clear qi5
     try clear c6
     try clear c6b0
     try clear c6b1
     try clear c7
     try clear p2
     try clear p5
     try clear q5
     obtain ⟨x4_2, x20_2, rfl, HA, HK2, HO_4, HB⟩ := hrel
     cases gk with
     | zero => exact absurd HA.out (by simp [zad.l0])
     | succ k2 =>
      have H := HA.out
      clear HA
      simp only [zad.l0] at H
      by_cases c8 : x20_2 < (a0.size : Int)
      ·
       rw [if_pos c8] at H
       have c8b0 : decide (x20_2 < (a0.size : Int)) = true := decide_eq_true c8
       clear c8
       have HC9 := zA H
       clear H
       go_upto_region 7 with (fail)
       go_cut [32] (fun v32 wc => ∃ (kq : Nat) (x32_8 : Bool), v32 = .bool x32_8 ∧ Aside0 (zad.j2 kq a0 x4_2 x20_2 (a0.size : Int) x20_2 x32_8 = some (r1, r2)) ∧ Aside0 (kq ≤ k2) ∧ Aside0 (Kd.R (Kd.int .i64) 3 wc w.heap.size (fun _ => True) u4 x4_2) ∧ Aside0 (Below w.heap.size w wc))
       case first =>
        have H := HC9.out
        clear HC9
        by_cases c10 : 0 ≤ x20_2
        ·
         rw [if_pos c10] at H
         have c10b0 : decide (0 ≤ x20_2) = true := decide_eq_true c10
         clear c10
         (first | rw [c10b0] | (simp only [i64_w, i32_w]; rw [c10b0]) | skip)
         by_cases c11 : x20_2 < (a0.size : Int)
         ·
          rw [if_pos c11] at H
          have c11b0 : decide (x20_2 < (a0.size : Int)) = true := decide_eq_true c11
          clear c11
          by_cases c13 : (bt a0 x20_2) < 48
          ·
           rw [if_pos c13] at H
           have c13b0 : decide ((bt a0 x20_2) < 48) = true := decide_eq_true c13
           clear c13
           have H' := zA H
           clear H
           have p12 : 0 ≤ (x20_2 : Int) := of_decide_eq_true (by first | (with_reducible assumption) | assumption)
           have q12 : x20_2 < (a0.size : Int) := of_decide_eq_true (by first | (with_reducible assumption) | assumption)
           have hx12 := bt_at a0 x20_2
           replace p12 := eq_true p12
           replace q12 := eq_true q12
           go_wp2
           go_meet
           case rel => exact ⟨_, (true), (zF), H', ⟨by have := HJ1.out; have := HK2.out; first | omega | exact Nat.le_refl _⟩, ⟨zR HO_4⟩, ⟨zB HB⟩⟩
          ·
           rw [if_neg c13] at H
           have c13b0 : decide ((bt a0 x20_2) < 48) = false := decide_eq_false c13
           clear c13
           have H' := zA H
           clear H
           have p12 : 0 ≤ (x20_2 : Int) := of_decide_eq_true (by first | (with_reducible assumption) | assumption)
           have q12 : x20_2 < (a0.size : Int) := of_decide_eq_true (by first | (with_reducible assumption) | assumption)
           have hx12 := bt_at a0 x20_2
           replace p12 := eq_true p12
           replace q12 := eq_true q12
           have p14 : 0 ≤ (x20_2 : Int) := of_decide_eq_true (by first | (with_reducible assumption) | assumption)
           have q14 : x20_2 < (a0.size : Int) := of_decide_eq_true (by first | (with_reducible assumption) | assumption)
           have hx14 := bt_at a0 x20_2
           replace p14 := eq_true p14
           replace q14 := eq_true q14
           go_wp2
           go_meet
           case rel => exact ⟨_, (decide ((bt a0 x20_2) > 57)), (zF), H', ⟨by have := HJ1.out; have := HK2.out; first | omega | exact Nat.le_refl _⟩, ⟨zR HO_4⟩, ⟨zB HB⟩⟩
         ·
          rw [if_neg c11] at H
          exact absurd H (by simp)
        ·
         rw [if_neg c10] at H
         exact absurd H (by simp)
       case rest =>
        clear HC9
        try clear c1
        try clear p1
        try clear q1
        try clear hx1
        try clear p2
        try clear c3
        try clear c3b0
        try clear c3b1
        try clear c4
        try clear c4b0
        try clear c4b1
        try clear p5
        try clear q5
        try clear hx5
        try clear qi5
        try clear c6
        try clear c6b0
        try clear c6b1
        try clear c7
        try clear c8
        try clear c8b0
        try clear c10
        try clear c10b0
        try clear c11
        try clear c11b0
        try clear p12
        try clear q12
        try clear hx12
        try clear c13
        try clear c13b0
        try clear p14
        try clear q14
        try clear hx14
        try clear p12
        try clear p14
        try clear p2
        try clear p5
        try clear q12
        try clear q14
        try clear q5
        obtain ⟨kq, x32_8, rfl, HA, HJ8, HO_4, HB⟩ := hcut
        cases kq with
        | zero => exact absurd HA.out (by simp [zad.j2])
        | succ kj8 =>
         have H := HA.out
         clear HA
         simp only [zad.j2] at H
         by_cases c15 : x32_8 = true
         ·
          subst c15
          rw [if_pos rfl] at H
          simp only [Option.some.injEq, Prod.mk.injEq] at H
          obtain ⟨rfl, rfl⟩ := H
          go_wp2
          go_ret2
          exact ⟨_, zW, by first | exact Kd.R_nil _ _ _ _ _ | exact Kd.N_nil _ _ _ _ _ | exact Kd.V_nil _ _ _ _ _ | exact Kd.Q_nil _ _ _ _ _ | exact Kd.S_nil _ _ _ _ _, zB HB⟩
         ·
          replace c15 := Bool.eq_false_iff.mpr c15
          subst c15
          rw [if_neg (show ¬ (false = true) by decide)] at H
          replace H := zO H
          obtain ⟨t1047, A160, H⟩ := H
          try dsimp only at H
          have A16 := zA A160
          clear A160
          replace H := zO H
          obtain ⟨t1050, A170, H⟩ := H
          try dsimp only at H
          have A17 := zA A170
          clear A170
          by_cases c18 : 0 ≤ x20_2
          ·
           rw [if_pos c18] at H
           have c18b0 : decide (0 ≤ x20_2) = true := decide_eq_true c18
           clear c18
           by_cases c19 : x20_2 < (a0.size : Int)
           ·
            rw [if_pos c19] at H
            have c19b0 : decide (x20_2 < (a0.size : Int)) = true := decide_eq_true c19
            clear c19
            replace H := zO H
            obtain ⟨t1053, A210, H⟩ := H
            try dsimp only at H
            have A21 := zA A210
            clear A210
            replace H := zO H
            obtain ⟨t1056, A220, H⟩ := H
            try dsimp only at H
            have A22 := zA A220
            clear A220
            have H' := zA H
            clear H
            try go_wp2
            have n0_ := zA (Kd.zce HO_4.out)
            have n1_ := zA (zbt HB.out)
            clear HO_4 HB
            have HO_4 := n0_
            have HB := n1_
            clear n0_ n1_
            have p20 : 0 ≤ (x20_2 : Int) := of_decide_eq_true (by first | (with_reducible assumption) | assumption)
            have q20 : x20_2 < (a0.size : Int) := of_decide_eq_true (by first | (with_reducible assumption) | assumption)
            have hx20 := bt_at a0 x20_2
            replace p20 := eq_true p20
            replace q20 := eq_true q20
            refine start_ (n := 11) (S := fun w' => True) (ds := []) #[false, false, false, false, false, false, false, false, false, false, false] (by kernel_rfl) rfl rfl trivial (fun hHeld => ?_); refine with_tabW zad.tab9 zad.bits9 (fun HT_ HW_ => ?_)
            generalize wc.drew = w23 at HO_4 HB hHeld ⊢
            refine pure_ (i := 0) (N := some 33) (v := ?_) (a' := ?_) #[true, false, false, false, false, false, false, false, false, false, false] rfl rfl (zbx HT_.out (by kernel_rfl)) (fun _ _ _ h => h) (Or.inl ⟨by rfl, ?_⟩) ?_ ?_
            rotate_left
            ·
             intro w'
             go_simp
             with_reducible rfl
            rotate_left
            ·
             simp only [Act.put, zs1, zs2, zs3, i64_w, i32_w]
             rfl
            refine pure_ (i := 3) (N := some 36) (v := ?_) (a' := ?_) #[true, false, false, true, false, false, false, false, false, false, false] rfl rfl (zbx HT_.out (by kernel_rfl)) (fun _ _ _ h => h) (Or.inl ⟨by rfl, ?_⟩) ?_ ?_
            rotate_left
            ·
             intro w'
             go_simp
             with_reducible rfl
            rotate_left
            ·
             simp only [Act.put, zs1, zs2, zs3, i64_w, i32_w]
             rfl
            refine pure_ (i := 4) (N := some 37) (v := ?_) (a' := ?_) #[true, false, false, true, true, false, false, false, false, false, false] rfl rfl (zbx HT_.out (by kernel_rfl)) (fun _ _ _ h => h) (Or.inl ⟨by rfl, ?_⟩) ?_ ?_
            rotate_left
            ·
             intro w'
             go_simp
             with_reducible rfl
            rotate_left
            ·
             simp only [Act.put, zs1, zs2, zs3, i64_w, i32_w]
             rfl
            refine take_ (i := 5) (N := some 38) (v := ?_) (a' := ?_) #[true, false, false, true, true, true, false, false, false, false, false] rfl rfl (take_ofW HT_.out HW_.out (by kernel_rfl)) (fun _ _ _ h => h) (Or.inl ⟨by rfl, ?_⟩) hHeld ?_ ?_
            rotate_left
            ·
             intro w' _
             go_simp
             with_reducible rfl
            rotate_left
            ·
             simp only [Act.put, zs1, zs2, zs3, i64_w, i32_w]
             rfl
            refine pure_ (i := 6) (N := some 39) (v := ?_) (a' := ?_) #[true, false, false, true, true, true, true, false, false, false, false] rfl rfl (zbx HT_.out (by kernel_rfl)) (fun _ _ _ h => h) (Or.inl ⟨by rfl, ?_⟩) ?_ ?_
            rotate_left
            ·
             intro w'
             go_simp
             with_reducible rfl
            rotate_left
            ·
             simp only [Act.put, zs1, zs2, zs3, i64_w, i32_w]
             rfl
            refine pure_ (i := 7) (N := some 40) (v := ?_) (a' := ?_) #[true, false, false, true, true, true, true, true, false, false, false] rfl rfl (zbx HT_.out (by kernel_rfl)) (fun _ _ _ h => h) (Or.inl ⟨by rfl, ?_⟩) ?_ ?_
            rotate_left
            ·
             intro w'
             go_simp
             with_reducible rfl
            rotate_left
            ·
             simp only [Act.put, zs1, zs2, zs3, i64_w, i32_w]
             rfl
            refine one_ (i := 1) (N := some 34) #[true, true, false, true, true, true, true, true, false, false, false] rfl rfl (one_of HT_.out (by kernel_rfl)) (by decide) (fun K hK => ?_)
            refine goes_ Tryd.func20 (by kernel_rfl) rfl #[.int .i64 10] (by rfl) rfl rfl (zE) ?_
            with_reducible refine (zaj.calls kj8 10 t1047 _ A16.out).mono ?_
            rintro e w24 ⟨v1048, rfl, ho0, hb⟩
            refine ⟨_, rfl, ?_⟩
            have n0_ := zA (Kd.zbc (zR HO_4) (Kd.za8 ho0) hb)
            have n1_ := zA (Kd.zbi (Kd.zbm ho0 (Kd.R_lt (zR HO_4))) (za (zB HB)))
            have n2_ := zA (zac (zB HB) hb)
            clear HO_4 HB
            have HO_4 := n0_
            have HO1049 := n1_
            have HB := n2_
            clear n0_ n1_ n2_
            (try clear hb)
            (try clear hb2)
            (try clear hk)
            (try clear hi)
            (try clear ho0)
            obtain ⟨Ao25, co25, eo25⟩ := Kd.zbb HO_4.out
            (first | subst eo25 | (injection eo25 with f1_ f2_ f3_; have f4_ := f1_.symm; have f5_ := f3_.symm; clear f1_ f2_ f3_; subst f4_; subst f5_))
            obtain ⟨Ao26, co26, eo26⟩ := Kd.zbb HO1049.out
            (first | subst eo26 | (injection eo26 with f1_ f2_ f3_; have f4_ := f1_.symm; have f5_ := f3_.symm; clear f1_ f2_ f3_; subst f4_; subst f5_))
            refine hK.out _ _ trivial (fun hHeld => ?_)
            clear hK K
            refine norm_ (a' := ?_) ?_ ?_
            rotate_left
            ·
             show Act.put _ (some 34) _ = _
             simp only [Act.put, zs1, zs2, zs3, i64_w, i32_w]
             rfl
            refine one_ (i := 2) (N := some 35) #[true, true, true, true, true, true, true, true, false, false, false] rfl rfl (one_of HT_.out (by kernel_rfl)) (by decide) (fun K hK => ?_)
            refine goes_ Tryd.func56 (by kernel_rfl) rfl #[.slice Ao25 x4_2.length co25, .slice Ao26 t1047.length co26] (by rfl) rfl rfl (zE) ?_
            with_reducible refine (zah.calls kj8 _ _ x4_2 _ _ t1047 t1050 _ ?side1 ?side2 ?side3 ?side4 A17.out).mono ?_
            (case side1 => exact zJ (Kd.zar HO_4.out).2.2)
            (case side2 => exact (Kd.zar HO_4.out).2.1)
            (case side3 => exact zJ (Kd.zar HO1049.out).2.2)
            (case side4 => exact (Kd.zar HO1049.out).2.1)
            rintro e w27 ⟨v1051, rfl, ho0, hb⟩
            refine ⟨_, rfl, ?_⟩
            have n0_ := zA (Kd.zbc (zR HO_4) (Kd.za8 ho0) hb)
            have n1_ := zA (Kd.zbc (zR HO1049) (Kd.za8 ho0) hb)
            have n2_ := zA (Kd.zbi (Kd.zbm (Kd.zbm ho0 (Kd.R_lt (zR HO_4))) (Kd.R_lt (zR HO1049))) (za (zB HB)))
            have n3_ := zA (zac (zB HB) hb)
            clear HO_4 HO1049 HB
            have HO_4 := n0_
            have HO1049 := n1_
            have HO1052 := n2_
            have HB := n3_
            clear n0_ n1_ n2_ n3_
            (try clear hb)
            (try clear hb2)
            (try clear hk)
            (try clear hi)
            (try clear ho0)
            refine hK.out _ _ trivial (fun hHeld => ?_)
            clear hK K
            refine norm_ (a' := ?_) ?_ ?_
            rotate_left
            ·
             show Act.put _ (some 35) _ = _
             simp only [Act.put, zs1, zs2, zs3, i64_w, i32_w]
             rfl
            refine one_ (i := 8) (N := some 41) #[true, true, true, true, true, true, true, true, true, false, false] rfl rfl (one_of HT_.out (by kernel_rfl)) (by decide) (fun K hK => ?_)
            refine goes_ Tryd.func20 (by kernel_rfl) rfl #[.int .i64 (((bt a0 x20_2) - 48) % 256)] (by rfl) rfl rfl (zE) ?_
            with_reducible refine (zaj.calls kj8 (((bt a0 x20_2) - 48) % 256) t1053 _ A21.out).mono ?_
            rintro e w28 ⟨v1054, rfl, ho0, hb⟩
            refine ⟨_, rfl, ?_⟩
            have n0_ := zA (Kd.zbc (zR HO_4) (Kd.za8 ho0) hb)
            have n1_ := zA (Kd.zbc (zR HO1049) (Kd.za8 ho0) hb)
            have n2_ := zA (Kd.zbc (zR HO1052) (Kd.za8 ho0) hb)
            have n3_ := zA (Kd.zbi (Kd.zbm (Kd.zbm (Kd.zbm ho0 (Kd.R_lt (zR HO_4))) (Kd.R_lt (zR HO1049))) (Kd.R_lt (zR HO1052))) (za (zB HB)))
            have n4_ := zA (zac (zB HB) hb)
            clear HO_4 HO1049 HO1052 HB
            have HO_4 := n0_
            have HO1049 := n1_
            have HO1052 := n2_
            have HO1055 := n3_
            have HB := n4_
            clear n0_ n1_ n2_ n3_ n4_
            (try clear hb)
            (try clear hb2)
            (try clear hk)
            (try clear hi)
            (try clear ho0)
            obtain ⟨Ao29, co29, eo29⟩ := Kd.zbb HO1052.out
            (first | subst eo29 | (injection eo29 with f1_ f2_ f3_; have f4_ := f1_.symm; have f5_ := f3_.symm; clear f1_ f2_ f3_; subst f4_; subst f5_))
            obtain ⟨Ao30, co30, eo30⟩ := Kd.zbb HO1055.out
            (first | subst eo30 | (injection eo30 with f1_ f2_ f3_; have f4_ := f1_.symm; have f5_ := f3_.symm; clear f1_ f2_ f3_; subst f4_; subst f5_))
            refine hK.out _ _ trivial (fun hHeld => ?_)
            clear hK K
            refine norm_ (a' := ?_) ?_ ?_
            rotate_left
            ·
             show Act.put _ (some 41) _ = _
             simp only [Act.put, zs1, zs2, zs3, i64_w, i32_w]
             rfl
            refine one_ (i := 9) (N := some 42) #[true, true, true, true, true, true, true, true, true, true, false] rfl rfl (one_of HT_.out (by kernel_rfl)) (by decide) (fun K hK => ?_)
            refine goes_ Tryd.func55 (by kernel_rfl) rfl #[.slice Ao29 t1050.length co29, .slice Ao30 t1053.length co30] (by rfl) rfl rfl (zE) ?_
            with_reducible refine (zau.calls kj8 _ _ t1050 _ _ t1053 t1056 _ ?side1 ?side2 ?side3 ?side4 A22.out).mono ?_
            (case side1 => exact zJ (Kd.zar HO1052.out).2.2)
            (case side2 => exact (Kd.zar HO1052.out).2.1)
            (case side3 => exact zJ (Kd.zar HO1055.out).2.2)
            (case side4 => exact (Kd.zar HO1055.out).2.1)
            rintro e w31 ⟨v1057, rfl, ho0, hb⟩
            refine ⟨_, rfl, ?_⟩
            have n0_ := zA (Kd.zbc (zR HO_4) (Kd.za8 ho0) hb)
            have n1_ := zA (Kd.zbc (zR HO1049) (Kd.za8 ho0) hb)
            have n2_ := zA (Kd.zbc (zR HO1052) (Kd.za8 ho0) hb)
            have n3_ := zA (Kd.zbc (zR HO1055) (Kd.za8 ho0) hb)
            have n4_ := zA (Kd.zbi (Kd.zbm (Kd.zbm (Kd.zbm (Kd.zbm ho0 (Kd.R_lt (zR HO_4))) (Kd.R_lt (zR HO1049))) (Kd.R_lt (zR HO1052))) (Kd.R_lt (zR HO1055))) (za (zB HB)))
            have n5_ := zA (zac (zB HB) hb)
            clear HO_4 HO1049 HO1052 HO1055 HB
            have HO_4 := n0_
            have HO1049 := n1_
            have HO1052 := n2_
            have HO1055 := n3_
            have HO1058 := n4_
            have HB := n5_
            clear n0_ n1_ n2_ n3_ n4_ n5_
            (try clear hb)
            (try clear hb2)
            (try clear hk)
            (try clear hi)
            (try clear ho0)
            refine hK.out _ _ trivial (fun hHeld => ?_)
            clear hK K
            refine norm_ (a' := ?_) ?_ ?_
            rotate_left
            ·
             show Act.put _ (some 42) _ = _
             simp only [Act.put, zs1, zs2, zs3, i64_w, i32_w]
             rfl
            refine pure_ (i := 10) (N := some 4) (v := ?_) (a' := ?_) #[true, true, true, true, true, true, true, true, true, true, true] rfl rfl (zbx HT_.out (by kernel_rfl)) (fun _ _ _ h => h) (Or.inl ⟨by rfl, ?_⟩) ?_ ?_
            rotate_left
            ·
             intro w'
             go_simp
             with_reducible rfl
            rotate_left
            ·
             simp only [Act.put, zs1, zs2, zs3, i64_w, i32_w]
             rfl
            refine done_ (done_of HT_.out (by kernel_rfl)) ?_
            try go_wp2
            go_roundg kj8
            case measure => have := HJ1.out; have := HK2.out; have := HJ8.out; omega
            case rel => exact ⟨(t1056), (wrap64 (x20_2 + 1)), (zF), H', ⟨by have := HJ1.out; have := HK2.out; have := HJ8.out; omega⟩, ⟨by (with_reducible repeat (first | apply Kd.zby | apply Kd.zb2 | apply Kd.zce)); exact Kd.zbj HO1058.out (fun _ hk => trivial)⟩, ⟨zB HB⟩⟩
           ·
            rw [if_neg c19] at H
            exact absurd H (by simp)
          ·
           rw [if_neg c18] at H
           exact absurd H (by simp)
      ·
       rw [if_neg c8] at H
       have c8b0 : decide (x20_2 < (a0.size : Int)) = false := decide_eq_false c8
       clear c8
       simp only [Option.some.injEq, Prod.mk.injEq] at H
       obtain ⟨rfl, rfl⟩ := H
       go_wp2
       go_ret2
       exact ⟨_, zW, zR HO_4, zB HB⟩
mutual
def zam.j1 : Nat → ByteArray → Int → Option (List Int × List Int × Bool)
 | 0, _, _ => none
 | k + 1, x0, x4 => if 0 ≤ x4 then (if x4 ≤ (x0.size : Int) then ((zad.f k (x0.extract 0 (x4 : Int).toNat)).bind fun bt1060 => (if bt1060.2 = true then ((zaj.f k 1).bind fun t1064 => (if x4 < (x0.size : Int) then (if 0 ≤ (wrap64 (x4 + 1)) then (if (wrap64 (x4 + 1)) ≤ (x0.size : Int) then ((zad.f k (x0.extract ((wrap64 (x4 + 1)) : Int).toNat x0.size)).bind fun bt1067 => (zam.j2 k x0 bt1060.1 bt1067.2 bt1067.1)) else (none)) else (none)) else (zam.j2 k x0 bt1060.1 bt1060.2 t1064))) else (some (([] : List Int), ([] : List Int), false)))) else (none)) else (none)
def zam.j2 : Nat → ByteArray → List Int → Bool → List Int → Option (List Int × List Int × Bool)
 | 0, _, _, _, _ => none
 | k + 1, x0, x5, x6, x7 => if x6 = true then (if (x7.length : Int) = 0 then (some (([] : List Int), ([] : List Int), false)) else ((zcj.f k x5 x7).bind fun bt1071 => ((zbe.f k bt1071.1 bt1071.2).bind fun t1077 => (if t1077.toList = x0.toList then ((zcj.f k x5 x7).bind fun bt1078 => (some (bt1078.1, bt1078.2, true))) else (some (([] : List Int), ([] : List Int), false)))))) else (some (([] : List Int), ([] : List Int), false))
def zam.l0 : Nat → ByteArray → Int → Option (List Int × List Int × Bool)
 | 0, _, _ => none
 | k + 1, x0, x4 => if x4 < (x0.size : Int) then (if 0 ≤ x4 then (if (bt x0 x4) = 47 then (zam.j1 k x0 x4) else (zam.l0 k x0 (wrap64 (x4 + 1)))) else (none)) else (zam.j1 k x0 x4)
end
def zam.f (k : Nat) (a0 : ByteArray) : Option (List Int × List Int × Bool) := zam.l0 k a0 0
theorem zam.calls (k : Nat) (a0 : ByteArray) (r1 : List Int) (r2 : List Int) (r3 : Bool) (w : World) (h : zam.f k a0 = some (r1, r2, r3)) :
  Calls Tryd.prog 43 #[.string a0] w fun e w' => ∃ v0_ v1_ : Value, e = .returned (.tuple #[.agg #[v0_, v1_], .bool r3]) ∧ Kd.R (Kd.int .i64) 3 w' w.heap.size (fun k_ => some k_ ≠ (v1_ : Value).ownBlock) v0_ r1 ∧ Kd.R (Kd.int .i64) 3 w' w.heap.size (fun k_ => some k_ ≠ (v0_ : Value).ownBlock) v1_ r2 ∧ Below w.heap.size w w' := by
 have hu40 := Tryd.underlying40
 have HB := zA (Below.refl w.heap.size w)
 have H : (zam.l0 k a0 0) = some (r1, r2, r3) := h
 clear h
 have HC2 := zA H
 clear H
 go_enter Tryd.func43, Tryd.ntmps43
 go_upto_block 0 with (first | ((with_reducible refine zbs (N := 2) rfl ?_); (try (refine zcx (by rfl) ?_; dsimp only)); refine zb5 ?hg (N := 2) ?hd (cs := #[.slice none 0 0, .slice none 0 0]) (t := 40) ?hr ?_; (case hd => rfl); (case hg => rfl); (case hr => first | (go_simp; done) | (go_simp; rfl)); intro gb1059 hg w3 hbox hb; have n0_ := zA (zac (zB HB) hb); have n1_ := zA (hbox); have n2_ := zA ((by rw [hg]; exact (za (zB HB)) : w.heap.size ≤ gb1059)); have n3_ := zA ((by rw [hg]; exact (za (zB HB)) : w.heap.size ≤ gb1059)); clear HB; have HB := n0_; have BK1059 := n1_; have GW1059 := n2_; have GE1059 := n3_; clear n0_ n1_ n2_ n3_ hb hbox hg))
 (try simp only [Act.put, zs1, zs2, zs3])
 go_cut [4] (fun v4 wc => ∃ (kq : Nat) (x4_1 : Int), v4 = .int .i64 x4_1 ∧ Aside0 (zam.j1 kq a0 x4_1 = some (r1, r2, r3)) ∧ Aside0 (kq ≤ k) ∧ Aside0 (wc.heap[gb1059]? = some (.cells #[(.slice none 0 0), (.slice none 0 0)] 40 (0, 0))) ∧ Aside0 (Below w.heap.size w wc))
 case first =>
  have H := HC2.out
  clear HC2
  have H' := zA H
  clear H
  go_wp2
  go_loopg [4] k (fun kq v4 w' => ∃ (x4_1 : Int), v4 = .int .i64 x4_1 ∧ Aside0 (zam.l0 kq a0 x4_1 = some (r1, r2, r3)) ∧ Aside0 (kq ≤ k) ∧ Aside0 (w'.heap[gb1059]? = some (.cells #[(.slice none 0 0), (.slice none 0 0)] 40 (0, 0))) ∧ Aside0 (Below w.heap.size w w'))
  case atStart => exact ⟨(0), (zF), H', ⟨Nat.le_refl _⟩, ⟨zK BK1059⟩, ⟨zB HB⟩⟩
  case round =>
   clear H'
   try clear p2
   obtain ⟨x4_1, rfl, HA, HK1, BK1059, HB⟩ := hrel
   cases gk with
   | zero => exact absurd HA.out (by simp [zam.l0])
   | succ k1 =>
    have H := HA.out
    clear HA
    simp only [zam.l0] at H
    by_cases c4 : x4_1 < (a0.size : Int)
    ·
     rw [if_pos c4] at H
     have c4b0 : decide (x4_1 < (a0.size : Int)) = true := decide_eq_true c4
     clear c4
     (first | rw [c4b0] | (simp only [i64_w, i32_w]; rw [c4b0]) | skip)
     by_cases c5 : 0 ≤ x4_1
     ·
      rw [if_pos c5] at H
      have c5b0 : decide (0 ≤ x4_1) = true := decide_eq_true c5
      clear c5
      by_cases c7 : (bt a0 x4_1) = 47
      ·
       rw [if_pos c7] at H
       have c7b0 : ((bt a0 x4_1) == 47) = true := beq_iff_eq.mpr c7
       have c7b1 : ((bt a0 x4_1) != 47) = false := bne_eq_false_iff_eq.mpr c7
       clear c7
       have H' := zA H
       clear H
       have p6 : 0 ≤ (x4_1 : Int) := of_decide_eq_true (by first | (with_reducible assumption) | assumption)
       have q6 : x4_1 < (a0.size : Int) := of_decide_eq_true (by first | (with_reducible assumption) | assumption)
       have hx6 := bt_at a0 x4_1
       replace p6 := eq_true p6
       replace q6 := eq_true q6
       go_wp2
       go_meet
       case rel => exact ⟨_, (x4_1), (zF), H', ⟨by have := HK1.out; first | omega | exact Nat.le_refl _⟩, ⟨zK BK1059⟩, ⟨zB HB⟩⟩
      ·
       rw [if_neg c7] at H
       have c7b0 : ((bt a0 x4_1) == 47) = false := beq_eq_false_iff_ne.mpr c7
       have c7b1 : ((bt a0 x4_1) != 47) = true := bne_iff_ne.mpr c7
       have H' := zA H
       clear H
       have p6 : 0 ≤ (x4_1 : Int) := of_decide_eq_true (by first | (with_reducible assumption) | assumption)
       have q6 : x4_1 < (a0.size : Int) := of_decide_eq_true (by first | (with_reducible assumption) | assumption)
       have hx6 := bt_at a0 x4_1
       replace p6 := eq_true p6
       replace q6 := eq_true q6
       go_wp2
       go_roundg k1
       case measure => have := HK1.out; omega
       case rel => exact ⟨(wrap64 (x4_1 + 1)), (zF), H', ⟨by have := HK1.out; omega⟩, ⟨zK BK1059⟩, ⟨zB HB⟩⟩
     ·
      rw [if_neg c5] at H
      exact absurd H (by simp)
    ·
     rw [if_neg c4] at H
     have c4b0 : decide (x4_1 < (a0.size : Int)) = false := decide_eq_false c4
     clear c4
     (first | rw [c4b0] | (simp only [i64_w, i32_w]; rw [c4b0]) | skip)
     have H' := zA H
     clear H
     go_wp2
     go_meet
     case rel => exact ⟨_, (x4_1), (zF), H', ⟨by have := HK1.out; first | omega | exact Nat.le_refl _⟩, ⟨zK BK1059⟩, ⟨zB HB⟩⟩
 case rest =>
  clear HC2
  try clear p2
  try clear c4
  try clear c4b0
  try clear c5
  try clear c5b0
  try clear p6
  try clear q6
  try clear hx6
  try clear c7
  try clear c7b0
  try clear c7b1
  try clear p2
  try clear p6
  try clear q6
  obtain ⟨kq, x4_1, rfl, HA, HJ1, BK1059, HB⟩ := hcut
  cases kq with
  | zero => exact absurd HA.out (by simp [zam.j1])
  | succ kj1 =>
   have H := HA.out
   clear HA
   simp only [zam.j1] at H
   by_cases c8 : 0 ≤ x4_1
   ·
    rw [if_pos c8] at H
    have c8b0 := eq_true c8
    have c8b1 : decide (0 ≤ x4_1) = true := decide_eq_true c8
    clear c8
    by_cases c9 : x4_1 ≤ (a0.size : Int)
    ·
     rw [if_pos c9] at H
     have c9b0 := eq_true c9
     have c9b1 : decide (x4_1 ≤ (a0.size : Int)) = true := decide_eq_true c9
     clear c9
     replace H := zO H
     obtain ⟨⟨t1060, t1061⟩, A100, H⟩ := H
     try dsimp only at H
     have A10 := zA A100
     clear A100
     by_cases c11 : t1061 = true
     ·
      subst c11
      rw [if_pos rfl] at H
      replace H := zO H
      obtain ⟨t1064, A120, H⟩ := H
      try dsimp only at H
      have A12 := zA A120
      clear A120
      have HC13 := zA H
      clear H
      go_upto_if 34 with (first | ((with_reducible refine zab (f := 70) rfl ?_); refine za3 (some 24) rfl rfl Tryd.func70 (by kernel_rfl) rfl #[.string (a0.extract 0 (x4_1 : Int).toNat)] rfl (zE) ?_; (with_reducible refine (zad.calls kj1 (a0.extract 0 (x4_1 : Int).toNat) t1060 true _ A10.out).mono ?_); rintro e w14 ⟨v1062, rfl, ho0, hb⟩; refine ⟨_, rfl, ?_⟩; have n0_ := zA (Kd.zbi ho0 (za (zB HB))); have n1_ := zA (za5 (g := gb1059) (o := .cells #[.slice none 0 0, .slice none 0 0] 40 (0, 0)) (zK BK1059) hb); have n2_ := zA (zac (zB HB) hb); clear BK1059 HB; have HO1063 := n0_; have BK1059 := n1_; have HB := n2_; clear n0_ n1_ n2_; (try clear hb); (try clear hb2); (try clear hk); (try clear hi); (try clear ho0)) | ((with_reducible refine zab (f := 20) rfl ?_); refine za3 (some 30) rfl rfl Tryd.func20 (by kernel_rfl) rfl #[.int .i64 1] rfl (zE) ?_; (with_reducible refine (zaj.calls kj1 1 t1064 _ A12.out).mono ?_); rintro e w15 ⟨v1065, rfl, ho0, hb⟩; refine ⟨_, rfl, ?_⟩; have n0_ := zA (Kd.zbc (zR HO1063) (Kd.za8 ho0) hb); have n1_ := zA (Kd.zbi (Kd.zbm ho0 (Kd.R_lt (zR HO1063))) (za (zB HB))); have n2_ := zA (za5 (g := gb1059) (o := .cells #[.slice none 0 0, .slice none 0 0] 40 (0, 0)) (zK BK1059) hb); have n3_ := zA (zac (zB HB) hb); clear HO1063 BK1059 HB; have HO1063 := n0_; have HO1066 := n1_; have BK1059 := n2_; have HB := n3_; clear n0_ n1_ n2_ n3_; (try clear hb); (try clear hb2); (try clear hk); (try clear hi); (try clear ho0)))
      (try simp only [Act.put, zs1, zs2, zs3])
      go_cut [6, 7] (fun v6 v7 wc => ∃ (kq : Nat) (x6_12 : Bool) (x7_12 : List Int), v6 = .bool x6_12 ∧ Aside0 (zam.j2 kq a0 t1060 x6_12 x7_12 = some (r1, r2, r3)) ∧ Aside0 (kq ≤ kj1) ∧ Aside0 (Kd.R (Kd.int .i64) 3 wc w.heap.size (fun k_ => some k_ ≠ (v7 : Value).ownBlock) v1062 t1060) ∧ Aside0 (Kd.R (Kd.int .i64) 3 wc w.heap.size (fun k_ => some k_ ≠ (v1062 : Value).ownBlock) v7 x7_12) ∧ Aside0 (wc.heap[gb1059]? = some (.cells #[(.slice none 0 0), (.slice none 0 0)] 40 (0, 0))) ∧ Aside0 (Below w.heap.size w wc))
      case first =>
       have H := HC13.out
       clear HC13
       by_cases c16 : x4_1 < (a0.size : Int)
       ·
        rw [if_pos c16] at H
        have c16b0 : decide (x4_1 < (a0.size : Int)) = true := decide_eq_true c16
        clear c16
        (first | rw [c16b0] | (simp only [i64_w, i32_w]; rw [c16b0]) | skip)
        obtain ⟨ji17, hji17⟩ : ∃ j_ : Int, (wrap64 (x4_1 + 1)) = j_ := ⟨_, rfl⟩
        replace H : (if 0 ≤ (ji17) then (if (ji17) ≤ (a0.size : Int) then ((zad.f kj1 (a0.extract ((ji17) : Int).toNat a0.size)).bind fun bt1067 => (zam.j2 kj1 a0 t1060 bt1067.2 bt1067.1)) else (none)) else (none)) = some (r1, r2, r3) := by first | (rw [hji17] at H; exact H) | (simp only [hji17] at H ⊢; exact H)
        have hji17w : (IntKind.i64.wrap (x4_1 + 1)) = ji17 := (i64_w _).trans hji17
        by_cases c18 : 0 ≤ (ji17)
        ·
         rw [if_pos c18] at H
         have c18b0 := eq_true c18
         have c18b1 : decide (0 ≤ (ji17)) = true := decide_eq_true c18
         clear c18
         by_cases c19 : (ji17) ≤ (a0.size : Int)
         ·
          rw [if_pos c19] at H
          have c19b0 := eq_true c19
          have c19b1 : decide ((ji17) ≤ (a0.size : Int)) = true := decide_eq_true c19
          clear c19
          replace H := zO H
          obtain ⟨⟨t1067, t1068⟩, A200, H⟩ := H
          try dsimp only at H
          have A20 := zA A200
          clear A200
          have H' := zA H
          clear H
          go_wp2_with (first | ((with_reducible refine zab (f := 70) rfl ?_); refine za3 (some 40) rfl rfl Tryd.func70 (by kernel_rfl) rfl #[.string (a0.extract ((ji17) : Int).toNat a0.size)] rfl (by (try simp only [List.map_toArray, List.map_cons, List.map_nil]); first | done | (simp only [hji17]; rfl) | rfl | (simp only [List.length_drop, List.length_take]; rfl) | ((simp [Act.eval, wrap64]) <;> omega) | ((simp [Act.eval, wrap64, IntKind.wrap, IntKind.bits, IntKind.signed]) <;> omega)) ?_; (with_reducible refine (zad.calls kj1 (a0.extract ((ji17) : Int).toNat a0.size) t1067 t1068 _ A20.out).mono ?_); rintro e w21 ⟨v1069, rfl, ho0, hb⟩; refine ⟨_, rfl, ?_⟩; have n0_ := zA (Kd.zbc (zR HO1063) (Kd.za8 ho0) hb); have n1_ := zA (Kd.zbc (zR HO1066) (Kd.za8 ho0) hb); have n2_ := zA (Kd.zbi (Kd.zbm (Kd.zbm ho0 (Kd.R_lt (zR HO1063))) (Kd.R_lt (zR HO1066))) (za (zB HB))); have n3_ := zA (za5 (g := gb1059) (o := .cells #[.slice none 0 0, .slice none 0 0] 40 (0, 0)) (zK BK1059) hb); have n4_ := zA (zac (zB HB) hb); clear HO1063 HO1066 BK1059 HB; have HO1063 := n0_; have HO1066 := n1_; have HO1070 := n2_; have BK1059 := n3_; have HB := n4_; clear n0_ n1_ n2_ n3_ n4_; (try clear hb); (try clear hb2); (try clear hk); (try clear hi); (try clear ho0)))
          go_meet
          case rel => exact ⟨_, (t1068), (t1067), (zF), H', ⟨by have := HJ1.out; first | omega | exact Nat.le_refl _⟩, ⟨by (with_reducible repeat (first | apply Kd.zby | apply Kd.zb2 | apply Kd.zce)); exact Kd.zbj HO1063.out (fun _ hk => hk.2)⟩, ⟨by (with_reducible repeat (first | apply Kd.zby | apply Kd.zb2 | apply Kd.zce)); exact Kd.zbj HO1070.out (fun _ hk => hk.1.2)⟩, ⟨zK BK1059⟩, ⟨zB HB⟩⟩
         ·
          rw [if_neg c19] at H
          exact absurd H (by simp)
        ·
         rw [if_neg c18] at H
         exact absurd H (by simp)
       ·
        rw [if_neg c16] at H
        have c16b0 : decide (x4_1 < (a0.size : Int)) = false := decide_eq_false c16
        clear c16
        (first | rw [c16b0] | (simp only [i64_w, i32_w]; rw [c16b0]) | skip)
        have H' := zA H
        clear H
        go_wp2
        go_meet
        case rel => exact ⟨_, (true), (t1064), (zF), H', ⟨by have := HJ1.out; first | omega | exact Nat.le_refl _⟩, ⟨by (with_reducible repeat (first | apply Kd.zby | apply Kd.zb2 | apply Kd.zce)); exact Kd.zbj HO1063.out (fun _ hk => hk.2)⟩, ⟨by (with_reducible repeat (first | apply Kd.zby | apply Kd.zb2 | apply Kd.zce)); exact Kd.zbj HO1066.out (fun _ hk => hk.2)⟩, ⟨zK BK1059⟩, ⟨zB HB⟩⟩
      case rest =>
       clear HC13
       try clear c1
       try clear c2
       try clear p2
       try clear c4
       try clear c4b0
       try clear c5
       try clear c5b0
       try clear p6
       try clear q6
       try clear hx6
       try clear c7
       try clear c7b0
       try clear c7b1
       try clear c8
       try clear c8b0
       try clear c8b1
       try clear c9
       try clear c9b0
       try clear c9b1
       try clear c11
       try clear c16
       try clear c16b0
       try clear c18
       try clear c18b0
       try clear c18b1
       try clear c19
       try clear c19b0
       try clear c19b1
       try clear c20
       try clear p2
       try clear p6
       try clear q6
       obtain ⟨kq, x6_12, x7_12, rfl, HA, HJ12, HO_5, HO_7, BK1059, HB⟩ := hcut
       cases kq with
       | zero => exact absurd HA.out (by simp [zam.j2])
       | succ kj12 =>
        have H := HA.out
        clear HA
        simp only [zam.j2] at H
        by_cases c22 : x6_12 = true
        ·
         subst c22
         rw [if_pos rfl] at H
         by_cases c23 : (x7_12.length : Int) = 0
         ·
          rw [if_pos c23] at H
          have c23b0 : ((x7_12.length : Int) == 0) = true := beq_iff_eq.mpr c23
          have c23b1 : ((x7_12.length : Int) != 0) = false := bne_eq_false_iff_eq.mpr c23
          clear c23
          simp only [Option.some.injEq, Prod.mk.injEq] at H
          obtain ⟨rfl, rfl, rfl⟩ := H
          obtain ⟨Ao24, co24, eo24⟩ := Kd.zbb HO_7.out
          subst eo24
          have hcz25_0 : wc.cell? ⟨gb1059, 0, none⟩ = some (.slice none 0 0) := (zal BK1059.out 0).trans rfl
          have hcz25_1 : wc.cell? ⟨gb1059, 1, none⟩ = some (.slice none 0 0) := (zal BK1059.out 1).trans rfl
          have hfz25_0 := zaq BK1059.out 0
          have hfz25_1 := zaq BK1059.out 1
          go_wp2
          refine bodyPost_ret (zcr rfl _ _ gb1059 40 #[.slice none 0 0, .slice none 0 0] (0, 0) _ rfl (by (with_reducible repeat (first | refine zay ?_ _ | refine za1 ?_ | refine zax ?_ _)); refine zb0 (cs := #[.slice none 0 0, .slice none 0 0]) ?_ 1 _ rfl; (with_reducible repeat (first | refine zay ?_ _ | refine za1 ?_ | refine zax ?_ _)); refine zb0 (cs := #[.slice none 0 0, .slice none 0 0]) ?_ 0 _ rfl; (with_reducible repeat (first | refine zay ?_ _ | refine za1 ?_ | refine zax ?_ _)); exact BK1059.out) Tryd.underlying40 rfl (by kernel_rfl)) rfl ?_
          exact ⟨_, _, zW, by first | exact Kd.R_nil _ _ _ _ _ | exact Kd.N_nil _ _ _ _ _ | exact Kd.V_nil _ _ _ _ _ | exact Kd.Q_nil _ _ _ _ _ | exact Kd.S_nil _ _ _ _ _, by first | exact Kd.R_nil _ _ _ _ _ | exact Kd.N_nil _ _ _ _ _ | exact Kd.V_nil _ _ _ _ _ | exact Kd.Q_nil _ _ _ _ _ | exact Kd.S_nil _ _ _ _ _, zB HB⟩
         ·
          rw [if_neg c23] at H
          have c23b0 : ((x7_12.length : Int) == 0) = false := beq_eq_false_iff_ne.mpr c23
          have c23b1 : ((x7_12.length : Int) != 0) = true := bne_iff_ne.mpr c23
          have c23b2 : ¬ (x7_12 = []) := fun h_ => c23 (by rw [h_]; rfl)
          replace H := zO H
          obtain ⟨⟨t1071, t1074⟩, A260, H⟩ := H
          try dsimp only at H
          have A26 := zA A260
          clear A260
          replace H := zO H
          obtain ⟨t1077, A270, H⟩ := H
          try dsimp only at H
          have A27 := zA A270
          clear A270
          by_cases c28 : t1077.toList = a0.toList
          ·
           rw [if_pos c28] at H
           have c28b0 : (t1077.toList == a0.toList) = true := beq_iff_eq.mpr c28
           have c28b1 : (t1077.toList != a0.toList) = false := bne_eq_false_iff_eq.mpr c28
           clear c28
           replace H := zO H
           obtain ⟨⟨t1078, t1081⟩, A290, H⟩ := H
           try dsimp only at H
           have A29 := zA A290
           clear A290
           simp only [Option.some.injEq, Prod.mk.injEq] at H
           obtain ⟨rfl, rfl, rfl⟩ := H
           obtain ⟨Ao30, co30, eo30⟩ := Kd.zbb HO_7.out
           subst eo30
           obtain ⟨Ao31, co31, eo31⟩ := Kd.zbb HO_5.out
           subst eo31
           go_wp2_with (first | (go_at_call 59; (with_reducible refine (zcj.calls kj12 _ _ t1060 _ _ x7_12 t1071 t1074 _ ?side1 ?side2 ?side3 ?side4 A26.out).mono ?_); (case side1 => exact zJ (Kd.zar HO_5.out).2.2); (case side2 => exact (Kd.zar HO_5.out).2.1); (case side3 => exact zJ (Kd.zar HO_7.out).2.2); (case side4 => exact (Kd.zar HO_7.out).2.1); rintro e w32 ⟨v1072, v1075, rfl, ho0, ho1, hb⟩; have n0_ := zA (Kd.zbj (Kd.zc5 (Kd.zc5 (Kd.R_old (zR HO_5) hb) (Kd.za8 ho0)) (Kd.za8 ho1)) (fun _ h_ => h_.1)); have n1_ := zA (Kd.zbj (Kd.zc5 (Kd.zc5 (Kd.R_old (zR HO_7) hb) (Kd.za8 ho0)) (Kd.za8 ho1)) (fun _ h_ => h_.1)); have n2_ := zA (Kd.zbi (Kd.zbm (Kd.zbm ho0 (Kd.R_lt (zR HO_5))) (Kd.R_lt (zR HO_7))) (za (zB HB))); have n3_ := zA (Kd.zbi (Kd.zbm (Kd.zbm ho1 (Kd.R_lt (zR HO_5))) (Kd.R_lt (zR HO_7))) (za (zB HB))); have n4_ := zA (za5 (g := gb1059) (o := .cells #[.slice none 0 0, .slice none 0 0] 40 (0, 0)) (zK BK1059) hb); have n5_ := zA (zac (zB HB) hb); clear HO_5 HO_7 BK1059 HB; have HO_5 := n0_; have HO_7 := n1_; have HO1073 := n2_; have HO1076 := n3_; have BK1059 := n4_; have HB := n5_; clear n0_ n1_ n2_ n3_ n4_ n5_; (try clear hb); (try clear hb2); (try clear hk); (try clear hi); (try clear ho0); (try clear ho1); obtain ⟨Ao33, co33, eo33⟩ := Kd.zbb HO1073.out; subst eo33; obtain ⟨Ao34, co34, eo34⟩ := Kd.zbb HO1076.out; subst eo34) | (go_at_call 42; (with_reducible refine (zbe.calls kj12 _ _ t1071 _ _ t1074 t1077 _ ?side1 ?side2 ?side3 ?side4 A27.out).mono ?_); (case side1 => exact zJ (Kd.zar HO1073.out).2.2); (case side2 => exact (Kd.zar HO1073.out).2.1); (case side3 => exact zJ (Kd.zar HO1076.out).2.2); (case side4 => exact (Kd.zar HO1076.out).2.1); rintro e w35 ⟨rfl, hb⟩; have n0_ := zA (Kd.zbw (zR HO_5) hb); have n1_ := zA (Kd.zbw (zR HO_7) hb); have n2_ := zA (Kd.zbw (zR HO1073) hb); have n3_ := zA (Kd.zbw (zR HO1076) hb); have n4_ := zA (za5 (g := gb1059) (o := .cells #[.slice none 0 0, .slice none 0 0] 40 (0, 0)) (zK BK1059) hb); have n5_ := zA (zac (zB HB) hb); clear HO_5 HO_7 HO1073 HO1076 BK1059 HB; have HO_5 := n0_; have HO_7 := n1_; have HO1073 := n2_; have HO1076 := n3_; have BK1059 := n4_; have HB := n5_; clear n0_ n1_ n2_ n3_ n4_ n5_; (try clear hb); (try clear hb2); (try clear hk); (try clear hi)) | ((with_reducible refine zab (f := 59) rfl ?_); refine za3 (some 61) rfl rfl Tryd.func59 (by kernel_rfl) rfl #[.slice Ao31 t1060.length co31, .slice Ao30 x7_12.length co30] rfl (zE) ?_; (with_reducible refine (zcj.calls kj12 _ _ t1060 _ _ x7_12 t1078 t1081 _ ?side1 ?side2 ?side3 ?side4 A29.out).mono ?_); (case side1 => exact zJ (Kd.zar HO_5.out).2.2); (case side2 => exact (Kd.zar HO_5.out).2.1); (case side3 => exact zJ (Kd.zar HO_7.out).2.2); (case side4 => exact (Kd.zar HO_7.out).2.1); rintro e w36 ⟨v1079, v1082, rfl, ho0, ho1, hb⟩; refine ⟨_, rfl, ?_⟩; have n0_ := zA (Kd.zbj (Kd.zc5 (Kd.zc5 (Kd.R_old (zR HO_5) hb) (Kd.za8 ho0)) (Kd.za8 ho1)) (fun _ h_ => h_.1)); have n1_ := zA (Kd.zbj (Kd.zc5 (Kd.zc5 (Kd.R_old (zR HO_7) hb) (Kd.za8 ho0)) (Kd.za8 ho1)) (fun _ h_ => h_.1)); have n2_ := zA (Kd.zbj (Kd.zc5 (Kd.zc5 (Kd.R_old (zR HO1073) hb) (Kd.za8 ho0)) (Kd.za8 ho1)) (fun _ h_ => h_.1)); have n3_ := zA (Kd.zbj (Kd.zc5 (Kd.zc5 (Kd.R_old (zR HO1076) hb) (Kd.za8 ho0)) (Kd.za8 ho1)) (fun _ h_ => h_.1)); have n4_ := zA (Kd.zbi (Kd.zbm (Kd.zbm (Kd.zbm (Kd.zbm ho0 (Kd.R_lt (zR HO_5))) (Kd.R_lt (zR HO_7))) (Kd.R_lt (zR HO1073))) (Kd.R_lt (zR HO1076))) (za (zB HB))); have n5_ := zA (Kd.zbi (Kd.zbm (Kd.zbm (Kd.zbm (Kd.zbm ho1 (Kd.R_lt (zR HO_5))) (Kd.R_lt (zR HO_7))) (Kd.R_lt (zR HO1073))) (Kd.R_lt (zR HO1076))) (za (zB HB))); have n6_ := zA (za5 (g := gb1059) (o := .cells #[.slice none 0 0, .slice none 0 0] 40 (0, 0)) (zK BK1059) hb); have n7_ := zA (zac (zB HB) hb); clear HO_5 HO_7 HO1073 HO1076 BK1059 HB; have HO_5 := n0_; have HO_7 := n1_; have HO1073 := n2_; have HO1076 := n3_; have HO1080 := n4_; have HO1083 := n5_; have BK1059 := n6_; have HB := n7_; clear n0_ n1_ n2_ n3_ n4_ n5_ n6_ n7_; (try clear hb); (try clear hb2); (try clear hk); (try clear hi); (try clear ho0); (try clear ho1); obtain ⟨Ao37, co37, eo37⟩ := Kd.zbb HO1080.out; subst eo37; have hcz38_0 : w36.cell? ⟨gb1059, 0, none⟩ = some (.slice none 0 0) := (zal BK1059.out 0).trans rfl; have hcz38_1 : w36.cell? ⟨gb1059, 1, none⟩ = some (.slice none 0 0) := (zal BK1059.out 1).trans rfl; have hfz38_0 := zaq BK1059.out 0; have hfz38_1 := zaq BK1059.out 1; obtain ⟨Ao39, co39, eo39⟩ := Kd.zbb HO1083.out; subst eo39))
           refine bodyPost_ret (zcr rfl _ _ gb1059 40 #[.slice Ao37 t1078.length co37, .slice Ao39 t1081.length co39] (0, 0) _ rfl (by (with_reducible repeat (first | refine zay ?_ _ | refine za1 ?_ | refine zax ?_ _)); refine zb0 (cs := #[.slice Ao37 t1078.length co37, .slice none 0 0]) ?_ 1 _ rfl; (with_reducible repeat (first | refine zay ?_ _ | refine za1 ?_ | refine zax ?_ _)); refine zb0 (cs := #[.slice none 0 0, .slice none 0 0]) ?_ 0 _ rfl; (with_reducible repeat (first | refine zay ?_ _ | refine za1 ?_ | refine zax ?_ _)); exact BK1059.out) Tryd.underlying40 rfl (by kernel_rfl)) rfl ?_
           exact ⟨_, _, zW, by (with_reducible repeat (first | apply Kd.zby | apply Kd.zb2 | apply Kd.zce)); exact Kd.zbj (Kd.R_far (p := ⟨gb1059, 1, none⟩) (Kd.R_far (p := ⟨gb1059, 0, none⟩) (Kd.R_types HO1080.out BK1059.out (by decide)) (fun _ hk => hk.2) (.slice Ao37 t1078.length co37)) (fun _ hk => hk.2) (.slice Ao39 t1081.length co39)) (fun _ hk => hk.1.1.1.1.1), by (with_reducible repeat (first | apply Kd.zby | apply Kd.zb2 | apply Kd.zce)); exact Kd.zbj (Kd.R_far (p := ⟨gb1059, 1, none⟩) (Kd.R_far (p := ⟨gb1059, 0, none⟩) (Kd.R_types HO1083.out BK1059.out (by decide)) (fun _ hk => hk.2) (.slice Ao37 t1078.length co37)) (fun _ hk => hk.2) (.slice Ao39 t1081.length co39)) (fun _ hk => hk.1.1.1.1.1), zB HB⟩
          ·
           rw [if_neg c28] at H
           have c28b0 : (t1077.toList == a0.toList) = false := beq_eq_false_iff_ne.mpr c28
           have c28b1 : (t1077.toList != a0.toList) = true := bne_iff_ne.mpr c28
           simp only [Option.some.injEq, Prod.mk.injEq] at H
           obtain ⟨rfl, rfl, rfl⟩ := H
           obtain ⟨Ao40, co40, eo40⟩ := Kd.zbb HO_7.out
           subst eo40
           obtain ⟨Ao41, co41, eo41⟩ := Kd.zbb HO_5.out
           subst eo41
           go_wp2_with (first | (go_at_call 59; (with_reducible refine (zcj.calls kj12 _ _ t1060 _ _ x7_12 t1071 t1074 _ ?side1 ?side2 ?side3 ?side4 A26.out).mono ?_); (case side1 => exact zJ (Kd.zar HO_5.out).2.2); (case side2 => exact (Kd.zar HO_5.out).2.1); (case side3 => exact zJ (Kd.zar HO_7.out).2.2); (case side4 => exact (Kd.zar HO_7.out).2.1); rintro e w42 ⟨v1072, v1075, rfl, ho0, ho1, hb⟩; have n0_ := zA (Kd.zbj (Kd.zc5 (Kd.zc5 (Kd.R_old (zR HO_5) hb) (Kd.za8 ho0)) (Kd.za8 ho1)) (fun _ h_ => h_.1)); have n1_ := zA (Kd.zbj (Kd.zc5 (Kd.zc5 (Kd.R_old (zR HO_7) hb) (Kd.za8 ho0)) (Kd.za8 ho1)) (fun _ h_ => h_.1)); have n2_ := zA (Kd.zbi (Kd.zbm (Kd.zbm ho0 (Kd.R_lt (zR HO_5))) (Kd.R_lt (zR HO_7))) (za (zB HB))); have n3_ := zA (Kd.zbi (Kd.zbm (Kd.zbm ho1 (Kd.R_lt (zR HO_5))) (Kd.R_lt (zR HO_7))) (za (zB HB))); have n4_ := zA (za5 (g := gb1059) (o := .cells #[.slice none 0 0, .slice none 0 0] 40 (0, 0)) (zK BK1059) hb); have n5_ := zA (zac (zB HB) hb); clear HO_5 HO_7 BK1059 HB; have HO_5 := n0_; have HO_7 := n1_; have HO1073 := n2_; have HO1076 := n3_; have BK1059 := n4_; have HB := n5_; clear n0_ n1_ n2_ n3_ n4_ n5_; (try clear hb); (try clear hb2); (try clear hk); (try clear hi); (try clear ho0); (try clear ho1); obtain ⟨Ao43, co43, eo43⟩ := Kd.zbb HO1073.out; subst eo43; obtain ⟨Ao44, co44, eo44⟩ := Kd.zbb HO1076.out; subst eo44) | (go_at_call 42; (with_reducible refine (zbe.calls kj12 _ _ t1071 _ _ t1074 t1077 _ ?side1 ?side2 ?side3 ?side4 A27.out).mono ?_); (case side1 => exact zJ (Kd.zar HO1073.out).2.2); (case side2 => exact (Kd.zar HO1073.out).2.1); (case side3 => exact zJ (Kd.zar HO1076.out).2.2); (case side4 => exact (Kd.zar HO1076.out).2.1); rintro e w45 ⟨rfl, hb⟩; have n0_ := zA (Kd.zbw (zR HO_5) hb); have n1_ := zA (Kd.zbw (zR HO_7) hb); have n2_ := zA (Kd.zbw (zR HO1073) hb); have n3_ := zA (Kd.zbw (zR HO1076) hb); have n4_ := zA (za5 (g := gb1059) (o := .cells #[.slice none 0 0, .slice none 0 0] 40 (0, 0)) (zK BK1059) hb); have n5_ := zA (zac (zB HB) hb); clear HO_5 HO_7 HO1073 HO1076 BK1059 HB; have HO_5 := n0_; have HO_7 := n1_; have HO1073 := n2_; have HO1076 := n3_; have BK1059 := n4_; have HB := n5_; clear n0_ n1_ n2_ n3_ n4_ n5_; (try clear hb); (try clear hb2); (try clear hk); (try clear hi); have hcz46_0 : w45.cell? ⟨gb1059, 0, none⟩ = some (.slice none 0 0) := (zal BK1059.out 0).trans rfl; have hcz46_1 : w45.cell? ⟨gb1059, 1, none⟩ = some (.slice none 0 0) := (zal BK1059.out 1).trans rfl; have hfz46_0 := zaq BK1059.out 0; have hfz46_1 := zaq BK1059.out 1))
           refine bodyPost_ret (zcr rfl _ _ gb1059 40 #[.slice none 0 0, .slice none 0 0] (0, 0) _ rfl (by (with_reducible repeat (first | refine zay ?_ _ | refine za1 ?_ | refine zax ?_ _)); refine zb0 (cs := #[.slice none 0 0, .slice none 0 0]) ?_ 1 _ rfl; (with_reducible repeat (first | refine zay ?_ _ | refine za1 ?_ | refine zax ?_ _)); refine zb0 (cs := #[.slice none 0 0, .slice none 0 0]) ?_ 0 _ rfl; (with_reducible repeat (first | refine zay ?_ _ | refine za1 ?_ | refine zax ?_ _)); exact BK1059.out) Tryd.underlying40 rfl (by kernel_rfl)) rfl ?_
           exact ⟨_, _, zW, by first | exact Kd.R_nil _ _ _ _ _ | exact Kd.N_nil _ _ _ _ _ | exact Kd.V_nil _ _ _ _ _ | exact Kd.Q_nil _ _ _ _ _ | exact Kd.S_nil _ _ _ _ _, by first | exact Kd.R_nil _ _ _ _ _ | exact Kd.N_nil _ _ _ _ _ | exact Kd.V_nil _ _ _ _ _ | exact Kd.Q_nil _ _ _ _ _ | exact Kd.S_nil _ _ _ _ _, zB HB⟩
        ·
         replace c22 := Bool.eq_false_iff.mpr c22
         subst c22
         rw [if_neg (show ¬ (false = true) by decide)] at H
         simp only [Option.some.injEq, Prod.mk.injEq] at H
         obtain ⟨rfl, rfl, rfl⟩ := H
         have hcz47_0 : wc.cell? ⟨gb1059, 0, none⟩ = some (.slice none 0 0) := (zal BK1059.out 0).trans rfl
         have hcz47_1 : wc.cell? ⟨gb1059, 1, none⟩ = some (.slice none 0 0) := (zal BK1059.out 1).trans rfl
         have hfz47_0 := zaq BK1059.out 0
         have hfz47_1 := zaq BK1059.out 1
         go_wp2
         refine bodyPost_ret (zcr rfl _ _ gb1059 40 #[.slice none 0 0, .slice none 0 0] (0, 0) _ rfl (by (with_reducible repeat (first | refine zay ?_ _ | refine za1 ?_ | refine zax ?_ _)); refine zb0 (cs := #[.slice none 0 0, .slice none 0 0]) ?_ 1 _ rfl; (with_reducible repeat (first | refine zay ?_ _ | refine za1 ?_ | refine zax ?_ _)); refine zb0 (cs := #[.slice none 0 0, .slice none 0 0]) ?_ 0 _ rfl; (with_reducible repeat (first | refine zay ?_ _ | refine za1 ?_ | refine zax ?_ _)); exact BK1059.out) Tryd.underlying40 rfl (by kernel_rfl)) rfl ?_
         exact ⟨_, _, zW, by first | exact Kd.R_nil _ _ _ _ _ | exact Kd.N_nil _ _ _ _ _ | exact Kd.V_nil _ _ _ _ _ | exact Kd.Q_nil _ _ _ _ _ | exact Kd.S_nil _ _ _ _ _, by first | exact Kd.R_nil _ _ _ _ _ | exact Kd.N_nil _ _ _ _ _ | exact Kd.V_nil _ _ _ _ _ | exact Kd.Q_nil _ _ _ _ _ | exact Kd.S_nil _ _ _ _ _, zB HB⟩
     ·
      replace c11 := Bool.eq_false_iff.mpr c11
      subst c11
      rw [if_neg (show ¬ (false = true) by decide)] at H
      simp only [Option.some.injEq, Prod.mk.injEq] at H
      obtain ⟨rfl, rfl, rfl⟩ := H
      go_wp2_with (first | ((with_reducible refine zab (f := 70) rfl ?_); refine za3 (some 24) rfl rfl Tryd.func70 (by kernel_rfl) rfl #[.string (a0.extract 0 (x4_1 : Int).toNat)] rfl (zE) ?_; (with_reducible refine (zad.calls kj1 (a0.extract 0 (x4_1 : Int).toNat) t1060 false _ A10.out).mono ?_); rintro e w48 ⟨v1062, rfl, ho0, hb⟩; refine ⟨_, rfl, ?_⟩; have n0_ := zA (Kd.zbi ho0 (za (zB HB))); have n1_ := zA (za5 (g := gb1059) (o := .cells #[.slice none 0 0, .slice none 0 0] 40 (0, 0)) (zK BK1059) hb); have n2_ := zA (zac (zB HB) hb); clear BK1059 HB; have HO1063 := n0_; have BK1059 := n1_; have HB := n2_; clear n0_ n1_ n2_; (try clear hb); (try clear hb2); (try clear hk); (try clear hi); (try clear ho0); have hcz49_0 : w48.cell? ⟨gb1059, 0, none⟩ = some (.slice none 0 0) := (zal BK1059.out 0).trans rfl; have hcz49_1 : w48.cell? ⟨gb1059, 1, none⟩ = some (.slice none 0 0) := (zal BK1059.out 1).trans rfl; have hfz49_0 := zaq BK1059.out 0; have hfz49_1 := zaq BK1059.out 1))
      refine bodyPost_ret (zcr rfl _ _ gb1059 40 #[.slice none 0 0, .slice none 0 0] (0, 0) _ rfl (by (with_reducible repeat (first | refine zay ?_ _ | refine za1 ?_ | refine zax ?_ _)); refine zb0 (cs := #[.slice none 0 0, .slice none 0 0]) ?_ 1 _ rfl; (with_reducible repeat (first | refine zay ?_ _ | refine za1 ?_ | refine zax ?_ _)); refine zb0 (cs := #[.slice none 0 0, .slice none 0 0]) ?_ 0 _ rfl; (with_reducible repeat (first | refine zay ?_ _ | refine za1 ?_ | refine zax ?_ _)); exact BK1059.out) Tryd.underlying40 rfl (by kernel_rfl)) rfl ?_
      exact ⟨_, _, zW, by first | exact Kd.R_nil _ _ _ _ _ | exact Kd.N_nil _ _ _ _ _ | exact Kd.V_nil _ _ _ _ _ | exact Kd.Q_nil _ _ _ _ _ | exact Kd.S_nil _ _ _ _ _, by first | exact Kd.R_nil _ _ _ _ _ | exact Kd.N_nil _ _ _ _ _ | exact Kd.V_nil _ _ _ _ _ | exact Kd.Q_nil _ _ _ _ _ | exact Kd.S_nil _ _ _ _ _, zB HB⟩
    ·
     rw [if_neg c9] at H
     exact absurd H (by simp)
   ·
    rw [if_neg c8] at H
    exact absurd H (by simp)
end Go.Proofs.YtfjkamhcabckeaaDoor.P
end
