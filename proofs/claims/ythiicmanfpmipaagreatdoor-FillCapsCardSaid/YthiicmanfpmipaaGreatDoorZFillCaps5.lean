-- Written by a program of this session (wip/tools/shake.py) out of its own texts and of the kit's printed ones; not trusted: Lean checks it.
import Derived.Test.YthiicmanfpmipaaGreatDoorZFillCaps4
set_option maxHeartbeats 8000000
set_option maxRecDepth 100000
set_option linter.unusedVariables false
set_option linter.unusedSimpArgs false
section
namespace Go.Proofs.YthiicmanfpmipaaGreatDoor.P
open Go.RowKit Go.Proofs.YthiicmanfpmipaaGreatDoorW.PrintWords Go.Proofs.YthiicmanfpmipaaGreatDoorW.PrintLast Go.Proofs.YthiicmanfpmipaaGreatDoorW.PrintMore
attribute [local go_sem] zcf zci zcu zct zb6 zb2 zch zce
mutual
def zaq.l0 : Nat → List Int → List Int → List Int → Int → Int → Option (List Int)
 | 0, _, _, _, _, _ => none
 | k + 1, x0, x1, x5, x17, x18 => if x18 < x17 then (zaq.l1 k x0 x1 x5 x18 0 x17 x18 (x1.length : Int) 0) else ((zar.f k x5).bind fun t412 => (some t412))
def zaq.l1 : Nat → List Int → List Int → List Int → Int → Int → Int → Int → Int → Int → Option (List Int)
 | 0, _, _, _, _, _, _, _, _, _ => none
 | k + 1, x0, x1, x5, x6, x7, x17, x18, x22, x23 => if x23 < x22 then (if 0 ≤ (wrap64 (x6 + x23)) then (if (wrap64 (x6 + x23)) < (x5.length : Int) then (if 0 ≤ x6 then (if x6 < (x0.length : Int) then (if 0 ≤ x23 then (if x23 < (x1.length : Int) then (zaq.l1 k x0 x1 (x5.set ((wrap64 (x6 + x23)) : Int).toNat (Int.tmod (wrap64 ((wrap64 ((rd x5 (wrap64 (x6 + x23))) + (wrap64 ((rd x0 x6) * (rd x1 x23))))) + x7)) 10000)) x6 (wrap64 (Int.tdiv (wrap64 ((wrap64 ((rd x5 (wrap64 (x6 + x23))) + (wrap64 ((rd x0 x6) * (rd x1 x23))))) + x7)) 10000)) x17 x18 x22 (wrap64 (x23 + 1))) else (none)) else (none)) else (none)) else (none)) else (none)) else (none)) else (if 0 ≤ (wrap64 (x6 + (x1.length : Int))) then (if (wrap64 (x6 + (x1.length : Int))) < (x5.length : Int) then (zaq.l0 k x0 x1 (x5.set ((wrap64 (x6 + (x1.length : Int))) : Int).toNat (wrap64 ((rd x5 (wrap64 (x6 + (x1.length : Int)))) + x7))) x17 (wrap64 (x18 + 1))) else (none)) else (none))
end
def zaq.f (k : Nat) (l0 : List Int) (l1 : List Int) : Option (List Int) := if 0 ≤ (wrap64 ((l0.length : Int) + (l1.length : Int))) then (if (wrap64 ((l0.length : Int) + (l1.length : Int)) : Int).toNat ≤ 35184372088832 then (zaq.l0 k l0 l1 (List.replicate (wrap64 ((l0.length : Int) + (l1.length : Int)) : Int).toNat 0) (l0.length : Int) 0) else (none)) else (none)
theorem zaq.calls (k : Nat) (A0 : Option Addr) (c0 : Nat) (l0 : List Int) (A1 : Option Addr) (c1 : Nat) (l1 : List Int) (r : List Int) (w : World) (hr0 : Kd.C (Kd.int .i64) w A0 l0.length l0) (hc0 : l0.length ≤ c0) (hr1 : Kd.C (Kd.int .i64) w A1 l1.length l1) (hc1 : l1.length ≤ c1) (h : zaq.f k l0 l1 = some r) :
  Calls Tryz.prog 91 #[.slice A0 l0.length c0, .slice A1 l1.length c1] w fun e w' => ∃ v0_ : Value, e = .returned (v0_) ∧ Kd.R (Kd.int .i64) 3 w' w.heap.size (fun _ => True) v0_ r ∧ Below w.heap.size w w' := by
 have HR0 := zA hr0
 have HC0 := zA hc0
 clear hr0 hc0
 have HR1 := zA hr1
 have HC1 := zA hc1
 clear hr1 hc1
 have HB := zA (Below.refl w.heap.size w)
 have H : (if 0 ≤ (wrap64 ((l0.length : Int) + (l1.length : Int))) then (if (wrap64 ((l0.length : Int) + (l1.length : Int)) : Int).toNat ≤ 35184372088832 then (zaq.l0 k l0 l1 (List.replicate (wrap64 ((l0.length : Int) + (l1.length : Int)) : Int).toNat 0) (l0.length : Int) 0) else (none)) else (none)) = some r := h
 clear h
 obtain ⟨ji3, hji3⟩ : ∃ j_ : Int, (wrap64 ((l0.length : Int) + (l1.length : Int))) = j_ := ⟨_, rfl⟩
 replace H : (if 0 ≤ (ji3) then (if (ji3 : Int).toNat ≤ 35184372088832 then (zaq.l0 k l0 l1 (List.replicate (ji3 : Int).toNat 0) (l0.length : Int) 0) else (none)) else (none)) = some r := by first | (rw [hji3] at H; exact H) | (simp only [hji3] at H ⊢; exact H)
 have hji3w : (IntKind.i64.wrap ((l0.length : Int) + (l1.length : Int))) = ji3 := (i64_w _).trans hji3
 by_cases c4 : 0 ≤ (ji3)
 ·
  rw [if_pos c4] at H
  have c4b0 := eq_true c4
  have c4b1 : decide (0 ≤ (ji3)) = true := decide_eq_true c4
  clear c4
  by_cases c5 : (ji3 : Int).toNat ≤ 35184372088832
  ·
   rw [if_pos c5] at H
   have c5b0 := eq_true c5
   have c5b1 : decide ((ji3 : Int).toNat ≤ 35184372088832) = true := decide_eq_true c5
   clear c5
   obtain ⟨y409, hy409⟩ : ∃ y_ : List Int, y_ = (List.replicate (ji3 : Int).toNat 0) := ⟨_, rfl⟩
   replace H : (zaq.l0 k l0 l1 y409 (l0.length : Int) 0) = some r := by first | (rw [hy409]; with_reducible exact H) | (have H2_ := (Option.bind_some _ _).symm.trans H; rw [hy409]; with_reducible exact H2_) | (have H2_ := (Option.bind_some _ _).symm.trans H; with_reducible exact H2_) | with_reducible exact H | (rw [hy409]; exact H) | exact H
   have Ny409 := zA hy409
   clear hy409
   have H' := zA H
   clear H
   go_enter Tryz.func91, Tryz.ntmps91
   go_wp2_with (first | ((with_reducible refine za8 (N := 15) rfl ?_); refine Kd.R_make (Kd.int .i64) _ 3 rfl (N := 15) rfl 30 _ _ rfl ji3 rfl rfl Tryz.underlying30 (.int .i64 0) 8 info3 rfl (by decide) (by omega) 0 (ok := fun _ => True) (okp := fun _ => True) rfl (fun _ hk => hk) trivial (of_decide_eq_true (by first | (with_reducible assumption) | assumption)) (Nat.le_trans (Nat.mul_le_mul_right _ (of_decide_eq_true (by first | (with_reducible assumption) | assumption) : ji3.toNat ≤ 35184372088832)) (by omega)) (Below.refl _ _) (Nat.le_refl _) ?_; intro v410 w6 ho7 hb hg_ hnew_; clear hg_ hnew_; (first | rw [← Ny409.out] at ho7 | (simp only [Int.reduceToNat] at ho7; rw [← Ny409.out] at ho7)); have n0_ := zA (Kd.zbs ho7 (za (zB HB))); have n1_ := zA (zaa (zB HB) hb); clear HB; have HO411 := n0_; have HB := n1_; clear n0_ n1_ hb ho7))
   repeat (go_quiet (first | ((with_reducible refine za8 (N := 15) rfl ?_); refine Kd.R_make (Kd.int .i64) _ 3 rfl (N := 15) rfl 30 _ _ rfl ji3 rfl rfl Tryz.underlying30 (.int .i64 0) 8 info3 rfl (by decide) (by omega) 0 (ok := fun _ => True) (okp := fun _ => True) rfl (fun _ hk => hk) trivial (of_decide_eq_true (by first | (with_reducible assumption) | assumption)) (Nat.le_trans (Nat.mul_le_mul_right _ (of_decide_eq_true (by first | (with_reducible assumption) | assumption) : ji3.toNat ≤ 35184372088832)) (by omega)) (Below.refl _ _) (Nat.le_refl _) ?_; intro v410 w6 ho7 hb hg_ hnew_; clear hg_ hnew_; (first | rw [← Ny409.out] at ho7 | (simp only [Int.reduceToNat] at ho7; rw [← Ny409.out] at ho7)); have n0_ := zA (Kd.zbs ho7 (za (zB HB))); have n1_ := zA (zaa (zB HB) hb); clear HB; have HO411 := n0_; have HB := n1_; clear n0_ n1_ hb ho7)); try go_wp2_with (first | ((with_reducible refine za8 (N := 15) rfl ?_); refine Kd.R_make (Kd.int .i64) _ 3 rfl (N := 15) rfl 30 _ _ rfl ji3 rfl rfl Tryz.underlying30 (.int .i64 0) 8 info3 rfl (by decide) (by omega) 0 (ok := fun _ => True) (okp := fun _ => True) rfl (fun _ hk => hk) trivial (of_decide_eq_true (by first | (with_reducible assumption) | assumption)) (Nat.le_trans (Nat.mul_le_mul_right _ (of_decide_eq_true (by first | (with_reducible assumption) | assumption) : ji3.toNat ≤ 35184372088832)) (by omega)) (Below.refl _ _) (Nat.le_refl _) ?_; intro v410 w6 ho7 hb hg_ hnew_; clear hg_ hnew_; (first | rw [← Ny409.out] at ho7 | (simp only [Int.reduceToNat] at ho7; rw [← Ny409.out] at ho7)); have n0_ := zA (Kd.zbs ho7 (za (zB HB))); have n1_ := zA (zaa (zB HB) hb); clear HB; have HO411 := n0_; have HB := n1_; clear n0_ n1_ hb ho7)))
   go_loopg [18] k (fun kq v18 w' => ∃ (x5_1 : List Int) (x18_1 : Int), v18 = .int .i64 x18_1 ∧ Aside0 (zaq.l0 kq l0 l1 x5_1 (l0.length : Int) x18_1 = some r) ∧ Aside0 (kq ≤ k) ∧ Aside0 (Kd.R (Kd.int .i64) 3 w' w.heap.size (fun _ => True) v410 x5_1) ∧ Aside0 (Below w.heap.size w w'))
   case atStart => exact ⟨(y409), (0), (zF), H', ⟨Nat.le_refl _⟩, ⟨zR HO411⟩, ⟨zB HB⟩⟩
   case round =>
    clear H'
    try clear c1
    try clear p2
    try clear c4
    try clear c4b0
    try clear c4b1
    try clear c5
    try clear c5b0
    try clear c5b1
    try clear p6
    obtain ⟨x5_1, x18_1, rfl, HA, HK1, HO_5, HB⟩ := hrel
    cases gk with
    | zero => exact absurd HA.out (by simp [zaq.l0])
    | succ k1 =>
     have H := HA.out
     clear HA
     simp only [zaq.l0] at H
     by_cases c8 : x18_1 < (l0.length : Int)
     ·
      rw [if_pos c8] at H
      have c8b0 : decide (x18_1 < (l0.length : Int)) = true := decide_eq_true c8
      clear c8
      have H' := zA H
      clear H
      go_wp2
      repeat (go_quiet (fail); try go_wp2)
      go_loopg [7, 23] k1 (fun kq v7 v23 w' => ∃ (x5_2 : List Int) (x7_2 : Int) (x23_2 : Int), v7 = .int .i64 x7_2 ∧ v23 = .int .i64 x23_2 ∧ Aside0 (zaq.l1 kq l0 l1 x5_2 x18_1 x7_2 (l0.length : Int) x18_1 (l1.length : Int) x23_2 = some r) ∧ Aside0 (kq ≤ k1) ∧ Aside0 (Kd.R (Kd.int .i64) 3 w' w.heap.size (fun _ => True) v410 x5_2) ∧ Aside0 (Below w.heap.size w w'))
      case atStart => exact ⟨(x5_1), (0), (0), (zF), (zF), H', ⟨Nat.le_refl _⟩, ⟨zR HO_5⟩, ⟨zB HB⟩⟩
      case round =>
       clear H'
       try clear c1
       try clear p2
       try clear c4
       try clear c4b0
       try clear c4b1
       try clear c5
       try clear c5b0
       try clear c5b1
       try clear p6
       try clear c8
       try clear c8b0
       try clear p2
       try clear p6
       obtain ⟨x5_2, x7_2, x23_2, rfl, rfl, HA, HK2, HO_5, HB⟩ := hrel
       cases gk with
       | zero => exact absurd HA.out (by simp [zaq.l1])
       | succ k2 =>
        have H := HA.out
        clear HA
        simp only [zaq.l1] at H
        by_cases c9 : x23_2 < (l1.length : Int)
        ·
         rw [if_pos c9] at H
         have c9b0 : decide (x23_2 < (l1.length : Int)) = true := decide_eq_true c9
         clear c9
         obtain ⟨ji10, hji10⟩ : ∃ j_ : Int, (wrap64 (x18_1 + x23_2)) = j_ := ⟨_, rfl⟩
         replace H : (if 0 ≤ (ji10) then (if (ji10) < (x5_2.length : Int) then (if 0 ≤ x18_1 then (if x18_1 < (l0.length : Int) then (if 0 ≤ x23_2 then (if x23_2 < (l1.length : Int) then (zaq.l1 k2 l0 l1 (x5_2.set ((ji10) : Int).toNat (Int.tmod (wrap64 ((wrap64 ((rd x5_2 (ji10)) + (wrap64 ((rd l0 x18_1) * (rd l1 x23_2))))) + x7_2)) 10000)) x18_1 (wrap64 (Int.tdiv (wrap64 ((wrap64 ((rd x5_2 (ji10)) + (wrap64 ((rd l0 x18_1) * (rd l1 x23_2))))) + x7_2)) 10000)) (l0.length : Int) x18_1 (l1.length : Int) (wrap64 (x23_2 + 1))) else (none)) else (none)) else (none)) else (none)) else (none)) else (none)) = some r := by first | (rw [hji10] at H; exact H) | (simp only [hji10] at H ⊢; exact H)
         have hji10w : (IntKind.i64.wrap (x18_1 + x23_2)) = ji10 := (i64_w _).trans hji10
         by_cases c11 : 0 ≤ (ji10)
         ·
          rw [if_pos c11] at H
          have c11b0 : decide (0 ≤ (ji10)) = true := decide_eq_true c11
          clear c11
          by_cases c12 : (ji10) < (x5_2.length : Int)
          ·
           rw [if_pos c12] at H
           have c12b0 : decide ((ji10) < (x5_2.length : Int)) = true := decide_eq_true c12
           clear c12
           by_cases c13 : 0 ≤ x18_1
           ·
            rw [if_pos c13] at H
            have c13b0 : decide (0 ≤ x18_1) = true := decide_eq_true c13
            clear c13
            by_cases c14 : x18_1 < (l0.length : Int)
            ·
             rw [if_pos c14] at H
             have c14b0 : decide (x18_1 < (l0.length : Int)) = true := decide_eq_true c14
             clear c14
             by_cases c15 : 0 ≤ x23_2
             ·
              rw [if_pos c15] at H
              have c15b0 : decide (0 ≤ x23_2) = true := decide_eq_true c15
              clear c15
              by_cases c16 : x23_2 < (l1.length : Int)
              ·
               rw [if_pos c16] at H
               have c16b0 : decide (x23_2 < (l1.length : Int)) = true := decide_eq_true c16
               clear c16
               obtain ⟨y418, hy418⟩ : ∃ y_ : List Int, y_ = (x5_2.set ((ji10) : Int).toNat (Int.tmod (wrap64 ((wrap64 ((rd x5_2 (ji10)) + (wrap64 ((rd l0 x18_1) * (rd l1 x23_2))))) + x7_2)) 10000)) := ⟨_, rfl⟩
               replace H : (zaq.l1 k2 l0 l1 y418 x18_1 (wrap64 (Int.tdiv (wrap64 ((wrap64 ((rd x5_2 (ji10)) + (wrap64 ((rd l0 x18_1) * (rd l1 x23_2))))) + x7_2)) 10000)) (l0.length : Int) x18_1 (l1.length : Int) (wrap64 (x23_2 + 1))) = some r := by first | (rw [hy418]; with_reducible exact H) | (have H2_ := (Option.bind_some _ _).symm.trans H; rw [hy418]; with_reducible exact H2_) | (have H2_ := (Option.bind_some _ _).symm.trans H; with_reducible exact H2_) | with_reducible exact H | (rw [hy418]; exact H) | exact H
               have Ny418 := zA hy418
               clear hy418
               have H' := zA H
               clear H
               obtain ⟨Ao18, co18, eo18⟩ := Kd.zbm HO_5.out
               subst eo18
               have p415 : 0 ≤ ((ji10) : Int) := of_decide_eq_true (by first | (with_reducible assumption) | assumption)
               have q415 : (ji10) < (x5_2.length : Int) := of_decide_eq_true (by first | (with_reducible assumption) | assumption)
               obtain ⟨ad415, e415, hx415_0⟩ := Kd.at_int (Kd.zay HO_5.out).2.2 (ji10) p415 q415
               cases e415
               replace p415 := eq_true p415
               replace q415 := eq_true q415
               have p416 : 0 ≤ (x18_1 : Int) := of_decide_eq_true (by first | (with_reducible assumption) | assumption)
               have q416 : x18_1 < (l0.length : Int) := of_decide_eq_true (by first | (with_reducible assumption) | assumption)
               obtain ⟨ad416, e416, hx416_0⟩ := Kd.at_int HR0.out x18_1 p416 q416
               cases e416
               replace hx416_0 := (HB.out.cell (World.block_lt_of_cell? w _ hx416_0)).trans hx416_0
               replace p416 := eq_true p416
               replace q416 := eq_true q416
               have p417 : 0 ≤ (x23_2 : Int) := of_decide_eq_true (by first | (with_reducible assumption) | assumption)
               have q417 : x23_2 < (l1.length : Int) := of_decide_eq_true (by first | (with_reducible assumption) | assumption)
               obtain ⟨ad417, e417, hx417_0⟩ := Kd.at_int HR1.out x23_2 p417 q417
               cases e417
               replace hx417_0 := (HB.out.cell (World.block_lt_of_cell? w _ hx417_0)).trans hx417_0
               replace p417 := eq_true p417
               replace q417 := eq_true q417
               have p17 : 0 ≤ ((ji10) : Int) := of_decide_eq_true (by first | (with_reducible assumption) | assumption)
               have q17 : ((ji10) : Int) < ((x5_2.length : Int) : Int) := of_decide_eq_true (by first | (with_reducible assumption) | assumption)
               obtain ⟨go17, co17, eo17, gb17, gl17, cl17, HG17⟩ := Kd.R_form HO_5.out (by omega)
               (first | cases eo17 | (injection eo17 with ea_ en_ ec_; (first | subst ea_ | (injection ea_ with ea_; subst ea_)); subst ec_; clear en_))
               have GB17 := zA gb17
               have GG17 := zA HG17
               clear gb17 gl17 HG17
               (first | simp only [add_plain] at hx415_0 | skip)
               obtain ⟨hx17_0, hf17_0⟩ := Kd.zda 0 HO_5.out ((ji10) : Int) p17 q17
               replace p17 := eq_true p17
               replace q17 := eq_true q17
               have HP19 := Kd.R_putg HO_5.out ((ji10) : Int) (Int.tmod (wrap64 ((wrap64 ((rd x5_2 (ji10)) + (wrap64 ((rd l0 x18_1) * (rd l1 x23_2))))) + x7_2)) 10000)
               go_wp2_with (first | ((with_reducible refine zdc (t := 3) (p := 50) rfl ?_); (try (rw [drewN_self wr]; generalize hq_ : World.drewN wr _ = wr; have n0_ := zA (Kd.R_at hq_ HO_5.out); have n1_ := zA (below_at hq_ HB.out); clear hq_ HO_5 HB; have HO_5 := n0_; have HB := n1_; clear n0_ n1_; (try (have HP19 := Kd.R_putg HO_5.out ((ji10) : Int) (Int.tmod (wrap64 ((wrap64 ((rd x5_2 (ji10)) + (wrap64 ((rd l0 x18_1) * (rd l1 x23_2))))) + x7_2)) 10000))); (try (obtain ⟨hx17_0, hf17_0⟩ := Kd.zda 0 HO_5.out ((ji10) : Int) (of_eq_true p17) (of_eq_true q17))))); refine zc4 (t := 3) (p := 50) (v := ?vo_w20) (w1 := (wr.setCell ⟨go17, ((ji10) : Int).toNat, none⟩ (.int .i64 (Int.tmod (wrap64 ((wrap64 ((rd x5_2 (ji10)) + (wrap64 ((rd l0 x18_1) * (rd l1 x23_2))))) + x7_2)) 10000)))) ?hg ?ho ?hn ?hr ?_; (case ho => rfl); (case hg => rfl); (case hn => rfl); (case hr => first | (go_simp; done) | (go_simp; rfl)); intro w20 hw; have hg : wr.grownBy w20 (some go17) := (by rw [hw]; exact HP19.2); have hp_ : Kd.R (Kd.int .i64) 3 w20 w.heap.size (fun _ => True) (.slice (some ⟨go17, 0, none⟩) x5_2.length co18) y418 := (by rw [hw, Ny418.out]; exact HP19.1); clear HP19; have n0_ := zA (hp_); have n1_ := zA ((by rw [hw]; exact zdg (HB.out) GB17.out : Below w.heap.size w w20)); clear HO_5 HB; have HO_5 := n0_; have HB := n1_; clear n0_ n1_ hg hw hp_))
               repeat (go_quiet (first | ((with_reducible refine zdc (t := 3) (p := 50) rfl ?_); (try (rw [drewN_self wr]; generalize hq_ : World.drewN wr _ = wr; have n0_ := zA (Kd.R_at hq_ HO_5.out); have n1_ := zA (below_at hq_ HB.out); clear hq_ HO_5 HB; have HO_5 := n0_; have HB := n1_; clear n0_ n1_; (try (have HP19 := Kd.R_putg HO_5.out ((ji10) : Int) (Int.tmod (wrap64 ((wrap64 ((rd x5_2 (ji10)) + (wrap64 ((rd l0 x18_1) * (rd l1 x23_2))))) + x7_2)) 10000))); (try (obtain ⟨hx17_0, hf17_0⟩ := Kd.zda 0 HO_5.out ((ji10) : Int) (of_eq_true p17) (of_eq_true q17))))); refine zc4 (t := 3) (p := 50) (v := ?vo_w20) (w1 := (wr.setCell ⟨go17, ((ji10) : Int).toNat, none⟩ (.int .i64 (Int.tmod (wrap64 ((wrap64 ((rd x5_2 (ji10)) + (wrap64 ((rd l0 x18_1) * (rd l1 x23_2))))) + x7_2)) 10000)))) ?hg ?ho ?hn ?hr ?_; (case ho => rfl); (case hg => rfl); (case hn => rfl); (case hr => first | (go_simp; done) | (go_simp; rfl)); intro w20 hw; have hg : wr.grownBy w20 (some go17) := (by rw [hw]; exact HP19.2); have hp_ : Kd.R (Kd.int .i64) 3 w20 w.heap.size (fun _ => True) (.slice (some ⟨go17, 0, none⟩) x5_2.length co18) y418 := (by rw [hw, Ny418.out]; exact HP19.1); clear HP19; have n0_ := zA (hp_); have n1_ := zA ((by rw [hw]; exact zdg (HB.out) GB17.out : Below w.heap.size w w20)); clear HO_5 HB; have HO_5 := n0_; have HB := n1_; clear n0_ n1_ hg hw hp_)); try go_wp2_with (first | ((with_reducible refine zdc (t := 3) (p := 50) rfl ?_); (try (rw [drewN_self wr]; generalize hq_ : World.drewN wr _ = wr; have n0_ := zA (Kd.R_at hq_ HO_5.out); have n1_ := zA (below_at hq_ HB.out); clear hq_ HO_5 HB; have HO_5 := n0_; have HB := n1_; clear n0_ n1_; (try (have HP19 := Kd.R_putg HO_5.out ((ji10) : Int) (Int.tmod (wrap64 ((wrap64 ((rd x5_2 (ji10)) + (wrap64 ((rd l0 x18_1) * (rd l1 x23_2))))) + x7_2)) 10000))); (try (obtain ⟨hx17_0, hf17_0⟩ := Kd.zda 0 HO_5.out ((ji10) : Int) (of_eq_true p17) (of_eq_true q17))))); refine zc4 (t := 3) (p := 50) (v := ?vo_w20) (w1 := (wr.setCell ⟨go17, ((ji10) : Int).toNat, none⟩ (.int .i64 (Int.tmod (wrap64 ((wrap64 ((rd x5_2 (ji10)) + (wrap64 ((rd l0 x18_1) * (rd l1 x23_2))))) + x7_2)) 10000)))) ?hg ?ho ?hn ?hr ?_; (case ho => rfl); (case hg => rfl); (case hn => rfl); (case hr => first | (go_simp; done) | (go_simp; rfl)); intro w20 hw; have hg : wr.grownBy w20 (some go17) := (by rw [hw]; exact HP19.2); have hp_ : Kd.R (Kd.int .i64) 3 w20 w.heap.size (fun _ => True) (.slice (some ⟨go17, 0, none⟩) x5_2.length co18) y418 := (by rw [hw, Ny418.out]; exact HP19.1); clear HP19; have n0_ := zA (hp_); have n1_ := zA ((by rw [hw]; exact zdg (HB.out) GB17.out : Below w.heap.size w w20)); clear HO_5 HB; have HO_5 := n0_; have HB := n1_; clear n0_ n1_ hg hw hp_)))
               go_roundg k2
               case measure => have := HK1.out; have := HK2.out; omega
               case rel => exact ⟨(y418), (wrap64 (Int.tdiv (wrap64 ((wrap64 ((rd x5_2 (ji10)) + (wrap64 ((rd l0 x18_1) * (rd l1 x23_2))))) + x7_2)) 10000)), (wrap64 (x23_2 + 1)), (by first | rfl | (simp; done) | (simp only [← hji10] <;> (first | rfl | simp)) | (simp [*]; done)), (zF), H', ⟨by have := HK1.out; have := HK2.out; omega⟩, ⟨zR HO_5⟩, ⟨zB HB⟩⟩
              ·
               rw [if_neg c16] at H
               exact absurd H (by simp)
             ·
              rw [if_neg c15] at H
              exact absurd H (by simp)
            ·
             rw [if_neg c14] at H
             exact absurd H (by simp)
           ·
            rw [if_neg c13] at H
            exact absurd H (by simp)
          ·
           rw [if_neg c12] at H
           exact absurd H (by simp)
         ·
          rw [if_neg c11] at H
          exact absurd H (by simp)
        ·
         rw [if_neg c9] at H
         have c9b0 : decide (x23_2 < (l1.length : Int)) = false := decide_eq_false c9
         clear c9
         obtain ⟨ji21, hji21⟩ : ∃ j_ : Int, (wrap64 (x18_1 + (l1.length : Int))) = j_ := ⟨_, rfl⟩
         replace H : (if 0 ≤ (ji21) then (if (ji21) < (x5_2.length : Int) then (zaq.l0 k2 l0 l1 (x5_2.set ((ji21) : Int).toNat (wrap64 ((rd x5_2 (ji21)) + x7_2))) (l0.length : Int) (wrap64 (x18_1 + 1))) else (none)) else (none)) = some r := by first | (rw [hji21] at H; exact H) | (simp only [hji21] at H ⊢; exact H)
         have hji21w : (IntKind.i64.wrap (x18_1 + (l1.length : Int))) = ji21 := (i64_w _).trans hji21
         by_cases c22 : 0 ≤ (ji21)
         ·
          rw [if_pos c22] at H
          have c22b0 : decide (0 ≤ (ji21)) = true := decide_eq_true c22
          clear c22
          by_cases c23 : (ji21) < (x5_2.length : Int)
          ·
           rw [if_pos c23] at H
           have c23b0 : decide ((ji21) < (x5_2.length : Int)) = true := decide_eq_true c23
           clear c23
           obtain ⟨y420, hy420⟩ : ∃ y_ : List Int, y_ = (x5_2.set ((ji21) : Int).toNat (wrap64 ((rd x5_2 (ji21)) + x7_2))) := ⟨_, rfl⟩
           replace H : (zaq.l0 k2 l0 l1 y420 (l0.length : Int) (wrap64 (x18_1 + 1))) = some r := by first | (rw [hy420]; with_reducible exact H) | (have H2_ := (Option.bind_some _ _).symm.trans H; rw [hy420]; with_reducible exact H2_) | (have H2_ := (Option.bind_some _ _).symm.trans H; with_reducible exact H2_) | with_reducible exact H | (rw [hy420]; exact H) | exact H
           have Ny420 := zA hy420
           clear hy420
           have H' := zA H
           clear H
           obtain ⟨Ao25, co25, eo25⟩ := Kd.zbm HO_5.out
           subst eo25
           have p419 : 0 ≤ ((ji21) : Int) := of_decide_eq_true (by first | (with_reducible assumption) | assumption)
           have q419 : (ji21) < (x5_2.length : Int) := of_decide_eq_true (by first | (with_reducible assumption) | assumption)
           obtain ⟨ad419, e419, hx419_0⟩ := Kd.at_int (Kd.zay HO_5.out).2.2 (ji21) p419 q419
           cases e419
           replace p419 := eq_true p419
           replace q419 := eq_true q419
           have p24 : 0 ≤ ((ji21) : Int) := of_decide_eq_true (by first | (with_reducible assumption) | assumption)
           have q24 : ((ji21) : Int) < ((x5_2.length : Int) : Int) := of_decide_eq_true (by first | (with_reducible assumption) | assumption)
           obtain ⟨go24, co24, eo24, gb24, gl24, cl24, HG24⟩ := Kd.R_form HO_5.out (by omega)
           (first | cases eo24 | (injection eo24 with ea_ en_ ec_; (first | subst ea_ | (injection ea_ with ea_; subst ea_)); subst ec_; clear en_))
           have GB24 := zA gb24
           have GG24 := zA HG24
           clear gb24 gl24 HG24
           (first | simp only [add_plain] at hx419_0 | skip)
           obtain ⟨hx24_0, hf24_0⟩ := Kd.zda 0 HO_5.out ((ji21) : Int) p24 q24
           replace p24 := eq_true p24
           replace q24 := eq_true q24
           have HP26 := Kd.R_putg HO_5.out ((ji21) : Int) (wrap64 ((rd x5_2 (ji21)) + x7_2))
           go_wp2_with (first | ((with_reducible refine zdc (t := 3) (p := 68) rfl ?_); (try (rw [drewN_self wr]; generalize hq_ : World.drewN wr _ = wr; have n0_ := zA (Kd.R_at hq_ HO_5.out); have n1_ := zA (below_at hq_ HB.out); clear hq_ HO_5 HB; have HO_5 := n0_; have HB := n1_; clear n0_ n1_; (try (have HP26 := Kd.R_putg HO_5.out ((ji21) : Int) (wrap64 ((rd x5_2 (ji21)) + x7_2)))); (try (obtain ⟨hx24_0, hf24_0⟩ := Kd.zda 0 HO_5.out ((ji21) : Int) (of_eq_true p24) (of_eq_true q24))))); refine zc4 (t := 3) (p := 68) (v := ?vo_w27) (w1 := (wr.setCell ⟨go24, ((ji21) : Int).toNat, none⟩ (.int .i64 (wrap64 ((rd x5_2 (ji21)) + x7_2))))) ?hg ?ho ?hn ?hr ?_; (case ho => rfl); (case hg => rfl); (case hn => rfl); (case hr => first | (go_simp; done) | (go_simp; rfl)); intro w27 hw; have hg : wr.grownBy w27 (some go24) := (by rw [hw]; exact HP26.2); have hp_ : Kd.R (Kd.int .i64) 3 w27 w.heap.size (fun _ => True) (.slice (some ⟨go24, 0, none⟩) x5_2.length co25) y420 := (by rw [hw, Ny420.out]; exact HP26.1); clear HP26; have n0_ := zA (hp_); have n1_ := zA ((by rw [hw]; exact zdg (HB.out) GB24.out : Below w.heap.size w w27)); clear HO_5 HB; have HO_5 := n0_; have HB := n1_; clear n0_ n1_ hg hw hp_))
           repeat (go_quiet (first | ((with_reducible refine zdc (t := 3) (p := 68) rfl ?_); (try (rw [drewN_self wr]; generalize hq_ : World.drewN wr _ = wr; have n0_ := zA (Kd.R_at hq_ HO_5.out); have n1_ := zA (below_at hq_ HB.out); clear hq_ HO_5 HB; have HO_5 := n0_; have HB := n1_; clear n0_ n1_; (try (have HP26 := Kd.R_putg HO_5.out ((ji21) : Int) (wrap64 ((rd x5_2 (ji21)) + x7_2)))); (try (obtain ⟨hx24_0, hf24_0⟩ := Kd.zda 0 HO_5.out ((ji21) : Int) (of_eq_true p24) (of_eq_true q24))))); refine zc4 (t := 3) (p := 68) (v := ?vo_w27) (w1 := (wr.setCell ⟨go24, ((ji21) : Int).toNat, none⟩ (.int .i64 (wrap64 ((rd x5_2 (ji21)) + x7_2))))) ?hg ?ho ?hn ?hr ?_; (case ho => rfl); (case hg => rfl); (case hn => rfl); (case hr => first | (go_simp; done) | (go_simp; rfl)); intro w27 hw; have hg : wr.grownBy w27 (some go24) := (by rw [hw]; exact HP26.2); have hp_ : Kd.R (Kd.int .i64) 3 w27 w.heap.size (fun _ => True) (.slice (some ⟨go24, 0, none⟩) x5_2.length co25) y420 := (by rw [hw, Ny420.out]; exact HP26.1); clear HP26; have n0_ := zA (hp_); have n1_ := zA ((by rw [hw]; exact zdg (HB.out) GB24.out : Below w.heap.size w w27)); clear HO_5 HB; have HO_5 := n0_; have HB := n1_; clear n0_ n1_ hg hw hp_)); try go_wp2_with (first | ((with_reducible refine zdc (t := 3) (p := 68) rfl ?_); (try (rw [drewN_self wr]; generalize hq_ : World.drewN wr _ = wr; have n0_ := zA (Kd.R_at hq_ HO_5.out); have n1_ := zA (below_at hq_ HB.out); clear hq_ HO_5 HB; have HO_5 := n0_; have HB := n1_; clear n0_ n1_; (try (have HP26 := Kd.R_putg HO_5.out ((ji21) : Int) (wrap64 ((rd x5_2 (ji21)) + x7_2)))); (try (obtain ⟨hx24_0, hf24_0⟩ := Kd.zda 0 HO_5.out ((ji21) : Int) (of_eq_true p24) (of_eq_true q24))))); refine zc4 (t := 3) (p := 68) (v := ?vo_w27) (w1 := (wr.setCell ⟨go24, ((ji21) : Int).toNat, none⟩ (.int .i64 (wrap64 ((rd x5_2 (ji21)) + x7_2))))) ?hg ?ho ?hn ?hr ?_; (case ho => rfl); (case hg => rfl); (case hn => rfl); (case hr => first | (go_simp; done) | (go_simp; rfl)); intro w27 hw; have hg : wr.grownBy w27 (some go24) := (by rw [hw]; exact HP26.2); have hp_ : Kd.R (Kd.int .i64) 3 w27 w.heap.size (fun _ => True) (.slice (some ⟨go24, 0, none⟩) x5_2.length co25) y420 := (by rw [hw, Ny420.out]; exact HP26.1); clear HP26; have n0_ := zA (hp_); have n1_ := zA ((by rw [hw]; exact zdg (HB.out) GB24.out : Below w.heap.size w w27)); clear HO_5 HB; have HO_5 := n0_; have HB := n1_; clear n0_ n1_ hg hw hp_)))
           go_roundg k2
           case measure => have := HK1.out; have := HK2.out; omega
           case rel => exact ⟨(y420), (wrap64 (x18_1 + 1)), (zF), H', ⟨by have := HK1.out; have := HK2.out; omega⟩, ⟨zR HO_5⟩, ⟨zB HB⟩⟩
          ·
           rw [if_neg c23] at H
           exact absurd H (by simp)
         ·
          rw [if_neg c22] at H
          exact absurd H (by simp)
     ·
      rw [if_neg c8] at H
      have c8b0 : decide (x18_1 < (l0.length : Int)) = false := decide_eq_false c8
      clear c8
      replace H := zO H
      obtain ⟨t412, A280, H⟩ := H
      try dsimp only at H
      have A28 := zA A280
      clear A280
      obtain rfl := Option.some.inj H
      obtain ⟨Ao29, co29, eo29⟩ := Kd.zbm HO_5.out
      subst eo29
      go_wp2_with (first | (go_at_call 120; (with_reducible refine (zar.calls k1 (fun k_ => some k_ = (.slice Ao29 x5_1.length co29 : Value).ownBlock) (.slice Ao29 x5_1.length co29) x5_1 t412 w _ ?side1 ?side2 A28.out).mono ?_); (case side1 => repeat (first | (with_reducible first | exact HB.out | apply zb | apply zbh | apply zbo) | exact HB.out)); (case side2 => exact Kd.zde rfl HO_5.out); rintro e w30 ⟨v413, rfl, ho0, hb, hkp⟩; have n0_ := zA (Kd.zbp (ok' := fun k_ => True) ho0 (fun k_ hk_ => trivial)); have n1_ := zA (hb); clear HB HO_5; have HO414 := n0_; have HB := n1_; clear n0_ n1_; (try clear hb); (try clear hkp); (try clear ho0)))
      repeat (go_quiet (first | (go_at_call 120; (with_reducible refine (zar.calls k1 (fun k_ => some k_ = (.slice Ao29 x5_1.length co29 : Value).ownBlock) (.slice Ao29 x5_1.length co29) x5_1 t412 w _ ?side1 ?side2 A28.out).mono ?_); (case side1 => repeat (first | (with_reducible first | exact HB.out | apply zb | apply zbh | apply zbo) | exact HB.out)); (case side2 => exact Kd.zde rfl HO_5.out); rintro e w30 ⟨v413, rfl, ho0, hb, hkp⟩; have n0_ := zA (Kd.zbp (ok' := fun k_ => True) ho0 (fun k_ hk_ => trivial)); have n1_ := zA (hb); clear HB HO_5; have HO414 := n0_; have HB := n1_; clear n0_ n1_; (try clear hb); (try clear hkp); (try clear ho0))); try go_wp2_with (first | (go_at_call 120; (with_reducible refine (zar.calls k1 (fun k_ => some k_ = (.slice Ao29 x5_1.length co29 : Value).ownBlock) (.slice Ao29 x5_1.length co29) x5_1 t412 w _ ?side1 ?side2 A28.out).mono ?_); (case side1 => repeat (first | (with_reducible first | exact HB.out | apply zb | apply zbh | apply zbo) | exact HB.out)); (case side2 => exact Kd.zde rfl HO_5.out); rintro e w30 ⟨v413, rfl, ho0, hb, hkp⟩; have n0_ := zA (Kd.zbp (ok' := fun k_ => True) ho0 (fun k_ hk_ => trivial)); have n1_ := zA (hb); clear HB HO_5; have HO414 := n0_; have HB := n1_; clear n0_ n1_; (try clear hb); (try clear hkp); (try clear ho0))))
      go_ret
      exact ⟨_, by first | rfl | (simp [zb7, zb4] <;> rfl) | (simp only [← hji3]; first | rfl | (simp [zb7, zb4] <;> rfl)) | (simp [*, zb7, zb4] <;> rfl), zR HO414, zB HB⟩
  ·
   rw [if_neg c5] at H
   exact absurd H (by simp)
 ·
  rw [if_neg c4] at H
  exact absurd H (by simp)
def zb5.f (l0 : List Int) (a1 : Int) : Option (Int) := if a1 < (l0.length : Int) then (if 0 ≤ a1 then (some (rd l0 a1)) else (none)) else (some 0)
theorem zb5.calls (A0 : Option Addr) (c0 : Nat) (l0 : List Int) (a1 : Int) (r : Int) (w : World) (hr0 : Kd.C (Kd.int .i64) w A0 l0.length l0) (hc0 : l0.length ≤ c0) (h : zb5.f l0 a1 = some r) :
  Calls Tryz.prog 134 #[.slice A0 l0.length c0, .int .i64 a1] w fun e w' => e = .returned (.int .i64 r) ∧ Drawn0 w w' := by
 have HR0 := zA hr0
 have HC0 := zA hc0
 clear hr0 hc0
 have H : (if a1 < (l0.length : Int) then (if 0 ≤ a1 then (some (rd l0 a1)) else (none)) else (some 0)) = some r := h
 clear h
 by_cases c3 : a1 < (l0.length : Int)
 ·
  rw [if_pos c3] at H
  have c3b0 : decide (a1 < (l0.length : Int)) = true := decide_eq_true c3
  clear c3
  by_cases c4 : 0 ≤ a1
  ·
   rw [if_pos c4] at H
   have c4b0 : decide (0 ≤ a1) = true := decide_eq_true c4
   clear c4
   obtain rfl := Option.some.inj H
   have p421 : 0 ≤ (a1 : Int) := of_decide_eq_true (by first | (with_reducible assumption) | assumption)
   have q421 : a1 < (l0.length : Int) := of_decide_eq_true (by first | (with_reducible assumption) | assumption)
   obtain ⟨ad421, e421, hx421_0⟩ := Kd.at_int HR0.out a1 p421 q421
   cases e421
   replace p421 := eq_true p421
   replace q421 := eq_true q421
   go_enter Tryz.func134, Tryz.ntmps134
   go_wp2
   go_ret
   exact ⟨zF, by repeat (first | exact Drawn0.refl _ | apply Drawn0.step)⟩
  ·
   rw [if_neg c4] at H
   exact absurd H (by simp)
 ·
  rw [if_neg c3] at H
  have c3b0 : decide (a1 < (l0.length : Int)) = false := decide_eq_false c3
  clear c3
  obtain rfl := Option.some.inj H
  go_enter Tryz.func134, Tryz.ntmps134
  go_wp2
  go_ret
  exact ⟨zF, by repeat (first | exact Drawn0.refl _ | apply Drawn0.step)⟩
def zba.l0 : Nat → List Int → List Int → List Int → Int → Int → Int → Option (List Int)
 | 0, _, _, _, _, _, _ => none
 | k + 1, x0, x1, x5, x6, x10, x11 => if x11 < x10 then (if 0 ≤ x11 then (if x11 < (x0.length : Int) then ((zb5.f x1 x11).bind fun t423 => (if (wrap64 ((wrap64 ((rd x0 x11) - t423)) - x6)) < 0 then (if x5.length < 17592186044416 then (zba.l0 k x0 x1 (x5 ++ [wrap64 ((wrap64 ((wrap64 ((rd x0 x11) - t423)) - x6)) + 10000)]) 1 x10 (wrap64 (x11 + 1))) else (none)) else (if x5.length < 17592186044416 then (zba.l0 k x0 x1 (x5 ++ [wrap64 ((wrap64 ((rd x0 x11) - t423)) - x6)]) 0 x10 (wrap64 (x11 + 1))) else (none)))) else (none)) else (none)) else ((zar.f k x5).bind fun t430 => (some t430))
def zba.f (k : Nat) (l0 : List Int) (l1 : List Int) : Option (List Int) := zba.l0 k l0 l1 ([] : List Int) 0 (l0.length : Int) 0
theorem zba.calls (k : Nat) (A0 : Option Addr) (c0 : Nat) (l0 : List Int) (A1 : Option Addr) (c1 : Nat) (l1 : List Int) (r : List Int) (w : World) (hr0 : Kd.C (Kd.int .i64) w A0 l0.length l0) (hc0 : l0.length ≤ c0) (hr1 : Kd.C (Kd.int .i64) w A1 l1.length l1) (hc1 : l1.length ≤ c1) (h : zba.f k l0 l1 = some r) :
  Calls Tryz.prog 92 #[.slice A0 l0.length c0, .slice A1 l1.length c1] w fun e w' => ∃ v0_ : Value, e = .returned (v0_) ∧ Kd.R (Kd.int .i64) 3 w' w.heap.size (fun _ => True) v0_ r ∧ Below w.heap.size w w' := by
 have HR0 := zA hr0
 have HC0 := zA hc0
 clear hr0 hc0
 have HR1 := zA hr1
 have HC1 := zA hc1
 clear hr1 hc1
 have HB := zA (Below.refl w.heap.size w)
 have H : (zba.l0 k l0 l1 ([] : List Int) 0 (l0.length : Int) 0) = some r := h
 clear h
 have H' := zA H
 clear H
 go_enter Tryz.func92, Tryz.ntmps92
 go_wp2
 repeat (go_quiet (fail); try go_wp2)
 go_loopg [5, 6, 11] k (fun kq v5 v6 v11 w' => ∃ (x5_1 : List Int) (x6_1 : Int) (x11_1 : Int), v6 = .int .i64 x6_1 ∧ v11 = .int .i64 x11_1 ∧ Aside0 (zba.l0 kq l0 l1 x5_1 x6_1 (l0.length : Int) x11_1 = some r) ∧ Aside0 (kq ≤ k) ∧ Aside0 (Kd.R (Kd.int .i64) 3 w' w.heap.size (fun _ => True) v5 x5_1) ∧ Aside0 (Below w.heap.size w w'))
 case atStart => exact ⟨(([] : List Int)), (0), (0), (zF), (zF), H', ⟨Nat.le_refl _⟩, ⟨by first | exact Kd.R_nil _ _ _ _ _ | exact Kd.N_nil _ _ _ _ _ | exact Kd.V_nil _ _ _ _ _ | exact Kd.Q_nil _ _ _ _ _ | exact Kd.S_nil _ _ _ _ _⟩, ⟨zB HB⟩⟩
 case round =>
  clear H'
  try clear c1
  try clear p2
  obtain ⟨x5_1, x6_1, x11_1, rfl, rfl, HA, HK1, HO_5, HB⟩ := hrel
  cases gk with
  | zero => exact absurd HA.out (by simp [zba.l0])
  | succ k1 =>
   have H := HA.out
   clear HA
   simp only [zba.l0] at H
   by_cases c3 : x11_1 < (l0.length : Int)
   ·
    rw [if_pos c3] at H
    have c3b0 : decide (x11_1 < (l0.length : Int)) = true := decide_eq_true c3
    clear c3
    by_cases c4 : 0 ≤ x11_1
    ·
     rw [if_pos c4] at H
     have c4b0 : decide (0 ≤ x11_1) = true := decide_eq_true c4
     clear c4
     by_cases c5 : x11_1 < (l0.length : Int)
     ·
      rw [if_pos c5] at H
      have c5b0 : decide (x11_1 < (l0.length : Int)) = true := decide_eq_true c5
      clear c5
      replace H := zO H
      obtain ⟨t423, A60, H⟩ := H
      try dsimp only at H
      have A6 := zA A60
      clear A60
      by_cases c7 : (wrap64 ((wrap64 ((rd l0 x11_1) - t423)) - x6_1)) < 0
      ·
       rw [if_pos c7] at H
       have c7b0 : decide ((wrap64 ((wrap64 ((rd l0 x11_1) - t423)) - x6_1)) < 0) = true := decide_eq_true c7
       clear c7
       by_cases c8 : x5_1.length < 17592186044416
       ·
        rw [if_pos c8] at H
        have LMc8 := zA c8
        clear c8
        obtain ⟨y424, hy424⟩ : ∃ y_ : List Int, y_ = (x5_1 ++ [wrap64 ((wrap64 ((wrap64 ((rd l0 x11_1) - t423)) - x6_1)) + 10000)]) := ⟨_, rfl⟩
        replace H : (zba.l0 k1 l0 l1 y424 1 (l0.length : Int) (wrap64 (x11_1 + 1))) = some r := by first | (rw [hy424]; with_reducible exact H) | (have H2_ := (Option.bind_some _ _).symm.trans H; rw [hy424]; with_reducible exact H2_) | (have H2_ := (Option.bind_some _ _).symm.trans H; with_reducible exact H2_) | with_reducible exact H | (rw [hy424]; exact H) | exact H
        have Ny424 := zA hy424
        clear hy424
        have H' := zA H
        clear H
        have p422 : 0 ≤ (x11_1 : Int) := of_decide_eq_true (by first | (with_reducible assumption) | assumption)
        have q422 : x11_1 < (l0.length : Int) := of_decide_eq_true (by first | (with_reducible assumption) | assumption)
        obtain ⟨ad422, e422, hx422_0⟩ := Kd.at_int HR0.out x11_1 p422 q422
        cases e422
        replace hx422_0 := (HB.out.cell (World.block_lt_of_cell? w _ hx422_0)).trans hx422_0
        replace p422 := eq_true p422
        replace q422 := eq_true q422
        go_wp2_with (first | (go_at_call 134; (with_reducible refine (zb5.calls _ _ l1 x11_1 t423 _ ?side1 ?side2 A6.out).mono ?_); (case side1 => exact zJ (Kd.zas HR1.out HB.out)); (case side2 => exact HC1.out); rintro e w' ⟨rfl, ⟨nd, rfl⟩⟩; (try first | exact ⟨rfl, _, World.drewN_drewN _ _ _⟩ | exact ⟨rfl, _, Eq.trans (World.drewN_drewN _ _ _) (congrArg (World.drewN _) (Nat.add_assoc _ _ _))⟩)) | ((with_reducible refine zb3 (b := .append) (xs := #[.tmp 28, .tmp 30]) rfl ?_); at_builtin; refine Kd.zdj (Kd.int .i64) (w0 := w) w.heap.size rfl (.tmp 28) (.tmp 30) 30 3 (.int .i64 0) 8 rfl Tryz.underlying30 info3 rfl (by decide) (by omega) u5 x5_1 (wrap64 ((wrap64 ((wrap64 ((rd l0 x11_1) - t423)) - x6_1)) + 10000)) [.int .i64 (wrap64 ((wrap64 ((wrap64 ((rd l0 x11_1) - t423)) - x6_1)) + 10000))] (fun _ => True) (fun _ => False) rfl rfl ?aP (fun _ hk => hk.elim) ?aF ?aO ?aB ?aS ?aL ?_; (case aP => exact rfl); (case aB => exact (zB HB)); (case aF => exact (fun _ _ => trivial)); (case aO => exact (zR HO_5)); (case aS => exact (za (zB HB))); (case aL => have := LMc8.out; omega); intro v425 w9 ho hb hg hat; rw [← Ny424.out] at ho; have n0_ := zA (hb); have n1_ := zA (ho); clear HB HO_5; have HB := n0_; have HO426 := n1_; clear n0_ n1_ ho hb hg hat))
        repeat (go_quiet (first | (go_at_call 134; (with_reducible refine (zb5.calls _ _ l1 x11_1 t423 _ ?side1 ?side2 A6.out).mono ?_); (case side1 => exact zJ (Kd.zas HR1.out HB.out)); (case side2 => exact HC1.out); rintro e w' ⟨rfl, ⟨nd, rfl⟩⟩; (try first | exact ⟨rfl, _, World.drewN_drewN _ _ _⟩ | exact ⟨rfl, _, Eq.trans (World.drewN_drewN _ _ _) (congrArg (World.drewN _) (Nat.add_assoc _ _ _))⟩)) | ((with_reducible refine zb3 (b := .append) (xs := #[.tmp 28, .tmp 30]) rfl ?_); at_builtin; refine Kd.zdj (Kd.int .i64) (w0 := w) w.heap.size rfl (.tmp 28) (.tmp 30) 30 3 (.int .i64 0) 8 rfl Tryz.underlying30 info3 rfl (by decide) (by omega) u5 x5_1 (wrap64 ((wrap64 ((wrap64 ((rd l0 x11_1) - t423)) - x6_1)) + 10000)) [.int .i64 (wrap64 ((wrap64 ((wrap64 ((rd l0 x11_1) - t423)) - x6_1)) + 10000))] (fun _ => True) (fun _ => False) rfl rfl ?aP (fun _ hk => hk.elim) ?aF ?aO ?aB ?aS ?aL ?_; (case aP => exact rfl); (case aB => exact (zB HB)); (case aF => exact (fun _ _ => trivial)); (case aO => exact (zR HO_5)); (case aS => exact (za (zB HB))); (case aL => have := LMc8.out; omega); intro v425 w9 ho hb hg hat; rw [← Ny424.out] at ho; have n0_ := zA (hb); have n1_ := zA (ho); clear HB HO_5; have HB := n0_; have HO426 := n1_; clear n0_ n1_ ho hb hg hat)); try go_wp2_with (first | (go_at_call 134; (with_reducible refine (zb5.calls _ _ l1 x11_1 t423 _ ?side1 ?side2 A6.out).mono ?_); (case side1 => exact zJ (Kd.zas HR1.out HB.out)); (case side2 => exact HC1.out); rintro e w' ⟨rfl, ⟨nd, rfl⟩⟩; (try first | exact ⟨rfl, _, World.drewN_drewN _ _ _⟩ | exact ⟨rfl, _, Eq.trans (World.drewN_drewN _ _ _) (congrArg (World.drewN _) (Nat.add_assoc _ _ _))⟩)) | ((with_reducible refine zb3 (b := .append) (xs := #[.tmp 28, .tmp 30]) rfl ?_); at_builtin; refine Kd.zdj (Kd.int .i64) (w0 := w) w.heap.size rfl (.tmp 28) (.tmp 30) 30 3 (.int .i64 0) 8 rfl Tryz.underlying30 info3 rfl (by decide) (by omega) u5 x5_1 (wrap64 ((wrap64 ((wrap64 ((rd l0 x11_1) - t423)) - x6_1)) + 10000)) [.int .i64 (wrap64 ((wrap64 ((wrap64 ((rd l0 x11_1) - t423)) - x6_1)) + 10000))] (fun _ => True) (fun _ => False) rfl rfl ?aP (fun _ hk => hk.elim) ?aF ?aO ?aB ?aS ?aL ?_; (case aP => exact rfl); (case aB => exact (zB HB)); (case aF => exact (fun _ _ => trivial)); (case aO => exact (zR HO_5)); (case aS => exact (za (zB HB))); (case aL => have := LMc8.out; omega); intro v425 w9 ho hb hg hat; rw [← Ny424.out] at ho; have n0_ := zA (hb); have n1_ := zA (ho); clear HB HO_5; have HB := n0_; have HO426 := n1_; clear n0_ n1_ ho hb hg hat)))
        go_roundg k1
        case measure => have := HK1.out; omega
        case rel => exact ⟨(y424), (1), (wrap64 (x11_1 + 1)), (zF), (zF), H', ⟨by have := HK1.out; omega⟩, ⟨zR HO426⟩, ⟨zB HB⟩⟩
       ·
        rw [if_neg c8] at H
        exact absurd H (by simp)
      ·
       rw [if_neg c7] at H
       have c7b0 : decide ((wrap64 ((wrap64 ((rd l0 x11_1) - t423)) - x6_1)) < 0) = false := decide_eq_false c7
       clear c7
       by_cases c10 : x5_1.length < 17592186044416
       ·
        rw [if_pos c10] at H
        have LMc10 := zA c10
        clear c10
        obtain ⟨y427, hy427⟩ : ∃ y_ : List Int, y_ = (x5_1 ++ [wrap64 ((wrap64 ((rd l0 x11_1) - t423)) - x6_1)]) := ⟨_, rfl⟩
        replace H : (zba.l0 k1 l0 l1 y427 0 (l0.length : Int) (wrap64 (x11_1 + 1))) = some r := by first | (rw [hy427]; with_reducible exact H) | (have H2_ := (Option.bind_some _ _).symm.trans H; rw [hy427]; with_reducible exact H2_) | (have H2_ := (Option.bind_some _ _).symm.trans H; with_reducible exact H2_) | with_reducible exact H | (rw [hy427]; exact H) | exact H
        have Ny427 := zA hy427
        clear hy427
        have H' := zA H
        clear H
        have p422 : 0 ≤ (x11_1 : Int) := of_decide_eq_true (by first | (with_reducible assumption) | assumption)
        have q422 : x11_1 < (l0.length : Int) := of_decide_eq_true (by first | (with_reducible assumption) | assumption)
        obtain ⟨ad422, e422, hx422_0⟩ := Kd.at_int HR0.out x11_1 p422 q422
        cases e422
        replace hx422_0 := (HB.out.cell (World.block_lt_of_cell? w _ hx422_0)).trans hx422_0
        replace p422 := eq_true p422
        replace q422 := eq_true q422
        go_wp2_with (first | (go_at_call 134; (with_reducible refine (zb5.calls _ _ l1 x11_1 t423 _ ?side1 ?side2 A6.out).mono ?_); (case side1 => exact zJ (Kd.zas HR1.out HB.out)); (case side2 => exact HC1.out); rintro e w' ⟨rfl, ⟨nd, rfl⟩⟩; (try first | exact ⟨rfl, _, World.drewN_drewN _ _ _⟩ | exact ⟨rfl, _, Eq.trans (World.drewN_drewN _ _ _) (congrArg (World.drewN _) (Nat.add_assoc _ _ _))⟩)) | ((with_reducible refine zb3 (b := .append) (xs := #[.tmp 28, .tmp 30]) rfl ?_); at_builtin; refine Kd.zdj (Kd.int .i64) (w0 := w) w.heap.size rfl (.tmp 28) (.tmp 30) 30 3 (.int .i64 0) 8 rfl Tryz.underlying30 info3 rfl (by decide) (by omega) u5 x5_1 (wrap64 ((wrap64 ((rd l0 x11_1) - t423)) - x6_1)) [.int .i64 (wrap64 ((wrap64 ((rd l0 x11_1) - t423)) - x6_1))] (fun _ => True) (fun _ => False) rfl rfl ?aP (fun _ hk => hk.elim) ?aF ?aO ?aB ?aS ?aL ?_; (case aP => exact rfl); (case aB => exact (zB HB)); (case aF => exact (fun _ _ => trivial)); (case aO => exact (zR HO_5)); (case aS => exact (za (zB HB))); (case aL => have := LMc10.out; omega); intro v428 w11 ho hb hg hat; rw [← Ny427.out] at ho; have n0_ := zA (hb); have n1_ := zA (ho); clear HB HO_5; have HB := n0_; have HO429 := n1_; clear n0_ n1_ ho hb hg hat))
        repeat (go_quiet (first | (go_at_call 134; (with_reducible refine (zb5.calls _ _ l1 x11_1 t423 _ ?side1 ?side2 A6.out).mono ?_); (case side1 => exact zJ (Kd.zas HR1.out HB.out)); (case side2 => exact HC1.out); rintro e w' ⟨rfl, ⟨nd, rfl⟩⟩; (try first | exact ⟨rfl, _, World.drewN_drewN _ _ _⟩ | exact ⟨rfl, _, Eq.trans (World.drewN_drewN _ _ _) (congrArg (World.drewN _) (Nat.add_assoc _ _ _))⟩)) | ((with_reducible refine zb3 (b := .append) (xs := #[.tmp 28, .tmp 30]) rfl ?_); at_builtin; refine Kd.zdj (Kd.int .i64) (w0 := w) w.heap.size rfl (.tmp 28) (.tmp 30) 30 3 (.int .i64 0) 8 rfl Tryz.underlying30 info3 rfl (by decide) (by omega) u5 x5_1 (wrap64 ((wrap64 ((rd l0 x11_1) - t423)) - x6_1)) [.int .i64 (wrap64 ((wrap64 ((rd l0 x11_1) - t423)) - x6_1))] (fun _ => True) (fun _ => False) rfl rfl ?aP (fun _ hk => hk.elim) ?aF ?aO ?aB ?aS ?aL ?_; (case aP => exact rfl); (case aB => exact (zB HB)); (case aF => exact (fun _ _ => trivial)); (case aO => exact (zR HO_5)); (case aS => exact (za (zB HB))); (case aL => have := LMc10.out; omega); intro v428 w11 ho hb hg hat; rw [← Ny427.out] at ho; have n0_ := zA (hb); have n1_ := zA (ho); clear HB HO_5; have HB := n0_; have HO429 := n1_; clear n0_ n1_ ho hb hg hat)); try go_wp2_with (first | (go_at_call 134; (with_reducible refine (zb5.calls _ _ l1 x11_1 t423 _ ?side1 ?side2 A6.out).mono ?_); (case side1 => exact zJ (Kd.zas HR1.out HB.out)); (case side2 => exact HC1.out); rintro e w' ⟨rfl, ⟨nd, rfl⟩⟩; (try first | exact ⟨rfl, _, World.drewN_drewN _ _ _⟩ | exact ⟨rfl, _, Eq.trans (World.drewN_drewN _ _ _) (congrArg (World.drewN _) (Nat.add_assoc _ _ _))⟩)) | ((with_reducible refine zb3 (b := .append) (xs := #[.tmp 28, .tmp 30]) rfl ?_); at_builtin; refine Kd.zdj (Kd.int .i64) (w0 := w) w.heap.size rfl (.tmp 28) (.tmp 30) 30 3 (.int .i64 0) 8 rfl Tryz.underlying30 info3 rfl (by decide) (by omega) u5 x5_1 (wrap64 ((wrap64 ((rd l0 x11_1) - t423)) - x6_1)) [.int .i64 (wrap64 ((wrap64 ((rd l0 x11_1) - t423)) - x6_1))] (fun _ => True) (fun _ => False) rfl rfl ?aP (fun _ hk => hk.elim) ?aF ?aO ?aB ?aS ?aL ?_; (case aP => exact rfl); (case aB => exact (zB HB)); (case aF => exact (fun _ _ => trivial)); (case aO => exact (zR HO_5)); (case aS => exact (za (zB HB))); (case aL => have := LMc10.out; omega); intro v428 w11 ho hb hg hat; rw [← Ny427.out] at ho; have n0_ := zA (hb); have n1_ := zA (ho); clear HB HO_5; have HB := n0_; have HO429 := n1_; clear n0_ n1_ ho hb hg hat)))
        go_roundg k1
        case measure => have := HK1.out; omega
        case rel => exact ⟨(y427), (0), (wrap64 (x11_1 + 1)), (zF), (zF), H', ⟨by have := HK1.out; omega⟩, ⟨zR HO429⟩, ⟨zB HB⟩⟩
       ·
        rw [if_neg c10] at H
        exact absurd H (by simp)
     ·
      rw [if_neg c5] at H
      exact absurd H (by simp)
    ·
     rw [if_neg c4] at H
     exact absurd H (by simp)
   ·
    rw [if_neg c3] at H
    have c3b0 : decide (x11_1 < (l0.length : Int)) = false := decide_eq_false c3
    clear c3
    replace H := zO H
    obtain ⟨t430, A120, H⟩ := H
    try dsimp only at H
    have A12 := zA A120
    clear A120
    obtain rfl := Option.some.inj H
    obtain ⟨Ao13, co13, eo13⟩ := Kd.zbm HO_5.out
    subst eo13
    go_wp2_with (first | (go_at_call 120; (with_reducible refine (zar.calls k1 (fun k_ => some k_ = (.slice Ao13 x5_1.length co13 : Value).ownBlock) (.slice Ao13 x5_1.length co13) x5_1 t430 w _ ?side1 ?side2 A12.out).mono ?_); (case side1 => repeat (first | (with_reducible first | exact HB.out | apply zb | apply zbh | apply zbo) | exact HB.out)); (case side2 => exact Kd.zde rfl HO_5.out); rintro e w14 ⟨v431, rfl, ho0, hb, hkp⟩; have n0_ := zA (Kd.zbp (ok' := fun k_ => True) ho0 (fun k_ hk_ => trivial)); have n1_ := zA (hb); clear HB HO_5; have HO432 := n0_; have HB := n1_; clear n0_ n1_; (try clear hb); (try clear hkp); (try clear ho0)))
    repeat (go_quiet (first | (go_at_call 120; (with_reducible refine (zar.calls k1 (fun k_ => some k_ = (.slice Ao13 x5_1.length co13 : Value).ownBlock) (.slice Ao13 x5_1.length co13) x5_1 t430 w _ ?side1 ?side2 A12.out).mono ?_); (case side1 => repeat (first | (with_reducible first | exact HB.out | apply zb | apply zbh | apply zbo) | exact HB.out)); (case side2 => exact Kd.zde rfl HO_5.out); rintro e w14 ⟨v431, rfl, ho0, hb, hkp⟩; have n0_ := zA (Kd.zbp (ok' := fun k_ => True) ho0 (fun k_ hk_ => trivial)); have n1_ := zA (hb); clear HB HO_5; have HO432 := n0_; have HB := n1_; clear n0_ n1_; (try clear hb); (try clear hkp); (try clear ho0))); try go_wp2_with (first | (go_at_call 120; (with_reducible refine (zar.calls k1 (fun k_ => some k_ = (.slice Ao13 x5_1.length co13 : Value).ownBlock) (.slice Ao13 x5_1.length co13) x5_1 t430 w _ ?side1 ?side2 A12.out).mono ?_); (case side1 => repeat (first | (with_reducible first | exact HB.out | apply zb | apply zbh | apply zbo) | exact HB.out)); (case side2 => exact Kd.zde rfl HO_5.out); rintro e w14 ⟨v431, rfl, ho0, hb, hkp⟩; have n0_ := zA (Kd.zbp (ok' := fun k_ => True) ho0 (fun k_ hk_ => trivial)); have n1_ := zA (hb); clear HB HO_5; have HO432 := n0_; have HB := n1_; clear n0_ n1_; (try clear hb); (try clear hkp); (try clear ho0))))
    go_ret
    exact ⟨_, zW, zR HO432, zB HB⟩
mutual
def zan.l0 : Nat → List Int → List Int → List Int → List Int → Int → Option (List Int × List Int)
 | 0, _, _, _, _, _ => none
 | k + 1, x0, x1, x6, x7, x8 => if x8 ≥ 0 then (if 0 ≤ x8 then (if x8 < (x0.length : Int) then ((some (([rd x0 x8] : List Int) : List Int)).bind fun y440 => (if y440.length + x7.length < 17592186044416 then ((zar.f k (y440 ++ x7)).bind fun t446 => (zan.l1 k x0 x1 x6 t446 x8 0 9999)) else (none))) else (none)) else (none)) else ((zar.f k x6).bind fun t436 => (some (t436, x7)))
def zan.l1 : Nat → List Int → List Int → List Int → List Int → Int → Int → Int → Option (List Int × List Int)
 | 0, _, _, _, _, _, _, _ => none
 | k + 1, x0, x1, x6, x7, x8, x9, x10 => if x9 < x10 then ((zav.f k (wrap64 (Int.tdiv (wrap64 ((wrap64 (x9 + x10)) + 1)) 2))).bind fun t459 => ((zaq.f k x1 t459).bind fun t462 => ((za3.f k t462 x7).bind fun t465 => (if t465 ≤ 0 then (zan.l1 k x0 x1 x6 x7 x8 (wrap64 (Int.tdiv (wrap64 ((wrap64 (x9 + x10)) + 1)) 2)) x10) else (zan.l1 k x0 x1 x6 x7 x8 x9 (wrap64 ((wrap64 (Int.tdiv (wrap64 ((wrap64 (x9 + x10)) + 1)) 2)) - 1))))))) else (if 0 ≤ x8 then (if x8 < (x6.length : Int) then ((zav.f k x9).bind fun t450 => ((zaq.f k x1 t450).bind fun t453 => ((zba.f k x7 t453).bind fun t456 => (zan.l0 k x0 x1 (x6.set (x8 : Int).toNat x9) t456 (wrap64 (x8 - 1)))))) else (none)) else (none))
end
def zan.f (k : Nat) (l0 : List Int) (l1 : List Int) : Option (List Int × List Int) := if 0 ≤ (l0.length : Int) then (if ((l0.length : Int) : Int).toNat ≤ 35184372088832 then (zan.l0 k l0 l1 (List.replicate ((l0.length : Int) : Int).toNat 0) ([] : List Int) (wrap64 ((l0.length : Int) - 1))) else (none)) else (none)
theorem zan.calls (k : Nat) (A0 : Option Addr) (c0 : Nat) (l0 : List Int) (A1 : Option Addr) (c1 : Nat) (l1 : List Int) (r1 : List Int) (r2 : List Int) (w : World) (hr0 : Kd.C (Kd.int .i64) w A0 l0.length l0) (hc0 : l0.length ≤ c0) (hr1 : Kd.C (Kd.int .i64) w A1 l1.length l1) (hc1 : l1.length ≤ c1) (h : zan.f k l0 l1 = some (r1, r2)) :
  Calls Tryz.prog 69 #[.slice A0 l0.length c0, .slice A1 l1.length c1] w fun e w' => ∃ v0_ v1_ : Value, e = .returned (.tuple #[v0_, v1_]) ∧ Kd.R (Kd.int .i64) 3 w' w.heap.size (fun k_ => some k_ ≠ (v1_ : Value).ownBlock) v0_ r1 ∧ Kd.R (Kd.int .i64) 3 w' w.heap.size (fun k_ => some k_ ≠ (v0_ : Value).ownBlock) v1_ r2 ∧ Below w.heap.size w w' := by
 have HR0 := zA hr0
 have HC0 := zA hc0
 clear hr0 hc0
 have HR1 := zA hr1
 have HC1 := zA hc1
 clear hr1 hc1
 have HB := zA (Below.refl w.heap.size w)
 have H : (if 0 ≤ (l0.length : Int) then (if ((l0.length : Int) : Int).toNat ≤ 35184372088832 then (zan.l0 k l0 l1 (List.replicate ((l0.length : Int) : Int).toNat 0) ([] : List Int) (wrap64 ((l0.length : Int) - 1))) else (none)) else (none)) = some (r1, r2) := h
 clear h
 by_cases c3 : 0 ≤ (l0.length : Int)
 ·
  rw [if_pos c3] at H
  have c3b0 := eq_true c3
  have c3b1 : decide (0 ≤ (l0.length : Int)) = true := decide_eq_true c3
  clear c3
  by_cases c4 : ((l0.length : Int) : Int).toNat ≤ 35184372088832
  ·
   rw [if_pos c4] at H
   have c4b0 := eq_true c4
   have c4b1 : decide (((l0.length : Int) : Int).toNat ≤ 35184372088832) = true := decide_eq_true c4
   clear c4
   obtain ⟨y433, hy433⟩ : ∃ y_ : List Int, y_ = (List.replicate ((l0.length : Int) : Int).toNat 0) := ⟨_, rfl⟩
   replace H : (zan.l0 k l0 l1 y433 ([] : List Int) (wrap64 ((l0.length : Int) - 1))) = some (r1, r2) := by first | (rw [hy433]; with_reducible exact H) | (have H2_ := (Option.bind_some _ _).symm.trans H; rw [hy433]; with_reducible exact H2_) | (have H2_ := (Option.bind_some _ _).symm.trans H; with_reducible exact H2_) | with_reducible exact H | (rw [hy433]; exact H) | exact H
   have Ny433 := zA hy433
   clear hy433
   have H' := zA H
   clear H
   go_enter Tryz.func69, Tryz.ntmps69
   go_wp2_with (first | ((with_reducible refine za8 (N := 14) rfl ?_); refine Kd.R_make (Kd.int .i64) _ 3 rfl (N := 14) rfl 30 _ _ rfl (l0.length : Int) rfl rfl Tryz.underlying30 (.int .i64 0) 8 info3 rfl (by decide) (by omega) 0 (ok := fun _ => True) (okp := fun _ => True) rfl (fun _ hk => hk) trivial (of_decide_eq_true (by first | (with_reducible assumption) | assumption)) (Nat.le_trans (Nat.mul_le_mul_right _ (of_decide_eq_true (by first | (with_reducible assumption) | assumption) : (l0.length : Int).toNat ≤ 35184372088832)) (by omega)) (Below.refl _ _) (Nat.le_refl _) ?_; intro v434 w5 ho6 hb hg_ hnew_; clear hg_ hnew_; (first | rw [← Ny433.out] at ho6 | (simp only [Int.reduceToNat] at ho6; rw [← Ny433.out] at ho6)); have n0_ := zA (Kd.zbs ho6 (za (zB HB))); have n1_ := zA (zaa (zB HB) hb); clear HB; have HO435 := n0_; have HB := n1_; clear n0_ n1_ hb ho6))
   go_loopg [7, 8] k (fun kq v7 v8 w' => ∃ (x6_1 : List Int) (x7_1 : List Int) (x8_1 : Int), v8 = .int .i64 x8_1 ∧ Aside0 (zan.l0 kq l0 l1 x6_1 x7_1 x8_1 = some (r1, r2)) ∧ Aside0 (kq ≤ k) ∧ Aside0 (Kd.R (Kd.int .i64) 3 w' w.heap.size (fun k_ => some k_ ≠ (v7 : Value).ownBlock) v434 x6_1) ∧ Aside0 (Kd.R (Kd.int .i64) 3 w' w.heap.size (fun k_ => some k_ ≠ (v434 : Value).ownBlock) v7 x7_1) ∧ Aside0 (Below w.heap.size w w'))
   case atStart => exact ⟨(y433), (([] : List Int)), (wrap64 ((l0.length : Int) - 1)), (zF), H', ⟨Nat.le_refl _⟩, ⟨by (with_reducible repeat (first | apply Kd.zca | apply Kd.zcb | apply Kd.zcl)); exact Kd.zbp HO435.out (fun _ hk => (by simp [Value.ownBlock]))⟩, ⟨by first | exact Kd.R_nil _ _ _ _ _ | exact Kd.N_nil _ _ _ _ _ | exact Kd.V_nil _ _ _ _ _ | exact Kd.Q_nil _ _ _ _ _ | exact Kd.S_nil _ _ _ _ _⟩, ⟨zB HB⟩⟩
   case round =>
    clear H'
    try clear c1
    try clear p2
    try clear c3
    try clear c3b0
    try clear c3b1
    try clear c4
    try clear c4b0
    try clear c4b1
    try clear c6
    try clear p6
    obtain ⟨x6_1, x7_1, x8_1, rfl, HA, HK1, HO_6, HO_7, HB⟩ := hrel
    cases gk with
    | zero => exact absurd HA.out (by simp [zan.l0])
    | succ k1 =>
     have H := HA.out
     clear HA
     simp only [zan.l0] at H
     by_cases c7 : x8_1 ≥ 0
     ·
      rw [if_pos c7] at H
      have c7b0 : decide (0 ≤ x8_1) = true := decide_eq_true c7
      clear c7
      by_cases c8 : 0 ≤ x8_1
      ·
       rw [if_pos c8] at H
       have c8b0 : decide (0 ≤ x8_1) = true := decide_eq_true c8
       clear c8
       by_cases c9 : x8_1 < (l0.length : Int)
       ·
        rw [if_pos c9] at H
        have c9b0 : decide (x8_1 < (l0.length : Int)) = true := decide_eq_true c9
        clear c9
        obtain ⟨y440, hy440⟩ : ∃ y_ : List Int, y_ = (([rd l0 x8_1] : List Int)) := ⟨_, rfl⟩
        replace H : (if y440.length + x7_1.length < 17592186044416 then ((zar.f k1 (y440 ++ x7_1)).bind fun t446 => (zan.l1 k1 l0 l1 x6_1 t446 x8_1 0 9999)) else (none)) = some (r1, r2) := by first | (rw [hy440]; with_reducible exact H) | (have H2_ := (Option.bind_some _ _).symm.trans H; rw [hy440]; with_reducible exact H2_) | (have H2_ := (Option.bind_some _ _).symm.trans H; with_reducible exact H2_) | with_reducible exact H | (rw [hy440]; exact H) | exact H
        have Ny440 := zA hy440
        clear hy440
        by_cases c10 : y440.length + x7_1.length < 17592186044416
        ·
         rw [if_pos c10] at H
         have LMc10 := zA c10
         clear c10
         obtain ⟨y443, hy443⟩ : ∃ y_ : List Int, y_ = (y440 ++ x7_1) := ⟨_, rfl⟩
         replace H : ((zar.f k1 y443).bind fun t446 => (zan.l1 k1 l0 l1 x6_1 t446 x8_1 0 9999)) = some (r1, r2) := by first | (rw [hy443]; with_reducible exact H) | (have H2_ := (Option.bind_some _ _).symm.trans H; rw [hy443]; with_reducible exact H2_) | (have H2_ := (Option.bind_some _ _).symm.trans H; with_reducible exact H2_) | with_reducible exact H | (rw [hy443]; exact H) | exact H
         have Ny443 := zA hy443
         clear hy443
         replace H := zO H
         obtain ⟨t446, A110, H⟩ := H
         try dsimp only at H
         have A11 := zA A110
         clear A110
         have H' := zA H
         clear H
         have p439 : 0 ≤ (x8_1 : Int) := of_decide_eq_true (by first | (with_reducible assumption) | assumption)
         have q439 : x8_1 < (l0.length : Int) := of_decide_eq_true (by first | (with_reducible assumption) | assumption)
         obtain ⟨ad439, e439, hx439_0⟩ := Kd.at_int HR0.out x8_1 p439 q439
         cases e439
         replace hx439_0 := (HB.out.cell (World.block_lt_of_cell? w _ hx439_0)).trans hx439_0
         replace p439 := eq_true p439
         replace q439 := eq_true q439
         go_wp2_with (first | ((with_reducible refine za8 (N := 26) rfl ?_); refine Kd.R_lit (Kd.int .i64) _ 3 ?hg (N := 26) ?hd (xs := ([rd l0 x8_1] : List Int)) (inner := [.int .i64 (rd l0 x8_1)]) (ok := fun _ => True) (okp := fun _ => True) ?hr ?hp (fun _ hk => hk) trivial (Below.refl _ _) (Nat.le_refl _) (by simp) ?_; (case hd => rfl); (case hg => rfl); (case hr => first | (go_simp; done) | (go_simp; rfl)); (case hp => exact (Reps.one (show Kd.M (Kd.int .i64) _ _ _ (rd l0 x8_1) [.int .i64 (rd l0 x8_1)] from rfl) (Reps.none _ _))); intro v441 w12 ho13 hb hg_ hnew_; clear hg_ hnew_; (first | rw [← Ny440.out] at ho13 | (simp only [Int.reduceToNat] at ho13; rw [← Ny440.out] at ho13)); have n0_ := zA (Kd.zb1 (zR HO_6) (Kd.zbj ho13) hb); have n1_ := zA (Kd.zb1 (zR HO_7) (Kd.zbj ho13) hb); have n2_ := zA (Kd.zbs (Kd.zcm (Kd.zcm ho13 (Kd.R_lt (zR HO_6))) (Kd.R_lt (zR HO_7))) (za (zB HB))); have n3_ := zA (zaa (zB HB) hb); clear HO_6 HO_7 HB; have HO_6 := n0_; have HO_7 := n1_; have HO442 := n2_; have HB := n3_; clear n0_ n1_ n2_ n3_ hb ho13; obtain ⟨Ao15, co15, eo15⟩ := Kd.zbm HO_7.out; subst eo15) | ((with_reducible refine zb3 (b := .append) (xs := #[.tmp 26, .tmp 27]) rfl ?_); at_builtin; refine Kd.R_append_rows (Kd.int .i64) (w0 := w) w.heap.size rfl (.tmp 26) (.tmp 27) 30 3 (.int .i64 0) 8 rfl Tryz.underlying30 info3 rfl (by decide) (by omega) v441 y440 x7_1 _ _ _ (fun k_ => some k_ ≠ (v434 : Value).ownBlock ∧ some k_ ≠ (.slice Ao15 x7_1.length co15 : Value).ownBlock) (fun _ => False) rfl rfl ?aO ?aR (fun _ _ h => h) (fun _ h => h.elim) ?aF ?aB ?aS ?aL ?_; (case aR => exact zJ (Kd.zay HO_7.out).2.2); (case aB => exact (zB HB)); (case aF => exact (fun k_ hk => ⟨Kd.fresh' (Kd.R_lt (zR HO_6)) k_ hk, Kd.fresh' (Kd.R_lt (zR HO_7)) k_ hk⟩)); (case aO => exact (by (with_reducible repeat (first | apply Kd.zca | apply Kd.zcb | apply Kd.zcl)); exact Kd.zbp HO442.out (fun _ hk => ⟨hk.1.2, hk.2⟩))); (case aS => exact (za (zB HB))); (case aL => have := LMc10.out; omega); intro v444 w14 ho hb hg hat; rw [← Ny443.out] at ho; have n0_ := zA (Kd.R_after (ok := (fun k_ => some k_ ≠ (.slice Ao15 x7_1.length co15 : Value).ownBlock)) (zR HO_6) hg hat); have n1_ := zA (Kd.R_after (ok := (fun k_ => some k_ ≠ (v434 : Value).ownBlock)) (zR HO_7) hg hat); have n2_ := zA (hb); have n3_ := zA (ho); clear HO_6 HO_7 HB HO442; have HO_6 := n0_; have HO_7 := n1_; have HB := n2_; have HO445 := n3_; clear n0_ n1_ n2_ n3_ ho hb hg hat; obtain ⟨Ao16, co16, eo16⟩ := Kd.zbm HO445.out; subst eo16) | ((with_reducible refine zae (f := 120) rfl ?_); refine za2 (some 29) rfl rfl Tryz.func120 (by kernel_rfl) rfl #[.slice Ao16 y443.length co16] rfl (zE) ?_; (with_reducible refine (zar.calls k1 (fun k_ => some k_ = (.slice Ao16 y443.length co16 : Value).ownBlock) (.slice Ao16 y443.length co16) y443 t446 w _ ?side1 ?side2 A11.out).mono ?_); (case side1 => repeat (first | (with_reducible first | exact HB.out | apply zb | apply zbh | apply zbo) | exact HB.out)); (case side2 => exact Kd.zde rfl HO445.out); rintro e w17 ⟨v447, rfl, ho0, hb, hkp⟩; refine ⟨_, rfl, ?_⟩; have n0_ := zA (Kd.zbp (ok' := fun k_ => some k_ ≠ (.slice Ao15 x7_1.length co15 : Value).ownBlock ∧ some k_ ≠ (v447 : Value).ownBlock) (Kd.R_keptB (HO_6.out) hkp (fun k_ hk_ hs_ => (hk_.2) hs_)) (fun k_ hk_ => ⟨hk_.1.1, fun e_ => Or.elim (ho0.1 k_ e_.symm) (fun hs_ => hk_.2.1 hs_) (fun hn_ => Nat.not_le.2 hk_.2.2 hn_)⟩)); have n1_ := zA (Kd.zbp (ok' := fun k_ => some k_ ≠ (v434 : Value).ownBlock ∧ some k_ ≠ (v447 : Value).ownBlock) (Kd.R_keptB (HO_7.out) hkp (fun k_ hk_ hs_ => (hk_.2) hs_)) (fun k_ hk_ => ⟨hk_.1.1, fun e_ => Or.elim (ho0.1 k_ e_.symm) (fun hs_ => hk_.2.1 hs_) (fun hn_ => Nat.not_le.2 hk_.2.2 hn_)⟩)); have n2_ := zA (Kd.zbp (ok' := fun k_ => some k_ ≠ (v434 : Value).ownBlock ∧ some k_ ≠ (.slice Ao15 x7_1.length co15 : Value).ownBlock) ho0 (fun k_ hk_ => ⟨Or.elim hk_ (fun hs_ => fun e_ => (((HO_6.out).1 k_ e_.symm).2) hs_) (fun hn_ => (Kd.fresh' (Kd.R_lt (zR HO_6)) k_ hn_)), Or.elim hk_ (fun hs_ => fun e_ => (((HO_7.out).1 k_ e_.symm).2) hs_) (fun hn_ => (Kd.fresh' (Kd.R_lt (zR HO_7)) k_ hn_))⟩)); have n3_ := zA (hb); clear HO_6 HO_7 HB HO445; have HO_6 := n0_; have HO_7 := n1_; have HO448 := n2_; have HB := n3_; clear n0_ n1_ n2_ n3_; (try clear hb); (try clear hkp); (try clear ho0)))
         go_loopg [9, 10] k1 (fun kq v9 v10 w' => ∃ (x9_2 : Int) (x10_2 : Int), v9 = .int .i64 x9_2 ∧ v10 = .int .i64 x10_2 ∧ Aside0 (zan.l1 kq l0 l1 x6_1 t446 x8_1 x9_2 x10_2 = some (r1, r2)) ∧ Aside0 (kq ≤ k1) ∧ Aside0 (Kd.R (Kd.int .i64) 3 w' w.heap.size (fun k_ => some k_ ≠ (v447 : Value).ownBlock) v434 x6_1) ∧ Aside0 (Kd.R (Kd.int .i64) 3 w' w.heap.size (fun k_ => some k_ ≠ (v434 : Value).ownBlock) v447 t446) ∧ Aside0 (Below w.heap.size w w'))
         case atStart => exact ⟨(0), (9999), (zF), (zF), H', ⟨Nat.le_refl _⟩, ⟨by (with_reducible repeat (first | apply Kd.zca | apply Kd.zcb | apply Kd.zcl)); exact Kd.zbp HO_6.out (fun _ hk => hk.2)⟩, ⟨by (with_reducible repeat (first | apply Kd.zca | apply Kd.zcb | apply Kd.zcl)); exact Kd.zbp HO448.out (fun _ hk => hk.1)⟩, ⟨zB HB⟩⟩
         case round =>
          clear H'
          try clear c1
          try clear p2
          try clear c3
          try clear c3b0
          try clear c3b1
          try clear c4
          try clear c4b0
          try clear c4b1
          try clear p4
          try clear q4
          try clear hx4
          try clear c6
          try clear p6
          try clear c7
          try clear c7b0
          try clear c8
          try clear c8b0
          try clear c9
          try clear c9b0
          try clear c10
          try clear c12
          try clear hx439_0
          try clear p2
          try clear p439
          try clear p6
          try clear q439
          obtain ⟨x9_2, x10_2, rfl, rfl, HA, HK2, HO_6, HO_7, HB⟩ := hrel
          cases gk with
          | zero => exact absurd HA.out (by simp [zan.l1])
          | succ k2 =>
           have H := HA.out
           clear HA
           simp only [zan.l1] at H
           by_cases c18 : x9_2 < x10_2
           ·
            rw [if_pos c18] at H
            have c18b0 : decide (x9_2 < x10_2) = true := decide_eq_true c18
            clear c18
            replace H := zO H
            obtain ⟨t459, A190, H⟩ := H
            try dsimp only at H
            have A19 := zA A190
            clear A190
            replace H := zO H
            obtain ⟨t462, A200, H⟩ := H
            try dsimp only at H
            have A20 := zA A200
            clear A200
            replace H := zO H
            obtain ⟨t465, A210, H⟩ := H
            try dsimp only at H
            have A21 := zA A210
            clear A210
            by_cases c22 : t465 ≤ 0
            ·
             rw [if_pos c22] at H
             have c22b0 : decide (t465 ≤ 0) = true := decide_eq_true c22
             clear c22
             have H' := zA H
             clear H
             go_wp2_with (first | ((with_reducible refine zae (f := 37) rfl ?_); refine za2 (some 40) rfl rfl Tryz.func37 (by kernel_rfl) rfl #[.int .i64 (wrap64 (Int.tdiv (wrap64 ((wrap64 (x9_2 + x10_2)) + 1)) 2))] rfl (zE) ?_; (with_reducible refine (zav.calls k2 (wrap64 (Int.tdiv (wrap64 ((wrap64 (x9_2 + x10_2)) + 1)) 2)) t459 _ A19.out).mono ?_); rintro e w23 ⟨v460, rfl, ho0, hb⟩; refine ⟨_, rfl, ?_⟩; have n0_ := zA (Kd.zb1 (zR HO_6) (Kd.zbj ho0) hb); have n1_ := zA (Kd.zb1 (zR HO_7) (Kd.zbj ho0) hb); have n2_ := zA (Kd.zbs (Kd.zcm (Kd.zcm ho0 (Kd.R_lt (zR HO_6))) (Kd.R_lt (zR HO_7))) (za (zB HB))); have n3_ := zA (zaa (zB HB) hb); clear HO_6 HO_7 HB; have HO_6 := n0_; have HO_7 := n1_; have HO461 := n2_; have HB := n3_; clear n0_ n1_ n2_ n3_; (try clear hb); (try clear hb2); (try clear hk); (try clear hi); (try clear ho0); obtain ⟨Ao24, co24, eo24⟩ := Kd.zbm HO461.out; subst eo24) | ((with_reducible refine zae (f := 91) rfl ?_); refine za2 (some 41) rfl rfl Tryz.func91 (by kernel_rfl) rfl #[.slice A1 l1.length c1, .slice Ao24 t459.length co24] rfl (zE) ?_; (with_reducible refine (zaq.calls k2 _ _ l1 _ _ t459 t462 _ ?side1 ?side2 ?side3 ?side4 A20.out).mono ?_); (case side1 => exact zJ (Kd.zas HR1.out HB.out)); (case side2 => exact HC1.out); (case side3 => exact zJ (Kd.zay HO461.out).2.2); (case side4 => exact (Kd.zay HO461.out).2.1); rintro e w25 ⟨v463, rfl, ho0, hb⟩; refine ⟨_, rfl, ?_⟩; have n0_ := zA (Kd.zb1 (zR HO_6) (Kd.zbj ho0) hb); have n1_ := zA (Kd.zb1 (zR HO_7) (Kd.zbj ho0) hb); have n2_ := zA (Kd.zb1 (zR HO461) (Kd.zbj ho0) hb); have n3_ := zA (Kd.zbs (Kd.zcm (Kd.zcm (Kd.zcm ho0 (Kd.R_lt (zR HO_6))) (Kd.R_lt (zR HO_7))) (Kd.R_lt (zR HO461))) (za (zB HB))); have n4_ := zA (zaa (zB HB) hb); clear HO_6 HO_7 HO461 HB; have HO_6 := n0_; have HO_7 := n1_; have HO461 := n2_; have HO464 := n3_; have HB := n4_; clear n0_ n1_ n2_ n3_ n4_; (try clear hb); (try clear hb2); (try clear hk); (try clear hi); (try clear ho0); obtain ⟨Ao26, co26, eo26⟩ := Kd.zbm HO464.out; subst eo26; obtain ⟨Ao27, co27, eo27⟩ := Kd.zbm HO_7.out; subst eo27) | ((with_reducible refine zae (f := 88) rfl ?_); refine za2 (some 43) rfl rfl Tryz.func88 (by kernel_rfl) rfl #[.slice Ao26 t462.length co26, .slice Ao27 t446.length co27] rfl (zE) ?_; (with_reducible refine (za3.calls k2 _ _ t462 _ _ t446 t465 _ ?side1 ?side2 ?side3 ?side4 A21.out).mono ?_); (case side1 => exact zJ (Kd.zay HO464.out).2.2); (case side2 => exact (Kd.zay HO464.out).2.1); (case side3 => exact zJ (Kd.zay HO_7.out).2.2); (case side4 => exact (Kd.zay HO_7.out).2.1); rintro e w' ⟨rfl, ⟨nd, rfl⟩⟩; refine ⟨_, rfl, ?_⟩))
             go_roundg k2
             case measure => have := HK1.out; have := HK2.out; omega
             case rel => exact ⟨(wrap64 (Int.tdiv (wrap64 ((wrap64 (x9_2 + x10_2)) + 1)) 2)), (x10_2), (zF), (zF), H', ⟨by have := HK1.out; have := HK2.out; omega⟩, ⟨by (with_reducible repeat (first | apply Kd.zca | apply Kd.zcb | apply Kd.zcl)); exact Kd.zbp HO_6.out (fun _ hk => hk.1.1)⟩, ⟨by (with_reducible repeat (first | apply Kd.zca | apply Kd.zcb | apply Kd.zcl)); exact Kd.zbp HO_7.out (fun _ hk => hk.1.1)⟩, ⟨zB HB⟩⟩
            ·
             rw [if_neg c22] at H
             have c22b0 : decide (t465 ≤ 0) = false := decide_eq_false c22
             clear c22
             have H' := zA H
             clear H
             go_wp2_with (first | ((with_reducible refine zae (f := 37) rfl ?_); refine za2 (some 40) rfl rfl Tryz.func37 (by kernel_rfl) rfl #[.int .i64 (wrap64 (Int.tdiv (wrap64 ((wrap64 (x9_2 + x10_2)) + 1)) 2))] rfl (zE) ?_; (with_reducible refine (zav.calls k2 (wrap64 (Int.tdiv (wrap64 ((wrap64 (x9_2 + x10_2)) + 1)) 2)) t459 _ A19.out).mono ?_); rintro e w28 ⟨v460, rfl, ho0, hb⟩; refine ⟨_, rfl, ?_⟩; have n0_ := zA (Kd.zb1 (zR HO_6) (Kd.zbj ho0) hb); have n1_ := zA (Kd.zb1 (zR HO_7) (Kd.zbj ho0) hb); have n2_ := zA (Kd.zbs (Kd.zcm (Kd.zcm ho0 (Kd.R_lt (zR HO_6))) (Kd.R_lt (zR HO_7))) (za (zB HB))); have n3_ := zA (zaa (zB HB) hb); clear HO_6 HO_7 HB; have HO_6 := n0_; have HO_7 := n1_; have HO461 := n2_; have HB := n3_; clear n0_ n1_ n2_ n3_; (try clear hb); (try clear hb2); (try clear hk); (try clear hi); (try clear ho0); obtain ⟨Ao29, co29, eo29⟩ := Kd.zbm HO461.out; subst eo29) | ((with_reducible refine zae (f := 91) rfl ?_); refine za2 (some 41) rfl rfl Tryz.func91 (by kernel_rfl) rfl #[.slice A1 l1.length c1, .slice Ao29 t459.length co29] rfl (zE) ?_; (with_reducible refine (zaq.calls k2 _ _ l1 _ _ t459 t462 _ ?side1 ?side2 ?side3 ?side4 A20.out).mono ?_); (case side1 => exact zJ (Kd.zas HR1.out HB.out)); (case side2 => exact HC1.out); (case side3 => exact zJ (Kd.zay HO461.out).2.2); (case side4 => exact (Kd.zay HO461.out).2.1); rintro e w30 ⟨v463, rfl, ho0, hb⟩; refine ⟨_, rfl, ?_⟩; have n0_ := zA (Kd.zb1 (zR HO_6) (Kd.zbj ho0) hb); have n1_ := zA (Kd.zb1 (zR HO_7) (Kd.zbj ho0) hb); have n2_ := zA (Kd.zb1 (zR HO461) (Kd.zbj ho0) hb); have n3_ := zA (Kd.zbs (Kd.zcm (Kd.zcm (Kd.zcm ho0 (Kd.R_lt (zR HO_6))) (Kd.R_lt (zR HO_7))) (Kd.R_lt (zR HO461))) (za (zB HB))); have n4_ := zA (zaa (zB HB) hb); clear HO_6 HO_7 HO461 HB; have HO_6 := n0_; have HO_7 := n1_; have HO461 := n2_; have HO464 := n3_; have HB := n4_; clear n0_ n1_ n2_ n3_ n4_; (try clear hb); (try clear hb2); (try clear hk); (try clear hi); (try clear ho0); obtain ⟨Ao31, co31, eo31⟩ := Kd.zbm HO464.out; subst eo31; obtain ⟨Ao32, co32, eo32⟩ := Kd.zbm HO_7.out; subst eo32) | ((with_reducible refine zae (f := 88) rfl ?_); refine za2 (some 43) rfl rfl Tryz.func88 (by kernel_rfl) rfl #[.slice Ao31 t462.length co31, .slice Ao32 t446.length co32] rfl (zE) ?_; (with_reducible refine (za3.calls k2 _ _ t462 _ _ t446 t465 _ ?side1 ?side2 ?side3 ?side4 A21.out).mono ?_); (case side1 => exact zJ (Kd.zay HO464.out).2.2); (case side2 => exact (Kd.zay HO464.out).2.1); (case side3 => exact zJ (Kd.zay HO_7.out).2.2); (case side4 => exact (Kd.zay HO_7.out).2.1); rintro e w' ⟨rfl, ⟨nd, rfl⟩⟩; refine ⟨_, rfl, ?_⟩))
             go_roundg k2
             case measure => have := HK1.out; have := HK2.out; omega
             case rel => exact ⟨(x9_2), (wrap64 ((wrap64 (Int.tdiv (wrap64 ((wrap64 (x9_2 + x10_2)) + 1)) 2)) - 1)), (zF), (zF), H', ⟨by have := HK1.out; have := HK2.out; omega⟩, ⟨by (with_reducible repeat (first | apply Kd.zca | apply Kd.zcb | apply Kd.zcl)); exact Kd.zbp HO_6.out (fun _ hk => hk.1.1)⟩, ⟨by (with_reducible repeat (first | apply Kd.zca | apply Kd.zcb | apply Kd.zcl)); exact Kd.zbp HO_7.out (fun _ hk => hk.1.1)⟩, ⟨zB HB⟩⟩
           ·
            rw [if_neg c18] at H
            have c18b0 : decide (x9_2 < x10_2) = false := decide_eq_false c18
            clear c18
            by_cases c33 : 0 ≤ x8_1
            ·
             rw [if_pos c33] at H
             have c33b0 : decide (0 ≤ x8_1) = true := decide_eq_true c33
             clear c33
             by_cases c34 : x8_1 < (x6_1.length : Int)
             ·
              rw [if_pos c34] at H
              have c34b0 : decide (x8_1 < (x6_1.length : Int)) = true := decide_eq_true c34
              clear c34
              obtain ⟨y449, hy449⟩ : ∃ y_ : List Int, y_ = (x6_1.set (x8_1 : Int).toNat x9_2) := ⟨_, rfl⟩
              replace H : ((zav.f k2 x9_2).bind fun t450 => ((zaq.f k2 l1 t450).bind fun t453 => ((zba.f k2 t446 t453).bind fun t456 => (zan.l0 k2 l0 l1 y449 t456 (wrap64 (x8_1 - 1)))))) = some (r1, r2) := by first | (rw [hy449]; with_reducible exact H) | (have H2_ := (Option.bind_some _ _).symm.trans H; rw [hy449]; with_reducible exact H2_) | (have H2_ := (Option.bind_some _ _).symm.trans H; with_reducible exact H2_) | with_reducible exact H | (rw [hy449]; exact H) | exact H
              have Ny449 := zA hy449
              clear hy449
              replace H := zO H
              obtain ⟨t450, A360, H⟩ := H
              try dsimp only at H
              have A36 := zA A360
              clear A360
              replace H := zO H
              obtain ⟨t453, A370, H⟩ := H
              try dsimp only at H
              have A37 := zA A370
              clear A370
              replace H := zO H
              obtain ⟨t456, A380, H⟩ := H
              try dsimp only at H
              have A38 := zA A380
              clear A380
              have H' := zA H
              clear H
              have p35 : 0 ≤ (x8_1 : Int) := of_decide_eq_true (by first | (with_reducible assumption) | assumption)
              have q35 : (x8_1 : Int) < ((x6_1.length : Int) : Int) := of_decide_eq_true (by first | (with_reducible assumption) | assumption)
              obtain ⟨go35, co35, eo35, gb35, gl35, cl35, HG35⟩ := Kd.R_form HO_6.out (by omega)
              (first | cases eo35 | (injection eo35 with ea_ en_ ec_; (first | subst ea_ | (injection ea_ with ea_; subst ea_)); subst ec_; clear en_))
              have GB35 := zA gb35
              have GG35 := zA HG35
              clear gb35 gl35 HG35
              obtain ⟨hx35_0, hf35_0⟩ := Kd.zda 0 HO_6.out (x8_1 : Int) p35 q35
              replace p35 := eq_true p35
              replace q35 := eq_true q35
              have HP39 := Kd.R_putg HO_6.out (x8_1 : Int) x9_2
              go_wp2_with (first | ((with_reducible refine zdc (t := 3) (p := 51) rfl ?_); refine zc4 (t := 3) (p := 51) (v := ?vo_w40) (w1 := (wr.setCell ⟨go35, (x8_1 : Int).toNat, none⟩ (.int .i64 x9_2))) ?hg ?ho ?hn ?hr ?_; (case ho => rfl); (case hg => rfl); (case hn => rfl); (case hr => first | (go_simp; done) | (go_simp; rfl)); intro w40 hw; have hg : wr.grownBy w40 (some go35) := (by rw [hw]; exact HP39.2); have hp_ : Kd.R (Kd.int .i64) 3 w40 w.heap.size (fun k_ => some k_ ≠ (v447 : Value).ownBlock) (.slice (some ⟨go35, 0, none⟩) x6_1.length co35) y449 := (by rw [hw, Ny449.out]; exact HP39.1); clear HP39; have n0_ := zA (hp_); have n1_ := zA (Kd.R_after (v := (.slice (some ⟨go35, 0, none⟩) x6_1.length co35)) (v1 := (.slice (some ⟨go35, 0, none⟩) x6_1.length co35)) (ok := (fun _ => True)) (by (with_reducible repeat (first | apply Kd.zca | apply Kd.zcb | apply Kd.zcl)); exact Kd.zbp HO_7.out (fun _ hk => ⟨trivial, hk⟩)) hg (.inl rfl)); have n2_ := zA ((by rw [hw]; exact zdg (HB.out) GB35.out : Below w.heap.size w w40)); clear HO_6 HO_7 HB; have HO_6 := n0_; have HO_7 := n1_; have HB := n2_; clear n0_ n1_ n2_ hg hw hp_) | ((with_reducible refine zae (f := 37) rfl ?_); refine za2 (some 55) rfl rfl Tryz.func37 (by kernel_rfl) rfl #[.int .i64 x9_2] rfl (zE) ?_; (with_reducible refine (zav.calls k2 x9_2 t450 _ A36.out).mono ?_); rintro e w41 ⟨v451, rfl, ho0, hb⟩; refine ⟨_, rfl, ?_⟩; have n0_ := zA (Kd.zb1 (zR HO_6) (Kd.zbj ho0) hb); have n1_ := zA (Kd.zb1 (zR HO_7) (Kd.zbj ho0) hb); have n2_ := zA (Kd.zbs (Kd.zcm (Kd.zcm ho0 (Kd.R_lt (zR HO_6))) (Kd.R_lt (zR HO_7))) (za (zB HB))); have n3_ := zA (zaa (zB HB) hb); clear HO_6 HO_7 HB; have HO_6 := n0_; have HO_7 := n1_; have HO452 := n2_; have HB := n3_; clear n0_ n1_ n2_ n3_; (try clear hb); (try clear hb2); (try clear hk); (try clear hi); (try clear ho0); obtain ⟨Ao42, co42, eo42⟩ := Kd.zbm HO452.out; subst eo42) | ((with_reducible refine zae (f := 91) rfl ?_); refine za2 (some 56) rfl rfl Tryz.func91 (by kernel_rfl) rfl #[.slice A1 l1.length c1, .slice Ao42 t450.length co42] rfl (zE) ?_; (with_reducible refine (zaq.calls k2 _ _ l1 _ _ t450 t453 _ ?side1 ?side2 ?side3 ?side4 A37.out).mono ?_); (case side1 => exact zJ (Kd.zas HR1.out HB.out)); (case side2 => exact HC1.out); (case side3 => exact zJ (Kd.zay HO452.out).2.2); (case side4 => exact (Kd.zay HO452.out).2.1); rintro e w43 ⟨v454, rfl, ho0, hb⟩; refine ⟨_, rfl, ?_⟩; have n0_ := zA (Kd.zb1 (zR HO_6) (Kd.zbj ho0) hb); have n1_ := zA (Kd.zb1 (zR HO_7) (Kd.zbj ho0) hb); have n2_ := zA (Kd.zb1 (zR HO452) (Kd.zbj ho0) hb); have n3_ := zA (Kd.zbs (Kd.zcm (Kd.zcm (Kd.zcm ho0 (Kd.R_lt (zR HO_6))) (Kd.R_lt (zR HO_7))) (Kd.R_lt (zR HO452))) (za (zB HB))); have n4_ := zA (zaa (zB HB) hb); clear HO_6 HO_7 HO452 HB; have HO_6 := n0_; have HO_7 := n1_; have HO452 := n2_; have HO455 := n3_; have HB := n4_; clear n0_ n1_ n2_ n3_ n4_; (try clear hb); (try clear hb2); (try clear hk); (try clear hi); (try clear ho0); obtain ⟨Ao44, co44, eo44⟩ := Kd.zbm HO_7.out; subst eo44; obtain ⟨Ao45, co45, eo45⟩ := Kd.zbm HO455.out; subst eo45) | ((with_reducible refine zae (f := 92) rfl ?_); refine za2 (some 57) rfl rfl Tryz.func92 (by kernel_rfl) rfl #[.slice Ao44 t446.length co44, .slice Ao45 t453.length co45] rfl (zE) ?_; (with_reducible refine (zba.calls k2 _ _ t446 _ _ t453 t456 _ ?side1 ?side2 ?side3 ?side4 A38.out).mono ?_); (case side1 => exact zJ (Kd.zay HO_7.out).2.2); (case side2 => exact (Kd.zay HO_7.out).2.1); (case side3 => exact zJ (Kd.zay HO455.out).2.2); (case side4 => exact (Kd.zay HO455.out).2.1); rintro e w46 ⟨v457, rfl, ho0, hb⟩; refine ⟨_, rfl, ?_⟩; have n0_ := zA (Kd.zb1 (zR HO_6) (Kd.zbj ho0) hb); have n1_ := zA (Kd.zb1 (zR HO_7) (Kd.zbj ho0) hb); have n2_ := zA (Kd.zb1 (zR HO452) (Kd.zbj ho0) hb); have n3_ := zA (Kd.zb1 (zR HO455) (Kd.zbj ho0) hb); have n4_ := zA (Kd.zbs (Kd.zcm (Kd.zcm (Kd.zcm (Kd.zcm ho0 (Kd.R_lt (zR HO_6))) (Kd.R_lt (zR HO_7))) (Kd.R_lt (zR HO452))) (Kd.R_lt (zR HO455))) (za (zB HB))); have n5_ := zA (zaa (zB HB) hb); clear HO_6 HO_7 HO452 HO455 HB; have HO_6 := n0_; have HO_7 := n1_; have HO452 := n2_; have HO455 := n3_; have HO458 := n4_; have HB := n5_; clear n0_ n1_ n2_ n3_ n4_ n5_; (try clear hb); (try clear hb2); (try clear hk); (try clear hi); (try clear ho0)))
              go_roundg k2
              case measure => have := HK1.out; have := HK2.out; omega
              case rel => exact ⟨(y449), (t456), (wrap64 (x8_1 - 1)), (zF), H', ⟨by have := HK1.out; have := HK2.out; omega⟩, ⟨by (with_reducible repeat (first | apply Kd.zca | apply Kd.zcb | apply Kd.zcl)); exact Kd.zbp HO_6.out (fun _ hk => hk.2)⟩, ⟨by (with_reducible repeat (first | apply Kd.zca | apply Kd.zcb | apply Kd.zcl)); exact Kd.zbp HO458.out (fun _ hk => hk.1.1.1.2)⟩, ⟨zB HB⟩⟩
             ·
              rw [if_neg c34] at H
              exact absurd H (by simp)
            ·
             rw [if_neg c33] at H
             exact absurd H (by simp)
        ·
         rw [if_neg c10] at H
         exact absurd H (by simp)
       ·
        rw [if_neg c9] at H
        exact absurd H (by simp)
      ·
       rw [if_neg c8] at H
       exact absurd H (by simp)
     ·
      rw [if_neg c7] at H
      have c7b0 : decide (0 ≤ x8_1) = false := decide_eq_false c7
      clear c7
      replace H := zO H
      obtain ⟨t436, A470, H⟩ := H
      try dsimp only at H
      have A47 := zA A470
      clear A470
      simp only [Option.some.injEq, Prod.mk.injEq] at H
      obtain ⟨rfl, rfl⟩ := H
      obtain ⟨Ao48, co48, eo48⟩ := Kd.zbm HO_6.out
      subst eo48
      go_wp2_with (first | ((with_reducible refine zae (f := 120) rfl ?_); refine za2 (some 59) rfl rfl Tryz.func120 (by kernel_rfl) rfl #[.slice Ao48 x6_1.length co48] rfl (zE) ?_; (with_reducible refine (zar.calls k1 (fun k_ => some k_ = (.slice Ao48 x6_1.length co48 : Value).ownBlock) (.slice Ao48 x6_1.length co48) x6_1 t436 w _ ?side1 ?side2 A47.out).mono ?_); (case side1 => repeat (first | (with_reducible first | exact HB.out | apply zb | apply zbh | apply zbo) | exact HB.out)); (case side2 => exact Kd.zde rfl HO_6.out); rintro e w49 ⟨v437, rfl, ho0, hb, hkp⟩; refine ⟨_, rfl, ?_⟩; have n0_ := zA (Kd.zbp (ok' := fun k_ => some k_ ≠ (v437 : Value).ownBlock) (Kd.R_keptB (HO_7.out) hkp (fun k_ hk_ hs_ => (hk_) hs_)) (fun k_ hk_ => fun e_ => Or.elim (ho0.1 k_ e_.symm) (fun hs_ => hk_.2.1 hs_) (fun hn_ => Nat.not_le.2 hk_.2.2 hn_))); have n1_ := zA (Kd.zbp (ok' := fun k_ => some k_ ≠ (u7 : Value).ownBlock) ho0 (fun k_ hk_ => Or.elim hk_ (fun hs_ => fun e_ => (((HO_7.out).1 k_ e_.symm)) hs_) (fun hn_ => (Kd.fresh' (Kd.R_lt (zR HO_7)) k_ hn_)))); have n2_ := zA (hb); clear HO_7 HB HO_6; have HO_7 := n0_; have HO438 := n1_; have HB := n2_; clear n0_ n1_ n2_; (try clear hb); (try clear hkp); (try clear ho0)))
      go_ret2
      exact ⟨_, _, zW, zR HO438, zR HO_7, zB HB⟩
  ·
   rw [if_neg c4] at H
   exact absurd H (by simp)
 ·
  rw [if_neg c3] at H
  exact absurd H (by simp)
def zbg.l0 : Nat → List Int → List Int → Option (List Int)
 | 0, _, _ => none
 | k + 1, x0, x1 => if (x1.length : Int) > 0 then ((zan.f k x0 x1).bind fun bt466 => (zbg.l0 k x1 bt466.2)) else (some x0)
def zbg.f (k : Nat) (l0 : List Int) (l1 : List Int) : Option (List Int) := zbg.l0 k l0 l1
theorem zbg.calls (k : Nat) (P0_ : Nat → Prop) (A0 : Option Addr) (c0 : Nat) (l0 : List Int) (P1_ : Nat → Prop) (A1 : Option Addr) (c1 : Nat) (l1 : List Int) (r : List Int) (w : World) (hs0 : Kd.V (Kd.int .i64) 3 w w.heap.size (fun k_ => P0_ k_) (.slice A0 l0.length c0) l0) (hs1 : Kd.V (Kd.int .i64) 3 w w.heap.size (fun k_ => P1_ k_) (.slice A1 l1.length c1) l1) (h : zbg.f k l0 l1 = some r) :
  Calls Tryz.prog 68 #[.slice A0 l0.length c0, .slice A1 l1.length c1] w fun e w' => ∃ v0_ : Value, e = .returned (v0_) ∧ Kd.V (Kd.int .i64) 3 w' w.heap.size (fun k_ => ((P0_ k_ ∨ P1_ k_) ∨ w.heap.size ≤ k_)) v0_ r ∧ Below w.heap.size w w' := by
 have HO0 := zA (show Kd.V (Kd.int .i64) 3 w w.heap.size (fun k_ => ((P0_ k_ ∨ P1_ k_) ∨ w.heap.size ≤ k_)) (.slice A0 l0.length c0) l0 from Kd.zam hs0 (fun k_ hk => .inl (.inl hk)))
 have HO1 := zA (show Kd.V (Kd.int .i64) 3 w w.heap.size (fun k_ => ((P0_ k_ ∨ P1_ k_) ∨ w.heap.size ≤ k_)) (.slice A1 l1.length c1) l1 from Kd.zam hs1 (fun k_ hk => .inl (.inr hk)))
 have HB := zA (Below.refl w.heap.size w)
 have H : (zbg.l0 k l0 l1) = some r := h
 clear h
 have H' := zA H
 clear H
 go_enter Tryz.func68, Tryz.ntmps68
 go_wp2
 go_loopg [0, 1] k (fun kq v0 v1 w' => ∃ (x0_1 : List Int) (x1_1 : List Int), Aside0 (zbg.l0 kq x0_1 x1_1 = some r) ∧ Aside0 (kq ≤ k) ∧ Aside0 (Kd.V (Kd.int .i64) 3 w' w.heap.size (fun k_ => ((P0_ k_ ∨ P1_ k_) ∨ w.heap.size ≤ k_)) v0 x0_1) ∧ Aside0 (Kd.V (Kd.int .i64) 3 w' w.heap.size (fun k_ => ((P0_ k_ ∨ P1_ k_) ∨ w.heap.size ≤ k_)) v1 x1_1) ∧ Aside0 (Below w.heap.size w w'))
 case atStart => exact ⟨(l0), (l1), H', ⟨Nat.le_refl _⟩, ⟨zV HO0⟩, ⟨zV HO1⟩, ⟨zB HB⟩⟩
 case round =>
  clear H'
  try clear c1
  try clear p2
  obtain ⟨x0_1, x1_1, HA, HK1, HO_0, HO_1, HB⟩ := hrel
  cases gk with
  | zero => exact absurd HA.out (by simp [zbg.l0])
  | succ k1 =>
   have H := HA.out
   clear HA
   simp only [zbg.l0] at H
   by_cases c3 : (x1_1.length : Int) > 0
   ·
    rw [if_pos c3] at H
    have c3b0 : decide (0 < (x1_1.length : Int)) = true := decide_eq_true c3
    have c3b1 : decide (0 < x1_1.length) = true := decide_eq_true (by omega)
    clear c3
    replace H := zO H
    obtain ⟨⟨t466, t467⟩, A40, H⟩ := H
    try dsimp only at H
    have A4 := zA A40
    clear A40
    have H' := zA H
    clear H
    obtain ⟨Ao5, co5, eo5⟩ := Kd.za1 HO_1.out
    subst eo5
    obtain ⟨Ao6, co6, eo6⟩ := Kd.za1 HO_0.out
    subst eo6
    go_wp2_with (first | ((with_reducible refine zae (f := 69) rfl ?_); refine za2 (some 13) rfl rfl Tryz.func69 (by kernel_rfl) rfl #[.slice Ao6 x0_1.length co6, .slice Ao5 x1_1.length co5] rfl (zE) ?_; (with_reducible refine (zan.calls k1 _ _ x0_1 _ _ x1_1 t466 t467 _ ?side1 ?side2 ?side3 ?side4 A4.out).mono ?_); (case side1 => exact zJ (Kd.zak HO_0.out).2.2); (case side2 => exact (Kd.zak HO_0.out).2.1); (case side3 => exact zJ (Kd.zak HO_1.out).2.2); (case side4 => exact (Kd.zak HO_1.out).2.1); rintro e w7 ⟨v468, v470, rfl, ho0, ho1, hb⟩; refine ⟨_, rfl, ?_⟩; have n0_ := zA (Kd.zam (Kd.V_told (Kd.V_told (Kd.V_old (zV HO_0) hb) (Kd.zbj ho0)) (Kd.zbj ho1)) (fun _ h_ => h_.1)); have n1_ := zA (Kd.zam (Kd.V_told (Kd.V_told (Kd.V_old (zV HO_1) hb) (Kd.zbj ho0)) (Kd.zbj ho1)) (fun _ h_ => h_.1)); have n2_ := zA (Kd.zbs (Kd.R_newM (M := fun k_ => (w.heap.size ≤ k_)) ho0 (za (zB HB)) (fun k_ h_ => h_)) (za (zB HB))); have n3_ := zA (Kd.zbs (Kd.R_newM (M := fun k_ => (w.heap.size ≤ k_)) ho1 (za (zB HB)) (fun k_ h_ => h_)) (za (zB HB))); have n4_ := zA (zaa (zB HB) hb); clear HO_0 HO_1 HB; have HO_0 := n0_; have HO_1 := n1_; have HO469 := n2_; have HO471 := n3_; have HB := n4_; clear n0_ n1_ n2_ n3_ n4_; (try clear hb); (try clear hb2); (try clear hk); (try clear hi); (try clear ho0); (try clear ho1)))
    go_roundg k1
    case measure => have := HK1.out; omega
    case rel => exact ⟨(x1_1), (t467), H', ⟨by have := HK1.out; omega⟩, ⟨by (with_reducible repeat (first | apply Kd.zbr | apply Kd.zbq | apply Kd.zbt)); exact Kd.zam HO_1.out (fun _ hk => hk.1.1)⟩, ⟨Kd.zam (Kd.R_V (by (with_reducible repeat (first | apply Kd.zca | apply Kd.zcb | apply Kd.zcl)); exact Kd.zbp HO471.out (fun _ hk => hk.1))) (fun k_ hk => by first | exact ⟨(.inr (hk.1)), hk.2⟩ | exact (.inr (hk)))⟩, ⟨zB HB⟩⟩
   ·
    rw [if_neg c3] at H
    have c3b0 : decide (0 < (x1_1.length : Int)) = false := decide_eq_false c3
    have c3b1 : decide (0 < x1_1.length) = false := decide_eq_false (by omega)
    clear c3
    obtain rfl := Option.some.inj H
    obtain ⟨Ao8, co8, eo8⟩ := Kd.za1 HO_1.out
    subst eo8
    go_wp2
    go_ret
    exact ⟨_, zW, zV HO_0, zB HB⟩
def zcj.f (k : Nat) (l0 : List Int) (l1 : List Int) : Option (List Int × List Int) := (zbg.f k l0 l1).bind fun t473 => ((zan.f k l0 t473).bind fun bt476 => ((zan.f k l1 t473).bind fun bt482 => (some (bt476.1, bt482.1))))
theorem zcj.calls (k : Nat) (A0 : Option Addr) (c0 : Nat) (l0 : List Int) (A1 : Option Addr) (c1 : Nat) (l1 : List Int) (r1 : List Int) (r2 : List Int) (w : World) (hr0 : Kd.C (Kd.int .i64) w A0 l0.length l0) (hc0 : l0.length ≤ c0) (hr1 : Kd.C (Kd.int .i64) w A1 l1.length l1) (hc1 : l1.length ≤ c1) (h : zcj.f k l0 l1 = some (r1, r2)) :
  Calls Tryz.prog 36 #[.slice A0 l0.length c0, .slice A1 l1.length c1] w fun e w' => ∃ v0_ v1_ : Value, e = .returned (.agg #[v0_, v1_]) ∧ Kd.R (Kd.int .i64) 3 w' w.heap.size (fun k_ => some k_ ≠ (v1_ : Value).ownBlock) v0_ r1 ∧ Kd.R (Kd.int .i64) 3 w' w.heap.size (fun k_ => some k_ ≠ (v0_ : Value).ownBlock) v1_ r2 ∧ Below w.heap.size w w' := by
 have hu32 := Tryz.underlying32
 have HR0 := zA hr0
 have HC0 := zA hc0
 clear hr0 hc0
 have HR1 := zA hr1
 have HC1 := zA hc1
 clear hr1 hc1
 have HB := zA (Below.refl w.heap.size w)
 have H : ((zbg.f k l0 l1).bind fun t473 => ((zan.f k l0 t473).bind fun bt476 => ((zan.f k l1 t473).bind fun bt482 => (some (bt476.1, bt482.1))))) = some (r1, r2) := h
 clear h
 replace H := zO H
 obtain ⟨t473, A30, H⟩ := H
 try dsimp only at H
 have A3 := zA A30
 clear A30
 replace H := zO H
 obtain ⟨⟨t476, t477⟩, A40, H⟩ := H
 try dsimp only at H
 have A4 := zA A40
 clear A40
 replace H := zO H
 obtain ⟨⟨t482, t483⟩, A50, H⟩ := H
 try dsimp only at H
 have A5 := zA A50
 clear A50
 simp only [Option.some.injEq, Prod.mk.injEq] at H
 obtain ⟨rfl, rfl⟩ := H
 go_enter Tryz.func36, Tryz.ntmps36
 go_wp2_with (first | ((with_reducible refine za8 (N := 4) rfl ?_); refine zbd ?hg (N := 4) ?hd (cs := #[.slice none 0 0, .slice none 0 0]) (t := 32) ?hr ?_; (case hd => rfl); (case hg => rfl); (case hr => first | (go_simp; done) | (go_simp; rfl)); intro gb472 hg w6 hbox hb; have n0_ := zA (zaa (zB HB) hb); have n1_ := zA (hbox); have n2_ := zA ((by rw [hg]; exact (za (zB HB)) : w.heap.size ≤ gb472)); have n3_ := zA ((by rw [hg]; exact (za (zB HB)) : w.heap.size ≤ gb472)); clear HB; have HB := n0_; have BK472 := n1_; have GW472 := n2_; have GE472 := n3_; clear n0_ n1_ n2_ n3_ hb hbox hg) | ((with_reducible refine zae (f := 68) rfl ?_); refine za2 (some 12) rfl rfl Tryz.func68 (by kernel_rfl) rfl #[.slice A0 l0.length c0, .slice A1 l1.length c1] rfl (zE) ?_; (with_reducible refine (zbg.calls k (fun k_ => k_ < w.heap.size) _ _ l0 (fun k_ => k_ < w.heap.size) _ _ l1 t473 _ ?side1 ?side2 A3.out).mono ?_); (case side1 => exact Kd.V_mk HC0.out (Kd.F_below (Kd.C_F (Kd.heap_int .i64) HR0.out) (zB HB))); (case side2 => exact Kd.V_mk HC1.out (Kd.F_below (Kd.C_F (Kd.heap_int .i64) HR1.out) (zB HB))); rintro e w7 ⟨v474, rfl, ho0, hb⟩; refine ⟨_, rfl, ?_⟩; have n0_ := zA (Kd.zaz (Kd.zam (ok' := fun k_ => k_ ≠ gb472) ho0 (fun k_ hk_ => Or.elim hk_ (fun hs_ => Or.elim hs_ (fun hs_ => fun e_ => Nat.not_le.2 hs_ (by rw [e_]; exact GW472.out)) (fun hs_ => fun e_ => Nat.not_le.2 hs_ (by rw [e_]; exact GW472.out))) (fun hn_ => (Kd.freshB (g := gb472) (o := .cells #[.slice none 0 0, .slice none 0 0] 32 (0, 0)) (zK BK472) k_ hn_)))) (za (zB HB))); have n1_ := zA (zad (g := gb472) (o := .cells #[.slice none 0 0, .slice none 0 0] 32 (0, 0)) (zK BK472) hb); have n2_ := zA (zaa (zB HB) hb); clear BK472 HB; have HO475 := n0_; have BK472 := n1_; have HB := n2_; clear n0_ n1_ n2_; (try clear hb); (try clear hb2); (try clear hk); (try clear hi); (try clear ho0); obtain ⟨Ao8, co8, eo8⟩ := Kd.za1 HO475.out; subst eo8) | ((with_reducible refine zae (f := 69) rfl ?_); refine za2 (some 16) rfl rfl Tryz.func69 (by kernel_rfl) rfl #[.slice A0 l0.length c0, .slice Ao8 t473.length co8] rfl (zE) ?_; (with_reducible refine (zan.calls k _ _ l0 _ _ t473 t476 t477 _ ?side1 ?side2 ?side3 ?side4 A4.out).mono ?_); (case side1 => exact zJ (Kd.zas HR0.out HB.out)); (case side2 => exact HC0.out); (case side3 => exact zJ (Kd.zak HO475.out).2.2); (case side4 => exact (Kd.zak HO475.out).2.1); rintro e w9 ⟨v478, v480, rfl, ho0, ho1, hb⟩; refine ⟨_, rfl, ?_⟩; have n0_ := zA (Kd.zam (Kd.V_told (Kd.V_told (Kd.V_old (zV HO475) hb) (Kd.zbj ho0)) (Kd.zbj ho1)) (fun _ h_ => h_.1)); have n1_ := zA (Kd.zbs ho0 (za (zB HB))); have n2_ := zA (Kd.zbs ho1 (za (zB HB))); have n3_ := zA (zad (g := gb472) (o := .cells #[.slice none 0 0, .slice none 0 0] 32 (0, 0)) (zK BK472) hb); have n4_ := zA (zaa (zB HB) hb); clear HO475 BK472 HB; have HO475 := n0_; have HO479 := n1_; have HO481 := n2_; have BK472 := n3_; have HB := n4_; clear n0_ n1_ n2_ n3_ n4_; (try clear hb); (try clear hb2); (try clear hk); (try clear hi); (try clear ho0); (try clear ho1)) | ((with_reducible refine zae (f := 69) rfl ?_); refine za2 (some 22) rfl rfl Tryz.func69 (by kernel_rfl) rfl #[.slice A1 l1.length c1, .slice Ao8 t473.length co8] rfl (zE) ?_; (with_reducible refine (zan.calls k _ _ l1 _ _ t473 t482 t483 _ ?side1 ?side2 ?side3 ?side4 A5.out).mono ?_); (case side1 => exact zJ (Kd.zas HR1.out HB.out)); (case side2 => exact HC1.out); (case side3 => exact zJ (Kd.zak HO475.out).2.2); (case side4 => exact (Kd.zak HO475.out).2.1); rintro e w10 ⟨v484, v486, rfl, ho0, ho1, hb⟩; refine ⟨_, rfl, ?_⟩; have n0_ := zA (Kd.zam (Kd.V_told (Kd.V_told (Kd.V_old (zV HO475) hb) (Kd.zbj ho0)) (Kd.zbj ho1)) (fun _ h_ => h_.1)); have n1_ := zA (Kd.zbp (Kd.R_told (Kd.R_told (Kd.R_old (zR HO479) hb) (Kd.zbj ho0)) (Kd.zbj ho1)) (fun _ h_ => h_.1)); have n2_ := zA (Kd.zbp (Kd.R_told (Kd.R_told (Kd.R_old (zR HO481) hb) (Kd.zbj ho0)) (Kd.zbj ho1)) (fun _ h_ => h_.1)); have n3_ := zA (Kd.zbs (Kd.zcm (Kd.zcm ho0 (Kd.R_lt (zR HO479))) (Kd.R_lt (zR HO481))) (za (zB HB))); have n4_ := zA (Kd.zbs (Kd.zcm (Kd.zcm ho1 (Kd.R_lt (zR HO479))) (Kd.R_lt (zR HO481))) (za (zB HB))); have n5_ := zA (zad (g := gb472) (o := .cells #[.slice none 0 0, .slice none 0 0] 32 (0, 0)) (zK BK472) hb); have n6_ := zA (zaa (zB HB) hb); clear HO475 HO479 HO481 BK472 HB; have HO475 := n0_; have HO479 := n1_; have HO481 := n2_; have HO485 := n3_; have HO487 := n4_; have BK472 := n5_; have HB := n6_; clear n0_ n1_ n2_ n3_ n4_ n5_ n6_; (try clear hb); (try clear hb2); (try clear hk); (try clear hi); (try clear ho0); (try clear ho1); obtain ⟨Ao11, co11, eo11⟩ := Kd.zbm HO485.out; subst eo11; obtain ⟨Ao12, co12, eo12⟩ := Kd.zbm HO479.out; subst eo12; have hcz13_0 : w10.cell? ⟨gb472, 0, none⟩ = some (.slice none 0 0) := (zab BK472.out 0).trans rfl; have hcz13_1 : w10.cell? ⟨gb472, 1, none⟩ = some (.slice none 0 0) := (zab BK472.out 1).trans rfl; have hfz13_0 := zal BK472.out 0; have hfz13_1 := zal BK472.out 1))
 refine bodyPost_ret (results_cell_row rfl _ _ gb472 32 #[.slice Ao12 t476.length co12, .slice Ao11 t482.length co11] (0, 0) _ rfl (by (with_reducible repeat (first | refine zaj ?_ _ | refine zai ?_ | refine zah ?_ _)); refine zbc (cs := #[.slice Ao12 t476.length co12, .slice none 0 0]) ?_ 1 _ rfl; (with_reducible repeat (first | refine zaj ?_ _ | refine zai ?_ | refine zah ?_ _)); refine zbc (cs := #[.slice none 0 0, .slice none 0 0]) ?_ 0 _ rfl; (with_reducible repeat (first | refine zaj ?_ _ | refine zai ?_ | refine zah ?_ _)); exact BK472.out) Tryz.underlying32 rfl (by kernel_rfl)) rfl ?_
 exact ⟨_, _, zW, by (with_reducible repeat (first | apply Kd.zca | apply Kd.zcb | apply Kd.zcl)); exact Kd.zbp (Kd.R_far (p := ⟨gb472, 1, none⟩) (Kd.R_far (p := ⟨gb472, 0, none⟩) (Kd.zdk HO479.out BK472.out (by decide)) (fun _ hk => hk.2) (.slice Ao12 t476.length co12)) (fun _ hk => hk.2) (.slice Ao11 t482.length co11)) (fun _ hk => hk.1.1.2), by (with_reducible repeat (first | apply Kd.zca | apply Kd.zcb | apply Kd.zcl)); exact Kd.zbp (Kd.R_far (p := ⟨gb472, 1, none⟩) (Kd.R_far (p := ⟨gb472, 0, none⟩) (Kd.zdk HO485.out BK472.out (by decide)) (fun _ hk => hk.2) (.slice Ao12 t476.length co12)) (fun _ hk => hk.2) (.slice Ao11 t482.length co11)) (fun _ hk => hk.1.1.2), zB HB⟩
def zdi.f (k : Nat) (l0 : List Int) (l1 : List Int) : Option (List Int × List Int × Int) := if (l1.length : Int) = 0 then (some (([] : List Int), ([] : List Int), 16)) else ((zcc.f k l0 l1).bind fun bt261 => (some (bt261.1, bt261.2, 0)))
theorem zdi.calls (k : Nat) (A0 : Option Addr) (c0 : Nat) (l0 : List Int) (A1 : Option Addr) (c1 : Nat) (l1 : List Int) (r1 : List Int) (r2 : List Int) (r3 : Int) (w : World) (hr0 : Kd.C (Kd.int .u64) w A0 l0.length l0) (hc0 : l0.length ≤ c0) (hr1 : Kd.C (Kd.int .u64) w A1 l1.length l1) (hc1 : l1.length ≤ c1) (h : zdi.f k l0 l1 = some (r1, r2, r3)) :
  Calls Tryz.prog 34 #[.slice A0 l0.length c0, .slice A1 l1.length c1] w fun e w' => ∃ v0_ v1_ : Value, e = .returned (.tuple #[.agg #[v0_, v1_], .int .i64 r3]) ∧ Kd.V (Kd.int .u64) 82 w' w.heap.size (fun k_ => (w.heap.size ≤ k_)) v0_ r1 ∧ Kd.V (Kd.int .u64) 82 w' w.heap.size (fun k_ => (w.heap.size ≤ k_)) v1_ r2 ∧ Below w.heap.size w w' := by
 have hu29 := Tryz.underlying29
 have HR0 := zA hr0
 have HC0 := zA hc0
 clear hr0 hc0
 have HR1 := zA hr1
 have HC1 := zA hc1
 clear hr1 hc1
 have HB := zA (Below.refl w.heap.size w)
 have H : (if (l1.length : Int) = 0 then (some (([] : List Int), ([] : List Int), 16)) else ((zcc.f k l0 l1).bind fun bt261 => (some (bt261.1, bt261.2, 0)))) = some (r1, r2, r3) := h
 clear h
 by_cases c3 : (l1.length : Int) = 0
 ·
  rw [if_pos c3] at H
  have c3b0 : ((l1.length : Int) == 0) = true := beq_iff_eq.mpr c3
  have c3b1 : ((l1.length : Int) != 0) = false := bne_eq_false_iff_eq.mpr c3
  clear c3
  simp only [Option.some.injEq, Prod.mk.injEq] at H
  obtain ⟨rfl, rfl, rfl⟩ := H
  go_enter Tryz.func34, Tryz.ntmps34
  go_wp2_with (first | ((with_reducible refine za8 (N := 4) rfl ?_); refine zbd ?hg (N := 4) ?hd (cs := #[.slice none 0 0, .slice none 0 0]) (t := 29) ?hr ?_; (case hd => rfl); (case hg => rfl); (case hr => first | (go_simp; done) | (go_simp; rfl)); intro gb260 hg w4 hbox hb; have n0_ := zA (zaa (zB HB) hb); have n1_ := zA (hbox); have n2_ := zA ((by rw [hg]; exact (za (zB HB)) : w.heap.size ≤ gb260)); have n3_ := zA ((by rw [hg]; exact (za (zB HB)) : w.heap.size ≤ gb260)); clear HB; have HB := n0_; have BK260 := n1_; have GW260 := n2_; have GE260 := n3_; clear n0_ n1_ n2_ n3_ hb hbox hg; have hcz5_0 : w4.cell? ⟨gb260, 0, none⟩ = some (.slice none 0 0) := (zab BK260.out 0).trans rfl; have hcz5_1 : w4.cell? ⟨gb260, 1, none⟩ = some (.slice none 0 0) := (zab BK260.out 1).trans rfl; have hfz5_0 := zal BK260.out 0; have hfz5_1 := zal BK260.out 1))
  refine bodyPost_ret (results_ct rfl _ _ gb260 29 #[.slice none 0 0, .slice none 0 0] (0, 0) _ rfl (by (with_reducible repeat (first | refine zaj ?_ _ | refine zai ?_ | refine zah ?_ _)); refine zbc (cs := #[.slice none 0 0, .slice none 0 0]) ?_ 1 _ rfl; (with_reducible repeat (first | refine zaj ?_ _ | refine zai ?_ | refine zah ?_ _)); refine zbc (cs := #[.slice none 0 0, .slice none 0 0]) ?_ 0 _ rfl; (with_reducible repeat (first | refine zaj ?_ _ | refine zai ?_ | refine zah ?_ _)); exact BK260.out) Tryz.underlying29 rfl (by kernel_rfl)) rfl ?_
  exact ⟨_, _, zW, Kd.V_nil _ _ _ _ _, Kd.V_nil _ _ _ _ _, zB HB⟩
 ·
  rw [if_neg c3] at H
  have c3b0 : ((l1.length : Int) == 0) = false := beq_eq_false_iff_ne.mpr c3
  have c3b1 : ((l1.length : Int) != 0) = true := bne_iff_ne.mpr c3
  have c3b2 : ¬ (l1 = []) := fun h_ => c3 (by rw [h_]; rfl)
  replace H := zO H
  obtain ⟨⟨t261, t264⟩, A60, H⟩ := H
  try dsimp only at H
  have A6 := zA A60
  clear A60
  simp only [Option.some.injEq, Prod.mk.injEq] at H
  obtain ⟨rfl, rfl, rfl⟩ := H
  go_enter Tryz.func34, Tryz.ntmps34
  go_wp2_with (first | ((with_reducible refine za8 (N := 4) rfl ?_); refine zbd ?hg (N := 4) ?hd (cs := #[.slice none 0 0, .slice none 0 0]) (t := 29) ?hr ?_; (case hd => rfl); (case hg => rfl); (case hr => first | (go_simp; done) | (go_simp; rfl)); intro gb260 hg w7 hbox hb; have n0_ := zA (zaa (zB HB) hb); have n1_ := zA (hbox); have n2_ := zA ((by rw [hg]; exact (za (zB HB)) : w.heap.size ≤ gb260)); have n3_ := zA ((by rw [hg]; exact (za (zB HB)) : w.heap.size ≤ gb260)); clear HB; have HB := n0_; have BK260 := n1_; have GW260 := n2_; have GE260 := n3_; clear n0_ n1_ n2_ n3_ hb hbox hg) | ((with_reducible refine zae (f := 44) rfl ?_); refine za2 (some 12) rfl rfl Tryz.func44 (by kernel_rfl) rfl #[.slice A0 l0.length c0, .slice A1 l1.length c1] rfl (zE) ?_; (with_reducible refine (zcc.calls k _ _ l0 _ _ l1 t261 t264 _ ?side1 ?side2 ?side3 ?side4 A6.out).mono ?_); (case side1 => exact zJ (Kd.zas HR0.out HB.out)); (case side2 => exact HC0.out); (case side3 => exact zJ (Kd.zas HR1.out HB.out)); (case side4 => exact HC1.out); rintro e w8 ⟨v262, v265, rfl, ho0, ho1, hb⟩; refine ⟨_, rfl, ?_⟩; have n0_ := zA (Kd.zaz (Kd.zam (ok' := fun k_ => (w.heap.size ≤ k_) ∧ k_ ≠ gb260) ho0 (fun k_ hk_ => ⟨(Nat.le_trans (za (zB HB)) hk_), (Kd.freshB (g := gb260) (o := .cells #[.slice none 0 0, .slice none 0 0] 29 (0, 0)) (zK BK260) k_ hk_)⟩)) (za (zB HB))); have n1_ := zA (Kd.zaz (Kd.zam (ok' := fun k_ => (w.heap.size ≤ k_) ∧ k_ ≠ gb260) ho1 (fun k_ hk_ => ⟨(Nat.le_trans (za (zB HB)) hk_), (Kd.freshB (g := gb260) (o := .cells #[.slice none 0 0, .slice none 0 0] 29 (0, 0)) (zK BK260) k_ hk_)⟩)) (za (zB HB))); have n2_ := zA (zad (g := gb260) (o := .cells #[.slice none 0 0, .slice none 0 0] 29 (0, 0)) (zK BK260) hb); have n3_ := zA (zaa (zB HB) hb); clear BK260 HB; have HO263 := n0_; have HO266 := n1_; have BK260 := n2_; have HB := n3_; clear n0_ n1_ n2_ n3_; (try clear hb); (try clear hb2); (try clear hk); (try clear hi); (try clear ho0); (try clear ho1); obtain ⟨Ao9, co9, eo9⟩ := Kd.za1 HO263.out; subst eo9; have hcz10_0 : w8.cell? ⟨gb260, 0, none⟩ = some (.slice none 0 0) := (zab BK260.out 0).trans rfl; have hcz10_1 : w8.cell? ⟨gb260, 1, none⟩ = some (.slice none 0 0) := (zab BK260.out 1).trans rfl; have hfz10_0 := zal BK260.out 0; have hfz10_1 := zal BK260.out 1; obtain ⟨Ao11, co11, eo11⟩ := Kd.za1 HO266.out; subst eo11))
  refine bodyPost_ret (results_ct rfl _ _ gb260 29 #[.slice Ao9 t261.length co9, .slice Ao11 t264.length co11] (0, 0) _ rfl (by (with_reducible repeat (first | refine zaj ?_ _ | refine zai ?_ | refine zah ?_ _)); refine zbc (cs := #[.slice Ao9 t261.length co9, .slice none 0 0]) ?_ 1 _ rfl; (with_reducible repeat (first | refine zaj ?_ _ | refine zai ?_ | refine zah ?_ _)); refine zbc (cs := #[.slice none 0 0, .slice none 0 0]) ?_ 0 _ rfl; (with_reducible repeat (first | refine zaj ?_ _ | refine zai ?_ | refine zah ?_ _)); exact BK260.out) Tryz.underlying29 rfl (by kernel_rfl)) rfl ?_
  exact ⟨_, _, zW, by (with_reducible repeat (first | apply Kd.zbr | apply Kd.zbq | apply Kd.zbt)); exact Kd.zam (Kd.V_far (p := ⟨gb260, 1, none⟩) (Kd.V_far (p := ⟨gb260, 0, none⟩) (Kd.zam HO263.out (fun k_ hk => (⟨hk, hk.2⟩ : _ ∧ k_ ≠ gb260))) (fun _ hk => hk.2) (.slice Ao9 t261.length co9)) (fun _ hk => hk.2) (.slice Ao11 t264.length co11)) (fun _ hk => hk.1.1), by (with_reducible repeat (first | apply Kd.zbr | apply Kd.zbq | apply Kd.zbt)); exact Kd.zam (Kd.V_far (p := ⟨gb260, 1, none⟩) (Kd.V_far (p := ⟨gb260, 0, none⟩) (Kd.zam HO266.out (fun k_ hk => (⟨hk, hk.2⟩ : _ ∧ k_ ≠ gb260))) (fun _ hk => hk.2) (.slice Ao9 t261.length co9)) (fun _ hk => hk.2) (.slice Ao11 t264.length co11)) (fun _ hk => hk.1.1), zB HB⟩
def zc0.f (k : Nat) (l0_0 : List Int) (l0_1 : List Int) (l1_0 : List Int) (l1_1 : List Int) : Option (List Int × List Int × Int) := (zbi.f k l0_0 l1_1).bind fun t270 => ((zbi.f k l0_1 l1_0).bind fun t273 => ((zdi.f k t270 t273).bind fun bt276 => (some (bt276.1, bt276.2.1, bt276.2.2))))
def zc0.T1 : Bool × List (List Nat × List Nat) := (true, [([], []), ([0], [0]), ([], []), ([2], [2]), ([1, 3], [1, 3]), ([], []), ([5], [5]), ([], []), ([7], [7]), ([6, 8, 4], [6, 8]), ([4, 9, 9], [4, 9]), ([10], [10]), ([10], [10]), ([11, 10, 0, 1, 2, 3, 4, 5, 6, 7, 8, 9, 10, 11, 12], [11]), ([12, 13, 0, 1, 2, 3, 4, 5, 6, 7, 8, 9, 10, 11, 12, 13], [12])])
def zc0.B1 : List Nat := [0, 1, 0, 4, 15, 0, 32, 0, 128, 511, 1023, 2047, 2047, 8191, 16383]
theorem zc0.tab1 : rtab .any (opsOf Tryz.f77 1) = zc0.T1 := by kernel_rfl
theorem zc0.bits1 : waitsOk zc0.T1.2 zc0.B1 = true := by kernel_rfl
theorem zc0.calls (k : Nat) (A0_0 : Option Addr) (c0_0 : Nat) (l0_0 : List Int) (A0_1 : Option Addr) (c0_1 : Nat) (l0_1 : List Int) (A1_0 : Option Addr) (c1_0 : Nat) (l1_0 : List Int) (A1_1 : Option Addr) (c1_1 : Nat) (l1_1 : List Int) (r1 : List Int) (r2 : List Int) (r3 : Int) (w : World) (hr0_0 : Kd.C (Kd.int .u64) w A0_0 l0_0.length l0_0) (hc0_0 : l0_0.length ≤ c0_0) (hr0_1 : Kd.C (Kd.int .u64) w A0_1 l0_1.length l0_1) (hc0_1 : l0_1.length ≤ c0_1) (hr1_0 : Kd.C (Kd.int .u64) w A1_0 l1_0.length l1_0) (hc1_0 : l1_0.length ≤ c1_0) (hr1_1 : Kd.C (Kd.int .u64) w A1_1 l1_1.length l1_1) (hc1_1 : l1_1.length ≤ c1_1) (h : zc0.f k l0_0 l0_1 l1_0 l1_1 = some (r1, r2, r3)) :
  Calls Tryz.prog 77 #[.agg #[.slice A0_0 l0_0.length c0_0, .slice A0_1 l0_1.length c0_1], .agg #[.slice A1_0 l1_0.length c1_0, .slice A1_1 l1_1.length c1_1]] w fun e w' => ∃ v0_ v1_ : Value, e = .returned (.tuple #[.agg #[v0_, v1_], .int .i64 r3]) ∧ Kd.V (Kd.int .u64) 82 w' w.heap.size (fun k_ => (w.heap.size ≤ k_)) v0_ r1 ∧ Kd.V (Kd.int .u64) 82 w' w.heap.size (fun k_ => (w.heap.size ≤ k_)) v1_ r2 ∧ Below w.heap.size w w' := by
 have hu29 := Tryz.underlying29
 have HR0_0 := zA hr0_0
 have HC0_0 := zA hc0_0
 clear hr0_0 hc0_0
 have HR0_1 := zA hr0_1
 have HC0_1 := zA hc0_1
 clear hr0_1 hc0_1
 have HR1_0 := zA hr1_0
 have HC1_0 := zA hc1_0
 clear hr1_0 hc1_0
 have HR1_1 := zA hr1_1
 have HC1_1 := zA hc1_1
 clear hr1_1 hc1_1
 have HB := zA (Below.refl w.heap.size w)
 have H : ((zbi.f k l0_0 l1_1).bind fun t270 => ((zbi.f k l0_1 l1_0).bind fun t273 => ((zdi.f k t270 t273).bind fun bt276 => (some (bt276.1, bt276.2.1, bt276.2.2))))) = some (r1, r2, r3) := h
 clear h
 replace H := zO H
 obtain ⟨t270, A30, H⟩ := H
 try dsimp only at H
 have A3 := zA A30
 clear A30
 replace H := zO H
 obtain ⟨t273, A40, H⟩ := H
 try dsimp only at H
 have A4 := zA A40
 clear A40
 replace H := zO H
 obtain ⟨⟨t276, t279, t282⟩, A50, H⟩ := H
 try dsimp only at H
 have A5 := zA A50
 clear A50
 simp only [Option.some.injEq, Prod.mk.injEq] at H
 obtain ⟨rfl, rfl, rfl⟩ := H
 go_enter Tryz.func77, Tryz.ntmps77
 try go_wp2_with (first | ((with_reducible refine za8 (N := 2) rfl ?_); refine zbd ?hg (N := 2) ?hd (cs := #[.slice A0_0 l0_0.length c0_0, .slice A0_1 l0_1.length c0_1]) (t := 29) ?hr ?_; (case hd => rfl); (case hg => rfl); (case hr => first | (go_simp; done) | (go_simp; rfl)); intro gb267 hg w6 hbox hb; have n0_ := zA (zaa (zB HB) hb); have n1_ := zA (hbox); have n2_ := zA ((by rw [hg]; exact (za (zB HB)) : w.heap.size ≤ gb267)); have n3_ := zA ((by rw [hg]; exact (za (zB HB)) : w.heap.size ≤ gb267)); clear HB; have HB := n0_; have BK267 := n1_; have GW267 := n2_; have GE267 := n3_; clear n0_ n1_ n2_ n3_ hb hbox hg) | ((with_reducible refine za8 (N := 3) rfl ?_); refine zbd ?hg (N := 3) ?hd (cs := #[.slice A1_0 l1_0.length c1_0, .slice A1_1 l1_1.length c1_1]) (t := 29) ?hr ?_; (case hd => rfl); (case hg => rfl); (case hr => first | (go_simp; done) | (go_simp; rfl)); intro gb268 hg w7 hbox hb; have n0_ := zA (zad (g := gb267) (o := .cells #[.slice A0_0 l0_0.length c0_0, .slice A0_1 l0_1.length c0_1] 29 (0, 0)) (zK BK267) hb); have n1_ := zA (zaa (zB HB) hb); have n2_ := zA (hbox); have n3_ := zA ((by rw [hg]; exact (za (zB HB)) : w.heap.size ≤ gb268)); have n4_ := zA ((by rw [hg]; exact (za (zB HB)) : w.heap.size ≤ gb268)); have n5_ := zA ((by rw [hg]; exact Nat.ne_of_lt (zax (g := gb267) (o := .cells #[.slice A0_0 l0_0.length c0_0, .slice A0_1 l0_1.length c0_1] 29 (0, 0)) (zK BK267)) : gb267 ≠ gb268)); have n6_ := zA ((by rw [hg]; exact Nat.ne_of_gt (zax (g := gb267) (o := .cells #[.slice A0_0 l0_0.length c0_0, .slice A0_1 l0_1.length c0_1] 29 (0, 0)) (zK BK267)) : gb268 ≠ gb267)); clear BK267 HB; have BK267 := n0_; have HB := n1_; have BK268 := n2_; have GW268 := n3_; have GE268 := n4_; have NB267_268 := n5_; have NB268_267 := n6_; clear n0_ n1_ n2_ n3_ n4_ n5_ n6_ hb hbox hg) | ((with_reducible refine za8 (N := 4) rfl ?_); refine zbd ?hg (N := 4) ?hd (cs := #[.slice none 0 0, .slice none 0 0]) (t := 29) ?hr ?_; (case hd => rfl); (case hg => rfl); (case hr => first | (go_simp; done) | (go_simp; rfl)); intro gb269 hg w8 hbox hb; have n0_ := zA (zad (g := gb267) (o := .cells #[.slice A0_0 l0_0.length c0_0, .slice A0_1 l0_1.length c0_1] 29 (0, 0)) (zK BK267) hb); have n1_ := zA (zad (g := gb268) (o := .cells #[.slice A1_0 l1_0.length c1_0, .slice A1_1 l1_1.length c1_1] 29 (0, 0)) (zK BK268) hb); have n2_ := zA (zaa (zB HB) hb); have n3_ := zA (hbox); have n4_ := zA ((by rw [hg]; exact (za (zB HB)) : w.heap.size ≤ gb269)); have n5_ := zA ((by rw [hg]; exact (za (zB HB)) : w.heap.size ≤ gb269)); have n6_ := zA ((by rw [hg]; exact Nat.ne_of_lt (zax (g := gb267) (o := .cells #[.slice A0_0 l0_0.length c0_0, .slice A0_1 l0_1.length c0_1] 29 (0, 0)) (zK BK267)) : gb267 ≠ gb269)); have n7_ := zA ((by rw [hg]; exact Nat.ne_of_gt (zax (g := gb267) (o := .cells #[.slice A0_0 l0_0.length c0_0, .slice A0_1 l0_1.length c0_1] 29 (0, 0)) (zK BK267)) : gb269 ≠ gb267)); have n8_ := zA ((by rw [hg]; exact Nat.ne_of_lt (zax (g := gb268) (o := .cells #[.slice A1_0 l1_0.length c1_0, .slice A1_1 l1_1.length c1_1] 29 (0, 0)) (zK BK268)) : gb268 ≠ gb269)); have n9_ := zA ((by rw [hg]; exact Nat.ne_of_gt (zax (g := gb268) (o := .cells #[.slice A1_0 l1_0.length c1_0, .slice A1_1 l1_1.length c1_1] 29 (0, 0)) (zK BK268)) : gb269 ≠ gb268)); clear BK267 BK268 HB; have BK267 := n0_; have BK268 := n1_; have HB := n2_; have BK269 := n3_; have GW269 := n4_; have GE269 := n5_; have NB267_269 := n6_; have NB269_267 := n7_; have NB268_269 := n8_; have NB269_268 := n9_; clear n0_ n1_ n2_ n3_ n4_ n5_ n6_ n7_ n8_ n9_ hb hbox hg))
 have n0_ := zA (zai BK267.out)
 have n1_ := zA (zai BK268.out)
 have n2_ := zA (zai BK269.out)
 have n3_ := zA (zbo HB.out)
 clear BK267 BK268 BK269 HB
 have BK267 := n0_
 have BK268 := n1_
 have BK269 := n2_
 have HB := n3_
 clear n0_ n1_ n2_ n3_
 refine start_ (n := 15) (S := fun w' => w'.cell? ⟨gb267, 0, none⟩ = some (.slice A0_0 l0_0.length c0_0) ∧ w'.cell? ⟨gb267, 1, none⟩ = some (.slice A0_1 l0_1.length c0_1) ∧ w'.cell? ⟨gb268, 0, none⟩ = some (.slice A1_0 l1_0.length c1_0) ∧ w'.cell? ⟨gb268, 1, none⟩ = some (.slice A1_1 l1_1.length c1_1)) (ds := []) #[false, false, false, false, false, false, false, false, false, false, false, false, false, false, false] (by kernel_rfl) rfl rfl ⟨(zab BK267.out 0).trans rfl, (zab BK267.out 1).trans rfl, (zab BK268.out 0).trans rfl, (zab BK268.out 1).trans rfl⟩ (fun hHeld => ?_); refine zcq zc0.tab1 zc0.bits1 (fun HT_ HW_ => ?_)
 generalize w8.drew = w9 at BK267 BK268 BK269 HB hHeld ⊢
 refine pure_ (i := 0) (N := some 6) (v := ?_) (a' := ?_) #[true, false, false, false, false, false, false, false, false, false, false, false, false, false, false] rfl rfl (zat HT_.out (by kernel_rfl)) (fun _ _ _ h => h) (Or.inl ⟨by rfl, ?_⟩) ?_ ?_
 rotate_left
 ·
  intro w'
  go_simp
  with_reducible rfl
 rotate_left
 ·
  simp only [Act.put, zs1, zs2, zs3, i64_w, i32_w]
  rfl
 refine pure_ (i := 2) (N := some 8) (v := ?_) (a' := ?_) #[true, false, true, false, false, false, false, false, false, false, false, false, false, false, false] rfl rfl (zat HT_.out (by kernel_rfl)) (fun _ _ _ h => h) (Or.inl ⟨by rfl, ?_⟩) ?_ ?_
 rotate_left
 ·
  intro w'
  go_simp
  with_reducible rfl
 rotate_left
 ·
  simp only [Act.put, zs1, zs2, zs3, i64_w, i32_w]
  rfl
 refine pure_ (i := 5) (N := some 11) (v := ?_) (a' := ?_) #[true, false, true, false, false, true, false, false, false, false, false, false, false, false, false] rfl rfl (zat HT_.out (by kernel_rfl)) (fun _ _ _ h => h) (Or.inl ⟨by rfl, ?_⟩) ?_ ?_
 rotate_left
 ·
  intro w'
  go_simp
  with_reducible rfl
 rotate_left
 ·
  simp only [Act.put, zs1, zs2, zs3, i64_w, i32_w]
  rfl
 refine pure_ (i := 7) (N := some 13) (v := ?_) (a' := ?_) #[true, false, true, false, false, true, false, true, false, false, false, false, false, false, false] rfl rfl (zat HT_.out (by kernel_rfl)) (fun _ _ _ h => h) (Or.inl ⟨by rfl, ?_⟩) ?_ ?_
 rotate_left
 ·
  intro w'
  go_simp
  with_reducible rfl
 rotate_left
 ·
  simp only [Act.put, zs1, zs2, zs3, i64_w, i32_w]
  rfl
 refine take_ (i := 1) (N := some 7) (v := ?_) (a' := ?_) #[true, true, true, false, false, true, false, true, false, false, false, false, false, false, false] rfl rfl (zbk HT_.out HW_.out (by kernel_rfl)) (fun _ _ _ h => h) (Or.inl ⟨by rfl, ?_⟩) hHeld ?_ ?_
 rotate_left
 ·
  rintro w' ⟨s0, s1, s2, s3⟩
  go_simp
  with_reducible rfl
 rotate_left
 ·
  simp only [Act.put, zs1, zs2, zs3, i64_w, i32_w]
  rfl
 refine take_ (i := 3) (N := some 9) (v := ?_) (a' := ?_) #[true, true, true, true, false, true, false, true, false, false, false, false, false, false, false] rfl rfl (zbk HT_.out HW_.out (by kernel_rfl)) (fun _ _ _ h => h) (Or.inl ⟨by rfl, ?_⟩) hHeld ?_ ?_
 rotate_left
 ·
  rintro w' ⟨s0, s1, s2, s3⟩
  go_simp
  with_reducible rfl
 rotate_left
 ·
  simp only [Act.put, zs1, zs2, zs3, i64_w, i32_w]
  rfl
 refine take_ (i := 6) (N := some 12) (v := ?_) (a' := ?_) #[true, true, true, true, false, true, true, true, false, false, false, false, false, false, false] rfl rfl (zbk HT_.out HW_.out (by kernel_rfl)) (fun _ _ _ h => h) (Or.inl ⟨by rfl, ?_⟩) hHeld ?_ ?_
 rotate_left
 ·
  rintro w' ⟨s0, s1, s2, s3⟩
  go_simp
  with_reducible rfl
 rotate_left
 ·
  simp only [Act.put, zs1, zs2, zs3, i64_w, i32_w]
  rfl
 refine take_ (i := 8) (N := some 14) (v := ?_) (a' := ?_) #[true, true, true, true, false, true, true, true, true, false, false, false, false, false, false] rfl rfl (zbk HT_.out HW_.out (by kernel_rfl)) (fun _ _ _ h => h) (Or.inl ⟨by rfl, ?_⟩) hHeld ?_ ?_
 rotate_left
 ·
  rintro w' ⟨s0, s1, s2, s3⟩
  go_simp
  with_reducible rfl
 rotate_left
 ·
  simp only [Act.put, zs1, zs2, zs3, i64_w, i32_w]
  rfl
 refine one_ (i := 4) (N := some 10) #[true, true, true, true, true, true, true, true, true, false, false, false, false, false, false] rfl rfl (zbu HT_.out (by kernel_rfl)) (by decide) (fun K hK => ?_)
 refine goes_ Tryz.func45 (by kernel_rfl) rfl #[.slice A0_0 l0_0.length c0_0, .slice A1_1 l1_1.length c1_1] (by rfl) rfl rfl (zE) ?_
 with_reducible refine (zbi.calls k _ _ l0_0 _ _ l1_1 t270 _ ?side1 ?side2 ?side3 ?side4 A3.out).mono ?_
 (case side1 => exact zJ (Kd.zas HR0_0.out HB.out))
 (case side2 => exact HC0_0.out)
 (case side3 => exact zJ (Kd.zas HR1_1.out HB.out))
 (case side4 => exact HC1_1.out)
 rintro e w10 ⟨v271, rfl, ho0, hb⟩
 refine ⟨_, rfl, ?_⟩
 have n0_ := zA (Kd.zaz (Kd.zam (ok' := fun k_ => (w.heap.size ≤ k_) ∧ k_ ≠ gb267 ∧ k_ ≠ gb268 ∧ k_ ≠ gb269) ho0 (fun k_ hk_ => ⟨(Nat.le_trans (za (zB HB)) hk_), (Kd.freshB (g := gb267) (o := .cells #[.slice A0_0 l0_0.length c0_0, .slice A0_1 l0_1.length c0_1] 29 (0, 0)) (zK BK267) k_ hk_), (Kd.freshB (g := gb268) (o := .cells #[.slice A1_0 l1_0.length c1_0, .slice A1_1 l1_1.length c1_1] 29 (0, 0)) (zK BK268) k_ hk_), (Kd.freshB (g := gb269) (o := .cells #[.slice none 0 0, .slice none 0 0] 29 (0, 0)) (zK BK269) k_ hk_)⟩)) (za (zB HB)))
 have n1_ := zA (zad (g := gb267) (o := .cells #[.slice A0_0 l0_0.length c0_0, .slice A0_1 l0_1.length c0_1] 29 (0, 0)) (zK BK267) hb)
 have n2_ := zA (zad (g := gb268) (o := .cells #[.slice A1_0 l1_0.length c1_0, .slice A1_1 l1_1.length c1_1] 29 (0, 0)) (zK BK268) hb)
 have n3_ := zA (zad (g := gb269) (o := .cells #[.slice none 0 0, .slice none 0 0] 29 (0, 0)) (zK BK269) hb)
 have n4_ := zA (zaa (zB HB) hb)
 clear BK267 BK268 BK269 HB
 have HO272 := n0_
 have BK267 := n1_
 have BK268 := n2_
 have BK269 := n3_
 have HB := n4_
 clear n0_ n1_ n2_ n3_ n4_
 (try clear hb)
 (try clear hb2)
 (try clear hk)
 (try clear hi)
 (try clear ho0)
 refine hK.out _ _ ⟨(zab BK267.out 0).trans rfl, (zab BK267.out 1).trans rfl, (zab BK268.out 0).trans rfl, (zab BK268.out 1).trans rfl⟩ (fun hHeld => ?_)
 clear hK K
 refine norm_ (a' := ?_) ?_ ?_
 rotate_left
 ·
  show Act.put _ (some 10) _ = _
  simp only [Act.put, zs1, zs2, zs3, i64_w, i32_w]
  rfl
 refine one_ (i := 9) (N := some 15) #[true, true, true, true, true, true, true, true, true, true, false, false, false, false, false] rfl rfl (zbu HT_.out (by kernel_rfl)) (by decide) (fun K hK => ?_)
 refine goes_ Tryz.func45 (by kernel_rfl) rfl #[.slice A0_1 l0_1.length c0_1, .slice A1_0 l1_0.length c1_0] (by rfl) rfl rfl (zE) ?_
 with_reducible refine (zbi.calls k _ _ l0_1 _ _ l1_0 t273 _ ?side1 ?side2 ?side3 ?side4 A4.out).mono ?_
 (case side1 => exact zJ (Kd.zas HR0_1.out HB.out))
 (case side2 => exact HC0_1.out)
 (case side3 => exact zJ (Kd.zas HR1_0.out HB.out))
 (case side4 => exact HC1_0.out)
 rintro e w11 ⟨v274, rfl, ho0, hb⟩
 refine ⟨_, rfl, ?_⟩
 have n0_ := zA (Kd.zau (zV HO272) hb)
 have n1_ := zA (Kd.zaz (Kd.zam (ok' := fun k_ => (w.heap.size ≤ k_) ∧ k_ ≠ gb267 ∧ k_ ≠ gb268 ∧ k_ ≠ gb269) ho0 (fun k_ hk_ => ⟨(Nat.le_trans (za (zB HB)) hk_), (Kd.freshB (g := gb267) (o := .cells #[.slice A0_0 l0_0.length c0_0, .slice A0_1 l0_1.length c0_1] 29 (0, 0)) (zK BK267) k_ hk_), (Kd.freshB (g := gb268) (o := .cells #[.slice A1_0 l1_0.length c1_0, .slice A1_1 l1_1.length c1_1] 29 (0, 0)) (zK BK268) k_ hk_), (Kd.freshB (g := gb269) (o := .cells #[.slice none 0 0, .slice none 0 0] 29 (0, 0)) (zK BK269) k_ hk_)⟩)) (za (zB HB)))
 have n2_ := zA (zad (g := gb267) (o := .cells #[.slice A0_0 l0_0.length c0_0, .slice A0_1 l0_1.length c0_1] 29 (0, 0)) (zK BK267) hb)
 have n3_ := zA (zad (g := gb268) (o := .cells #[.slice A1_0 l1_0.length c1_0, .slice A1_1 l1_1.length c1_1] 29 (0, 0)) (zK BK268) hb)
 have n4_ := zA (zad (g := gb269) (o := .cells #[.slice none 0 0, .slice none 0 0] 29 (0, 0)) (zK BK269) hb)
 have n5_ := zA (zaa (zB HB) hb)
 clear HO272 BK267 BK268 BK269 HB
 have HO272 := n0_
 have HO275 := n1_
 have BK267 := n2_
 have BK268 := n3_
 have BK269 := n4_
 have HB := n5_
 clear n0_ n1_ n2_ n3_ n4_ n5_
 (try clear hb)
 (try clear hb2)
 (try clear hk)
 (try clear hi)
 (try clear ho0)
 obtain ⟨Ao12, co12, eo12⟩ := Kd.za1 HO272.out
 (first | subst eo12 | (injection eo12 with f1_ f2_ f3_; have f4_ := f1_.symm; have f5_ := f3_.symm; clear f1_ f2_ f3_; subst f4_; subst f5_))
 obtain ⟨Ao13, co13, eo13⟩ := Kd.za1 HO275.out
 (first | subst eo13 | (injection eo13 with f1_ f2_ f3_; have f4_ := f1_.symm; have f5_ := f3_.symm; clear f1_ f2_ f3_; subst f4_; subst f5_))
 refine hK.out _ _ ⟨(zab BK267.out 0).trans rfl, (zab BK267.out 1).trans rfl, (zab BK268.out 0).trans rfl, (zab BK268.out 1).trans rfl⟩ (fun hHeld => ?_)
 clear hK K
 refine norm_ (a' := ?_) ?_ ?_
 rotate_left
 ·
  show Act.put _ (some 15) _ = _
  simp only [Act.put, zs1, zs2, zs3, i64_w, i32_w]
  rfl
 refine one_ (i := 10) (N := some 16) #[true, true, true, true, true, true, true, true, true, true, true, false, false, false, false] rfl rfl (zbu HT_.out (by kernel_rfl)) (by decide) (fun K hK => ?_)
 refine goes_ Tryz.func34 (by kernel_rfl) rfl #[.slice Ao12 t270.length co12, .slice Ao13 t273.length co13] (by rfl) rfl rfl (zE) ?_
 with_reducible refine (zdi.calls k _ _ t270 _ _ t273 t276 t279 t282 _ ?side1 ?side2 ?side3 ?side4 A5.out).mono ?_
 (case side1 => exact zJ (Kd.zak HO272.out).2.2)
 (case side2 => exact (Kd.zak HO272.out).2.1)
 (case side3 => exact zJ (Kd.zak HO275.out).2.2)
 (case side4 => exact (Kd.zak HO275.out).2.1)
 rintro e w14 ⟨v277, v280, rfl, ho0, ho1, hb⟩
 refine ⟨_, rfl, ?_⟩
 have n0_ := zA (Kd.zau (zV HO272) hb)
 have n1_ := zA (Kd.zau (zV HO275) hb)
 have n2_ := zA (Kd.zaz (Kd.zam (ok' := fun k_ => (w.heap.size ≤ k_) ∧ k_ ≠ gb267 ∧ k_ ≠ gb268 ∧ k_ ≠ gb269) ho0 (fun k_ hk_ => ⟨(Nat.le_trans (za (zB HB)) hk_), (Kd.freshB (g := gb267) (o := .cells #[.slice A0_0 l0_0.length c0_0, .slice A0_1 l0_1.length c0_1] 29 (0, 0)) (zK BK267) k_ hk_), (Kd.freshB (g := gb268) (o := .cells #[.slice A1_0 l1_0.length c1_0, .slice A1_1 l1_1.length c1_1] 29 (0, 0)) (zK BK268) k_ hk_), (Kd.freshB (g := gb269) (o := .cells #[.slice none 0 0, .slice none 0 0] 29 (0, 0)) (zK BK269) k_ hk_)⟩)) (za (zB HB)))
 have n3_ := zA (Kd.zaz (Kd.zam (ok' := fun k_ => (w.heap.size ≤ k_) ∧ k_ ≠ gb267 ∧ k_ ≠ gb268 ∧ k_ ≠ gb269) ho1 (fun k_ hk_ => ⟨(Nat.le_trans (za (zB HB)) hk_), (Kd.freshB (g := gb267) (o := .cells #[.slice A0_0 l0_0.length c0_0, .slice A0_1 l0_1.length c0_1] 29 (0, 0)) (zK BK267) k_ hk_), (Kd.freshB (g := gb268) (o := .cells #[.slice A1_0 l1_0.length c1_0, .slice A1_1 l1_1.length c1_1] 29 (0, 0)) (zK BK268) k_ hk_), (Kd.freshB (g := gb269) (o := .cells #[.slice none 0 0, .slice none 0 0] 29 (0, 0)) (zK BK269) k_ hk_)⟩)) (za (zB HB)))
 have n4_ := zA (zad (g := gb267) (o := .cells #[.slice A0_0 l0_0.length c0_0, .slice A0_1 l0_1.length c0_1] 29 (0, 0)) (zK BK267) hb)
 have n5_ := zA (zad (g := gb268) (o := .cells #[.slice A1_0 l1_0.length c1_0, .slice A1_1 l1_1.length c1_1] 29 (0, 0)) (zK BK268) hb)
 have n6_ := zA (zad (g := gb269) (o := .cells #[.slice none 0 0, .slice none 0 0] 29 (0, 0)) (zK BK269) hb)
 have n7_ := zA (zaa (zB HB) hb)
 clear HO272 HO275 BK267 BK268 BK269 HB
 have HO272 := n0_
 have HO275 := n1_
 have HO278 := n2_
 have HO281 := n3_
 have BK267 := n4_
 have BK268 := n5_
 have BK269 := n6_
 have HB := n7_
 clear n0_ n1_ n2_ n3_ n4_ n5_ n6_ n7_
 (try clear hb)
 (try clear hb2)
 (try clear hk)
 (try clear hi)
 (try clear ho0)
 (try clear ho1)
 obtain ⟨Ao15, co15, eo15⟩ := Kd.za1 HO278.out
 (first | subst eo15 | (injection eo15 with f1_ f2_ f3_; have f4_ := f1_.symm; have f5_ := f3_.symm; clear f1_ f2_ f3_; subst f4_; subst f5_))
 obtain ⟨Ao17, co17, eo17⟩ := Kd.za1 HO281.out
 (first | subst eo17 | (injection eo17 with f1_ f2_ f3_; have f4_ := f1_.symm; have f5_ := f3_.symm; clear f1_ f2_ f3_; subst f4_; subst f5_))
 refine hK.out _ _ ⟨(zab BK267.out 0).trans rfl, (zab BK267.out 1).trans rfl, (zab BK268.out 0).trans rfl, (zab BK268.out 1).trans rfl⟩ (fun hHeld => ?_)
 clear hK K
 refine norm_ (a' := ?_) ?_ ?_
 rotate_left
 ·
  show Act.put _ (some 16) _ = _
  simp only [Act.put, zs1, zs2, zs3, i64_w, i32_w]
  rfl
 refine pure_ (i := 11) (N := some 17) (v := ?_) (a' := ?_) #[true, true, true, true, true, true, true, true, true, true, true, true, false, false, false] rfl rfl (zat HT_.out (by kernel_rfl)) (fun _ _ _ h => h) (Or.inl ⟨by rfl, ?_⟩) ?_ ?_
 rotate_left
 ·
  intro w'
  go_simp
  with_reducible rfl
 rotate_left
 ·
  simp only [Act.put, zs1, zs2, zs3, i64_w, i32_w]
  rfl
 refine pure_ (i := 12) (N := some 18) (v := ?_) (a' := ?_) #[true, true, true, true, true, true, true, true, true, true, true, true, true, false, false] rfl rfl (zat HT_.out (by kernel_rfl)) (fun _ _ _ h => h) (Or.inl ⟨by rfl, ?_⟩) ?_ ?_
 rotate_left
 ·
  intro w'
  go_simp
  with_reducible rfl
 rotate_left
 ·
  simp only [Act.put, zs1, zs2, zs3, i64_w, i32_w]
  rfl
 refine one_ (i := 13) (N := none) #[true, true, true, true, true, true, true, true, true, true, true, true, true, true, false] rfl rfl (zbu HT_.out (by kernel_rfl)) (by decide) (fun K hK => ?_)
 have hs16 : w14.cell? ⟨gb269, 0, none⟩ = some (.slice none 0 0) := (zab BK269.out 0).trans rfl
 have hfs16 := zal BK269.out 0
 have hns16_0 := NB267_269.out
 have hns16_1 := NB268_269.out
 have hms16_0 := NB269_267.out
 have hms16_1 := NB269_268.out
 have hs18 : w14.cell? ⟨gb269, 1, none⟩ = some (.slice none 0 0) := (zab BK269.out 1).trans rfl
 have hfs18 := zal BK269.out 1
 have hns18_0 := NB267_269.out
 have hns18_1 := NB268_269.out
 have hms18_0 := NB269_267.out
 have hms18_1 := NB269_268.out
 refine skip_ (w1 := ?_) (by rfl) rfl ?_ ?_
 rotate_left
 ·
  go_simp
  rfl
 refine hK.out _ _ ⟨((cell_far (p := ⟨gb269, _, none⟩) NB267_269.out _).trans (((cell_far (p := ⟨gb269, _, none⟩) NB267_269.out _).trans (hHeld.1)))), ((cell_far (p := ⟨gb269, _, none⟩) NB267_269.out _).trans (((cell_far (p := ⟨gb269, _, none⟩) NB267_269.out _).trans (hHeld.2.1)))), ((cell_far (p := ⟨gb269, _, none⟩) NB268_269.out _).trans (((cell_far (p := ⟨gb269, _, none⟩) NB268_269.out _).trans (hHeld.2.2.1)))), ((cell_far (p := ⟨gb269, _, none⟩) NB268_269.out _).trans (((cell_far (p := ⟨gb269, _, none⟩) NB268_269.out _).trans (hHeld.2.2.2))))⟩ (fun hHeld => ?_)
 clear hK K
 refine pure_ (i := 14) (N := some 5) (v := ?_) (a' := ?_) #[true, true, true, true, true, true, true, true, true, true, true, true, true, true, true] rfl rfl (zat HT_.out (by kernel_rfl)) (fun _ _ _ h => h) (Or.inl ⟨by rfl, ?_⟩) ?_ ?_
 rotate_left
 ·
  intro w'
  go_simp
  with_reducible rfl
 rotate_left
 ·
  simp only [Act.put, zs1, zs2, zs3, i64_w, i32_w]
  rfl
 refine done_ (zdf HT_.out (by kernel_rfl)) ?_
 try go_wp2
 refine bodyPost_ret (results_ct rfl _ _ gb269 29 #[.slice Ao15 t276.length co15, .slice Ao17 t279.length co17] (0, 0) _ rfl (by (with_reducible repeat (first | refine zaj ?_ _ | refine zai ?_ | refine zah ?_ _)); refine zbc (cs := #[.slice Ao15 t276.length co15, .slice none 0 0]) ?_ 1 _ rfl; (with_reducible repeat (first | refine zaj ?_ _ | refine zai ?_ | refine zah ?_ _)); refine zbc (cs := #[.slice none 0 0, .slice none 0 0]) ?_ 0 _ rfl; (with_reducible repeat (first | refine zaj ?_ _ | refine zai ?_ | refine zah ?_ _)); exact BK269.out) Tryz.underlying29 rfl (by kernel_rfl)) rfl ?_
 exact ⟨_, _, zW, by (with_reducible repeat (first | apply Kd.zbr | apply Kd.zbq | apply Kd.zbt)); exact Kd.zam (Kd.V_far (p := ⟨gb269, 1, none⟩) (Kd.V_far (p := ⟨gb269, 0, none⟩) (Kd.zam HO278.out (fun k_ hk => (⟨hk, hk.2.2.2⟩ : _ ∧ k_ ≠ gb269))) (fun _ hk => hk.2) (.slice Ao15 t276.length co15)) (fun _ hk => hk.2) (.slice Ao17 t279.length co17)) (fun _ hk => hk.1.1), by (with_reducible repeat (first | apply Kd.zbr | apply Kd.zbq | apply Kd.zbt)); exact Kd.zam (Kd.V_far (p := ⟨gb269, 1, none⟩) (Kd.V_far (p := ⟨gb269, 0, none⟩) (Kd.zam HO281.out (fun k_ hk => (⟨hk, hk.2.2.2⟩ : _ ∧ k_ ≠ gb269))) (fun _ hk => hk.2) (.slice Ao15 t276.length co15)) (fun _ hk => hk.2) (.slice Ao17 t279.length co17)) (fun _ hk => hk.1.1), zB HB⟩
def nat_Sub.f (k : Nat) (l0 : List Int) (l1 : List Int) : Option (List Int × Int) := (zcp.f l0 l1).bind fun t283 => (if t283 < 0 then (some (([] : List Int), 14)) else ((zbx.f k l0 l1).bind fun t284 => (some (t284, 0))))
theorem nat_Sub.calls (k : Nat) (A0 : Option Addr) (c0 : Nat) (l0 : List Int) (A1 : Option Addr) (c1 : Nat) (l1 : List Int) (r1 : List Int) (r2 : Int) (w : World) (hr0 : Kd.C (Kd.int .u64) w A0 l0.length l0) (hc0 : l0.length ≤ c0) (hr1 : Kd.C (Kd.int .u64) w A1 l1.length l1) (hc1 : l1.length ≤ c1) (h : nat_Sub.f k l0 l1 = some (r1, r2)) :
  Calls Tryz.prog 126 #[.slice A0 l0.length c0, .slice A1 l1.length c1] w fun e w' => ∃ v0_ : Value, e = .returned (.tuple #[v0_, .int .i64 r2]) ∧ Kd.V (Kd.int .u64) 82 w' w.heap.size (fun k_ => (w.heap.size ≤ k_)) v0_ r1 ∧ Below w.heap.size w w' := by
 have HR0 := zA hr0
 have HC0 := zA hc0
 clear hr0 hc0
 have HR1 := zA hr1
 have HC1 := zA hc1
 clear hr1 hc1
 have HB := zA (Below.refl w.heap.size w)
 have H : ((zcp.f l0 l1).bind fun t283 => (if t283 < 0 then (some (([] : List Int), 14)) else ((zbx.f k l0 l1).bind fun t284 => (some (t284, 0))))) = some (r1, r2) := h
 clear h
 replace H := zO H
 obtain ⟨t283, A30, H⟩ := H
 try dsimp only at H
 have A3 := zA A30
 clear A30
 by_cases c4 : t283 < 0
 ·
  rw [if_pos c4] at H
  have c4b0 : decide (t283 < 0) = true := decide_eq_true c4
  clear c4
  simp only [Option.some.injEq, Prod.mk.injEq] at H
  obtain ⟨rfl, rfl⟩ := H
  go_enter Tryz.func126, Tryz.ntmps126
  go_wp2_with (first | ((with_reducible refine zae (f := 42) rfl ?_); refine za2 (some 8) rfl rfl Tryz.func42 (by kernel_rfl) rfl #[.slice A0 l0.length c0, .slice A1 l1.length c1] rfl (zE) ?_; (with_reducible refine (zcp.calls _ _ l0 _ _ l1 t283 _ ?side1 ?side2 ?side3 ?side4 A3.out).mono ?_); (case side1 => repeat (first | exact HR0.out | (with_reducible refine Kd.za6 ?_ _) | (with_reducible refine Kd.za5 ?_ _) | (with_reducible refine Kd.zbe ?_))); (case side2 => exact HC0.out); (case side3 => repeat (first | exact HR1.out | (with_reducible refine Kd.za6 ?_ _) | (with_reducible refine Kd.za5 ?_ _) | (with_reducible refine Kd.zbe ?_))); (case side4 => exact HC1.out); rintro e w5 ⟨rfl, hb⟩; refine ⟨_, rfl, ?_⟩; have n0_ := zA (zaa (zB HB) hb); clear HB; have HB := n0_; clear n0_; (try clear hb); (try clear hb2); (try clear hk); (try clear hi)))
  go_ret2
  exact ⟨_, zW, Kd.V_nil _ _ _ _ _, zB HB⟩
 ·
  rw [if_neg c4] at H
  have c4b0 : decide (t283 < 0) = false := decide_eq_false c4
  clear c4
  replace H := zO H
  obtain ⟨t284, A60, H⟩ := H
  try dsimp only at H
  have A6 := zA A60
  clear A60
  simp only [Option.some.injEq, Prod.mk.injEq] at H
  obtain ⟨rfl, rfl⟩ := H
  go_enter Tryz.func126, Tryz.ntmps126
  go_wp2_with (first | ((with_reducible refine zae (f := 42) rfl ?_); refine za2 (some 8) rfl rfl Tryz.func42 (by kernel_rfl) rfl #[.slice A0 l0.length c0, .slice A1 l1.length c1] rfl (zE) ?_; (with_reducible refine (zcp.calls _ _ l0 _ _ l1 t283 _ ?side1 ?side2 ?side3 ?side4 A3.out).mono ?_); (case side1 => repeat (first | exact HR0.out | (with_reducible refine Kd.za6 ?_ _) | (with_reducible refine Kd.za5 ?_ _) | (with_reducible refine Kd.zbe ?_))); (case side2 => exact HC0.out); (case side3 => repeat (first | exact HR1.out | (with_reducible refine Kd.za6 ?_ _) | (with_reducible refine Kd.za5 ?_ _) | (with_reducible refine Kd.zbe ?_))); (case side4 => exact HC1.out); rintro e w7 ⟨rfl, hb⟩; refine ⟨_, rfl, ?_⟩; have n0_ := zA (zaa (zB HB) hb); clear HB; have HB := n0_; clear n0_; (try clear hb); (try clear hb2); (try clear hk); (try clear hi)) | ((with_reducible refine zae (f := 133) rfl ?_); refine za2 (some 12) rfl rfl Tryz.func133 (by kernel_rfl) rfl #[.slice A0 l0.length c0, .slice A1 l1.length c1] rfl (zE) ?_; (with_reducible refine (zbx.calls k _ _ l0 _ _ l1 t284 _ ?side1 ?side2 ?side3 ?side4 A6.out).mono ?_); (case side1 => exact zJ (Kd.zas HR0.out HB.out)); (case side2 => exact HC0.out); (case side3 => exact zJ (Kd.zas HR1.out HB.out)); (case side4 => exact HC1.out); rintro e w8 ⟨v285, rfl, ho0, hb⟩; refine ⟨_, rfl, ?_⟩; have n0_ := zA (Kd.zaz (Kd.zam (ok' := fun k_ => (w.heap.size ≤ k_)) ho0 (fun k_ hk_ => (Nat.le_trans (za (zB HB)) hk_))) (za (zB HB))); have n1_ := zA (zaa (zB HB) hb); clear HB; have HO286 := n0_; have HB := n1_; clear n0_ n1_; (try clear hb); (try clear hb2); (try clear hk); (try clear hi); (try clear ho0)))
  go_ret2
  exact ⟨_, zW, zV HO286, zB HB⟩
end Go.Proofs.YthiicmanfpmipaaGreatDoor.P
end
