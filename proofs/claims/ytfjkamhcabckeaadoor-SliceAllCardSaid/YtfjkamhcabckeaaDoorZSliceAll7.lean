-- Written by a program of this session (wip/tools/shake.py) out of its own texts and of the kit's printed ones; not trusted: Lean checks it.
import Derived.Test.YtfjkamhcabckeaaDoorZSliceAll6
set_option maxHeartbeats 8000000
set_option maxRecDepth 100000
set_option linter.unusedVariables false
set_option linter.unusedSimpArgs false
section
namespace Go.Proofs.YtfjkamhcabckeaaDoor.P
open Go.RowKit Go.Proofs.YtfjkamhcabckeaaDoorW.PrintWords Go.Proofs.YtfjkamhcabckeaaDoorW.PrintLast Go.Proofs.YtfjkamhcabckeaaDoorW.PrintMore
attribute [local go_sem] zdm zdh max_two min_two zc8 zc9 zdg zdi
mutual
def zaa.j0 : Nat → Int → List (S75) → Bool → Option (Bool)
 | 0, _, _, _ => none
 | k + 1, x0, x1, x26 => if x26 = true then ((zbf.f k).bind fun t1270 => (some t1270)) else (zaa.l0 k x1 (wrap64 (1 + (Int.tmod (wrap64 (x0)) 1000))) ([] : List (S28)) false x1 (x1.length : Int) 0)
def zaa.l0 : Nat → List (S75) → Int → List (S28) → Bool → List (S75) → Int → Int → Option (Bool)
 | 0, _, _, _, _, _, _, _ => none
 | k + 1, x1, x5, x6, x7, x32, x33, x34 => if x34 < x33 then (if 0 ≤ x34 then (if x34 < (x32.length : Int) then (if ((rd_T75 x32 x34).f0) < 0 then (zaa.j2 k x1 x5 x6 x7 x32 x33 x34 true ((rd_T75 x32 x34).f0) ((rd_T75 x32 x34).f1)) else (zaa.j2 k x1 x5 x6 x7 x32 x33 x34 (decide (((rd_T75 x32 x34).f1) < 1)) ((rd_T75 x32 x34).f0) ((rd_T75 x32 x34).f1))) else (none)) else (none)) else ((zbp.f k x5 x6).bind fun bt1290 => (if x7 = true then (if bt1290.2 = 14 then (some ((bt1290.1.length : Int) == 0)) else (none)) else (if bt1290.2 = 0 then (zaa.j3 k x1 x5 bt1290.1 ((bt1290.1.length : Int) != (x1.length : Int))) else (zaa.j3 k x1 x5 bt1290.1 true))))
def zaa.j2 : Nat → List (S75) → Int → List (S28) → Bool → List (S75) → Int → Int → Bool → Int → Int → Option (Bool)
 | 0, _, _, _, _, _, _, _, _, _, _ => none
 | k + 1, x1, x5, x6, x7, x32, x33, x34, x45, x1273000, x1273001 => if x45 = true then (some true) else ((zcf.f k (IntKind.u64.wrap (x1273000))).bind fun t1273 => ((zcf.f k (IntKind.u64.wrap (x1273001))).bind fun t1276 => ((zc4.f k t1273 t1276).bind fun bt1279 => (if x6.length < 2932031007402 then ((some (x6 ++ [(⟨bt1279.1, bt1279.2.1⟩ : S28)] : List (S28))).bind fun y1287 => (if x7 = true then (zaa.l0 k x1 x5 y1287 true x32 x33 (wrap64 (x34 + 1))) else (zaa.l0 k x1 x5 y1287 (decide (x1273000 > x1273001)) x32 x33 (wrap64 (x34 + 1))))) else (none)))))
def zaa.j3 : Nat → List (S75) → Int → List Int → Bool → Option (Bool)
 | 0, _, _, _, _ => none
 | k + 1, x1, x5, x12, x93 => if x93 = true then (none) else (zaa.l1 k x5 x12 0 x1 (x1.length : Int) 0)
def zaa.l1 : Nat → Int → List Int → Int → List (S75) → Int → Int → Option (Bool)
 | 0, _, _, _, _, _, _ => none
 | k + 1, x5, x12, x14, x94, x95, x96 => if x96 < x95 then (if 0 ≤ x96 then (if x96 < (x94.length : Int) then ((za0.f k ((rd_T75 x94 x96).f0) ((rd_T75 x94 x96).f1)).bind fun bt1297 => (if x96 < (x12.length : Int) then ((za1.f k x5 bt1297.2.2.1 bt1297.2.2.2.1).bind fun t1313 => (if (rd x12 x96) = t1313 then (zaa.l1 k x5 x12 (wrap64 (x14 + (rd x12 x96))) x94 x95 (wrap64 (x96 + 1))) else (none))) else (none))) else (none)) else (none)) else ((zcq.f k x12).bind fun t1294 => (some (t1294 == x14)))
end
def zaa.f (k : Nat) (a0 : Int) (l1 : List (S75)) : Option (Bool) := (zbf.f k).bind fun t1269 => (if t1269 = true then (zaa.j0 k a0 l1 (decide ((l1.length : Int) > 20))) else (zaa.j0 k a0 l1 true))
def zaa.T11 : Bool × List (List Nat × List Nat) := (true, [([], []), ([0], [0]), ([1], [1]), ([2], [2]), ([], []), ([4], [4]), ([5], [5]), ([6, 3], [6]), ([3, 7, 7], [3, 7]), ([8], [8]), ([9], [9]), ([9], [9]), ([], []), ([12, 10, 8, 0, 1, 2, 3, 4, 5, 6, 7, 8, 9, 10, 12], [10, 12]), ([11, 13, 0, 1, 2, 3, 4, 5, 6, 7, 8, 9, 10, 11, 12, 13], [11])])
def zaa.B11 : List Nat := [0, 1, 3, 7, 0, 16, 48, 127, 255, 511, 1023, 1023, 0, 6143, 16383]
theorem zaa.tab11 : rtab .any (opsOf Tryd.f12 11) = zaa.T11 := by kernel_rfl
theorem zaa.bits11 : waitsOk zaa.T11.2 zaa.B11 = true := by kernel_rfl
def zaa.T25 : Bool × List (List Nat × List Nat) := (true, [([], []), ([], []), ([0, 1], [0, 1]), ([2], [2]), ([], []), ([], []), ([4, 5], [4, 5]), ([3, 6], [3, 6])])
def zaa.B25 : List Nat := [0, 0, 3, 7, 0, 0, 48, 127]
theorem zaa.tab25 : rtab .any (opsOf Tryd.f12 25) = zaa.T25 := by kernel_rfl
theorem zaa.bits25 : waitsOk zaa.T25.2 zaa.B25 = true := by kernel_rfl
theorem zaa.calls (k : Nat) (a0 : Int) (A1 : Option Addr) (c1 : Nat) (l1 : List (S75)) (r : Bool) (w : World) (hr1 : Kd.C k75 w A1 l1.length l1) (hc1 : l1.length ≤ c1) (hG : Glob w) (h : zaa.f k a0 l1 = some r) :
  Calls Tryd.prog 12 #[.int .u16 a0, .slice A1 l1.length c1] w fun e w' => e = .returned (.bool r) ∧ Below w.heap.size w w' := by
 have hu75 := Tryd.underlying75
 have hu28 := Tryd.underlying28
 have hu40 := Tryd.underlying40
 have HR1 := zA hr1
 have HC1 := zA hc1
 clear hr1 hc1
 have HG := zA hG
 clear hG
 have HB := zA (Below.refl w.heap.size w)
 have H : ((zbf.f k).bind fun t1269 => (if t1269 = true then (zaa.j0 k a0 l1 (decide ((l1.length : Int) > 20))) else (zaa.j0 k a0 l1 true))) = some r := h
 clear h
 have HC3 := zA H
 clear H
 go_enter Tryd.func12, Tryd.ntmps12
 go_upto_region 1 with (fail)
 go_cut [26] (fun v26 wc => ∃ (kq : Nat) (x26_2 : Bool), v26 = .bool x26_2 ∧ Aside0 (zaa.j0 kq a0 l1 x26_2 = some r) ∧ Aside0 (kq ≤ k) ∧ Aside0 (Below w.heap.size w wc))
 case first =>
  have H := HC3.out
  clear HC3
  replace H := zO H
  obtain ⟨t1269, A40, H⟩ := H
  try dsimp only at H
  have A4 := zA A40
  clear A40
  by_cases c5 : t1269 = true
  ·
   subst c5
   rw [if_pos rfl] at H
   have H' := zA H
   clear H
   go_wp2_with (first | ((with_reducible refine zae (f := 45) rfl ?_); refine za4 (some 20) rfl rfl Tryd.func45 (by kernel_rfl) rfl #[] rfl (zE) ?_; (with_reducible refine (zbf.calls k  true _ ?side1 A4.out).mono ?_); (case side1 => exact Glob.below HG.out (zB HB)); rintro e w6 ⟨rfl, hb⟩; refine ⟨_, rfl, ?_⟩; have n0_ := zA (zac (zB HB) hb); clear HB; have HB := n0_; clear n0_; (try clear hb); (try clear hb2); (try clear hk); (try clear hi)))
   go_meet
   case rel => exact ⟨_, (decide ((l1.length : Int) > 20)), (zF), H', ⟨by first | omega | exact Nat.le_refl _⟩, ⟨zB HB⟩⟩
  ·
   replace c5 := Bool.eq_false_iff.mpr c5
   subst c5
   rw [if_neg (show ¬ (false = true) by decide)] at H
   have H' := zA H
   clear H
   go_wp2_with (first | ((with_reducible refine zae (f := 45) rfl ?_); refine za4 (some 20) rfl rfl Tryd.func45 (by kernel_rfl) rfl #[] rfl (zE) ?_; (with_reducible refine (zbf.calls k  false _ ?side1 A4.out).mono ?_); (case side1 => exact Glob.below HG.out (zB HB)); rintro e w7 ⟨rfl, hb⟩; refine ⟨_, rfl, ?_⟩; have n0_ := zA (zac (zB HB) hb); clear HB; have HB := n0_; clear n0_; (try clear hb); (try clear hb2); (try clear hk); (try clear hi)))
   go_meet
   case rel => exact ⟨_, (true), (zF), H', ⟨by first | omega | exact Nat.le_refl _⟩, ⟨zB HB⟩⟩
 case rest =>
  clear HC3
  try clear c1
  try clear p2
  try clear c4
  try clear c5
  try clear p6
  obtain ⟨kq, x26_2, rfl, HA, HJ2, HB⟩ := hcut
  cases kq with
  | zero => exact absurd HA.out (by simp [zaa.j0])
  | succ kj2 =>
   have H := HA.out
   clear HA
   simp only [zaa.j0] at H
   by_cases c8 : x26_2 = true
   ·
    subst c8
    rw [if_pos rfl] at H
    replace H := zO H
    obtain ⟨t1270, A90, H⟩ := H
    try dsimp only at H
    have A9 := zA A90
    clear A90
    obtain rfl := Option.some.inj H
    go_wp2_with (first | ((with_reducible refine zae (f := 45) rfl ?_); refine za4 (some 27) rfl rfl Tryd.func45 (by kernel_rfl) rfl #[] rfl (zE) ?_; (with_reducible refine (zbf.calls kj2  t1270 _ ?side1 A9.out).mono ?_); (case side1 => exact Glob.below HG.out (zB HB)); rintro e w10 ⟨rfl, hb⟩; refine ⟨_, rfl, ?_⟩; have n0_ := zA (zac (zB HB) hb); clear HB; have HB := n0_; clear n0_; (try clear hb); (try clear hb2); (try clear hk); (try clear hi)))
    go_ret
    exact ⟨zW, zB HB⟩
   ·
    replace c8 := Bool.eq_false_iff.mpr c8
    subst c8
    rw [if_neg (show ¬ (false = true) by decide)] at H
    have H' := zA H
    clear H
    go_wp2
    go_loopg [6, 7, 34] kj2 (fun kq v6 v7 v34 w' => ∃ (x6_2 : List (S28)) (x7_2 : Bool) (x34_2 : Int), v7 = .bool x7_2 ∧ v34 = .int .i64 x34_2 ∧ Aside0 (zaa.l0 kq l1 (wrap64 (1 + (Int.tmod (wrap64 (a0)) 1000))) x6_2 x7_2 l1 (l1.length : Int) x34_2 = some r) ∧ Aside0 (kq ≤ kj2) ∧ Aside0 (Kd.N k28 28 w' w.heap.size (fun _ => True) v6 x6_2) ∧ Aside0 (Below w.heap.size w w'))
    case atStart => exact ⟨(([] : List (S28))), (false), (0), (zF), (zF), H', ⟨Nat.le_refl _⟩, ⟨by first | exact Kd.S_nil _ _ _ _ _ | exact Kd.N_nil _ _ _ _ _ | exact Kd.V_nil _ _ _ _ _ | exact Kd.Q_nil _ _ _ _ _ | exact Kd.R_nil _ _ _ _ _⟩, ⟨zB HB⟩⟩
    case round =>
     clear H'
     try clear c1
     try clear p2
     try clear c4
     try clear c5
     try clear p6
     try clear c8
     try clear p2
     try clear p6
     obtain ⟨x6_2, x7_2, x34_2, rfl, rfl, HA, HK2, HO_6, HB⟩ := hrel
     cases gk with
     | zero => exact absurd HA.out (by simp [zaa.l0])
     | succ k2 =>
      have H := HA.out
      clear HA
      simp only [zaa.l0] at H
      by_cases c11 : x34_2 < (l1.length : Int)
      ·
       rw [if_pos c11] at H
       have c11b0 : decide (x34_2 < (l1.length : Int)) = true := decide_eq_true c11
       clear c11
       by_cases c12 : 0 ≤ x34_2
       ·
        rw [if_pos c12] at H
        have c12b0 : decide (0 ≤ x34_2) = true := decide_eq_true c12
        clear c12
        by_cases c13 : x34_2 < (l1.length : Int)
        ·
         rw [if_pos c13] at H
         have c13b0 : decide (x34_2 < (l1.length : Int)) = true := decide_eq_true c13
         clear c13
         have HC14 := zA H
         clear H
         have p1271 : 0 ≤ (x34_2 : Int) := of_decide_eq_true (by first | (with_reducible assumption) | assumption)
         have q1271 : x34_2 < (l1.length : Int) := of_decide_eq_true (by first | (with_reducible assumption) | assumption)
         obtain ⟨ad1271, e1271, hx1271_0, hx1271_1⟩ := at_T75 HR1.out x34_2 p1271 q1271
         cases e1271
         replace hx1271_0 := (HB.out.cell (World.block_lt_of_cell? w _ hx1271_0)).trans hx1271_0
         replace hx1271_1 := (HB.out.cell (World.block_lt_of_cell? w _ hx1271_1)).trans hx1271_1
         replace p1271 := eq_true p1271
         replace q1271 := eq_true q1271
         go_upto_region 9 with (first | ((with_reducible refine zbe (N := 9) rfl ?_); (try (refine zct (by rfl) ?_; dsimp only)); refine zbl ?hg (N := 9) ?hd (cs := #[.int .i64 0, .int .i64 0]) (t := 75) ?hr ?_; (case hd => rfl); (case hg => rfl); (case hr => first | (go_simp; done) | (go_simp; rfl)); intro gb1272 hg w15 hbox hb; have n0_ := zA (Kd.zch (Kd.N_elderB (zN HO_6) gb1272 (Nat.le_of_eq hg.symm)) hb); have n1_ := zA (zac (zB HB) hb); have n2_ := zA (hbox); have n3_ := zA ((by rw [hg]; exact (za (zB HB)) : w.heap.size ≤ gb1272)); have n4_ := zA ((by rw [hg]; exact (za (zB HB)) : w.heap.size ≤ gb1272)); clear HO_6 HB; have HO_6 := n0_; have HB := n1_; have BK1272 := n2_; have GW1272 := n3_; have GE1272 := n4_; clear n0_ n1_ n2_ n3_ n4_ hb hbox hg; have hcz16_0 : w15.cell? ⟨gb1272, 0, none⟩ = some (.int .i64 0) := (zab BK1272.out 0).trans rfl; have hcz16_1 : w15.cell? ⟨gb1272, 1, none⟩ = some (.int .i64 0) := (zab BK1272.out 1).trans rfl; have hfz16_0 := zan BK1272.out 0; have hfz16_1 := zan BK1272.out 1))
         (try simp only [Act.put, zs1, zs2, zs3])
         go_cut [45] (fun v45 wc => ∃ (kq : Nat) (x45_13 : Bool), v45 = .bool x45_13 ∧ Aside0 (zaa.j2 kq l1 (wrap64 (1 + (Int.tmod (wrap64 (a0)) 1000))) x6_2 x7_2 l1 (l1.length : Int) x34_2 x45_13 ((rd_T75 l1 x34_2).f0) ((rd_T75 l1 x34_2).f1) = some r) ∧ Aside0 (kq ≤ k2) ∧ Aside0 (Kd.N k28 28 wc w.heap.size (fun k_ => k_ ≠ gb1272) u6 x6_2) ∧ Aside0 (wc.heap[gb1272]? = some (.cells #[.int .i64 ((rd_T75 l1 x34_2).f0), .int .i64 ((rd_T75 l1 x34_2).f1)] 75 (0, 0))) ∧ Aside0 (Below w.heap.size w wc))
         case first =>
          have H := HC14.out
          clear HC14
          by_cases c17 : ((rd_T75 l1 x34_2).f0) < 0
          ·
           rw [if_pos c17] at H
           have c17b0 : decide (((rd_T75 l1 x34_2).f0) < 0) = true := decide_eq_true c17
           clear c17
           (first | rw [c17b0] | (simp only [i64_w, i32_w]; rw [c17b0]) | skip)
           have H' := zA H
           clear H
           have hcz18_0 : w15.cell? ⟨gb1272, 0, none⟩ = some (.int .i64 0) := (zab BK1272.out 0).trans rfl
           have hcz18_1 : w15.cell? ⟨gb1272, 1, none⟩ = some (.int .i64 0) := (zab BK1272.out 1).trans rfl
           have hfz18_0 := zan BK1272.out 0
           have hfz18_1 := zan BK1272.out 1
           go_wp2
           go_meet
           case rel => exact ⟨_, (true), (zF), H', ⟨by have := HJ2.out; have := HK2.out; first | omega | exact Nat.le_refl _⟩, ⟨by (with_reducible repeat (first | apply Kd.N_alloc | apply Kd.N_drewN | apply Kd.N_drew)); exact Kd.N_mono (Kd.N_far (p := ⟨gb1272, 1, none⟩) (Kd.N_far (p := ⟨gb1272, 0, none⟩) (Kd.N_mono HO_6.out (fun k_ hk => (⟨hk, hk.2⟩ : _ ∧ k_ ≠ gb1272))) (fun _ hk => hk.2) (.int .i64 ((rd_T75 l1 x34_2).f0))) (fun _ hk => hk.2) (.int .i64 ((rd_T75 l1 x34_2).f1))) (fun _ hk => hk.1.2)⟩, ⟨by (with_reducible repeat (first | refine zai ?_ _ | refine zaj ?_ | refine zah ?_ _)); refine zbn (cs := #[.int .i64 ((rd_T75 l1 x34_2).f0), .int .i64 0]) ?_ 1 _ rfl; (with_reducible repeat (first | refine zai ?_ _ | refine zaj ?_ | refine zah ?_ _)); refine zbn (cs := #[.int .i64 0, .int .i64 0]) ?_ 0 _ rfl; (with_reducible repeat (first | refine zai ?_ _ | refine zaj ?_ | refine zah ?_ _)); exact BK1272.out⟩, ⟨zB HB⟩⟩
          ·
           rw [if_neg c17] at H
           have c17b0 : decide (((rd_T75 l1 x34_2).f0) < 0) = false := decide_eq_false c17
           clear c17
           (first | rw [c17b0] | (simp only [i64_w, i32_w]; rw [c17b0]) | skip)
           have H' := zA H
           clear H
           have hcz19_0 : w15.cell? ⟨gb1272, 0, none⟩ = some (.int .i64 0) := (zab BK1272.out 0).trans rfl
           have hcz19_1 : w15.cell? ⟨gb1272, 1, none⟩ = some (.int .i64 0) := (zab BK1272.out 1).trans rfl
           have hfz19_0 := zan BK1272.out 0
           have hfz19_1 := zan BK1272.out 1
           go_wp2
           go_meet
           case rel => exact ⟨_, (decide (((rd_T75 l1 x34_2).f1) < 1)), (zF), H', ⟨by have := HJ2.out; have := HK2.out; first | omega | exact Nat.le_refl _⟩, ⟨by (with_reducible repeat (first | apply Kd.N_alloc | apply Kd.N_drewN | apply Kd.N_drew)); exact Kd.N_mono (Kd.N_far (p := ⟨gb1272, 1, none⟩) (Kd.N_far (p := ⟨gb1272, 0, none⟩) (Kd.N_mono HO_6.out (fun k_ hk => (⟨hk, hk.2⟩ : _ ∧ k_ ≠ gb1272))) (fun _ hk => hk.2) (.int .i64 ((rd_T75 l1 x34_2).f0))) (fun _ hk => hk.2) (.int .i64 ((rd_T75 l1 x34_2).f1))) (fun _ hk => hk.1.2)⟩, ⟨by (with_reducible repeat (first | refine zai ?_ _ | refine zaj ?_ | refine zah ?_ _)); refine zbn (cs := #[.int .i64 ((rd_T75 l1 x34_2).f0), .int .i64 0]) ?_ 1 _ rfl; (with_reducible repeat (first | refine zai ?_ _ | refine zaj ?_ | refine zah ?_ _)); refine zbn (cs := #[.int .i64 0, .int .i64 0]) ?_ 0 _ rfl; (with_reducible repeat (first | refine zai ?_ _ | refine zaj ?_ | refine zah ?_ _)); exact BK1272.out⟩, ⟨zB HB⟩⟩
         case rest =>
          clear HC14
          try clear c1
          try clear p1
          try clear q1
          try clear hx1
          try clear p2
          try clear c4
          try clear c5
          try clear p6
          try clear c8
          try clear c11
          try clear c11b0
          try clear c12
          try clear c12b0
          try clear p12
          try clear q12
          try clear hx12
          try clear c13
          try clear c13b0
          try clear c17
          try clear c17b0
          try clear hcz16_0
          try clear hcz16_1
          try clear hcz18_0
          try clear hcz18_1
          try clear hcz19_0
          try clear hcz19_1
          try clear hfz16_0
          try clear hfz16_1
          try clear hfz18_0
          try clear hfz18_1
          try clear hfz19_0
          try clear hfz19_1
          try clear hx1271_0
          try clear hx1271_1
          try clear p1271
          try clear p2
          try clear p6
          try clear q1271
          obtain ⟨kq, x45_13, rfl, HA, HJ13, HO_6, BK1272, HB⟩ := hcut
          cases kq with
          | zero => exact absurd HA.out (by simp [zaa.j2])
          | succ kj13 =>
           have H := HA.out
           clear HA
           simp only [zaa.j2] at H
           by_cases c20 : x45_13 = true
           ·
            subst c20
            rw [if_pos rfl] at H
            obtain rfl := Option.some.inj H
            go_wp2
            go_ret
            exact ⟨zW, zB HB⟩
           ·
            replace c20 := Bool.eq_false_iff.mpr c20
            subst c20
            rw [if_neg (show ¬ (false = true) by decide)] at H
            replace H := zO H
            obtain ⟨t1273, A210, H⟩ := H
            try dsimp only at H
            have A21 := zA A210
            clear A210
            replace H := zO H
            obtain ⟨t1276, A220, H⟩ := H
            try dsimp only at H
            have A22 := zA A220
            clear A220
            replace H := zO H
            obtain ⟨⟨t1279, t1282, t1285⟩, A230, H⟩ := H
            try dsimp only at H
            have A23 := zA A230
            clear A230
            by_cases c24 : x6_2.length < 2932031007402
            ·
             rw [if_pos c24] at H
             have LMc24 := zA c24
             clear c24
             obtain ⟨y1287, hy1287⟩ : ∃ y_ : List (S28), y_ = (x6_2 ++ [(⟨t1279, t1282⟩ : S28)]) := ⟨_, rfl⟩
             replace H : (if x7_2 = true then (zaa.l0 kj13 l1 (wrap64 (1 + (Int.tmod (wrap64 (a0)) 1000))) y1287 true l1 (l1.length : Int) (wrap64 (x34_2 + 1))) else (zaa.l0 kj13 l1 (wrap64 (1 + (Int.tmod (wrap64 (a0)) 1000))) y1287 (decide (((rd_T75 l1 x34_2).f0) > ((rd_T75 l1 x34_2).f1))) l1 (l1.length : Int) (wrap64 (x34_2 + 1)))) = some r := by first | (rw [hy1287]; with_reducible exact H) | (have H2_ := (Option.bind_some _ _).symm.trans H; rw [hy1287]; with_reducible exact H2_) | (have H2_ := (Option.bind_some _ _).symm.trans H; with_reducible exact H2_) | with_reducible exact H | (rw [hy1287]; exact H) | exact H
             have Ny1287 := zA hy1287
             clear hy1287
             by_cases c25 : x7_2 = true
             ·
              subst c25
              rw [if_pos rfl] at H
              have H' := zA H
              clear H
              try go_wp2
              have n0_ := zA (Kd.N_drew HO_6.out)
              have n1_ := zA (zaj BK1272.out)
              have n2_ := zA (zbi HB.out)
              clear HO_6 BK1272 HB
              have HO_6 := n0_
              have BK1272 := n1_
              have HB := n2_
              clear n0_ n1_ n2_
              refine start_ (n := 15) (S := fun w' => w'.cell? ⟨gb1272, 0, none⟩ = some (.int .i64 ((rd_T75 l1 x34_2).f0)) ∧ w'.cell? ⟨gb1272, 1, none⟩ = some (.int .i64 ((rd_T75 l1 x34_2).f1))) (ds := []) #[false, false, false, false, false, false, false, false, false, false, false, false, false, false, false] (by kernel_rfl) rfl rfl ⟨(zab BK1272.out 0).trans rfl, (zab BK1272.out 1).trans rfl⟩ (fun hHeld => ?_); refine zcw zaa.tab11 zaa.bits11 (fun HT_ HW_ => ?_)
              generalize wc.drew = w26 at HO_6 BK1272 HB hHeld ⊢
              refine pure_ (i := 0) (N := some 47) (v := ?_) (a' := ?_) #[true, false, false, false, false, false, false, false, false, false, false, false, false, false, false] rfl rfl (zav HT_.out (by kernel_rfl)) (fun _ _ _ h => h) (Or.inl ⟨by rfl, ?_⟩) ?_ ?_
              rotate_left
              ·
               intro w'
               go_simp
               with_reducible rfl
              rotate_left
              ·
               simp only [Act.put, zs1, zs2, zs3, i64_w, i32_w]
               rfl
              refine pure_ (i := 4) (N := some 51) (v := ?_) (a' := ?_) #[true, false, false, false, true, false, false, false, false, false, false, false, false, false, false] rfl rfl (zav HT_.out (by kernel_rfl)) (fun _ _ _ h => h) (Or.inl ⟨by rfl, ?_⟩) ?_ ?_
              rotate_left
              ·
               intro w'
               go_simp
               with_reducible rfl
              rotate_left
              ·
               simp only [Act.put, zs1, zs2, zs3, i64_w, i32_w]
               rfl
              refine take_ (i := 1) (N := some 48) (v := ?_) (a' := ?_) #[true, true, false, false, true, false, false, false, false, false, false, false, false, false, false] rfl rfl (zb9 HT_.out HW_.out (by kernel_rfl)) (fun _ _ _ h => h) (Or.inl ⟨by rfl, ?_⟩) hHeld ?_ ?_
              rotate_left
              ·
               rintro w' ⟨s0, s1⟩
               go_simp
               with_reducible rfl
              rotate_left
              ·
               simp only [Act.put, zs1, zs2, zs3, i64_w, i32_w]
               rfl
              refine pure_ (i := 2) (N := some 49) (v := ?_) (a' := ?_) #[true, true, true, false, true, false, false, false, false, false, false, false, false, false, false] rfl rfl (zav HT_.out (by kernel_rfl)) (fun _ _ _ h => h) (Or.inl ⟨by rfl, ?_⟩) ?_ ?_
              rotate_left
              ·
               intro w'
               go_simp
               with_reducible rfl
              rotate_left
              ·
               simp only [Act.put, zs1, zs2, zs3, i64_w, i32_w]
               rfl
              refine take_ (i := 5) (N := some 52) (v := ?_) (a' := ?_) #[true, true, true, false, true, true, false, false, false, false, false, false, false, false, false] rfl rfl (zb9 HT_.out HW_.out (by kernel_rfl)) (fun _ _ _ h => h) (Or.inl ⟨by rfl, ?_⟩) hHeld ?_ ?_
              rotate_left
              ·
               rintro w' ⟨s0, s1⟩
               go_simp
               with_reducible rfl
              rotate_left
              ·
               simp only [Act.put, zs1, zs2, zs3, i64_w, i32_w]
               rfl
              refine pure_ (i := 6) (N := some 53) (v := ?_) (a' := ?_) #[true, true, true, false, true, true, true, false, false, false, false, false, false, false, false] rfl rfl (zav HT_.out (by kernel_rfl)) (fun _ _ _ h => h) (Or.inl ⟨by rfl, ?_⟩) ?_ ?_
              rotate_left
              ·
               intro w'
               go_simp
               with_reducible rfl
              rotate_left
              ·
               simp only [Act.put, zs1, zs2, zs3, i64_w, i32_w]
               rfl
              refine join_ (σ := Value × Value × Value × Value × Nat) 2 #[true, true, true, true, true, true, true, true, true, true, true, true, true, false, false] (fun s_ => [(50, s_.1), (54, s_.2.1), (55, .tuple #[.agg #[s_.2.2.1, s_.2.2.2.1], .int .i64 t1285]), (10, .pointer (some ⟨s_.2.2.2.2, 0, none⟩)), (46, .tuple #[.agg #[s_.2.2.1, s_.2.2.2.1], .int .i64 t1285]), (56, .agg #[s_.2.2.1, s_.2.2.2.1]), (57, .int .i64 t1285)]) (fun s_ w' => (w'.cell? ⟨gb1272, 0, none⟩ = some (.int .i64 ((rd_T75 l1 x34_2).f0)) ∧ w'.cell? ⟨gb1272, 1, none⟩ = some (.int .i64 ((rd_T75 l1 x34_2).f1))) ∧ (Kd.V (Kd.int .u64) 57 w' w.heap.size (fun k_ => some k_ ≠ (u6 : Value).ownBlock ∧ k_ ≠ gb1272 ∧ k_ ≠ s_.2.2.2.2) s_.1 t1273) ∧ (Kd.V (Kd.int .u64) 57 w' w.heap.size (fun k_ => some k_ ≠ (u6 : Value).ownBlock ∧ k_ ≠ gb1272 ∧ k_ ≠ s_.2.2.2.2) s_.2.1 t1276) ∧ (Kd.V (Kd.int .u64) 57 w' w.heap.size (fun k_ => some k_ ≠ (u6 : Value).ownBlock ∧ k_ ≠ gb1272 ∧ k_ ≠ s_.2.2.2.2) s_.2.2.1 t1279) ∧ (Kd.V (Kd.int .u64) 57 w' w.heap.size (fun k_ => some k_ ≠ (u6 : Value).ownBlock ∧ k_ ≠ gb1272 ∧ k_ ≠ s_.2.2.2.2) s_.2.2.2.1 t1282) ∧ (Kd.N k28 28 w' w.heap.size (fun k_ => k_ ≠ gb1272 ∧ k_ ≠ s_.2.2.2.2) u6 x6_2) ∧ (w'.heap[gb1272]? = some (.cells #[.int .i64 ((rd_T75 l1 x34_2).f0), .int .i64 ((rd_T75 l1 x34_2).f1)] 75 (0, 0))) ∧ (w'.heap[s_.2.2.2.2]? = some (.cells #[.slice none 0 0, .slice none 0 0] 28 (0, 0))) ∧ (w.heap.size ≤ s_.2.2.2.2) ∧ (w.heap.size ≤ s_.2.2.2.2) ∧ (gb1272 ≠ s_.2.2.2.2) ∧ (s_.2.2.2.2 ≠ gb1272) ∧ (Below w.heap.size w w')) ?_ ?_
              rotate_left
              ·
               intro hCont
               refine two_ (i := 3) (j := 12) (Ni := some 50) (Nj := some 10) #[true, true, true, true, true, true, true, false, false, false, false, false, false, false, false] #[true, true, true, false, true, true, true, false, false, false, false, false, true, false, false] rfl rfl rfl rfl (two_of HT_.out (by kernel_rfl)) (by decide) (by decide) (fun K hK => ?_) (fun K hK => ?_)
               ·
                skip
                refine goes_ Tryd.func36 (by kernel_rfl) rfl #[.int .u64 (IntKind.u64.wrap (((rd_T75 l1 x34_2).f0)))] (by rfl) rfl rfl (zE) ?_
                with_reducible refine (zcf.calls kj13 (IntKind.u64.wrap (((rd_T75 l1 x34_2).f0))) t1273 _ A21.out).mono ?_
                rintro e w27 ⟨v1274, rfl, ho0, hb⟩
                refine ⟨_, rfl, ?_⟩
                have n0_ := zA (Kd.zch (zN HO_6) hb)
                have n1_ := zA (Kd.za2 (Kd.zak (ok' := fun k_ => some k_ ≠ (u6 : Value).ownBlock ∧ k_ ≠ gb1272) ho0 (fun k_ hk_ => ⟨(Kd.fresh' (Kd.N_lt (zN HO_6)) k_ hk_), (Kd.freshB (g := gb1272) (o := .cells #[.int .i64 ((rd_T75 l1 x34_2).f0), .int .i64 ((rd_T75 l1 x34_2).f1)] 75 (0, 0)) (zK BK1272) k_ hk_)⟩)) (za (zB HB)))
                have n2_ := zA (zaf (g := gb1272) (o := .cells #[.int .i64 ((rd_T75 l1 x34_2).f0), .int .i64 ((rd_T75 l1 x34_2).f1)] 75 (0, 0)) (zK BK1272) hb)
                have n3_ := zA (zac (zB HB) hb)
                clear HO_6 BK1272 HB
                have HO_6 := n0_
                have HO1275 := n1_
                have BK1272 := n2_
                have HB := n3_
                clear n0_ n1_ n2_ n3_
                (try clear hb)
                (try clear hb2)
                (try clear hk)
                (try clear hi)
                (try clear ho0)
                refine hK.out _ _ ⟨(zab BK1272.out 0).trans rfl, (zab BK1272.out 1).trans rfl⟩ (fun hHeld => ?_)
                clear hK K
                refine norm_ (a' := ?_) ?_ ?_
                rotate_left
                ·
                 show Act.put _ (some 50) _ = _
                 simp only [Act.put, zs1, zs2, zs3, i64_w, i32_w]
                 rfl
                refine two_ (i := 7) (j := 12) (Ni := some 54) (Nj := some 10) #[true, true, true, true, true, true, true, true, false, false, false, false, false, false, false] #[true, true, true, true, true, true, true, false, false, false, false, false, true, false, false] rfl rfl rfl rfl (two_of HT_.out (by kernel_rfl)) (by decide) (by decide) (fun K hK => ?_) (fun K hK => ?_)
                ·
                 skip
                 refine goes_ Tryd.func36 (by kernel_rfl) rfl #[.int .u64 (IntKind.u64.wrap (((rd_T75 l1 x34_2).f1)))] (by rfl) rfl rfl (zE) ?_
                 with_reducible refine (zcf.calls kj13 (IntKind.u64.wrap (((rd_T75 l1 x34_2).f1))) t1276 _ A22.out).mono ?_
                 rintro e w28 ⟨v1277, rfl, ho0, hb⟩
                 refine ⟨_, rfl, ?_⟩
                 have n0_ := zA (Kd.zch (zN HO_6) hb)
                 have n1_ := zA (Kd.zar (zV HO1275) hb)
                 have n2_ := zA (Kd.za2 (Kd.zak (ok' := fun k_ => some k_ ≠ (u6 : Value).ownBlock ∧ k_ ≠ gb1272) ho0 (fun k_ hk_ => ⟨(Kd.fresh' (Kd.N_lt (zN HO_6)) k_ hk_), (Kd.freshB (g := gb1272) (o := .cells #[.int .i64 ((rd_T75 l1 x34_2).f0), .int .i64 ((rd_T75 l1 x34_2).f1)] 75 (0, 0)) (zK BK1272) k_ hk_)⟩)) (za (zB HB)))
                 have n3_ := zA (zaf (g := gb1272) (o := .cells #[.int .i64 ((rd_T75 l1 x34_2).f0), .int .i64 ((rd_T75 l1 x34_2).f1)] 75 (0, 0)) (zK BK1272) hb)
                 have n4_ := zA (zac (zB HB) hb)
                 clear HO_6 HO1275 BK1272 HB
                 have HO_6 := n0_
                 have HO1275 := n1_
                 have HO1278 := n2_
                 have BK1272 := n3_
                 have HB := n4_
                 clear n0_ n1_ n2_ n3_ n4_
                 (try clear hb)
                 (try clear hb2)
                 (try clear hk)
                 (try clear hi)
                 (try clear ho0)
                 obtain ⟨Ao29, co29, eo29⟩ := Kd.za3 HO1275.out
                 (first | subst eo29 | (injection eo29 with f1_ f2_ f3_; have f4_ := f1_.symm; have f5_ := f3_.symm; clear f1_ f2_ f3_; subst f4_; subst f5_))
                 obtain ⟨Ao30, co30, eo30⟩ := Kd.za3 HO1278.out
                 (first | subst eo30 | (injection eo30 with f1_ f2_ f3_; have f4_ := f1_.symm; have f5_ := f3_.symm; clear f1_ f2_ f3_; subst f4_; subst f5_))
                 refine hK.out _ _ ⟨(zab BK1272.out 0).trans rfl, (zab BK1272.out 1).trans rfl⟩ (fun hHeld => ?_)
                 clear hK K
                 refine norm_ (a' := ?_) ?_ ?_
                 rotate_left
                 ·
                  show Act.put _ (some 54) _ = _
                  simp only [Act.put, zs1, zs2, zs3, i64_w, i32_w]
                  rfl
                 refine two_ (i := 8) (j := 12) (Ni := some 55) (Nj := some 10) #[true, true, true, true, true, true, true, true, true, false, false, false, false, false, false] #[true, true, true, true, true, true, true, true, false, false, false, false, true, false, false] rfl rfl rfl rfl (two_of HT_.out (by kernel_rfl)) (by decide) (by decide) (fun K hK => ?_) (fun K hK => ?_)
                 ·
                  skip
                  refine goes_ Tryd.func24 (by kernel_rfl) rfl #[.slice Ao29 t1273.length co29, .slice Ao30 t1276.length co30] (by rfl) rfl rfl (zE) ?_
                  with_reducible refine (zc4.calls kj13 _ _ t1273 _ _ t1276 t1279 t1282 t1285 _ ?side1 ?side2 ?side3 ?side4 A23.out).mono ?_
                  (case side1 => exact zJ (Kd.zal HO1275.out).2.2)
                  (case side2 => exact (Kd.zal HO1275.out).2.1)
                  (case side3 => exact zJ (Kd.zal HO1278.out).2.2)
                  (case side4 => exact (Kd.zal HO1278.out).2.1)
                  rintro e w31 ⟨v1280, v1283, rfl, ho0, ho1, hb⟩
                  refine ⟨_, rfl, ?_⟩
                  have n0_ := zA (Kd.zch (zN HO_6) hb)
                  have n1_ := zA (Kd.zar (zV HO1275) hb)
                  have n2_ := zA (Kd.zar (zV HO1278) hb)
                  have n3_ := zA (Kd.za2 (Kd.zak (ok' := fun k_ => some k_ ≠ (u6 : Value).ownBlock ∧ k_ ≠ gb1272) ho0 (fun k_ hk_ => ⟨(Kd.fresh' (Kd.N_lt (zN HO_6)) k_ hk_), (Kd.freshB (g := gb1272) (o := .cells #[.int .i64 ((rd_T75 l1 x34_2).f0), .int .i64 ((rd_T75 l1 x34_2).f1)] 75 (0, 0)) (zK BK1272) k_ hk_)⟩)) (za (zB HB)))
                  have n4_ := zA (Kd.za2 (Kd.zak (ok' := fun k_ => some k_ ≠ (u6 : Value).ownBlock ∧ k_ ≠ gb1272) ho1 (fun k_ hk_ => ⟨(Kd.fresh' (Kd.N_lt (zN HO_6)) k_ hk_), (Kd.freshB (g := gb1272) (o := .cells #[.int .i64 ((rd_T75 l1 x34_2).f0), .int .i64 ((rd_T75 l1 x34_2).f1)] 75 (0, 0)) (zK BK1272) k_ hk_)⟩)) (za (zB HB)))
                  have n5_ := zA (zaf (g := gb1272) (o := .cells #[.int .i64 ((rd_T75 l1 x34_2).f0), .int .i64 ((rd_T75 l1 x34_2).f1)] 75 (0, 0)) (zK BK1272) hb)
                  have n6_ := zA (zac (zB HB) hb)
                  clear HO_6 HO1275 HO1278 BK1272 HB
                  have HO_6 := n0_
                  have HO1275 := n1_
                  have HO1278 := n2_
                  have HO1281 := n3_
                  have HO1284 := n4_
                  have BK1272 := n5_
                  have HB := n6_
                  clear n0_ n1_ n2_ n3_ n4_ n5_ n6_
                  (try clear hb)
                  (try clear hb2)
                  (try clear hk)
                  (try clear hi)
                  (try clear ho0)
                  (try clear ho1)
                  refine hK.out _ _ ⟨(zab BK1272.out 0).trans rfl, (zab BK1272.out 1).trans rfl⟩ (fun hHeld => ?_)
                  clear hK K
                  refine norm_ (a' := ?_) ?_ ?_
                  rotate_left
                  ·
                   show Act.put _ (some 55) _ = _
                   simp only [Act.put, zs1, zs2, zs3, i64_w, i32_w]
                   rfl
                  refine pure_ (i := 9) (N := some 46) (v := ?_) (a' := ?_) #[true, true, true, true, true, true, true, true, true, true, false, false, false, false, false] rfl rfl (zav HT_.out (by kernel_rfl)) (fun _ _ _ h => h) (Or.inl ⟨by rfl, ?_⟩) ?_ ?_
                  rotate_left
                  ·
                   intro w'
                   go_simp
                   with_reducible rfl
                  rotate_left
                  ·
                   simp only [Act.put, zs1, zs2, zs3, i64_w, i32_w]
                   rfl
                  refine pure_ (i := 10) (N := some 56) (v := ?_) (a' := ?_) #[true, true, true, true, true, true, true, true, true, true, true, false, false, false, false] rfl rfl (zav HT_.out (by kernel_rfl)) (fun _ _ _ h => h) (Or.inl ⟨by rfl, ?_⟩) ?_ ?_
                  rotate_left
                  ·
                   intro w'
                   go_simp
                   with_reducible rfl
                  rotate_left
                  ·
                   simp only [Act.put, zs1, zs2, zs3, i64_w, i32_w]
                   rfl
                  refine pure_ (i := 11) (N := some 57) (v := ?_) (a' := ?_) #[true, true, true, true, true, true, true, true, true, true, true, true, false, false, false] rfl rfl (zav HT_.out (by kernel_rfl)) (fun _ _ _ h => h) (Or.inl ⟨by rfl, ?_⟩) ?_ ?_
                  rotate_left
                  ·
                   intro w'
                   go_simp
                   with_reducible rfl
                  rotate_left
                  ·
                   simp only [Act.put, zs1, zs2, zs3, i64_w, i32_w]
                   rfl
                  refine one_ (i := 12) (N := some 10) #[true, true, true, true, true, true, true, true, true, true, true, true, true, false, false] rfl rfl (zb8 HT_.out (by kernel_rfl)) (by decide) (fun K hK => ?_)
                  refine box_step ?hg (N := 10) ?hd (cs := #[.slice none 0 0, .slice none 0 0]) (t := 28) ?hr ?_; (case hd => rfl); (case hg => rfl); (case hr => first | (go_simp; done) | (go_simp; rfl))
                  intro gb1286 hg w32 hbox hb
                  have n0_ := zA (Kd.zch (Kd.N_elderB (zN HO_6) gb1286 (Nat.le_of_eq hg.symm)) hb)
                  have n1_ := zA (Kd.zar (Kd.zb7 (zV HO1275) gb1286 (Nat.le_of_eq hg.symm)) hb)
                  have n2_ := zA (Kd.zar (Kd.zb7 (zV HO1278) gb1286 (Nat.le_of_eq hg.symm)) hb)
                  have n3_ := zA (Kd.zar (Kd.zb7 (zV HO1281) gb1286 (Nat.le_of_eq hg.symm)) hb)
                  have n4_ := zA (Kd.zar (Kd.zb7 (zV HO1284) gb1286 (Nat.le_of_eq hg.symm)) hb)
                  have n5_ := zA (zaf (g := gb1272) (o := .cells #[.int .i64 ((rd_T75 l1 x34_2).f0), .int .i64 ((rd_T75 l1 x34_2).f1)] 75 (0, 0)) (zK BK1272) hb)
                  have n6_ := zA (zac (zB HB) hb)
                  have n7_ := zA (hbox)
                  have n8_ := zA ((by rw [hg]; exact (za (zB HB)) : w.heap.size ≤ gb1286))
                  have n9_ := zA ((by rw [hg]; exact (za (zB HB)) : w.heap.size ≤ gb1286))
                  have n10_ := zA ((by rw [hg]; exact Nat.ne_of_lt (zb4 (g := gb1272) (o := .cells #[.int .i64 ((rd_T75 l1 x34_2).f0), .int .i64 ((rd_T75 l1 x34_2).f1)] 75 (0, 0)) (zK BK1272)) : gb1272 ≠ gb1286))
                  have n11_ := zA ((by rw [hg]; exact Nat.ne_of_gt (zb4 (g := gb1272) (o := .cells #[.int .i64 ((rd_T75 l1 x34_2).f0), .int .i64 ((rd_T75 l1 x34_2).f1)] 75 (0, 0)) (zK BK1272)) : gb1286 ≠ gb1272))
                  clear HO_6 HO1275 HO1278 HO1281 HO1284 BK1272 HB
                  have HO_6 := n0_
                  have HO1275 := n1_
                  have HO1278 := n2_
                  have HO1281 := n3_
                  have HO1284 := n4_
                  have BK1272 := n5_
                  have HB := n6_
                  have BK1286 := n7_
                  have GW1286 := n8_
                  have GE1286 := n9_
                  have NB1272_1286 := n10_
                  have NB1286_1272 := n11_
                  clear n0_ n1_ n2_ n3_ n4_ n5_ n6_ n7_ n8_ n9_ n10_ n11_ hb hbox hg
                  refine hK.out _ _ ⟨(zab BK1272.out 0).trans rfl, (zab BK1272.out 1).trans rfl⟩ (fun hHeld => ?_)
                  clear hK K
                  refine norm_ (a' := ?_) ?_ ?_
                  rotate_left
                  ·
                   show Act.put _ (some 10) _ = _
                   simp only [Act.put, zs1, zs2, zs3, i64_w, i32_w]
                   rfl
                  exact norm_ (by simp only [putAll, Act.put, zs1, zs2, zs3]) (hCont (.slice Ao29 t1273.length co29, .slice Ao30 t1276.length co30, v1280, v1283, gb1286) _ ⟨hHeld, (by (with_reducible repeat (first | apply Kd.za8 | apply Kd.za7 | apply Kd.zbd)); exact Kd.zak HO1275.out (fun _ hk => ⟨hk.1.1, ⟨hk.1.2, hk.2⟩⟩)), (by (with_reducible repeat (first | apply Kd.za8 | apply Kd.za7 | apply Kd.zbd)); exact Kd.zak HO1278.out (fun _ hk => ⟨hk.1.1, ⟨hk.1.2, hk.2⟩⟩)), (by (with_reducible repeat (first | apply Kd.za8 | apply Kd.za7 | apply Kd.zbd)); exact Kd.zak HO1281.out (fun _ hk => ⟨hk.1.1, ⟨hk.1.2, hk.2⟩⟩)), (by (with_reducible repeat (first | apply Kd.za8 | apply Kd.za7 | apply Kd.zbd)); exact Kd.zak HO1284.out (fun _ hk => ⟨hk.1.1, ⟨hk.1.2, hk.2⟩⟩)), (zN HO_6), (zK BK1272), (zK BK1286), GW1286.out, GE1286.out, NB1272_1286.out, NB1286_1272.out, (zB HB)⟩)
                 ·
                  skip
                  refine box_step ?hg (N := 10) ?hd (cs := #[.slice none 0 0, .slice none 0 0]) (t := 28) ?hr ?_; (case hd => rfl); (case hg => rfl); (case hr => first | (go_simp; done) | (go_simp; rfl))
                  intro gb1286 hg w29 hbox hb
                  have n0_ := zA (Kd.zch (Kd.N_elderB (zN HO_6) gb1286 (Nat.le_of_eq hg.symm)) hb)
                  have n1_ := zA (Kd.zar (Kd.zb7 (zV HO1275) gb1286 (Nat.le_of_eq hg.symm)) hb)
                  have n2_ := zA (Kd.zar (Kd.zb7 (zV HO1278) gb1286 (Nat.le_of_eq hg.symm)) hb)
                  have n3_ := zA (zaf (g := gb1272) (o := .cells #[.int .i64 ((rd_T75 l1 x34_2).f0), .int .i64 ((rd_T75 l1 x34_2).f1)] 75 (0, 0)) (zK BK1272) hb)
                  have n4_ := zA (zac (zB HB) hb)
                  have n5_ := zA (hbox)
                  have n6_ := zA ((by rw [hg]; exact (za (zB HB)) : w.heap.size ≤ gb1286))
                  have n7_ := zA ((by rw [hg]; exact (za (zB HB)) : w.heap.size ≤ gb1286))
                  have n8_ := zA ((by rw [hg]; exact Nat.ne_of_lt (zb4 (g := gb1272) (o := .cells #[.int .i64 ((rd_T75 l1 x34_2).f0), .int .i64 ((rd_T75 l1 x34_2).f1)] 75 (0, 0)) (zK BK1272)) : gb1272 ≠ gb1286))
                  have n9_ := zA ((by rw [hg]; exact Nat.ne_of_gt (zb4 (g := gb1272) (o := .cells #[.int .i64 ((rd_T75 l1 x34_2).f0), .int .i64 ((rd_T75 l1 x34_2).f1)] 75 (0, 0)) (zK BK1272)) : gb1286 ≠ gb1272))
                  clear HO_6 HO1275 HO1278 BK1272 HB
                  have HO_6 := n0_
                  have HO1275 := n1_
                  have HO1278 := n2_
                  have BK1272 := n3_
                  have HB := n4_
                  have BK1286 := n5_
                  have GW1286 := n6_
                  have GE1286 := n7_
                  have NB1272_1286 := n8_
                  have NB1286_1272 := n9_
                  clear n0_ n1_ n2_ n3_ n4_ n5_ n6_ n7_ n8_ n9_ hb hbox hg
                  obtain ⟨Ao30, co30, eo30⟩ := Kd.za3 HO1275.out
                  (first | subst eo30 | (injection eo30 with f1_ f2_ f3_; have f4_ := f1_.symm; have f5_ := f3_.symm; clear f1_ f2_ f3_; subst f4_; subst f5_))
                  obtain ⟨Ao31, co31, eo31⟩ := Kd.za3 HO1278.out
                  (first | subst eo31 | (injection eo31 with f1_ f2_ f3_; have f4_ := f1_.symm; have f5_ := f3_.symm; clear f1_ f2_ f3_; subst f4_; subst f5_))
                  refine hK.out _ _ ⟨(zab BK1272.out 0).trans rfl, (zab BK1272.out 1).trans rfl⟩ (fun hHeld => ?_)
                  clear hK K
                  refine norm_ (a' := ?_) ?_ ?_
                  rotate_left
                  ·
                   show Act.put _ (some 10) _ = _
                   simp only [Act.put, zs1, zs2, zs3, i64_w, i32_w]
                   rfl
                  refine one_ (i := 8) (N := some 55) #[true, true, true, true, true, true, true, true, true, false, false, false, true, false, false] rfl rfl (zb8 HT_.out (by kernel_rfl)) (by decide) (fun K hK => ?_)
                  refine goes_ Tryd.func24 (by kernel_rfl) rfl #[.slice Ao30 t1273.length co30, .slice Ao31 t1276.length co31] (by rfl) rfl rfl (zE) ?_
                  with_reducible refine (zc4.calls kj13 _ _ t1273 _ _ t1276 t1279 t1282 t1285 _ ?side1 ?side2 ?side3 ?side4 A23.out).mono ?_
                  (case side1 => exact zJ (Kd.zal HO1275.out).2.2)
                  (case side2 => exact (Kd.zal HO1275.out).2.1)
                  (case side3 => exact zJ (Kd.zal HO1278.out).2.2)
                  (case side4 => exact (Kd.zal HO1278.out).2.1)
                  rintro e w32 ⟨v1280, v1283, rfl, ho0, ho1, hb⟩
                  refine ⟨_, rfl, ?_⟩
                  have n0_ := zA (Kd.zch (zN HO_6) hb)
                  have n1_ := zA (Kd.zar (zV HO1275) hb)
                  have n2_ := zA (Kd.zar (zV HO1278) hb)
                  have n3_ := zA (Kd.za2 (Kd.zak (ok' := fun k_ => some k_ ≠ (u6 : Value).ownBlock ∧ k_ ≠ gb1272 ∧ k_ ≠ gb1286) ho0 (fun k_ hk_ => ⟨(Kd.fresh' (Kd.N_lt (zN HO_6)) k_ hk_), (Kd.freshB (g := gb1272) (o := .cells #[.int .i64 ((rd_T75 l1 x34_2).f0), .int .i64 ((rd_T75 l1 x34_2).f1)] 75 (0, 0)) (zK BK1272) k_ hk_), (Kd.freshB (g := gb1286) (o := .cells #[.slice none 0 0, .slice none 0 0] 28 (0, 0)) (zK BK1286) k_ hk_)⟩)) (za (zB HB)))
                  have n4_ := zA (Kd.za2 (Kd.zak (ok' := fun k_ => some k_ ≠ (u6 : Value).ownBlock ∧ k_ ≠ gb1272 ∧ k_ ≠ gb1286) ho1 (fun k_ hk_ => ⟨(Kd.fresh' (Kd.N_lt (zN HO_6)) k_ hk_), (Kd.freshB (g := gb1272) (o := .cells #[.int .i64 ((rd_T75 l1 x34_2).f0), .int .i64 ((rd_T75 l1 x34_2).f1)] 75 (0, 0)) (zK BK1272) k_ hk_), (Kd.freshB (g := gb1286) (o := .cells #[.slice none 0 0, .slice none 0 0] 28 (0, 0)) (zK BK1286) k_ hk_)⟩)) (za (zB HB)))
                  have n5_ := zA (zaf (g := gb1272) (o := .cells #[.int .i64 ((rd_T75 l1 x34_2).f0), .int .i64 ((rd_T75 l1 x34_2).f1)] 75 (0, 0)) (zK BK1272) hb)
                  have n6_ := zA (zaf (g := gb1286) (o := .cells #[.slice none 0 0, .slice none 0 0] 28 (0, 0)) (zK BK1286) hb)
                  have n7_ := zA (zac (zB HB) hb)
                  clear HO_6 HO1275 HO1278 BK1272 BK1286 HB
                  have HO_6 := n0_
                  have HO1275 := n1_
                  have HO1278 := n2_
                  have HO1281 := n3_
                  have HO1284 := n4_
                  have BK1272 := n5_
                  have BK1286 := n6_
                  have HB := n7_
                  clear n0_ n1_ n2_ n3_ n4_ n5_ n6_ n7_
                  (try clear hb)
                  (try clear hb2)
                  (try clear hk)
                  (try clear hi)
                  (try clear ho0)
                  (try clear ho1)
                  refine hK.out _ _ ⟨(zab BK1272.out 0).trans rfl, (zab BK1272.out 1).trans rfl⟩ (fun hHeld => ?_)
                  clear hK K
                  refine norm_ (a' := ?_) ?_ ?_
                  rotate_left
                  ·
                   show Act.put _ (some 55) _ = _
                   simp only [Act.put, zs1, zs2, zs3, i64_w, i32_w]
                   rfl
                  refine pure_ (i := 9) (N := some 46) (v := ?_) (a' := ?_) #[true, true, true, true, true, true, true, true, true, true, false, false, true, false, false] rfl rfl (zav HT_.out (by kernel_rfl)) (fun _ _ _ h => h) (Or.inl ⟨by rfl, ?_⟩) ?_ ?_
                  rotate_left
                  ·
                   intro w'
                   go_simp
                   with_reducible rfl
                  rotate_left
                  ·
                   simp only [Act.put, zs1, zs2, zs3, i64_w, i32_w]
                   rfl
                  refine pure_ (i := 10) (N := some 56) (v := ?_) (a' := ?_) #[true, true, true, true, true, true, true, true, true, true, true, false, true, false, false] rfl rfl (zav HT_.out (by kernel_rfl)) (fun _ _ _ h => h) (Or.inl ⟨by rfl, ?_⟩) ?_ ?_
                  rotate_left
                  ·
                   intro w'
                   go_simp
                   with_reducible rfl
                  rotate_left
                  ·
                   simp only [Act.put, zs1, zs2, zs3, i64_w, i32_w]
                   rfl
                  refine pure_ (i := 11) (N := some 57) (v := ?_) (a' := ?_) #[true, true, true, true, true, true, true, true, true, true, true, true, true, false, false] rfl rfl (zav HT_.out (by kernel_rfl)) (fun _ _ _ h => h) (Or.inl ⟨by rfl, ?_⟩) ?_ ?_
                  rotate_left
                  ·
                   intro w'
                   go_simp
                   with_reducible rfl
                  rotate_left
                  ·
                   simp only [Act.put, zs1, zs2, zs3, i64_w, i32_w]
                   rfl
                  exact norm_ (by simp only [putAll, Act.put, zs1, zs2, zs3]) (hCont (.slice Ao30 t1273.length co30, .slice Ao31 t1276.length co31, v1280, v1283, gb1286) _ ⟨hHeld, (by (with_reducible repeat (first | apply Kd.za8 | apply Kd.za7 | apply Kd.zbd)); exact Kd.zak HO1275.out (fun _ hk => ⟨hk.1.1, ⟨hk.1.2, hk.2⟩⟩)), (by (with_reducible repeat (first | apply Kd.za8 | apply Kd.za7 | apply Kd.zbd)); exact Kd.zak HO1278.out (fun _ hk => ⟨hk.1.1, ⟨hk.1.2, hk.2⟩⟩)), (zV HO1281), (zV HO1284), (zN HO_6), (zK BK1272), (zK BK1286), GW1286.out, GE1286.out, NB1272_1286.out, NB1286_1272.out, (zB HB)⟩)
                ·
                 skip
                 refine box_step ?hg (N := 10) ?hd (cs := #[.slice none 0 0, .slice none 0 0]) (t := 28) ?hr ?_; (case hd => rfl); (case hg => rfl); (case hr => first | (go_simp; done) | (go_simp; rfl))
                 intro gb1286 hg w28 hbox hb
                 have n0_ := zA (Kd.zch (Kd.N_elderB (zN HO_6) gb1286 (Nat.le_of_eq hg.symm)) hb)
                 have n1_ := zA (Kd.zar (Kd.zb7 (zV HO1275) gb1286 (Nat.le_of_eq hg.symm)) hb)
                 have n2_ := zA (zaf (g := gb1272) (o := .cells #[.int .i64 ((rd_T75 l1 x34_2).f0), .int .i64 ((rd_T75 l1 x34_2).f1)] 75 (0, 0)) (zK BK1272) hb)
                 have n3_ := zA (zac (zB HB) hb)
                 have n4_ := zA (hbox)
                 have n5_ := zA ((by rw [hg]; exact (za (zB HB)) : w.heap.size ≤ gb1286))
                 have n6_ := zA ((by rw [hg]; exact (za (zB HB)) : w.heap.size ≤ gb1286))
                 have n7_ := zA ((by rw [hg]; exact Nat.ne_of_lt (zb4 (g := gb1272) (o := .cells #[.int .i64 ((rd_T75 l1 x34_2).f0), .int .i64 ((rd_T75 l1 x34_2).f1)] 75 (0, 0)) (zK BK1272)) : gb1272 ≠ gb1286))
                 have n8_ := zA ((by rw [hg]; exact Nat.ne_of_gt (zb4 (g := gb1272) (o := .cells #[.int .i64 ((rd_T75 l1 x34_2).f0), .int .i64 ((rd_T75 l1 x34_2).f1)] 75 (0, 0)) (zK BK1272)) : gb1286 ≠ gb1272))
                 clear HO_6 HO1275 BK1272 HB
                 have HO_6 := n0_
                 have HO1275 := n1_
                 have BK1272 := n2_
                 have HB := n3_
                 have BK1286 := n4_
                 have GW1286 := n5_
                 have GE1286 := n6_
                 have NB1272_1286 := n7_
                 have NB1286_1272 := n8_
                 clear n0_ n1_ n2_ n3_ n4_ n5_ n6_ n7_ n8_ hb hbox hg
                 refine hK.out _ _ ⟨(zab BK1272.out 0).trans rfl, (zab BK1272.out 1).trans rfl⟩ (fun hHeld => ?_)
                 clear hK K
                 refine norm_ (a' := ?_) ?_ ?_
                 rotate_left
                 ·
                  show Act.put _ (some 10) _ = _
                  simp only [Act.put, zs1, zs2, zs3, i64_w, i32_w]
                  rfl
                 refine one_ (i := 7) (N := some 54) #[true, true, true, true, true, true, true, true, false, false, false, false, true, false, false] rfl rfl (zb8 HT_.out (by kernel_rfl)) (by decide) (fun K hK => ?_)
                 refine goes_ Tryd.func36 (by kernel_rfl) rfl #[.int .u64 (IntKind.u64.wrap (((rd_T75 l1 x34_2).f1)))] (by rfl) rfl rfl (zE) ?_
                 with_reducible refine (zcf.calls kj13 (IntKind.u64.wrap (((rd_T75 l1 x34_2).f1))) t1276 _ A22.out).mono ?_
                 rintro e w29 ⟨v1277, rfl, ho0, hb⟩
                 refine ⟨_, rfl, ?_⟩
                 have n0_ := zA (Kd.zch (zN HO_6) hb)
                 have n1_ := zA (Kd.zar (zV HO1275) hb)
                 have n2_ := zA (Kd.za2 (Kd.zak (ok' := fun k_ => some k_ ≠ (u6 : Value).ownBlock ∧ k_ ≠ gb1272 ∧ k_ ≠ gb1286) ho0 (fun k_ hk_ => ⟨(Kd.fresh' (Kd.N_lt (zN HO_6)) k_ hk_), (Kd.freshB (g := gb1272) (o := .cells #[.int .i64 ((rd_T75 l1 x34_2).f0), .int .i64 ((rd_T75 l1 x34_2).f1)] 75 (0, 0)) (zK BK1272) k_ hk_), (Kd.freshB (g := gb1286) (o := .cells #[.slice none 0 0, .slice none 0 0] 28 (0, 0)) (zK BK1286) k_ hk_)⟩)) (za (zB HB)))
                 have n3_ := zA (zaf (g := gb1272) (o := .cells #[.int .i64 ((rd_T75 l1 x34_2).f0), .int .i64 ((rd_T75 l1 x34_2).f1)] 75 (0, 0)) (zK BK1272) hb)
                 have n4_ := zA (zaf (g := gb1286) (o := .cells #[.slice none 0 0, .slice none 0 0] 28 (0, 0)) (zK BK1286) hb)
                 have n5_ := zA (zac (zB HB) hb)
                 clear HO_6 HO1275 BK1272 BK1286 HB
                 have HO_6 := n0_
                 have HO1275 := n1_
                 have HO1278 := n2_
                 have BK1272 := n3_
                 have BK1286 := n4_
                 have HB := n5_
                 clear n0_ n1_ n2_ n3_ n4_ n5_
                 (try clear hb)
                 (try clear hb2)
                 (try clear hk)
                 (try clear hi)
                 (try clear ho0)
                 obtain ⟨Ao30, co30, eo30⟩ := Kd.za3 HO1275.out
                 (first | subst eo30 | (injection eo30 with f1_ f2_ f3_; have f4_ := f1_.symm; have f5_ := f3_.symm; clear f1_ f2_ f3_; subst f4_; subst f5_))
                 obtain ⟨Ao31, co31, eo31⟩ := Kd.za3 HO1278.out
                 (first | subst eo31 | (injection eo31 with f1_ f2_ f3_; have f4_ := f1_.symm; have f5_ := f3_.symm; clear f1_ f2_ f3_; subst f4_; subst f5_))
                 refine hK.out _ _ ⟨(zab BK1272.out 0).trans rfl, (zab BK1272.out 1).trans rfl⟩ (fun hHeld => ?_)
                 clear hK K
                 refine norm_ (a' := ?_) ?_ ?_
                 rotate_left
                 ·
                  show Act.put _ (some 54) _ = _
                  simp only [Act.put, zs1, zs2, zs3, i64_w, i32_w]
                  rfl
                 refine one_ (i := 8) (N := some 55) #[true, true, true, true, true, true, true, true, true, false, false, false, true, false, false] rfl rfl (zb8 HT_.out (by kernel_rfl)) (by decide) (fun K hK => ?_)
                 refine goes_ Tryd.func24 (by kernel_rfl) rfl #[.slice Ao30 t1273.length co30, .slice Ao31 t1276.length co31] (by rfl) rfl rfl (zE) ?_
                 with_reducible refine (zc4.calls kj13 _ _ t1273 _ _ t1276 t1279 t1282 t1285 _ ?side1 ?side2 ?side3 ?side4 A23.out).mono ?_
                 (case side1 => exact zJ (Kd.zal HO1275.out).2.2)
                 (case side2 => exact (Kd.zal HO1275.out).2.1)
                 (case side3 => exact zJ (Kd.zal HO1278.out).2.2)
                 (case side4 => exact (Kd.zal HO1278.out).2.1)
                 rintro e w32 ⟨v1280, v1283, rfl, ho0, ho1, hb⟩
                 refine ⟨_, rfl, ?_⟩
                 have n0_ := zA (Kd.zch (zN HO_6) hb)
                 have n1_ := zA (Kd.zar (zV HO1275) hb)
                 have n2_ := zA (Kd.zar (zV HO1278) hb)
                 have n3_ := zA (Kd.za2 (Kd.zak (ok' := fun k_ => some k_ ≠ (u6 : Value).ownBlock ∧ k_ ≠ gb1272 ∧ k_ ≠ gb1286) ho0 (fun k_ hk_ => ⟨(Kd.fresh' (Kd.N_lt (zN HO_6)) k_ hk_), (Kd.freshB (g := gb1272) (o := .cells #[.int .i64 ((rd_T75 l1 x34_2).f0), .int .i64 ((rd_T75 l1 x34_2).f1)] 75 (0, 0)) (zK BK1272) k_ hk_), (Kd.freshB (g := gb1286) (o := .cells #[.slice none 0 0, .slice none 0 0] 28 (0, 0)) (zK BK1286) k_ hk_)⟩)) (za (zB HB)))
                 have n4_ := zA (Kd.za2 (Kd.zak (ok' := fun k_ => some k_ ≠ (u6 : Value).ownBlock ∧ k_ ≠ gb1272 ∧ k_ ≠ gb1286) ho1 (fun k_ hk_ => ⟨(Kd.fresh' (Kd.N_lt (zN HO_6)) k_ hk_), (Kd.freshB (g := gb1272) (o := .cells #[.int .i64 ((rd_T75 l1 x34_2).f0), .int .i64 ((rd_T75 l1 x34_2).f1)] 75 (0, 0)) (zK BK1272) k_ hk_), (Kd.freshB (g := gb1286) (o := .cells #[.slice none 0 0, .slice none 0 0] 28 (0, 0)) (zK BK1286) k_ hk_)⟩)) (za (zB HB)))
                 have n5_ := zA (zaf (g := gb1272) (o := .cells #[.int .i64 ((rd_T75 l1 x34_2).f0), .int .i64 ((rd_T75 l1 x34_2).f1)] 75 (0, 0)) (zK BK1272) hb)
                 have n6_ := zA (zaf (g := gb1286) (o := .cells #[.slice none 0 0, .slice none 0 0] 28 (0, 0)) (zK BK1286) hb)
                 have n7_ := zA (zac (zB HB) hb)
                 clear HO_6 HO1275 HO1278 BK1272 BK1286 HB
                 have HO_6 := n0_
                 have HO1275 := n1_
                 have HO1278 := n2_
                 have HO1281 := n3_
                 have HO1284 := n4_
                 have BK1272 := n5_
                 have BK1286 := n6_
                 have HB := n7_
                 clear n0_ n1_ n2_ n3_ n4_ n5_ n6_ n7_
                 (try clear hb)
                 (try clear hb2)
                 (try clear hk)
                 (try clear hi)
                 (try clear ho0)
                 (try clear ho1)
                 refine hK.out _ _ ⟨(zab BK1272.out 0).trans rfl, (zab BK1272.out 1).trans rfl⟩ (fun hHeld => ?_)
                 clear hK K
                 refine norm_ (a' := ?_) ?_ ?_
                 rotate_left
                 ·
                  show Act.put _ (some 55) _ = _
                  simp only [Act.put, zs1, zs2, zs3, i64_w, i32_w]
                  rfl
                 refine pure_ (i := 9) (N := some 46) (v := ?_) (a' := ?_) #[true, true, true, true, true, true, true, true, true, true, false, false, true, false, false] rfl rfl (zav HT_.out (by kernel_rfl)) (fun _ _ _ h => h) (Or.inl ⟨by rfl, ?_⟩) ?_ ?_
                 rotate_left
                 ·
                  intro w'
                  go_simp
                  with_reducible rfl
                 rotate_left
                 ·
                  simp only [Act.put, zs1, zs2, zs3, i64_w, i32_w]
                  rfl
                 refine pure_ (i := 10) (N := some 56) (v := ?_) (a' := ?_) #[true, true, true, true, true, true, true, true, true, true, true, false, true, false, false] rfl rfl (zav HT_.out (by kernel_rfl)) (fun _ _ _ h => h) (Or.inl ⟨by rfl, ?_⟩) ?_ ?_
                 rotate_left
                 ·
                  intro w'
                  go_simp
                  with_reducible rfl
                 rotate_left
                 ·
                  simp only [Act.put, zs1, zs2, zs3, i64_w, i32_w]
                  rfl
                 refine pure_ (i := 11) (N := some 57) (v := ?_) (a' := ?_) #[true, true, true, true, true, true, true, true, true, true, true, true, true, false, false] rfl rfl (zav HT_.out (by kernel_rfl)) (fun _ _ _ h => h) (Or.inl ⟨by rfl, ?_⟩) ?_ ?_
                 rotate_left
                 ·
                  intro w'
                  go_simp
                  with_reducible rfl
                 rotate_left
                 ·
                  simp only [Act.put, zs1, zs2, zs3, i64_w, i32_w]
                  rfl
                 exact norm_ (by simp only [putAll, Act.put, zs1, zs2, zs3]) (hCont (.slice Ao30 t1273.length co30, .slice Ao31 t1276.length co31, v1280, v1283, gb1286) _ ⟨hHeld, (by (with_reducible repeat (first | apply Kd.za8 | apply Kd.za7 | apply Kd.zbd)); exact Kd.zak HO1275.out (fun _ hk => ⟨hk.1.1, ⟨hk.1.2, hk.2⟩⟩)), (zV HO1278), (zV HO1281), (zV HO1284), (zN HO_6), (zK BK1272), (zK BK1286), GW1286.out, GE1286.out, NB1272_1286.out, NB1286_1272.out, (zB HB)⟩)
               ·
                skip
                refine box_step ?hg (N := 10) ?hd (cs := #[.slice none 0 0, .slice none 0 0]) (t := 28) ?hr ?_; (case hd => rfl); (case hg => rfl); (case hr => first | (go_simp; done) | (go_simp; rfl))
                intro gb1286 hg w27 hbox hb
                have n0_ := zA (Kd.zch (Kd.N_elderB (zN HO_6) gb1286 (Nat.le_of_eq hg.symm)) hb)
                have n1_ := zA (zaf (g := gb1272) (o := .cells #[.int .i64 ((rd_T75 l1 x34_2).f0), .int .i64 ((rd_T75 l1 x34_2).f1)] 75 (0, 0)) (zK BK1272) hb)
                have n2_ := zA (zac (zB HB) hb)
                have n3_ := zA (hbox)
                have n4_ := zA ((by rw [hg]; exact (za (zB HB)) : w.heap.size ≤ gb1286))
                have n5_ := zA ((by rw [hg]; exact (za (zB HB)) : w.heap.size ≤ gb1286))
                have n6_ := zA ((by rw [hg]; exact Nat.ne_of_lt (zb4 (g := gb1272) (o := .cells #[.int .i64 ((rd_T75 l1 x34_2).f0), .int .i64 ((rd_T75 l1 x34_2).f1)] 75 (0, 0)) (zK BK1272)) : gb1272 ≠ gb1286))
                have n7_ := zA ((by rw [hg]; exact Nat.ne_of_gt (zb4 (g := gb1272) (o := .cells #[.int .i64 ((rd_T75 l1 x34_2).f0), .int .i64 ((rd_T75 l1 x34_2).f1)] 75 (0, 0)) (zK BK1272)) : gb1286 ≠ gb1272))
                clear HO_6 BK1272 HB
                have HO_6 := n0_
                have BK1272 := n1_
                have HB := n2_
                have BK1286 := n3_
                have GW1286 := n4_
                have GE1286 := n5_
                have NB1272_1286 := n6_
                have NB1286_1272 := n7_
                clear n0_ n1_ n2_ n3_ n4_ n5_ n6_ n7_ hb hbox hg
                refine hK.out _ _ ⟨(zab BK1272.out 0).trans rfl, (zab BK1272.out 1).trans rfl⟩ (fun hHeld => ?_)
                clear hK K
                refine norm_ (a' := ?_) ?_ ?_
                rotate_left
                ·
                 show Act.put _ (some 10) _ = _
                 simp only [Act.put, zs1, zs2, zs3, i64_w, i32_w]
                 rfl
                refine one_ (i := 3) (N := some 50) #[true, true, true, true, true, true, true, false, false, false, false, false, true, false, false] rfl rfl (zb8 HT_.out (by kernel_rfl)) (by decide) (fun K hK => ?_)
                refine goes_ Tryd.func36 (by kernel_rfl) rfl #[.int .u64 (IntKind.u64.wrap (((rd_T75 l1 x34_2).f0)))] (by rfl) rfl rfl (zE) ?_
                with_reducible refine (zcf.calls kj13 (IntKind.u64.wrap (((rd_T75 l1 x34_2).f0))) t1273 _ A21.out).mono ?_
                rintro e w28 ⟨v1274, rfl, ho0, hb⟩
                refine ⟨_, rfl, ?_⟩
                have n0_ := zA (Kd.zch (zN HO_6) hb)
                have n1_ := zA (Kd.za2 (Kd.zak (ok' := fun k_ => some k_ ≠ (u6 : Value).ownBlock ∧ k_ ≠ gb1272 ∧ k_ ≠ gb1286) ho0 (fun k_ hk_ => ⟨(Kd.fresh' (Kd.N_lt (zN HO_6)) k_ hk_), (Kd.freshB (g := gb1272) (o := .cells #[.int .i64 ((rd_T75 l1 x34_2).f0), .int .i64 ((rd_T75 l1 x34_2).f1)] 75 (0, 0)) (zK BK1272) k_ hk_), (Kd.freshB (g := gb1286) (o := .cells #[.slice none 0 0, .slice none 0 0] 28 (0, 0)) (zK BK1286) k_ hk_)⟩)) (za (zB HB)))
                have n2_ := zA (zaf (g := gb1272) (o := .cells #[.int .i64 ((rd_T75 l1 x34_2).f0), .int .i64 ((rd_T75 l1 x34_2).f1)] 75 (0, 0)) (zK BK1272) hb)
                have n3_ := zA (zaf (g := gb1286) (o := .cells #[.slice none 0 0, .slice none 0 0] 28 (0, 0)) (zK BK1286) hb)
                have n4_ := zA (zac (zB HB) hb)
                clear HO_6 BK1272 BK1286 HB
                have HO_6 := n0_
                have HO1275 := n1_
                have BK1272 := n2_
                have BK1286 := n3_
                have HB := n4_
                clear n0_ n1_ n2_ n3_ n4_
                (try clear hb)
                (try clear hb2)
                (try clear hk)
                (try clear hi)
                (try clear ho0)
                refine hK.out _ _ ⟨(zab BK1272.out 0).trans rfl, (zab BK1272.out 1).trans rfl⟩ (fun hHeld => ?_)
                clear hK K
                refine norm_ (a' := ?_) ?_ ?_
                rotate_left
                ·
                 show Act.put _ (some 50) _ = _
                 simp only [Act.put, zs1, zs2, zs3, i64_w, i32_w]
                 rfl
                refine one_ (i := 7) (N := some 54) #[true, true, true, true, true, true, true, true, false, false, false, false, true, false, false] rfl rfl (zb8 HT_.out (by kernel_rfl)) (by decide) (fun K hK => ?_)
                refine goes_ Tryd.func36 (by kernel_rfl) rfl #[.int .u64 (IntKind.u64.wrap (((rd_T75 l1 x34_2).f1)))] (by rfl) rfl rfl (zE) ?_
                with_reducible refine (zcf.calls kj13 (IntKind.u64.wrap (((rd_T75 l1 x34_2).f1))) t1276 _ A22.out).mono ?_
                rintro e w29 ⟨v1277, rfl, ho0, hb⟩
                refine ⟨_, rfl, ?_⟩
                have n0_ := zA (Kd.zch (zN HO_6) hb)
                have n1_ := zA (Kd.zar (zV HO1275) hb)
                have n2_ := zA (Kd.za2 (Kd.zak (ok' := fun k_ => some k_ ≠ (u6 : Value).ownBlock ∧ k_ ≠ gb1272 ∧ k_ ≠ gb1286) ho0 (fun k_ hk_ => ⟨(Kd.fresh' (Kd.N_lt (zN HO_6)) k_ hk_), (Kd.freshB (g := gb1272) (o := .cells #[.int .i64 ((rd_T75 l1 x34_2).f0), .int .i64 ((rd_T75 l1 x34_2).f1)] 75 (0, 0)) (zK BK1272) k_ hk_), (Kd.freshB (g := gb1286) (o := .cells #[.slice none 0 0, .slice none 0 0] 28 (0, 0)) (zK BK1286) k_ hk_)⟩)) (za (zB HB)))
                have n3_ := zA (zaf (g := gb1272) (o := .cells #[.int .i64 ((rd_T75 l1 x34_2).f0), .int .i64 ((rd_T75 l1 x34_2).f1)] 75 (0, 0)) (zK BK1272) hb)
                have n4_ := zA (zaf (g := gb1286) (o := .cells #[.slice none 0 0, .slice none 0 0] 28 (0, 0)) (zK BK1286) hb)
                have n5_ := zA (zac (zB HB) hb)
                clear HO_6 HO1275 BK1272 BK1286 HB
                have HO_6 := n0_
                have HO1275 := n1_
                have HO1278 := n2_
                have BK1272 := n3_
                have BK1286 := n4_
                have HB := n5_
                clear n0_ n1_ n2_ n3_ n4_ n5_
                (try clear hb)
                (try clear hb2)
                (try clear hk)
                (try clear hi)
                (try clear ho0)
                obtain ⟨Ao30, co30, eo30⟩ := Kd.za3 HO1275.out
                (first | subst eo30 | (injection eo30 with f1_ f2_ f3_; have f4_ := f1_.symm; have f5_ := f3_.symm; clear f1_ f2_ f3_; subst f4_; subst f5_))
                obtain ⟨Ao31, co31, eo31⟩ := Kd.za3 HO1278.out
                (first | subst eo31 | (injection eo31 with f1_ f2_ f3_; have f4_ := f1_.symm; have f5_ := f3_.symm; clear f1_ f2_ f3_; subst f4_; subst f5_))
                refine hK.out _ _ ⟨(zab BK1272.out 0).trans rfl, (zab BK1272.out 1).trans rfl⟩ (fun hHeld => ?_)
                clear hK K
                refine norm_ (a' := ?_) ?_ ?_
                rotate_left
                ·
                 show Act.put _ (some 54) _ = _
                 simp only [Act.put, zs1, zs2, zs3, i64_w, i32_w]
                 rfl
                refine one_ (i := 8) (N := some 55) #[true, true, true, true, true, true, true, true, true, false, false, false, true, false, false] rfl rfl (zb8 HT_.out (by kernel_rfl)) (by decide) (fun K hK => ?_)
                refine goes_ Tryd.func24 (by kernel_rfl) rfl #[.slice Ao30 t1273.length co30, .slice Ao31 t1276.length co31] (by rfl) rfl rfl (zE) ?_
                with_reducible refine (zc4.calls kj13 _ _ t1273 _ _ t1276 t1279 t1282 t1285 _ ?side1 ?side2 ?side3 ?side4 A23.out).mono ?_
                (case side1 => exact zJ (Kd.zal HO1275.out).2.2)
                (case side2 => exact (Kd.zal HO1275.out).2.1)
                (case side3 => exact zJ (Kd.zal HO1278.out).2.2)
                (case side4 => exact (Kd.zal HO1278.out).2.1)
                rintro e w32 ⟨v1280, v1283, rfl, ho0, ho1, hb⟩
                refine ⟨_, rfl, ?_⟩
                have n0_ := zA (Kd.zch (zN HO_6) hb)
                have n1_ := zA (Kd.zar (zV HO1275) hb)
                have n2_ := zA (Kd.zar (zV HO1278) hb)
                have n3_ := zA (Kd.za2 (Kd.zak (ok' := fun k_ => some k_ ≠ (u6 : Value).ownBlock ∧ k_ ≠ gb1272 ∧ k_ ≠ gb1286) ho0 (fun k_ hk_ => ⟨(Kd.fresh' (Kd.N_lt (zN HO_6)) k_ hk_), (Kd.freshB (g := gb1272) (o := .cells #[.int .i64 ((rd_T75 l1 x34_2).f0), .int .i64 ((rd_T75 l1 x34_2).f1)] 75 (0, 0)) (zK BK1272) k_ hk_), (Kd.freshB (g := gb1286) (o := .cells #[.slice none 0 0, .slice none 0 0] 28 (0, 0)) (zK BK1286) k_ hk_)⟩)) (za (zB HB)))
                have n4_ := zA (Kd.za2 (Kd.zak (ok' := fun k_ => some k_ ≠ (u6 : Value).ownBlock ∧ k_ ≠ gb1272 ∧ k_ ≠ gb1286) ho1 (fun k_ hk_ => ⟨(Kd.fresh' (Kd.N_lt (zN HO_6)) k_ hk_), (Kd.freshB (g := gb1272) (o := .cells #[.int .i64 ((rd_T75 l1 x34_2).f0), .int .i64 ((rd_T75 l1 x34_2).f1)] 75 (0, 0)) (zK BK1272) k_ hk_), (Kd.freshB (g := gb1286) (o := .cells #[.slice none 0 0, .slice none 0 0] 28 (0, 0)) (zK BK1286) k_ hk_)⟩)) (za (zB HB)))
                have n5_ := zA (zaf (g := gb1272) (o := .cells #[.int .i64 ((rd_T75 l1 x34_2).f0), .int .i64 ((rd_T75 l1 x34_2).f1)] 75 (0, 0)) (zK BK1272) hb)
                have n6_ := zA (zaf (g := gb1286) (o := .cells #[.slice none 0 0, .slice none 0 0] 28 (0, 0)) (zK BK1286) hb)
                have n7_ := zA (zac (zB HB) hb)
                clear HO_6 HO1275 HO1278 BK1272 BK1286 HB
                have HO_6 := n0_
                have HO1275 := n1_
                have HO1278 := n2_
                have HO1281 := n3_
                have HO1284 := n4_
                have BK1272 := n5_
                have BK1286 := n6_
                have HB := n7_
                clear n0_ n1_ n2_ n3_ n4_ n5_ n6_ n7_
                (try clear hb)
                (try clear hb2)
                (try clear hk)
                (try clear hi)
                (try clear ho0)
                (try clear ho1)
                refine hK.out _ _ ⟨(zab BK1272.out 0).trans rfl, (zab BK1272.out 1).trans rfl⟩ (fun hHeld => ?_)
                clear hK K
                refine norm_ (a' := ?_) ?_ ?_
                rotate_left
                ·
                 show Act.put _ (some 55) _ = _
                 simp only [Act.put, zs1, zs2, zs3, i64_w, i32_w]
                 rfl
                refine pure_ (i := 9) (N := some 46) (v := ?_) (a' := ?_) #[true, true, true, true, true, true, true, true, true, true, false, false, true, false, false] rfl rfl (zav HT_.out (by kernel_rfl)) (fun _ _ _ h => h) (Or.inl ⟨by rfl, ?_⟩) ?_ ?_
                rotate_left
                ·
                 intro w'
                 go_simp
                 with_reducible rfl
                rotate_left
                ·
                 simp only [Act.put, zs1, zs2, zs3, i64_w, i32_w]
                 rfl
                refine pure_ (i := 10) (N := some 56) (v := ?_) (a' := ?_) #[true, true, true, true, true, true, true, true, true, true, true, false, true, false, false] rfl rfl (zav HT_.out (by kernel_rfl)) (fun _ _ _ h => h) (Or.inl ⟨by rfl, ?_⟩) ?_ ?_
                rotate_left
                ·
                 intro w'
                 go_simp
                 with_reducible rfl
                rotate_left
                ·
                 simp only [Act.put, zs1, zs2, zs3, i64_w, i32_w]
                 rfl
                refine pure_ (i := 11) (N := some 57) (v := ?_) (a' := ?_) #[true, true, true, true, true, true, true, true, true, true, true, true, true, false, false] rfl rfl (zav HT_.out (by kernel_rfl)) (fun _ _ _ h => h) (Or.inl ⟨by rfl, ?_⟩) ?_ ?_
                rotate_left
                ·
                 intro w'
                 go_simp
                 with_reducible rfl
                rotate_left
                ·
                 simp only [Act.put, zs1, zs2, zs3, i64_w, i32_w]
                 rfl
                exact norm_ (by simp only [putAll, Act.put, zs1, zs2, zs3]) (hCont (.slice Ao30 t1273.length co30, .slice Ao31 t1276.length co31, v1280, v1283, gb1286) _ ⟨hHeld, (zV HO1275), (zV HO1278), (zV HO1281), (zV HO1284), (zN HO_6), (zK BK1272), (zK BK1286), GW1286.out, GE1286.out, NB1272_1286.out, NB1286_1272.out, (zB HB)⟩)
              rintro ⟨v1274, v1277, v1280, v1283, gb1286⟩ w33 ⟨hS_, h0_, h1_, h2_, h3_, h4_, h5_, h6_, h7_, h8_, h9_, h10_, h11_⟩
              have n0_ : Aside0 (Kd.V (Kd.int .u64) 57 w33 w.heap.size (fun k_ => some k_ ≠ (u6 : Value).ownBlock ∧ k_ ≠ gb1272 ∧ k_ ≠ gb1286) v1274 t1273) := ⟨h0_⟩
              have n1_ : Aside0 (Kd.V (Kd.int .u64) 57 w33 w.heap.size (fun k_ => some k_ ≠ (u6 : Value).ownBlock ∧ k_ ≠ gb1272 ∧ k_ ≠ gb1286) v1277 t1276) := ⟨h1_⟩
              have n2_ : Aside0 (Kd.V (Kd.int .u64) 57 w33 w.heap.size (fun k_ => some k_ ≠ (u6 : Value).ownBlock ∧ k_ ≠ gb1272 ∧ k_ ≠ gb1286) v1280 t1279) := ⟨h2_⟩
              have n3_ : Aside0 (Kd.V (Kd.int .u64) 57 w33 w.heap.size (fun k_ => some k_ ≠ (u6 : Value).ownBlock ∧ k_ ≠ gb1272 ∧ k_ ≠ gb1286) v1283 t1282) := ⟨h3_⟩
              have n4_ : Aside0 (Kd.N k28 28 w33 w.heap.size (fun k_ => k_ ≠ gb1272 ∧ k_ ≠ gb1286) u6 x6_2) := ⟨h4_⟩
              have n5_ : Aside0 (w33.heap[gb1272]? = some (.cells #[.int .i64 ((rd_T75 l1 x34_2).f0), .int .i64 ((rd_T75 l1 x34_2).f1)] 75 (0, 0))) := ⟨h5_⟩
              have n6_ : Aside0 (w33.heap[gb1286]? = some (.cells #[.slice none 0 0, .slice none 0 0] 28 (0, 0))) := ⟨h6_⟩
              have n7_ : Aside0 (w.heap.size ≤ gb1286) := ⟨h7_⟩
              have n8_ : Aside0 (w.heap.size ≤ gb1286) := ⟨h8_⟩
              have n9_ : Aside0 (gb1272 ≠ gb1286) := ⟨h9_⟩
              have n10_ : Aside0 (gb1286 ≠ gb1272) := ⟨h10_⟩
              have n11_ : Aside0 (Below w.heap.size w w33) := ⟨h11_⟩
              clear HO_6 BK1272 HB h0_ h1_ h2_ h3_ h4_ h5_ h6_ h7_ h8_ h9_ h10_ h11_
              have HO1275 := n0_
              have HO1278 := n1_
              have HO1281 := n2_
              have HO1284 := n3_
              have HO_6 := n4_
              have BK1272 := n5_
              have BK1286 := n6_
              have GW1286 := n7_
              have GE1286 := n8_
              have NB1272_1286 := n9_
              have NB1286_1272 := n10_
              have HB := n11_
              clear n0_ n1_ n2_ n3_ n4_ n5_ n6_ n7_ n8_ n9_ n10_ n11_
              have hHeld : w33.cell? ⟨gb1272, 0, none⟩ = some (.int .i64 ((rd_T75 l1 x34_2).f0)) ∧ w33.cell? ⟨gb1272, 1, none⟩ = some (.int .i64 ((rd_T75 l1 x34_2).f1)) := hS_
              obtain ⟨Ao34, co34, eo34⟩ := Kd.za3 HO1281.out
              (first | subst eo34 | (injection eo34 with f1_ f2_ f3_; have f4_ := f1_.symm; have f5_ := f3_.symm; clear f1_ f2_ f3_; subst f4_; subst f5_))
              obtain ⟨Ao36, co36, eo36⟩ := Kd.za3 HO1284.out
              (first | subst eo36 | (injection eo36 with f1_ f2_ f3_; have f4_ := f1_.symm; have f5_ := f3_.symm; clear f1_ f2_ f3_; subst f4_; subst f5_))
              refine norm_ (a' := ?_) ?_ ?_
              rotate_left
              ·
               simp only [putAll, Act.put, zs1, zs2, zs3]
               rfl
              refine one_ (i := 13) (N := none) #[true, true, true, true, true, true, true, true, true, true, true, true, true, true, false] rfl rfl (zb8 HT_.out (by kernel_rfl)) (by decide) (fun K hK => ?_)
              have hs35 : w33.cell? ⟨gb1286, 0, none⟩ = some (.slice none 0 0) := (zab BK1286.out 0).trans rfl
              have hfs35 := zan BK1286.out 0
              have hns35_0 := NB1272_1286.out
              have hms35_0 := NB1286_1272.out
              have hs37 : w33.cell? ⟨gb1286, 1, none⟩ = some (.slice none 0 0) := (zab BK1286.out 1).trans rfl
              have hfs37 := zan BK1286.out 1
              have hns37_0 := NB1272_1286.out
              have hms37_0 := NB1286_1272.out
              refine skip_ (w1 := ?_) (by rfl) rfl ?_ ?_
              rotate_left
              ·
               go_simp
               rfl
              refine hK.out _ _ ⟨((cell_far (p := ⟨gb1286, _, none⟩) NB1272_1286.out _).trans (((cell_far (p := ⟨gb1286, _, none⟩) NB1272_1286.out _).trans (hHeld.1)))), ((cell_far (p := ⟨gb1286, _, none⟩) NB1272_1286.out _).trans (((cell_far (p := ⟨gb1286, _, none⟩) NB1272_1286.out _).trans (hHeld.2))))⟩ (fun hHeld => ?_)
              clear hK K
              refine pure_ (i := 14) (N := some 11) (v := ?_) (a' := ?_) #[true, true, true, true, true, true, true, true, true, true, true, true, true, true, true] rfl rfl (zav HT_.out (by kernel_rfl)) (fun _ _ _ h => h) (Or.inl ⟨by rfl, ?_⟩) ?_ ?_
              rotate_left
              ·
               intro w'
               go_simp
               with_reducible rfl
              rotate_left
              ·
               simp only [Act.put, zs1, zs2, zs3, i64_w, i32_w]
               rfl
              refine done_ (zdk HT_.out (by kernel_rfl)) ?_
              have n0_ : Aside0 (Kd.N k28 28 ((w33.setCell ⟨gb1286, 0, none⟩ (.slice Ao34 t1279.length co34)).setCell ⟨gb1286, 1, none⟩ (.slice Ao36 t1282.length co36)) w.heap.size (fun k_ => k_ ≠ gb1272 ∧ k_ ≠ gb1286) u6 x6_2) := ⟨by (with_reducible repeat (first | apply Kd.N_alloc | apply Kd.N_drewN | apply Kd.N_drew)); exact Kd.N_mono (Kd.N_far (p := ⟨gb1286, 1, none⟩) (Kd.N_far (p := ⟨gb1286, 0, none⟩) (Kd.N_mono HO_6.out (fun k_ hk => (⟨hk, hk.2⟩ : _ ∧ k_ ≠ gb1286))) (fun _ hk => hk.2) (.slice Ao34 t1279.length co34)) (fun _ hk => hk.2) (.slice Ao36 t1282.length co36)) (fun _ hk => ⟨hk.1.1, hk.1.2⟩)⟩
              have n1_ : Aside0 (Kd.V (Kd.int .u64) 57 ((w33.setCell ⟨gb1286, 0, none⟩ (.slice Ao34 t1279.length co34)).setCell ⟨gb1286, 1, none⟩ (.slice Ao36 t1282.length co36)) w.heap.size (fun k_ => some k_ ≠ (u6 : Value).ownBlock ∧ k_ ≠ gb1272 ∧ k_ ≠ gb1286) v1274 t1273) := ⟨by (with_reducible repeat (first | apply Kd.za8 | apply Kd.za7 | apply Kd.zbd)); exact Kd.zak (Kd.V_far (p := ⟨gb1286, 1, none⟩) (Kd.V_far (p := ⟨gb1286, 0, none⟩) (Kd.zak HO1275.out (fun k_ hk => (⟨hk, hk.2.2⟩ : _ ∧ k_ ≠ gb1286))) (fun _ hk => hk.2) (.slice Ao34 t1279.length co34)) (fun _ hk => hk.2) (.slice Ao36 t1282.length co36)) (fun _ hk => ⟨hk.1.1, ⟨hk.1.2.1, hk.1.2.2⟩⟩)⟩
              have n2_ : Aside0 (Kd.V (Kd.int .u64) 57 ((w33.setCell ⟨gb1286, 0, none⟩ (.slice Ao34 t1279.length co34)).setCell ⟨gb1286, 1, none⟩ (.slice Ao36 t1282.length co36)) w.heap.size (fun k_ => some k_ ≠ (u6 : Value).ownBlock ∧ k_ ≠ gb1272 ∧ k_ ≠ gb1286) v1277 t1276) := ⟨by (with_reducible repeat (first | apply Kd.za8 | apply Kd.za7 | apply Kd.zbd)); exact Kd.zak (Kd.V_far (p := ⟨gb1286, 1, none⟩) (Kd.V_far (p := ⟨gb1286, 0, none⟩) (Kd.zak HO1278.out (fun k_ hk => (⟨hk, hk.2.2⟩ : _ ∧ k_ ≠ gb1286))) (fun _ hk => hk.2) (.slice Ao34 t1279.length co34)) (fun _ hk => hk.2) (.slice Ao36 t1282.length co36)) (fun _ hk => ⟨hk.1.1, ⟨hk.1.2.1, hk.1.2.2⟩⟩)⟩
              have n3_ : Aside0 (Kd.V (Kd.int .u64) 57 ((w33.setCell ⟨gb1286, 0, none⟩ (.slice Ao34 t1279.length co34)).setCell ⟨gb1286, 1, none⟩ (.slice Ao36 t1282.length co36)) w.heap.size (fun k_ => some k_ ≠ (u6 : Value).ownBlock ∧ k_ ≠ gb1272 ∧ k_ ≠ gb1286) (.slice Ao34 t1279.length co34) t1279) := ⟨by (with_reducible repeat (first | apply Kd.za8 | apply Kd.za7 | apply Kd.zbd)); exact Kd.zak (Kd.V_far (p := ⟨gb1286, 1, none⟩) (Kd.V_far (p := ⟨gb1286, 0, none⟩) (Kd.zak HO1281.out (fun k_ hk => (⟨hk, hk.2.2⟩ : _ ∧ k_ ≠ gb1286))) (fun _ hk => hk.2) (.slice Ao34 t1279.length co34)) (fun _ hk => hk.2) (.slice Ao36 t1282.length co36)) (fun _ hk => ⟨hk.1.1, ⟨hk.1.2.1, hk.1.2.2⟩⟩)⟩
              have n4_ : Aside0 (Kd.V (Kd.int .u64) 57 ((w33.setCell ⟨gb1286, 0, none⟩ (.slice Ao34 t1279.length co34)).setCell ⟨gb1286, 1, none⟩ (.slice Ao36 t1282.length co36)) w.heap.size (fun k_ => some k_ ≠ (u6 : Value).ownBlock ∧ k_ ≠ gb1272 ∧ k_ ≠ gb1286) (.slice Ao36 t1282.length co36) t1282) := ⟨by (with_reducible repeat (first | apply Kd.za8 | apply Kd.za7 | apply Kd.zbd)); exact Kd.zak (Kd.V_far (p := ⟨gb1286, 1, none⟩) (Kd.V_far (p := ⟨gb1286, 0, none⟩) (Kd.zak HO1284.out (fun k_ hk => (⟨hk, hk.2.2⟩ : _ ∧ k_ ≠ gb1286))) (fun _ hk => hk.2) (.slice Ao34 t1279.length co34)) (fun _ hk => hk.2) (.slice Ao36 t1282.length co36)) (fun _ hk => ⟨hk.1.1, ⟨hk.1.2.1, hk.1.2.2⟩⟩)⟩
              have n5_ : Aside0 (((w33.setCell ⟨gb1286, 0, none⟩ (.slice Ao34 t1279.length co34)).setCell ⟨gb1286, 1, none⟩ (.slice Ao36 t1282.length co36)).heap[gb1272]? = some (.cells #[.int .i64 ((rd_T75 l1 x34_2).f0), .int .i64 ((rd_T75 l1 x34_2).f1)] 75 (0, 0))) := ⟨by (with_reducible repeat (first | refine zai ?_ _ | refine zaj ?_ | refine zah ?_ _)); refine zco ?_ NB1272_1286.out _; (with_reducible repeat (first | refine zai ?_ _ | refine zaj ?_ | refine zah ?_ _)); refine zco ?_ NB1272_1286.out _; (with_reducible repeat (first | refine zai ?_ _ | refine zaj ?_ | refine zah ?_ _)); exact BK1272.out⟩
              have n6_ : Aside0 (((w33.setCell ⟨gb1286, 0, none⟩ (.slice Ao34 t1279.length co34)).setCell ⟨gb1286, 1, none⟩ (.slice Ao36 t1282.length co36)).heap[gb1286]? = some (.cells #[.slice Ao34 t1279.length co34, .slice Ao36 t1282.length co36] 28 (0, 0))) := ⟨by (with_reducible repeat (first | refine zai ?_ _ | refine zaj ?_ | refine zah ?_ _)); refine zbn (cs := #[.slice Ao34 t1279.length co34, .slice none 0 0]) ?_ 1 _ rfl; (with_reducible repeat (first | refine zai ?_ _ | refine zaj ?_ | refine zah ?_ _)); refine zbn (cs := #[.slice none 0 0, .slice none 0 0]) ?_ 0 _ rfl; (with_reducible repeat (first | refine zai ?_ _ | refine zaj ?_ | refine zah ?_ _)); exact BK1286.out⟩
              have n7_ : Aside0 (Below w.heap.size w ((w33.setCell ⟨gb1286, 0, none⟩ (.slice Ao34 t1279.length co34)).setCell ⟨gb1286, 1, none⟩ (.slice Ao36 t1282.length co36))) := ⟨zB HB⟩
              (try clear HO_6)
              (try clear HO1275)
              (try clear HO1278)
              (try clear HO1281)
              (try clear HO1284)
              (try clear BK1272)
              (try clear BK1286)
              (try clear HB)
              generalize ((w33.setCell ⟨gb1286, 0, none⟩ (.slice Ao34 t1279.length co34)).setCell ⟨gb1286, 1, none⟩ (.slice Ao36 t1282.length co36)) = w38 at n0_ n1_ n2_ n3_ n4_ n5_ n6_ n7_ ⊢
              have HO_6 := n0_
              have HO1275 := n1_
              have HO1278 := n2_
              have HO1281 := n3_
              have HO1284 := n4_
              have BK1272 := n5_
              have BK1286 := n6_
              have HB := n7_
              clear n0_ n1_ n2_ n3_ n4_ n5_ n6_ n7_
              have hnb39 := NB1286_1272.out
              have hnc39 := NB1272_1286.out
              have hcz40_0 : w38.cell? ⟨gb1286, 0, none⟩ = some (.slice Ao34 t1279.length co34) := (zab BK1286.out 0).trans rfl
              have hcz40_1 : w38.cell? ⟨gb1286, 1, none⟩ = some (.slice Ao36 t1282.length co36) := (zab BK1286.out 1).trans rfl
              have hfz40_0 := zan BK1286.out 0
              have hfz40_1 := zan BK1286.out 1
              try go_wp2_with (first | ((with_reducible refine zby (b := .append) (xs := #[.tmp 58, .tmp 60]) rfl ?_); (try (refine zct (by rfl) ?_; dsimp only)); at_builtin; refine Kd.N_append k28 (w0 := w) w.heap.size rfl (.tmp 58) (.tmp 60) 74 28 (.agg #[(.slice none 0 0), (.slice none 0 0)]) 48 rfl Tryd.underlying74 info28 rfl (by decide) (by omega) u6 x6_2 (⟨t1279, t1282⟩ : S28) [.slice Ao34 t1279.length co34, .slice Ao36 t1282.length co36] (fun k_ => k_ ≠ gb1272 ∧ k_ ≠ gb1286) (fun k_ => ((fun k_ => k_ ≠ gb1272 ∧ k_ ≠ gb1286)) k_ ∧ some k_ ≠ (u6 : Value).ownBlock) rfl rfl ?aP (fun _ hk => hk) ?aF ?aO ?aB ?aS ?aL ?_; (case aP => exact (k28_mkF _ _ (⟨t1279, t1282⟩ : S28) (Kd.zal (Kd.zak (ok' := (fun k_ => ((fun k_ => k_ ≠ gb1272 ∧ k_ ≠ gb1286)) k_ ∧ some k_ ≠ (u6 : Value).ownBlock)) (HO1281.out) (fun k_ hk => ⟨⟨hk.2.1, hk.2.2⟩, hk.1⟩))).2.1 (Kd.V_F (Kd.zak (ok' := (fun k_ => ((fun k_ => k_ ≠ gb1272 ∧ k_ ≠ gb1286)) k_ ∧ some k_ ≠ (u6 : Value).ownBlock)) (HO1281.out) (fun k_ hk => ⟨⟨hk.2.1, hk.2.2⟩, hk.1⟩))) (Kd.zal (Kd.zak (ok' := (fun k_ => ((fun k_ => k_ ≠ gb1272 ∧ k_ ≠ gb1286)) k_ ∧ some k_ ≠ (u6 : Value).ownBlock)) (HO1284.out) (fun k_ hk => ⟨⟨hk.2.1, hk.2.2⟩, hk.1⟩))).2.1 (Kd.V_F (Kd.zak (ok' := (fun k_ => ((fun k_ => k_ ≠ gb1272 ∧ k_ ≠ gb1286)) k_ ∧ some k_ ≠ (u6 : Value).ownBlock)) (HO1284.out) (fun k_ hk => ⟨⟨hk.2.1, hk.2.2⟩, hk.1⟩))))); (case aB => exact (zB HB)); (case aF => exact (fun k_ hk => ⟨Kd.freshB (g := gb1272) (o := .cells #[.int .i64 ((rd_T75 l1 x34_2).f0), .int .i64 ((rd_T75 l1 x34_2).f1)] 75 (0, 0)) (zK BK1272) k_ hk, Kd.freshB (g := gb1286) (o := .cells #[.slice Ao34 t1279.length co34, .slice Ao36 t1282.length co36] 28 (0, 0)) (zK BK1286) k_ hk⟩)); (case aO => exact (zN HO_6)); (case aS => exact (za (zB HB))); (case aL => have := LMc24.out; omega); intro v1288 w41 ho hb hg hat; rw [← Ny1287.out] at ho; have n0_ := zA (blk_grown (g := gb1272) (o := .cells #[.int .i64 ((rd_T75 l1 x34_2).f0), .int .i64 ((rd_T75 l1 x34_2).f1)] 75 (0, 0)) (zK BK1272) hg (Kd.N_ne HO_6.out BK1272.out (by decide))); have n1_ := zA (Kd.zdf (ok := (fun k_ => k_ ≠ gb1272 ∧ k_ ≠ gb1286)) (by (with_reducible repeat (first | apply Kd.za8 | apply Kd.za7 | apply Kd.zbd)); exact Kd.zak HO1275.out (fun _ hk => ⟨⟨hk.2.1, hk.2.2⟩, hk.1⟩)) hg hat); have n2_ := zA (Kd.zdf (ok := (fun k_ => k_ ≠ gb1272 ∧ k_ ≠ gb1286)) (by (with_reducible repeat (first | apply Kd.za8 | apply Kd.za7 | apply Kd.zbd)); exact Kd.zak HO1278.out (fun _ hk => ⟨⟨hk.2.1, hk.2.2⟩, hk.1⟩)) hg hat); have n3_ := zA (Kd.zdf (ok := (fun k_ => k_ ≠ gb1272 ∧ k_ ≠ gb1286)) (by (with_reducible repeat (first | apply Kd.za8 | apply Kd.za7 | apply Kd.zbd)); exact Kd.zak HO1281.out (fun _ hk => ⟨⟨hk.2.1, hk.2.2⟩, hk.1⟩)) hg hat); have n4_ := zA (Kd.zdf (ok := (fun k_ => k_ ≠ gb1272 ∧ k_ ≠ gb1286)) (by (with_reducible repeat (first | apply Kd.za8 | apply Kd.za7 | apply Kd.zbd)); exact Kd.zak HO1284.out (fun _ hk => ⟨⟨hk.2.1, hk.2.2⟩, hk.1⟩)) hg hat); have n5_ := zA (blk_grown (g := gb1286) (o := .cells #[.slice Ao34 t1279.length co34, .slice Ao36 t1282.length co36] 28 (0, 0)) (zK BK1286) hg (Kd.N_away HO_6.out (fun _ hk => hk.2))); have n6_ := zA (hb); have n7_ := zA (ho); clear BK1272 HO1275 HO1278 HO1281 HO1284 BK1286 HB HO_6; have BK1272 := n0_; have HO1275 := n1_; have HO1278 := n2_; have HO1281 := n3_; have HO1284 := n4_; have BK1286 := n5_; have HB := n6_; have HO1289 := n7_; clear n0_ n1_ n2_ n3_ n4_ n5_ n6_ n7_ ho hb hg hat))
              go_roundg kj13
              case measure => have := HJ2.out; have := HK2.out; have := HJ13.out; omega
              case rel => exact ⟨(y1287), (true), (wrap64 (x34_2 + 1)), (zF), (zF), H', ⟨by have := HJ2.out; have := HK2.out; have := HJ13.out; omega⟩, ⟨by (with_reducible repeat (first | apply Kd.N_alloc | apply Kd.N_drewN | apply Kd.N_drew)); exact Kd.N_mono HO1289.out (fun _ hk => trivial)⟩, ⟨zB HB⟩⟩
             ·
              replace c25 := Bool.eq_false_iff.mpr c25
              subst c25
              rw [if_neg (show ¬ (false = true) by decide)] at H
              have H' := zA H
              clear H
              try go_wp2
              have n0_ := zA (Kd.N_drew HO_6.out)
              have n1_ := zA (zaj BK1272.out)
              have n2_ := zA (zbi HB.out)
              clear HO_6 BK1272 HB
              have HO_6 := n0_
              have BK1272 := n1_
              have HB := n2_
              clear n0_ n1_ n2_
              refine start_ (n := 15) (S := fun w' => w'.cell? ⟨gb1272, 0, none⟩ = some (.int .i64 ((rd_T75 l1 x34_2).f0)) ∧ w'.cell? ⟨gb1272, 1, none⟩ = some (.int .i64 ((rd_T75 l1 x34_2).f1))) (ds := []) #[false, false, false, false, false, false, false, false, false, false, false, false, false, false, false] (by kernel_rfl) rfl rfl ⟨(zab BK1272.out 0).trans rfl, (zab BK1272.out 1).trans rfl⟩ (fun hHeld => ?_); refine zcw zaa.tab11 zaa.bits11 (fun HT_ HW_ => ?_)
              generalize wc.drew = w42 at HO_6 BK1272 HB hHeld ⊢
              refine pure_ (i := 0) (N := some 47) (v := ?_) (a' := ?_) #[true, false, false, false, false, false, false, false, false, false, false, false, false, false, false] rfl rfl (zav HT_.out (by kernel_rfl)) (fun _ _ _ h => h) (Or.inl ⟨by rfl, ?_⟩) ?_ ?_
              rotate_left
              ·
               intro w'
               go_simp
               with_reducible rfl
              rotate_left
              ·
               simp only [Act.put, zs1, zs2, zs3, i64_w, i32_w]
               rfl
              refine pure_ (i := 4) (N := some 51) (v := ?_) (a' := ?_) #[true, false, false, false, true, false, false, false, false, false, false, false, false, false, false] rfl rfl (zav HT_.out (by kernel_rfl)) (fun _ _ _ h => h) (Or.inl ⟨by rfl, ?_⟩) ?_ ?_
              rotate_left
              ·
               intro w'
               go_simp
               with_reducible rfl
              rotate_left
              ·
               simp only [Act.put, zs1, zs2, zs3, i64_w, i32_w]
               rfl
              refine take_ (i := 1) (N := some 48) (v := ?_) (a' := ?_) #[true, true, false, false, true, false, false, false, false, false, false, false, false, false, false] rfl rfl (zb9 HT_.out HW_.out (by kernel_rfl)) (fun _ _ _ h => h) (Or.inl ⟨by rfl, ?_⟩) hHeld ?_ ?_
              rotate_left
              ·
               rintro w' ⟨s0, s1⟩
               go_simp
               with_reducible rfl
              rotate_left
              ·
               simp only [Act.put, zs1, zs2, zs3, i64_w, i32_w]
               rfl
              refine pure_ (i := 2) (N := some 49) (v := ?_) (a' := ?_) #[true, true, true, false, true, false, false, false, false, false, false, false, false, false, false] rfl rfl (zav HT_.out (by kernel_rfl)) (fun _ _ _ h => h) (Or.inl ⟨by rfl, ?_⟩) ?_ ?_
              rotate_left
              ·
               intro w'
               go_simp
               with_reducible rfl
              rotate_left
              ·
               simp only [Act.put, zs1, zs2, zs3, i64_w, i32_w]
               rfl
              refine take_ (i := 5) (N := some 52) (v := ?_) (a' := ?_) #[true, true, true, false, true, true, false, false, false, false, false, false, false, false, false] rfl rfl (zb9 HT_.out HW_.out (by kernel_rfl)) (fun _ _ _ h => h) (Or.inl ⟨by rfl, ?_⟩) hHeld ?_ ?_
              rotate_left
              ·
               rintro w' ⟨s0, s1⟩
               go_simp
               with_reducible rfl
              rotate_left
              ·
               simp only [Act.put, zs1, zs2, zs3, i64_w, i32_w]
               rfl
              refine pure_ (i := 6) (N := some 53) (v := ?_) (a' := ?_) #[true, true, true, false, true, true, true, false, false, false, false, false, false, false, false] rfl rfl (zav HT_.out (by kernel_rfl)) (fun _ _ _ h => h) (Or.inl ⟨by rfl, ?_⟩) ?_ ?_
              rotate_left
              ·
               intro w'
               go_simp
               with_reducible rfl
              rotate_left
              ·
               simp only [Act.put, zs1, zs2, zs3, i64_w, i32_w]
               rfl
              refine join_ (σ := Value × Value × Value × Value × Nat) 2 #[true, true, true, true, true, true, true, true, true, true, true, true, true, false, false] (fun s_ => [(50, s_.1), (54, s_.2.1), (55, .tuple #[.agg #[s_.2.2.1, s_.2.2.2.1], .int .i64 t1285]), (10, .pointer (some ⟨s_.2.2.2.2, 0, none⟩)), (46, .tuple #[.agg #[s_.2.2.1, s_.2.2.2.1], .int .i64 t1285]), (56, .agg #[s_.2.2.1, s_.2.2.2.1]), (57, .int .i64 t1285)]) (fun s_ w' => (w'.cell? ⟨gb1272, 0, none⟩ = some (.int .i64 ((rd_T75 l1 x34_2).f0)) ∧ w'.cell? ⟨gb1272, 1, none⟩ = some (.int .i64 ((rd_T75 l1 x34_2).f1))) ∧ (Kd.V (Kd.int .u64) 57 w' w.heap.size (fun k_ => some k_ ≠ (u6 : Value).ownBlock ∧ k_ ≠ gb1272 ∧ k_ ≠ s_.2.2.2.2) s_.1 t1273) ∧ (Kd.V (Kd.int .u64) 57 w' w.heap.size (fun k_ => some k_ ≠ (u6 : Value).ownBlock ∧ k_ ≠ gb1272 ∧ k_ ≠ s_.2.2.2.2) s_.2.1 t1276) ∧ (Kd.V (Kd.int .u64) 57 w' w.heap.size (fun k_ => some k_ ≠ (u6 : Value).ownBlock ∧ k_ ≠ gb1272 ∧ k_ ≠ s_.2.2.2.2) s_.2.2.1 t1279) ∧ (Kd.V (Kd.int .u64) 57 w' w.heap.size (fun k_ => some k_ ≠ (u6 : Value).ownBlock ∧ k_ ≠ gb1272 ∧ k_ ≠ s_.2.2.2.2) s_.2.2.2.1 t1282) ∧ (Kd.N k28 28 w' w.heap.size (fun k_ => k_ ≠ gb1272 ∧ k_ ≠ s_.2.2.2.2) u6 x6_2) ∧ (w'.heap[gb1272]? = some (.cells #[.int .i64 ((rd_T75 l1 x34_2).f0), .int .i64 ((rd_T75 l1 x34_2).f1)] 75 (0, 0))) ∧ (w'.heap[s_.2.2.2.2]? = some (.cells #[.slice none 0 0, .slice none 0 0] 28 (0, 0))) ∧ (w.heap.size ≤ s_.2.2.2.2) ∧ (w.heap.size ≤ s_.2.2.2.2) ∧ (gb1272 ≠ s_.2.2.2.2) ∧ (s_.2.2.2.2 ≠ gb1272) ∧ (Below w.heap.size w w')) ?_ ?_
              rotate_left
              ·
               intro hCont
               refine two_ (i := 3) (j := 12) (Ni := some 50) (Nj := some 10) #[true, true, true, true, true, true, true, false, false, false, false, false, false, false, false] #[true, true, true, false, true, true, true, false, false, false, false, false, true, false, false] rfl rfl rfl rfl (two_of HT_.out (by kernel_rfl)) (by decide) (by decide) (fun K hK => ?_) (fun K hK => ?_)
               ·
                skip
                refine goes_ Tryd.func36 (by kernel_rfl) rfl #[.int .u64 (IntKind.u64.wrap (((rd_T75 l1 x34_2).f0)))] (by rfl) rfl rfl (zE) ?_
                with_reducible refine (zcf.calls kj13 (IntKind.u64.wrap (((rd_T75 l1 x34_2).f0))) t1273 _ A21.out).mono ?_
                rintro e w43 ⟨v1274, rfl, ho0, hb⟩
                refine ⟨_, rfl, ?_⟩
                have n0_ := zA (Kd.zch (zN HO_6) hb)
                have n1_ := zA (Kd.za2 (Kd.zak (ok' := fun k_ => some k_ ≠ (u6 : Value).ownBlock ∧ k_ ≠ gb1272) ho0 (fun k_ hk_ => ⟨(Kd.fresh' (Kd.N_lt (zN HO_6)) k_ hk_), (Kd.freshB (g := gb1272) (o := .cells #[.int .i64 ((rd_T75 l1 x34_2).f0), .int .i64 ((rd_T75 l1 x34_2).f1)] 75 (0, 0)) (zK BK1272) k_ hk_)⟩)) (za (zB HB)))
                have n2_ := zA (zaf (g := gb1272) (o := .cells #[.int .i64 ((rd_T75 l1 x34_2).f0), .int .i64 ((rd_T75 l1 x34_2).f1)] 75 (0, 0)) (zK BK1272) hb)
                have n3_ := zA (zac (zB HB) hb)
                clear HO_6 BK1272 HB
                have HO_6 := n0_
                have HO1275 := n1_
                have BK1272 := n2_
                have HB := n3_
                clear n0_ n1_ n2_ n3_
                (try clear hb)
                (try clear hb2)
                (try clear hk)
                (try clear hi)
                (try clear ho0)
                refine hK.out _ _ ⟨(zab BK1272.out 0).trans rfl, (zab BK1272.out 1).trans rfl⟩ (fun hHeld => ?_)
                clear hK K
                refine norm_ (a' := ?_) ?_ ?_
                rotate_left
                ·
                 show Act.put _ (some 50) _ = _
                 simp only [Act.put, zs1, zs2, zs3, i64_w, i32_w]
                 rfl
                refine two_ (i := 7) (j := 12) (Ni := some 54) (Nj := some 10) #[true, true, true, true, true, true, true, true, false, false, false, false, false, false, false] #[true, true, true, true, true, true, true, false, false, false, false, false, true, false, false] rfl rfl rfl rfl (two_of HT_.out (by kernel_rfl)) (by decide) (by decide) (fun K hK => ?_) (fun K hK => ?_)
                ·
                 skip
                 refine goes_ Tryd.func36 (by kernel_rfl) rfl #[.int .u64 (IntKind.u64.wrap (((rd_T75 l1 x34_2).f1)))] (by rfl) rfl rfl (zE) ?_
                 with_reducible refine (zcf.calls kj13 (IntKind.u64.wrap (((rd_T75 l1 x34_2).f1))) t1276 _ A22.out).mono ?_
                 rintro e w44 ⟨v1277, rfl, ho0, hb⟩
                 refine ⟨_, rfl, ?_⟩
                 have n0_ := zA (Kd.zch (zN HO_6) hb)
                 have n1_ := zA (Kd.zar (zV HO1275) hb)
                 have n2_ := zA (Kd.za2 (Kd.zak (ok' := fun k_ => some k_ ≠ (u6 : Value).ownBlock ∧ k_ ≠ gb1272) ho0 (fun k_ hk_ => ⟨(Kd.fresh' (Kd.N_lt (zN HO_6)) k_ hk_), (Kd.freshB (g := gb1272) (o := .cells #[.int .i64 ((rd_T75 l1 x34_2).f0), .int .i64 ((rd_T75 l1 x34_2).f1)] 75 (0, 0)) (zK BK1272) k_ hk_)⟩)) (za (zB HB)))
                 have n3_ := zA (zaf (g := gb1272) (o := .cells #[.int .i64 ((rd_T75 l1 x34_2).f0), .int .i64 ((rd_T75 l1 x34_2).f1)] 75 (0, 0)) (zK BK1272) hb)
                 have n4_ := zA (zac (zB HB) hb)
                 clear HO_6 HO1275 BK1272 HB
                 have HO_6 := n0_
                 have HO1275 := n1_
                 have HO1278 := n2_
                 have BK1272 := n3_
                 have HB := n4_
                 clear n0_ n1_ n2_ n3_ n4_
                 (try clear hb)
                 (try clear hb2)
                 (try clear hk)
                 (try clear hi)
                 (try clear ho0)
                 obtain ⟨Ao45, co45, eo45⟩ := Kd.za3 HO1275.out
                 (first | subst eo45 | (injection eo45 with f1_ f2_ f3_; have f4_ := f1_.symm; have f5_ := f3_.symm; clear f1_ f2_ f3_; subst f4_; subst f5_))
                 obtain ⟨Ao46, co46, eo46⟩ := Kd.za3 HO1278.out
                 (first | subst eo46 | (injection eo46 with f1_ f2_ f3_; have f4_ := f1_.symm; have f5_ := f3_.symm; clear f1_ f2_ f3_; subst f4_; subst f5_))
                 refine hK.out _ _ ⟨(zab BK1272.out 0).trans rfl, (zab BK1272.out 1).trans rfl⟩ (fun hHeld => ?_)
                 clear hK K
                 refine norm_ (a' := ?_) ?_ ?_
                 rotate_left
                 ·
                  show Act.put _ (some 54) _ = _
                  simp only [Act.put, zs1, zs2, zs3, i64_w, i32_w]
                  rfl
                 refine two_ (i := 8) (j := 12) (Ni := some 55) (Nj := some 10) #[true, true, true, true, true, true, true, true, true, false, false, false, false, false, false] #[true, true, true, true, true, true, true, true, false, false, false, false, true, false, false] rfl rfl rfl rfl (two_of HT_.out (by kernel_rfl)) (by decide) (by decide) (fun K hK => ?_) (fun K hK => ?_)
                 ·
                  skip
                  refine goes_ Tryd.func24 (by kernel_rfl) rfl #[.slice Ao45 t1273.length co45, .slice Ao46 t1276.length co46] (by rfl) rfl rfl (zE) ?_
                  with_reducible refine (zc4.calls kj13 _ _ t1273 _ _ t1276 t1279 t1282 t1285 _ ?side1 ?side2 ?side3 ?side4 A23.out).mono ?_
                  (case side1 => exact zJ (Kd.zal HO1275.out).2.2)
                  (case side2 => exact (Kd.zal HO1275.out).2.1)
                  (case side3 => exact zJ (Kd.zal HO1278.out).2.2)
                  (case side4 => exact (Kd.zal HO1278.out).2.1)
                  rintro e w47 ⟨v1280, v1283, rfl, ho0, ho1, hb⟩
                  refine ⟨_, rfl, ?_⟩
                  have n0_ := zA (Kd.zch (zN HO_6) hb)
                  have n1_ := zA (Kd.zar (zV HO1275) hb)
                  have n2_ := zA (Kd.zar (zV HO1278) hb)
                  have n3_ := zA (Kd.za2 (Kd.zak (ok' := fun k_ => some k_ ≠ (u6 : Value).ownBlock ∧ k_ ≠ gb1272) ho0 (fun k_ hk_ => ⟨(Kd.fresh' (Kd.N_lt (zN HO_6)) k_ hk_), (Kd.freshB (g := gb1272) (o := .cells #[.int .i64 ((rd_T75 l1 x34_2).f0), .int .i64 ((rd_T75 l1 x34_2).f1)] 75 (0, 0)) (zK BK1272) k_ hk_)⟩)) (za (zB HB)))
                  have n4_ := zA (Kd.za2 (Kd.zak (ok' := fun k_ => some k_ ≠ (u6 : Value).ownBlock ∧ k_ ≠ gb1272) ho1 (fun k_ hk_ => ⟨(Kd.fresh' (Kd.N_lt (zN HO_6)) k_ hk_), (Kd.freshB (g := gb1272) (o := .cells #[.int .i64 ((rd_T75 l1 x34_2).f0), .int .i64 ((rd_T75 l1 x34_2).f1)] 75 (0, 0)) (zK BK1272) k_ hk_)⟩)) (za (zB HB)))
                  have n5_ := zA (zaf (g := gb1272) (o := .cells #[.int .i64 ((rd_T75 l1 x34_2).f0), .int .i64 ((rd_T75 l1 x34_2).f1)] 75 (0, 0)) (zK BK1272) hb)
                  have n6_ := zA (zac (zB HB) hb)
                  clear HO_6 HO1275 HO1278 BK1272 HB
                  have HO_6 := n0_
                  have HO1275 := n1_
                  have HO1278 := n2_
                  have HO1281 := n3_
                  have HO1284 := n4_
                  have BK1272 := n5_
                  have HB := n6_
                  clear n0_ n1_ n2_ n3_ n4_ n5_ n6_
                  (try clear hb)
                  (try clear hb2)
                  (try clear hk)
                  (try clear hi)
                  (try clear ho0)
                  (try clear ho1)
                  refine hK.out _ _ ⟨(zab BK1272.out 0).trans rfl, (zab BK1272.out 1).trans rfl⟩ (fun hHeld => ?_)
                  clear hK K
                  refine norm_ (a' := ?_) ?_ ?_
                  rotate_left
                  ·
                   show Act.put _ (some 55) _ = _
                   simp only [Act.put, zs1, zs2, zs3, i64_w, i32_w]
                   rfl
                  refine pure_ (i := 9) (N := some 46) (v := ?_) (a' := ?_) #[true, true, true, true, true, true, true, true, true, true, false, false, false, false, false] rfl rfl (zav HT_.out (by kernel_rfl)) (fun _ _ _ h => h) (Or.inl ⟨by rfl, ?_⟩) ?_ ?_
                  rotate_left
                  ·
                   intro w'
                   go_simp
                   with_reducible rfl
                  rotate_left
                  ·
                   simp only [Act.put, zs1, zs2, zs3, i64_w, i32_w]
                   rfl
                  refine pure_ (i := 10) (N := some 56) (v := ?_) (a' := ?_) #[true, true, true, true, true, true, true, true, true, true, true, false, false, false, false] rfl rfl (zav HT_.out (by kernel_rfl)) (fun _ _ _ h => h) (Or.inl ⟨by rfl, ?_⟩) ?_ ?_
                  rotate_left
                  ·
                   intro w'
                   go_simp
                   with_reducible rfl
                  rotate_left
                  ·
                   simp only [Act.put, zs1, zs2, zs3, i64_w, i32_w]
                   rfl
                  refine pure_ (i := 11) (N := some 57) (v := ?_) (a' := ?_) #[true, true, true, true, true, true, true, true, true, true, true, true, false, false, false] rfl rfl (zav HT_.out (by kernel_rfl)) (fun _ _ _ h => h) (Or.inl ⟨by rfl, ?_⟩) ?_ ?_
                  rotate_left
                  ·
                   intro w'
                   go_simp
                   with_reducible rfl
                  rotate_left
                  ·
                   simp only [Act.put, zs1, zs2, zs3, i64_w, i32_w]
                   rfl
                  refine one_ (i := 12) (N := some 10) #[true, true, true, true, true, true, true, true, true, true, true, true, true, false, false] rfl rfl (zb8 HT_.out (by kernel_rfl)) (by decide) (fun K hK => ?_)
                  refine box_step ?hg (N := 10) ?hd (cs := #[.slice none 0 0, .slice none 0 0]) (t := 28) ?hr ?_; (case hd => rfl); (case hg => rfl); (case hr => first | (go_simp; done) | (go_simp; rfl))
                  intro gb1286 hg w48 hbox hb
                  have n0_ := zA (Kd.zch (Kd.N_elderB (zN HO_6) gb1286 (Nat.le_of_eq hg.symm)) hb)
                  have n1_ := zA (Kd.zar (Kd.zb7 (zV HO1275) gb1286 (Nat.le_of_eq hg.symm)) hb)
                  have n2_ := zA (Kd.zar (Kd.zb7 (zV HO1278) gb1286 (Nat.le_of_eq hg.symm)) hb)
                  have n3_ := zA (Kd.zar (Kd.zb7 (zV HO1281) gb1286 (Nat.le_of_eq hg.symm)) hb)
                  have n4_ := zA (Kd.zar (Kd.zb7 (zV HO1284) gb1286 (Nat.le_of_eq hg.symm)) hb)
                  have n5_ := zA (zaf (g := gb1272) (o := .cells #[.int .i64 ((rd_T75 l1 x34_2).f0), .int .i64 ((rd_T75 l1 x34_2).f1)] 75 (0, 0)) (zK BK1272) hb)
                  have n6_ := zA (zac (zB HB) hb)
                  have n7_ := zA (hbox)
                  have n8_ := zA ((by rw [hg]; exact (za (zB HB)) : w.heap.size ≤ gb1286))
                  have n9_ := zA ((by rw [hg]; exact (za (zB HB)) : w.heap.size ≤ gb1286))
                  have n10_ := zA ((by rw [hg]; exact Nat.ne_of_lt (zb4 (g := gb1272) (o := .cells #[.int .i64 ((rd_T75 l1 x34_2).f0), .int .i64 ((rd_T75 l1 x34_2).f1)] 75 (0, 0)) (zK BK1272)) : gb1272 ≠ gb1286))
                  have n11_ := zA ((by rw [hg]; exact Nat.ne_of_gt (zb4 (g := gb1272) (o := .cells #[.int .i64 ((rd_T75 l1 x34_2).f0), .int .i64 ((rd_T75 l1 x34_2).f1)] 75 (0, 0)) (zK BK1272)) : gb1286 ≠ gb1272))
                  clear HO_6 HO1275 HO1278 HO1281 HO1284 BK1272 HB
                  have HO_6 := n0_
                  have HO1275 := n1_
                  have HO1278 := n2_
                  have HO1281 := n3_
                  have HO1284 := n4_
                  have BK1272 := n5_
                  have HB := n6_
                  have BK1286 := n7_
                  have GW1286 := n8_
                  have GE1286 := n9_
                  have NB1272_1286 := n10_
                  have NB1286_1272 := n11_
                  clear n0_ n1_ n2_ n3_ n4_ n5_ n6_ n7_ n8_ n9_ n10_ n11_ hb hbox hg
                  refine hK.out _ _ ⟨(zab BK1272.out 0).trans rfl, (zab BK1272.out 1).trans rfl⟩ (fun hHeld => ?_)
                  clear hK K
                  refine norm_ (a' := ?_) ?_ ?_
                  rotate_left
                  ·
                   show Act.put _ (some 10) _ = _
                   simp only [Act.put, zs1, zs2, zs3, i64_w, i32_w]
                   rfl
                  exact norm_ (by simp only [putAll, Act.put, zs1, zs2, zs3]) (hCont (.slice Ao45 t1273.length co45, .slice Ao46 t1276.length co46, v1280, v1283, gb1286) _ ⟨hHeld, (by (with_reducible repeat (first | apply Kd.za8 | apply Kd.za7 | apply Kd.zbd)); exact Kd.zak HO1275.out (fun _ hk => ⟨hk.1.1, ⟨hk.1.2, hk.2⟩⟩)), (by (with_reducible repeat (first | apply Kd.za8 | apply Kd.za7 | apply Kd.zbd)); exact Kd.zak HO1278.out (fun _ hk => ⟨hk.1.1, ⟨hk.1.2, hk.2⟩⟩)), (by (with_reducible repeat (first | apply Kd.za8 | apply Kd.za7 | apply Kd.zbd)); exact Kd.zak HO1281.out (fun _ hk => ⟨hk.1.1, ⟨hk.1.2, hk.2⟩⟩)), (by (with_reducible repeat (first | apply Kd.za8 | apply Kd.za7 | apply Kd.zbd)); exact Kd.zak HO1284.out (fun _ hk => ⟨hk.1.1, ⟨hk.1.2, hk.2⟩⟩)), (zN HO_6), (zK BK1272), (zK BK1286), GW1286.out, GE1286.out, NB1272_1286.out, NB1286_1272.out, (zB HB)⟩)
                 ·
                  skip
                  refine box_step ?hg (N := 10) ?hd (cs := #[.slice none 0 0, .slice none 0 0]) (t := 28) ?hr ?_; (case hd => rfl); (case hg => rfl); (case hr => first | (go_simp; done) | (go_simp; rfl))
                  intro gb1286 hg w45 hbox hb
                  have n0_ := zA (Kd.zch (Kd.N_elderB (zN HO_6) gb1286 (Nat.le_of_eq hg.symm)) hb)
                  have n1_ := zA (Kd.zar (Kd.zb7 (zV HO1275) gb1286 (Nat.le_of_eq hg.symm)) hb)
                  have n2_ := zA (Kd.zar (Kd.zb7 (zV HO1278) gb1286 (Nat.le_of_eq hg.symm)) hb)
                  have n3_ := zA (zaf (g := gb1272) (o := .cells #[.int .i64 ((rd_T75 l1 x34_2).f0), .int .i64 ((rd_T75 l1 x34_2).f1)] 75 (0, 0)) (zK BK1272) hb)
                  have n4_ := zA (zac (zB HB) hb)
                  have n5_ := zA (hbox)
                  have n6_ := zA ((by rw [hg]; exact (za (zB HB)) : w.heap.size ≤ gb1286))
                  have n7_ := zA ((by rw [hg]; exact (za (zB HB)) : w.heap.size ≤ gb1286))
                  have n8_ := zA ((by rw [hg]; exact Nat.ne_of_lt (zb4 (g := gb1272) (o := .cells #[.int .i64 ((rd_T75 l1 x34_2).f0), .int .i64 ((rd_T75 l1 x34_2).f1)] 75 (0, 0)) (zK BK1272)) : gb1272 ≠ gb1286))
                  have n9_ := zA ((by rw [hg]; exact Nat.ne_of_gt (zb4 (g := gb1272) (o := .cells #[.int .i64 ((rd_T75 l1 x34_2).f0), .int .i64 ((rd_T75 l1 x34_2).f1)] 75 (0, 0)) (zK BK1272)) : gb1286 ≠ gb1272))
                  clear HO_6 HO1275 HO1278 BK1272 HB
                  have HO_6 := n0_
                  have HO1275 := n1_
                  have HO1278 := n2_
                  have BK1272 := n3_
                  have HB := n4_
                  have BK1286 := n5_
                  have GW1286 := n6_
                  have GE1286 := n7_
                  have NB1272_1286 := n8_
                  have NB1286_1272 := n9_
                  clear n0_ n1_ n2_ n3_ n4_ n5_ n6_ n7_ n8_ n9_ hb hbox hg
                  obtain ⟨Ao46, co46, eo46⟩ := Kd.za3 HO1275.out
                  (first | subst eo46 | (injection eo46 with f1_ f2_ f3_; have f4_ := f1_.symm; have f5_ := f3_.symm; clear f1_ f2_ f3_; subst f4_; subst f5_))
                  obtain ⟨Ao47, co47, eo47⟩ := Kd.za3 HO1278.out
                  (first | subst eo47 | (injection eo47 with f1_ f2_ f3_; have f4_ := f1_.symm; have f5_ := f3_.symm; clear f1_ f2_ f3_; subst f4_; subst f5_))
                  refine hK.out _ _ ⟨(zab BK1272.out 0).trans rfl, (zab BK1272.out 1).trans rfl⟩ (fun hHeld => ?_)
                  clear hK K
                  refine norm_ (a' := ?_) ?_ ?_
                  rotate_left
                  ·
                   show Act.put _ (some 10) _ = _
                   simp only [Act.put, zs1, zs2, zs3, i64_w, i32_w]
                   rfl
                  refine one_ (i := 8) (N := some 55) #[true, true, true, true, true, true, true, true, true, false, false, false, true, false, false] rfl rfl (zb8 HT_.out (by kernel_rfl)) (by decide) (fun K hK => ?_)
                  refine goes_ Tryd.func24 (by kernel_rfl) rfl #[.slice Ao46 t1273.length co46, .slice Ao47 t1276.length co47] (by rfl) rfl rfl (zE) ?_
                  with_reducible refine (zc4.calls kj13 _ _ t1273 _ _ t1276 t1279 t1282 t1285 _ ?side1 ?side2 ?side3 ?side4 A23.out).mono ?_
                  (case side1 => exact zJ (Kd.zal HO1275.out).2.2)
                  (case side2 => exact (Kd.zal HO1275.out).2.1)
                  (case side3 => exact zJ (Kd.zal HO1278.out).2.2)
                  (case side4 => exact (Kd.zal HO1278.out).2.1)
                  rintro e w48 ⟨v1280, v1283, rfl, ho0, ho1, hb⟩
                  refine ⟨_, rfl, ?_⟩
                  have n0_ := zA (Kd.zch (zN HO_6) hb)
                  have n1_ := zA (Kd.zar (zV HO1275) hb)
                  have n2_ := zA (Kd.zar (zV HO1278) hb)
                  have n3_ := zA (Kd.za2 (Kd.zak (ok' := fun k_ => some k_ ≠ (u6 : Value).ownBlock ∧ k_ ≠ gb1272 ∧ k_ ≠ gb1286) ho0 (fun k_ hk_ => ⟨(Kd.fresh' (Kd.N_lt (zN HO_6)) k_ hk_), (Kd.freshB (g := gb1272) (o := .cells #[.int .i64 ((rd_T75 l1 x34_2).f0), .int .i64 ((rd_T75 l1 x34_2).f1)] 75 (0, 0)) (zK BK1272) k_ hk_), (Kd.freshB (g := gb1286) (o := .cells #[.slice none 0 0, .slice none 0 0] 28 (0, 0)) (zK BK1286) k_ hk_)⟩)) (za (zB HB)))
                  have n4_ := zA (Kd.za2 (Kd.zak (ok' := fun k_ => some k_ ≠ (u6 : Value).ownBlock ∧ k_ ≠ gb1272 ∧ k_ ≠ gb1286) ho1 (fun k_ hk_ => ⟨(Kd.fresh' (Kd.N_lt (zN HO_6)) k_ hk_), (Kd.freshB (g := gb1272) (o := .cells #[.int .i64 ((rd_T75 l1 x34_2).f0), .int .i64 ((rd_T75 l1 x34_2).f1)] 75 (0, 0)) (zK BK1272) k_ hk_), (Kd.freshB (g := gb1286) (o := .cells #[.slice none 0 0, .slice none 0 0] 28 (0, 0)) (zK BK1286) k_ hk_)⟩)) (za (zB HB)))
                  have n5_ := zA (zaf (g := gb1272) (o := .cells #[.int .i64 ((rd_T75 l1 x34_2).f0), .int .i64 ((rd_T75 l1 x34_2).f1)] 75 (0, 0)) (zK BK1272) hb)
                  have n6_ := zA (zaf (g := gb1286) (o := .cells #[.slice none 0 0, .slice none 0 0] 28 (0, 0)) (zK BK1286) hb)
                  have n7_ := zA (zac (zB HB) hb)
                  clear HO_6 HO1275 HO1278 BK1272 BK1286 HB
                  have HO_6 := n0_
                  have HO1275 := n1_
                  have HO1278 := n2_
                  have HO1281 := n3_
                  have HO1284 := n4_
                  have BK1272 := n5_
                  have BK1286 := n6_
                  have HB := n7_
                  clear n0_ n1_ n2_ n3_ n4_ n5_ n6_ n7_
                  (try clear hb)
                  (try clear hb2)
                  (try clear hk)
                  (try clear hi)
                  (try clear ho0)
                  (try clear ho1)
                  refine hK.out _ _ ⟨(zab BK1272.out 0).trans rfl, (zab BK1272.out 1).trans rfl⟩ (fun hHeld => ?_)
                  clear hK K
                  refine norm_ (a' := ?_) ?_ ?_
                  rotate_left
                  ·
                   show Act.put _ (some 55) _ = _
                   simp only [Act.put, zs1, zs2, zs3, i64_w, i32_w]
                   rfl
                  refine pure_ (i := 9) (N := some 46) (v := ?_) (a' := ?_) #[true, true, true, true, true, true, true, true, true, true, false, false, true, false, false] rfl rfl (zav HT_.out (by kernel_rfl)) (fun _ _ _ h => h) (Or.inl ⟨by rfl, ?_⟩) ?_ ?_
                  rotate_left
                  ·
                   intro w'
                   go_simp
                   with_reducible rfl
                  rotate_left
                  ·
                   simp only [Act.put, zs1, zs2, zs3, i64_w, i32_w]
                   rfl
                  refine pure_ (i := 10) (N := some 56) (v := ?_) (a' := ?_) #[true, true, true, true, true, true, true, true, true, true, true, false, true, false, false] rfl rfl (zav HT_.out (by kernel_rfl)) (fun _ _ _ h => h) (Or.inl ⟨by rfl, ?_⟩) ?_ ?_
                  rotate_left
                  ·
                   intro w'
                   go_simp
                   with_reducible rfl
                  rotate_left
                  ·
                   simp only [Act.put, zs1, zs2, zs3, i64_w, i32_w]
                   rfl
                  refine pure_ (i := 11) (N := some 57) (v := ?_) (a' := ?_) #[true, true, true, true, true, true, true, true, true, true, true, true, true, false, false] rfl rfl (zav HT_.out (by kernel_rfl)) (fun _ _ _ h => h) (Or.inl ⟨by rfl, ?_⟩) ?_ ?_
                  rotate_left
                  ·
                   intro w'
                   go_simp
                   with_reducible rfl
                  rotate_left
                  ·
                   simp only [Act.put, zs1, zs2, zs3, i64_w, i32_w]
                   rfl
                  exact norm_ (by simp only [putAll, Act.put, zs1, zs2, zs3]) (hCont (.slice Ao46 t1273.length co46, .slice Ao47 t1276.length co47, v1280, v1283, gb1286) _ ⟨hHeld, (by (with_reducible repeat (first | apply Kd.za8 | apply Kd.za7 | apply Kd.zbd)); exact Kd.zak HO1275.out (fun _ hk => ⟨hk.1.1, ⟨hk.1.2, hk.2⟩⟩)), (by (with_reducible repeat (first | apply Kd.za8 | apply Kd.za7 | apply Kd.zbd)); exact Kd.zak HO1278.out (fun _ hk => ⟨hk.1.1, ⟨hk.1.2, hk.2⟩⟩)), (zV HO1281), (zV HO1284), (zN HO_6), (zK BK1272), (zK BK1286), GW1286.out, GE1286.out, NB1272_1286.out, NB1286_1272.out, (zB HB)⟩)
                ·
                 skip
                 refine box_step ?hg (N := 10) ?hd (cs := #[.slice none 0 0, .slice none 0 0]) (t := 28) ?hr ?_; (case hd => rfl); (case hg => rfl); (case hr => first | (go_simp; done) | (go_simp; rfl))
                 intro gb1286 hg w44 hbox hb
                 have n0_ := zA (Kd.zch (Kd.N_elderB (zN HO_6) gb1286 (Nat.le_of_eq hg.symm)) hb)
                 have n1_ := zA (Kd.zar (Kd.zb7 (zV HO1275) gb1286 (Nat.le_of_eq hg.symm)) hb)
                 have n2_ := zA (zaf (g := gb1272) (o := .cells #[.int .i64 ((rd_T75 l1 x34_2).f0), .int .i64 ((rd_T75 l1 x34_2).f1)] 75 (0, 0)) (zK BK1272) hb)
                 have n3_ := zA (zac (zB HB) hb)
                 have n4_ := zA (hbox)
                 have n5_ := zA ((by rw [hg]; exact (za (zB HB)) : w.heap.size ≤ gb1286))
                 have n6_ := zA ((by rw [hg]; exact (za (zB HB)) : w.heap.size ≤ gb1286))
                 have n7_ := zA ((by rw [hg]; exact Nat.ne_of_lt (zb4 (g := gb1272) (o := .cells #[.int .i64 ((rd_T75 l1 x34_2).f0), .int .i64 ((rd_T75 l1 x34_2).f1)] 75 (0, 0)) (zK BK1272)) : gb1272 ≠ gb1286))
                 have n8_ := zA ((by rw [hg]; exact Nat.ne_of_gt (zb4 (g := gb1272) (o := .cells #[.int .i64 ((rd_T75 l1 x34_2).f0), .int .i64 ((rd_T75 l1 x34_2).f1)] 75 (0, 0)) (zK BK1272)) : gb1286 ≠ gb1272))
                 clear HO_6 HO1275 BK1272 HB
                 have HO_6 := n0_
                 have HO1275 := n1_
                 have BK1272 := n2_
                 have HB := n3_
                 have BK1286 := n4_
                 have GW1286 := n5_
                 have GE1286 := n6_
                 have NB1272_1286 := n7_
                 have NB1286_1272 := n8_
                 clear n0_ n1_ n2_ n3_ n4_ n5_ n6_ n7_ n8_ hb hbox hg
                 refine hK.out _ _ ⟨(zab BK1272.out 0).trans rfl, (zab BK1272.out 1).trans rfl⟩ (fun hHeld => ?_)
                 clear hK K
                 refine norm_ (a' := ?_) ?_ ?_
                 rotate_left
                 ·
                  show Act.put _ (some 10) _ = _
                  simp only [Act.put, zs1, zs2, zs3, i64_w, i32_w]
                  rfl
                 refine one_ (i := 7) (N := some 54) #[true, true, true, true, true, true, true, true, false, false, false, false, true, false, false] rfl rfl (zb8 HT_.out (by kernel_rfl)) (by decide) (fun K hK => ?_)
                 refine goes_ Tryd.func36 (by kernel_rfl) rfl #[.int .u64 (IntKind.u64.wrap (((rd_T75 l1 x34_2).f1)))] (by rfl) rfl rfl (zE) ?_
                 with_reducible refine (zcf.calls kj13 (IntKind.u64.wrap (((rd_T75 l1 x34_2).f1))) t1276 _ A22.out).mono ?_
                 rintro e w45 ⟨v1277, rfl, ho0, hb⟩
                 refine ⟨_, rfl, ?_⟩
                 have n0_ := zA (Kd.zch (zN HO_6) hb)
                 have n1_ := zA (Kd.zar (zV HO1275) hb)
                 have n2_ := zA (Kd.za2 (Kd.zak (ok' := fun k_ => some k_ ≠ (u6 : Value).ownBlock ∧ k_ ≠ gb1272 ∧ k_ ≠ gb1286) ho0 (fun k_ hk_ => ⟨(Kd.fresh' (Kd.N_lt (zN HO_6)) k_ hk_), (Kd.freshB (g := gb1272) (o := .cells #[.int .i64 ((rd_T75 l1 x34_2).f0), .int .i64 ((rd_T75 l1 x34_2).f1)] 75 (0, 0)) (zK BK1272) k_ hk_), (Kd.freshB (g := gb1286) (o := .cells #[.slice none 0 0, .slice none 0 0] 28 (0, 0)) (zK BK1286) k_ hk_)⟩)) (za (zB HB)))
                 have n3_ := zA (zaf (g := gb1272) (o := .cells #[.int .i64 ((rd_T75 l1 x34_2).f0), .int .i64 ((rd_T75 l1 x34_2).f1)] 75 (0, 0)) (zK BK1272) hb)
                 have n4_ := zA (zaf (g := gb1286) (o := .cells #[.slice none 0 0, .slice none 0 0] 28 (0, 0)) (zK BK1286) hb)
                 have n5_ := zA (zac (zB HB) hb)
                 clear HO_6 HO1275 BK1272 BK1286 HB
                 have HO_6 := n0_
                 have HO1275 := n1_
                 have HO1278 := n2_
                 have BK1272 := n3_
                 have BK1286 := n4_
                 have HB := n5_
                 clear n0_ n1_ n2_ n3_ n4_ n5_
                 (try clear hb)
                 (try clear hb2)
                 (try clear hk)
                 (try clear hi)
                 (try clear ho0)
                 obtain ⟨Ao46, co46, eo46⟩ := Kd.za3 HO1275.out
                 (first | subst eo46 | (injection eo46 with f1_ f2_ f3_; have f4_ := f1_.symm; have f5_ := f3_.symm; clear f1_ f2_ f3_; subst f4_; subst f5_))
                 obtain ⟨Ao47, co47, eo47⟩ := Kd.za3 HO1278.out
                 (first | subst eo47 | (injection eo47 with f1_ f2_ f3_; have f4_ := f1_.symm; have f5_ := f3_.symm; clear f1_ f2_ f3_; subst f4_; subst f5_))
                 refine hK.out _ _ ⟨(zab BK1272.out 0).trans rfl, (zab BK1272.out 1).trans rfl⟩ (fun hHeld => ?_)
                 clear hK K
                 refine norm_ (a' := ?_) ?_ ?_
                 rotate_left
                 ·
                  show Act.put _ (some 54) _ = _
                  simp only [Act.put, zs1, zs2, zs3, i64_w, i32_w]
                  rfl
                 refine one_ (i := 8) (N := some 55) #[true, true, true, true, true, true, true, true, true, false, false, false, true, false, false] rfl rfl (zb8 HT_.out (by kernel_rfl)) (by decide) (fun K hK => ?_)
                 refine goes_ Tryd.func24 (by kernel_rfl) rfl #[.slice Ao46 t1273.length co46, .slice Ao47 t1276.length co47] (by rfl) rfl rfl (zE) ?_
                 with_reducible refine (zc4.calls kj13 _ _ t1273 _ _ t1276 t1279 t1282 t1285 _ ?side1 ?side2 ?side3 ?side4 A23.out).mono ?_
                 (case side1 => exact zJ (Kd.zal HO1275.out).2.2)
                 (case side2 => exact (Kd.zal HO1275.out).2.1)
                 (case side3 => exact zJ (Kd.zal HO1278.out).2.2)
                 (case side4 => exact (Kd.zal HO1278.out).2.1)
                 rintro e w48 ⟨v1280, v1283, rfl, ho0, ho1, hb⟩
                 refine ⟨_, rfl, ?_⟩
                 have n0_ := zA (Kd.zch (zN HO_6) hb)
                 have n1_ := zA (Kd.zar (zV HO1275) hb)
                 have n2_ := zA (Kd.zar (zV HO1278) hb)
                 have n3_ := zA (Kd.za2 (Kd.zak (ok' := fun k_ => some k_ ≠ (u6 : Value).ownBlock ∧ k_ ≠ gb1272 ∧ k_ ≠ gb1286) ho0 (fun k_ hk_ => ⟨(Kd.fresh' (Kd.N_lt (zN HO_6)) k_ hk_), (Kd.freshB (g := gb1272) (o := .cells #[.int .i64 ((rd_T75 l1 x34_2).f0), .int .i64 ((rd_T75 l1 x34_2).f1)] 75 (0, 0)) (zK BK1272) k_ hk_), (Kd.freshB (g := gb1286) (o := .cells #[.slice none 0 0, .slice none 0 0] 28 (0, 0)) (zK BK1286) k_ hk_)⟩)) (za (zB HB)))
                 have n4_ := zA (Kd.za2 (Kd.zak (ok' := fun k_ => some k_ ≠ (u6 : Value).ownBlock ∧ k_ ≠ gb1272 ∧ k_ ≠ gb1286) ho1 (fun k_ hk_ => ⟨(Kd.fresh' (Kd.N_lt (zN HO_6)) k_ hk_), (Kd.freshB (g := gb1272) (o := .cells #[.int .i64 ((rd_T75 l1 x34_2).f0), .int .i64 ((rd_T75 l1 x34_2).f1)] 75 (0, 0)) (zK BK1272) k_ hk_), (Kd.freshB (g := gb1286) (o := .cells #[.slice none 0 0, .slice none 0 0] 28 (0, 0)) (zK BK1286) k_ hk_)⟩)) (za (zB HB)))
                 have n5_ := zA (zaf (g := gb1272) (o := .cells #[.int .i64 ((rd_T75 l1 x34_2).f0), .int .i64 ((rd_T75 l1 x34_2).f1)] 75 (0, 0)) (zK BK1272) hb)
                 have n6_ := zA (zaf (g := gb1286) (o := .cells #[.slice none 0 0, .slice none 0 0] 28 (0, 0)) (zK BK1286) hb)
                 have n7_ := zA (zac (zB HB) hb)
                 clear HO_6 HO1275 HO1278 BK1272 BK1286 HB
                 have HO_6 := n0_
                 have HO1275 := n1_
                 have HO1278 := n2_
                 have HO1281 := n3_
                 have HO1284 := n4_
                 have BK1272 := n5_
                 have BK1286 := n6_
                 have HB := n7_
                 clear n0_ n1_ n2_ n3_ n4_ n5_ n6_ n7_
                 (try clear hb)
                 (try clear hb2)
                 (try clear hk)
                 (try clear hi)
                 (try clear ho0)
                 (try clear ho1)
                 refine hK.out _ _ ⟨(zab BK1272.out 0).trans rfl, (zab BK1272.out 1).trans rfl⟩ (fun hHeld => ?_)
                 clear hK K
                 refine norm_ (a' := ?_) ?_ ?_
                 rotate_left
                 ·
                  show Act.put _ (some 55) _ = _
                  simp only [Act.put, zs1, zs2, zs3, i64_w, i32_w]
                  rfl
                 refine pure_ (i := 9) (N := some 46) (v := ?_) (a' := ?_) #[true, true, true, true, true, true, true, true, true, true, false, false, true, false, false] rfl rfl (zav HT_.out (by kernel_rfl)) (fun _ _ _ h => h) (Or.inl ⟨by rfl, ?_⟩) ?_ ?_
                 rotate_left
                 ·
                  intro w'
                  go_simp
                  with_reducible rfl
                 rotate_left
                 ·
                  simp only [Act.put, zs1, zs2, zs3, i64_w, i32_w]
                  rfl
                 refine pure_ (i := 10) (N := some 56) (v := ?_) (a' := ?_) #[true, true, true, true, true, true, true, true, true, true, true, false, true, false, false] rfl rfl (zav HT_.out (by kernel_rfl)) (fun _ _ _ h => h) (Or.inl ⟨by rfl, ?_⟩) ?_ ?_
                 rotate_left
                 ·
                  intro w'
                  go_simp
                  with_reducible rfl
                 rotate_left
                 ·
                  simp only [Act.put, zs1, zs2, zs3, i64_w, i32_w]
                  rfl
                 refine pure_ (i := 11) (N := some 57) (v := ?_) (a' := ?_) #[true, true, true, true, true, true, true, true, true, true, true, true, true, false, false] rfl rfl (zav HT_.out (by kernel_rfl)) (fun _ _ _ h => h) (Or.inl ⟨by rfl, ?_⟩) ?_ ?_
                 rotate_left
                 ·
                  intro w'
                  go_simp
                  with_reducible rfl
                 rotate_left
                 ·
                  simp only [Act.put, zs1, zs2, zs3, i64_w, i32_w]
                  rfl
                 exact norm_ (by simp only [putAll, Act.put, zs1, zs2, zs3]) (hCont (.slice Ao46 t1273.length co46, .slice Ao47 t1276.length co47, v1280, v1283, gb1286) _ ⟨hHeld, (by (with_reducible repeat (first | apply Kd.za8 | apply Kd.za7 | apply Kd.zbd)); exact Kd.zak HO1275.out (fun _ hk => ⟨hk.1.1, ⟨hk.1.2, hk.2⟩⟩)), (zV HO1278), (zV HO1281), (zV HO1284), (zN HO_6), (zK BK1272), (zK BK1286), GW1286.out, GE1286.out, NB1272_1286.out, NB1286_1272.out, (zB HB)⟩)
               ·
                skip
                refine box_step ?hg (N := 10) ?hd (cs := #[.slice none 0 0, .slice none 0 0]) (t := 28) ?hr ?_; (case hd => rfl); (case hg => rfl); (case hr => first | (go_simp; done) | (go_simp; rfl))
                intro gb1286 hg w43 hbox hb
                have n0_ := zA (Kd.zch (Kd.N_elderB (zN HO_6) gb1286 (Nat.le_of_eq hg.symm)) hb)
                have n1_ := zA (zaf (g := gb1272) (o := .cells #[.int .i64 ((rd_T75 l1 x34_2).f0), .int .i64 ((rd_T75 l1 x34_2).f1)] 75 (0, 0)) (zK BK1272) hb)
                have n2_ := zA (zac (zB HB) hb)
                have n3_ := zA (hbox)
                have n4_ := zA ((by rw [hg]; exact (za (zB HB)) : w.heap.size ≤ gb1286))
                have n5_ := zA ((by rw [hg]; exact (za (zB HB)) : w.heap.size ≤ gb1286))
                have n6_ := zA ((by rw [hg]; exact Nat.ne_of_lt (zb4 (g := gb1272) (o := .cells #[.int .i64 ((rd_T75 l1 x34_2).f0), .int .i64 ((rd_T75 l1 x34_2).f1)] 75 (0, 0)) (zK BK1272)) : gb1272 ≠ gb1286))
                have n7_ := zA ((by rw [hg]; exact Nat.ne_of_gt (zb4 (g := gb1272) (o := .cells #[.int .i64 ((rd_T75 l1 x34_2).f0), .int .i64 ((rd_T75 l1 x34_2).f1)] 75 (0, 0)) (zK BK1272)) : gb1286 ≠ gb1272))
                clear HO_6 BK1272 HB
                have HO_6 := n0_
                have BK1272 := n1_
                have HB := n2_
                have BK1286 := n3_
                have GW1286 := n4_
                have GE1286 := n5_
                have NB1272_1286 := n6_
                have NB1286_1272 := n7_
                clear n0_ n1_ n2_ n3_ n4_ n5_ n6_ n7_ hb hbox hg
                refine hK.out _ _ ⟨(zab BK1272.out 0).trans rfl, (zab BK1272.out 1).trans rfl⟩ (fun hHeld => ?_)
                clear hK K
                refine norm_ (a' := ?_) ?_ ?_
                rotate_left
                ·
                 show Act.put _ (some 10) _ = _
                 simp only [Act.put, zs1, zs2, zs3, i64_w, i32_w]
                 rfl
                refine one_ (i := 3) (N := some 50) #[true, true, true, true, true, true, true, false, false, false, false, false, true, false, false] rfl rfl (zb8 HT_.out (by kernel_rfl)) (by decide) (fun K hK => ?_)
                refine goes_ Tryd.func36 (by kernel_rfl) rfl #[.int .u64 (IntKind.u64.wrap (((rd_T75 l1 x34_2).f0)))] (by rfl) rfl rfl (zE) ?_
                with_reducible refine (zcf.calls kj13 (IntKind.u64.wrap (((rd_T75 l1 x34_2).f0))) t1273 _ A21.out).mono ?_
                rintro e w44 ⟨v1274, rfl, ho0, hb⟩
                refine ⟨_, rfl, ?_⟩
                have n0_ := zA (Kd.zch (zN HO_6) hb)
                have n1_ := zA (Kd.za2 (Kd.zak (ok' := fun k_ => some k_ ≠ (u6 : Value).ownBlock ∧ k_ ≠ gb1272 ∧ k_ ≠ gb1286) ho0 (fun k_ hk_ => ⟨(Kd.fresh' (Kd.N_lt (zN HO_6)) k_ hk_), (Kd.freshB (g := gb1272) (o := .cells #[.int .i64 ((rd_T75 l1 x34_2).f0), .int .i64 ((rd_T75 l1 x34_2).f1)] 75 (0, 0)) (zK BK1272) k_ hk_), (Kd.freshB (g := gb1286) (o := .cells #[.slice none 0 0, .slice none 0 0] 28 (0, 0)) (zK BK1286) k_ hk_)⟩)) (za (zB HB)))
                have n2_ := zA (zaf (g := gb1272) (o := .cells #[.int .i64 ((rd_T75 l1 x34_2).f0), .int .i64 ((rd_T75 l1 x34_2).f1)] 75 (0, 0)) (zK BK1272) hb)
                have n3_ := zA (zaf (g := gb1286) (o := .cells #[.slice none 0 0, .slice none 0 0] 28 (0, 0)) (zK BK1286) hb)
                have n4_ := zA (zac (zB HB) hb)
                clear HO_6 BK1272 BK1286 HB
                have HO_6 := n0_
                have HO1275 := n1_
                have BK1272 := n2_
                have BK1286 := n3_
                have HB := n4_
                clear n0_ n1_ n2_ n3_ n4_
                (try clear hb)
                (try clear hb2)
                (try clear hk)
                (try clear hi)
                (try clear ho0)
                refine hK.out _ _ ⟨(zab BK1272.out 0).trans rfl, (zab BK1272.out 1).trans rfl⟩ (fun hHeld => ?_)
                clear hK K
                refine norm_ (a' := ?_) ?_ ?_
                rotate_left
                ·
                 show Act.put _ (some 50) _ = _
                 simp only [Act.put, zs1, zs2, zs3, i64_w, i32_w]
                 rfl
                refine one_ (i := 7) (N := some 54) #[true, true, true, true, true, true, true, true, false, false, false, false, true, false, false] rfl rfl (zb8 HT_.out (by kernel_rfl)) (by decide) (fun K hK => ?_)
                refine goes_ Tryd.func36 (by kernel_rfl) rfl #[.int .u64 (IntKind.u64.wrap (((rd_T75 l1 x34_2).f1)))] (by rfl) rfl rfl (zE) ?_
                with_reducible refine (zcf.calls kj13 (IntKind.u64.wrap (((rd_T75 l1 x34_2).f1))) t1276 _ A22.out).mono ?_
                rintro e w45 ⟨v1277, rfl, ho0, hb⟩
                refine ⟨_, rfl, ?_⟩
                have n0_ := zA (Kd.zch (zN HO_6) hb)
                have n1_ := zA (Kd.zar (zV HO1275) hb)
                have n2_ := zA (Kd.za2 (Kd.zak (ok' := fun k_ => some k_ ≠ (u6 : Value).ownBlock ∧ k_ ≠ gb1272 ∧ k_ ≠ gb1286) ho0 (fun k_ hk_ => ⟨(Kd.fresh' (Kd.N_lt (zN HO_6)) k_ hk_), (Kd.freshB (g := gb1272) (o := .cells #[.int .i64 ((rd_T75 l1 x34_2).f0), .int .i64 ((rd_T75 l1 x34_2).f1)] 75 (0, 0)) (zK BK1272) k_ hk_), (Kd.freshB (g := gb1286) (o := .cells #[.slice none 0 0, .slice none 0 0] 28 (0, 0)) (zK BK1286) k_ hk_)⟩)) (za (zB HB)))
                have n3_ := zA (zaf (g := gb1272) (o := .cells #[.int .i64 ((rd_T75 l1 x34_2).f0), .int .i64 ((rd_T75 l1 x34_2).f1)] 75 (0, 0)) (zK BK1272) hb)
                have n4_ := zA (zaf (g := gb1286) (o := .cells #[.slice none 0 0, .slice none 0 0] 28 (0, 0)) (zK BK1286) hb)
                have n5_ := zA (zac (zB HB) hb)
                clear HO_6 HO1275 BK1272 BK1286 HB
                have HO_6 := n0_
                have HO1275 := n1_
                have HO1278 := n2_
                have BK1272 := n3_
                have BK1286 := n4_
                have HB := n5_
                clear n0_ n1_ n2_ n3_ n4_ n5_
                (try clear hb)
                (try clear hb2)
                (try clear hk)
                (try clear hi)
                (try clear ho0)
                obtain ⟨Ao46, co46, eo46⟩ := Kd.za3 HO1275.out
                (first | subst eo46 | (injection eo46 with f1_ f2_ f3_; have f4_ := f1_.symm; have f5_ := f3_.symm; clear f1_ f2_ f3_; subst f4_; subst f5_))
                obtain ⟨Ao47, co47, eo47⟩ := Kd.za3 HO1278.out
                (first | subst eo47 | (injection eo47 with f1_ f2_ f3_; have f4_ := f1_.symm; have f5_ := f3_.symm; clear f1_ f2_ f3_; subst f4_; subst f5_))
                refine hK.out _ _ ⟨(zab BK1272.out 0).trans rfl, (zab BK1272.out 1).trans rfl⟩ (fun hHeld => ?_)
                clear hK K
                refine norm_ (a' := ?_) ?_ ?_
                rotate_left
                ·
                 show Act.put _ (some 54) _ = _
                 simp only [Act.put, zs1, zs2, zs3, i64_w, i32_w]
                 rfl
                refine one_ (i := 8) (N := some 55) #[true, true, true, true, true, true, true, true, true, false, false, false, true, false, false] rfl rfl (zb8 HT_.out (by kernel_rfl)) (by decide) (fun K hK => ?_)
                refine goes_ Tryd.func24 (by kernel_rfl) rfl #[.slice Ao46 t1273.length co46, .slice Ao47 t1276.length co47] (by rfl) rfl rfl (zE) ?_
                with_reducible refine (zc4.calls kj13 _ _ t1273 _ _ t1276 t1279 t1282 t1285 _ ?side1 ?side2 ?side3 ?side4 A23.out).mono ?_
                (case side1 => exact zJ (Kd.zal HO1275.out).2.2)
                (case side2 => exact (Kd.zal HO1275.out).2.1)
                (case side3 => exact zJ (Kd.zal HO1278.out).2.2)
                (case side4 => exact (Kd.zal HO1278.out).2.1)
                rintro e w48 ⟨v1280, v1283, rfl, ho0, ho1, hb⟩
                refine ⟨_, rfl, ?_⟩
                have n0_ := zA (Kd.zch (zN HO_6) hb)
                have n1_ := zA (Kd.zar (zV HO1275) hb)
                have n2_ := zA (Kd.zar (zV HO1278) hb)
                have n3_ := zA (Kd.za2 (Kd.zak (ok' := fun k_ => some k_ ≠ (u6 : Value).ownBlock ∧ k_ ≠ gb1272 ∧ k_ ≠ gb1286) ho0 (fun k_ hk_ => ⟨(Kd.fresh' (Kd.N_lt (zN HO_6)) k_ hk_), (Kd.freshB (g := gb1272) (o := .cells #[.int .i64 ((rd_T75 l1 x34_2).f0), .int .i64 ((rd_T75 l1 x34_2).f1)] 75 (0, 0)) (zK BK1272) k_ hk_), (Kd.freshB (g := gb1286) (o := .cells #[.slice none 0 0, .slice none 0 0] 28 (0, 0)) (zK BK1286) k_ hk_)⟩)) (za (zB HB)))
                have n4_ := zA (Kd.za2 (Kd.zak (ok' := fun k_ => some k_ ≠ (u6 : Value).ownBlock ∧ k_ ≠ gb1272 ∧ k_ ≠ gb1286) ho1 (fun k_ hk_ => ⟨(Kd.fresh' (Kd.N_lt (zN HO_6)) k_ hk_), (Kd.freshB (g := gb1272) (o := .cells #[.int .i64 ((rd_T75 l1 x34_2).f0), .int .i64 ((rd_T75 l1 x34_2).f1)] 75 (0, 0)) (zK BK1272) k_ hk_), (Kd.freshB (g := gb1286) (o := .cells #[.slice none 0 0, .slice none 0 0] 28 (0, 0)) (zK BK1286) k_ hk_)⟩)) (za (zB HB)))
                have n5_ := zA (zaf (g := gb1272) (o := .cells #[.int .i64 ((rd_T75 l1 x34_2).f0), .int .i64 ((rd_T75 l1 x34_2).f1)] 75 (0, 0)) (zK BK1272) hb)
                have n6_ := zA (zaf (g := gb1286) (o := .cells #[.slice none 0 0, .slice none 0 0] 28 (0, 0)) (zK BK1286) hb)
                have n7_ := zA (zac (zB HB) hb)
                clear HO_6 HO1275 HO1278 BK1272 BK1286 HB
                have HO_6 := n0_
                have HO1275 := n1_
                have HO1278 := n2_
                have HO1281 := n3_
                have HO1284 := n4_
                have BK1272 := n5_
                have BK1286 := n6_
                have HB := n7_
                clear n0_ n1_ n2_ n3_ n4_ n5_ n6_ n7_
                (try clear hb)
                (try clear hb2)
                (try clear hk)
                (try clear hi)
                (try clear ho0)
                (try clear ho1)
                refine hK.out _ _ ⟨(zab BK1272.out 0).trans rfl, (zab BK1272.out 1).trans rfl⟩ (fun hHeld => ?_)
                clear hK K
                refine norm_ (a' := ?_) ?_ ?_
                rotate_left
                ·
                 show Act.put _ (some 55) _ = _
                 simp only [Act.put, zs1, zs2, zs3, i64_w, i32_w]
                 rfl
                refine pure_ (i := 9) (N := some 46) (v := ?_) (a' := ?_) #[true, true, true, true, true, true, true, true, true, true, false, false, true, false, false] rfl rfl (zav HT_.out (by kernel_rfl)) (fun _ _ _ h => h) (Or.inl ⟨by rfl, ?_⟩) ?_ ?_
                rotate_left
                ·
                 intro w'
                 go_simp
                 with_reducible rfl
                rotate_left
                ·
                 simp only [Act.put, zs1, zs2, zs3, i64_w, i32_w]
                 rfl
                refine pure_ (i := 10) (N := some 56) (v := ?_) (a' := ?_) #[true, true, true, true, true, true, true, true, true, true, true, false, true, false, false] rfl rfl (zav HT_.out (by kernel_rfl)) (fun _ _ _ h => h) (Or.inl ⟨by rfl, ?_⟩) ?_ ?_
                rotate_left
                ·
                 intro w'
                 go_simp
                 with_reducible rfl
                rotate_left
                ·
                 simp only [Act.put, zs1, zs2, zs3, i64_w, i32_w]
                 rfl
                refine pure_ (i := 11) (N := some 57) (v := ?_) (a' := ?_) #[true, true, true, true, true, true, true, true, true, true, true, true, true, false, false] rfl rfl (zav HT_.out (by kernel_rfl)) (fun _ _ _ h => h) (Or.inl ⟨by rfl, ?_⟩) ?_ ?_
                rotate_left
                ·
                 intro w'
                 go_simp
                 with_reducible rfl
                rotate_left
                ·
                 simp only [Act.put, zs1, zs2, zs3, i64_w, i32_w]
                 rfl
                exact norm_ (by simp only [putAll, Act.put, zs1, zs2, zs3]) (hCont (.slice Ao46 t1273.length co46, .slice Ao47 t1276.length co47, v1280, v1283, gb1286) _ ⟨hHeld, (zV HO1275), (zV HO1278), (zV HO1281), (zV HO1284), (zN HO_6), (zK BK1272), (zK BK1286), GW1286.out, GE1286.out, NB1272_1286.out, NB1286_1272.out, (zB HB)⟩)
              rintro ⟨v1274, v1277, v1280, v1283, gb1286⟩ w49 ⟨hS_, h0_, h1_, h2_, h3_, h4_, h5_, h6_, h7_, h8_, h9_, h10_, h11_⟩
              have n0_ : Aside0 (Kd.V (Kd.int .u64) 57 w49 w.heap.size (fun k_ => some k_ ≠ (u6 : Value).ownBlock ∧ k_ ≠ gb1272 ∧ k_ ≠ gb1286) v1274 t1273) := ⟨h0_⟩
              have n1_ : Aside0 (Kd.V (Kd.int .u64) 57 w49 w.heap.size (fun k_ => some k_ ≠ (u6 : Value).ownBlock ∧ k_ ≠ gb1272 ∧ k_ ≠ gb1286) v1277 t1276) := ⟨h1_⟩
              have n2_ : Aside0 (Kd.V (Kd.int .u64) 57 w49 w.heap.size (fun k_ => some k_ ≠ (u6 : Value).ownBlock ∧ k_ ≠ gb1272 ∧ k_ ≠ gb1286) v1280 t1279) := ⟨h2_⟩
              have n3_ : Aside0 (Kd.V (Kd.int .u64) 57 w49 w.heap.size (fun k_ => some k_ ≠ (u6 : Value).ownBlock ∧ k_ ≠ gb1272 ∧ k_ ≠ gb1286) v1283 t1282) := ⟨h3_⟩
              have n4_ : Aside0 (Kd.N k28 28 w49 w.heap.size (fun k_ => k_ ≠ gb1272 ∧ k_ ≠ gb1286) u6 x6_2) := ⟨h4_⟩
              have n5_ : Aside0 (w49.heap[gb1272]? = some (.cells #[.int .i64 ((rd_T75 l1 x34_2).f0), .int .i64 ((rd_T75 l1 x34_2).f1)] 75 (0, 0))) := ⟨h5_⟩
              have n6_ : Aside0 (w49.heap[gb1286]? = some (.cells #[.slice none 0 0, .slice none 0 0] 28 (0, 0))) := ⟨h6_⟩
              have n7_ : Aside0 (w.heap.size ≤ gb1286) := ⟨h7_⟩
              have n8_ : Aside0 (w.heap.size ≤ gb1286) := ⟨h8_⟩
              have n9_ : Aside0 (gb1272 ≠ gb1286) := ⟨h9_⟩
              have n10_ : Aside0 (gb1286 ≠ gb1272) := ⟨h10_⟩
              have n11_ : Aside0 (Below w.heap.size w w49) := ⟨h11_⟩
              clear HO_6 BK1272 HB h0_ h1_ h2_ h3_ h4_ h5_ h6_ h7_ h8_ h9_ h10_ h11_
              have HO1275 := n0_
              have HO1278 := n1_
              have HO1281 := n2_
              have HO1284 := n3_
              have HO_6 := n4_
              have BK1272 := n5_
              have BK1286 := n6_
              have GW1286 := n7_
              have GE1286 := n8_
              have NB1272_1286 := n9_
              have NB1286_1272 := n10_
              have HB := n11_
              clear n0_ n1_ n2_ n3_ n4_ n5_ n6_ n7_ n8_ n9_ n10_ n11_
              have hHeld : w49.cell? ⟨gb1272, 0, none⟩ = some (.int .i64 ((rd_T75 l1 x34_2).f0)) ∧ w49.cell? ⟨gb1272, 1, none⟩ = some (.int .i64 ((rd_T75 l1 x34_2).f1)) := hS_
              obtain ⟨Ao50, co50, eo50⟩ := Kd.za3 HO1281.out
              (first | subst eo50 | (injection eo50 with f1_ f2_ f3_; have f4_ := f1_.symm; have f5_ := f3_.symm; clear f1_ f2_ f3_; subst f4_; subst f5_))
              obtain ⟨Ao52, co52, eo52⟩ := Kd.za3 HO1284.out
              (first | subst eo52 | (injection eo52 with f1_ f2_ f3_; have f4_ := f1_.symm; have f5_ := f3_.symm; clear f1_ f2_ f3_; subst f4_; subst f5_))
              refine norm_ (a' := ?_) ?_ ?_
              rotate_left
              ·
               simp only [putAll, Act.put, zs1, zs2, zs3]
               rfl
              refine one_ (i := 13) (N := none) #[true, true, true, true, true, true, true, true, true, true, true, true, true, true, false] rfl rfl (zb8 HT_.out (by kernel_rfl)) (by decide) (fun K hK => ?_)
              have hs51 : w49.cell? ⟨gb1286, 0, none⟩ = some (.slice none 0 0) := (zab BK1286.out 0).trans rfl
              have hfs51 := zan BK1286.out 0
              have hns51_0 := NB1272_1286.out
              have hms51_0 := NB1286_1272.out
              have hs53 : w49.cell? ⟨gb1286, 1, none⟩ = some (.slice none 0 0) := (zab BK1286.out 1).trans rfl
              have hfs53 := zan BK1286.out 1
              have hns53_0 := NB1272_1286.out
              have hms53_0 := NB1286_1272.out
              refine skip_ (w1 := ?_) (by rfl) rfl ?_ ?_
              rotate_left
              ·
               go_simp
               rfl
              refine hK.out _ _ ⟨((cell_far (p := ⟨gb1286, _, none⟩) NB1272_1286.out _).trans (((cell_far (p := ⟨gb1286, _, none⟩) NB1272_1286.out _).trans (hHeld.1)))), ((cell_far (p := ⟨gb1286, _, none⟩) NB1272_1286.out _).trans (((cell_far (p := ⟨gb1286, _, none⟩) NB1272_1286.out _).trans (hHeld.2))))⟩ (fun hHeld => ?_)
              clear hK K
              refine pure_ (i := 14) (N := some 11) (v := ?_) (a' := ?_) #[true, true, true, true, true, true, true, true, true, true, true, true, true, true, true] rfl rfl (zav HT_.out (by kernel_rfl)) (fun _ _ _ h => h) (Or.inl ⟨by rfl, ?_⟩) ?_ ?_
              rotate_left
              ·
               intro w'
               go_simp
               with_reducible rfl
              rotate_left
              ·
               simp only [Act.put, zs1, zs2, zs3, i64_w, i32_w]
               rfl
              refine done_ (zdk HT_.out (by kernel_rfl)) ?_
              have n0_ : Aside0 (Kd.N k28 28 ((w49.setCell ⟨gb1286, 0, none⟩ (.slice Ao50 t1279.length co50)).setCell ⟨gb1286, 1, none⟩ (.slice Ao52 t1282.length co52)) w.heap.size (fun k_ => k_ ≠ gb1272 ∧ k_ ≠ gb1286) u6 x6_2) := ⟨by (with_reducible repeat (first | apply Kd.N_alloc | apply Kd.N_drewN | apply Kd.N_drew)); exact Kd.N_mono (Kd.N_far (p := ⟨gb1286, 1, none⟩) (Kd.N_far (p := ⟨gb1286, 0, none⟩) (Kd.N_mono HO_6.out (fun k_ hk => (⟨hk, hk.2⟩ : _ ∧ k_ ≠ gb1286))) (fun _ hk => hk.2) (.slice Ao50 t1279.length co50)) (fun _ hk => hk.2) (.slice Ao52 t1282.length co52)) (fun _ hk => ⟨hk.1.1, hk.1.2⟩)⟩
              have n1_ : Aside0 (Kd.V (Kd.int .u64) 57 ((w49.setCell ⟨gb1286, 0, none⟩ (.slice Ao50 t1279.length co50)).setCell ⟨gb1286, 1, none⟩ (.slice Ao52 t1282.length co52)) w.heap.size (fun k_ => some k_ ≠ (u6 : Value).ownBlock ∧ k_ ≠ gb1272 ∧ k_ ≠ gb1286) v1274 t1273) := ⟨by (with_reducible repeat (first | apply Kd.za8 | apply Kd.za7 | apply Kd.zbd)); exact Kd.zak (Kd.V_far (p := ⟨gb1286, 1, none⟩) (Kd.V_far (p := ⟨gb1286, 0, none⟩) (Kd.zak HO1275.out (fun k_ hk => (⟨hk, hk.2.2⟩ : _ ∧ k_ ≠ gb1286))) (fun _ hk => hk.2) (.slice Ao50 t1279.length co50)) (fun _ hk => hk.2) (.slice Ao52 t1282.length co52)) (fun _ hk => ⟨hk.1.1, ⟨hk.1.2.1, hk.1.2.2⟩⟩)⟩
              have n2_ : Aside0 (Kd.V (Kd.int .u64) 57 ((w49.setCell ⟨gb1286, 0, none⟩ (.slice Ao50 t1279.length co50)).setCell ⟨gb1286, 1, none⟩ (.slice Ao52 t1282.length co52)) w.heap.size (fun k_ => some k_ ≠ (u6 : Value).ownBlock ∧ k_ ≠ gb1272 ∧ k_ ≠ gb1286) v1277 t1276) := ⟨by (with_reducible repeat (first | apply Kd.za8 | apply Kd.za7 | apply Kd.zbd)); exact Kd.zak (Kd.V_far (p := ⟨gb1286, 1, none⟩) (Kd.V_far (p := ⟨gb1286, 0, none⟩) (Kd.zak HO1278.out (fun k_ hk => (⟨hk, hk.2.2⟩ : _ ∧ k_ ≠ gb1286))) (fun _ hk => hk.2) (.slice Ao50 t1279.length co50)) (fun _ hk => hk.2) (.slice Ao52 t1282.length co52)) (fun _ hk => ⟨hk.1.1, ⟨hk.1.2.1, hk.1.2.2⟩⟩)⟩
              have n3_ : Aside0 (Kd.V (Kd.int .u64) 57 ((w49.setCell ⟨gb1286, 0, none⟩ (.slice Ao50 t1279.length co50)).setCell ⟨gb1286, 1, none⟩ (.slice Ao52 t1282.length co52)) w.heap.size (fun k_ => some k_ ≠ (u6 : Value).ownBlock ∧ k_ ≠ gb1272 ∧ k_ ≠ gb1286) (.slice Ao50 t1279.length co50) t1279) := ⟨by (with_reducible repeat (first | apply Kd.za8 | apply Kd.za7 | apply Kd.zbd)); exact Kd.zak (Kd.V_far (p := ⟨gb1286, 1, none⟩) (Kd.V_far (p := ⟨gb1286, 0, none⟩) (Kd.zak HO1281.out (fun k_ hk => (⟨hk, hk.2.2⟩ : _ ∧ k_ ≠ gb1286))) (fun _ hk => hk.2) (.slice Ao50 t1279.length co50)) (fun _ hk => hk.2) (.slice Ao52 t1282.length co52)) (fun _ hk => ⟨hk.1.1, ⟨hk.1.2.1, hk.1.2.2⟩⟩)⟩
              have n4_ : Aside0 (Kd.V (Kd.int .u64) 57 ((w49.setCell ⟨gb1286, 0, none⟩ (.slice Ao50 t1279.length co50)).setCell ⟨gb1286, 1, none⟩ (.slice Ao52 t1282.length co52)) w.heap.size (fun k_ => some k_ ≠ (u6 : Value).ownBlock ∧ k_ ≠ gb1272 ∧ k_ ≠ gb1286) (.slice Ao52 t1282.length co52) t1282) := ⟨by (with_reducible repeat (first | apply Kd.za8 | apply Kd.za7 | apply Kd.zbd)); exact Kd.zak (Kd.V_far (p := ⟨gb1286, 1, none⟩) (Kd.V_far (p := ⟨gb1286, 0, none⟩) (Kd.zak HO1284.out (fun k_ hk => (⟨hk, hk.2.2⟩ : _ ∧ k_ ≠ gb1286))) (fun _ hk => hk.2) (.slice Ao50 t1279.length co50)) (fun _ hk => hk.2) (.slice Ao52 t1282.length co52)) (fun _ hk => ⟨hk.1.1, ⟨hk.1.2.1, hk.1.2.2⟩⟩)⟩
              have n5_ : Aside0 (((w49.setCell ⟨gb1286, 0, none⟩ (.slice Ao50 t1279.length co50)).setCell ⟨gb1286, 1, none⟩ (.slice Ao52 t1282.length co52)).heap[gb1272]? = some (.cells #[.int .i64 ((rd_T75 l1 x34_2).f0), .int .i64 ((rd_T75 l1 x34_2).f1)] 75 (0, 0))) := ⟨by (with_reducible repeat (first | refine zai ?_ _ | refine zaj ?_ | refine zah ?_ _)); refine zco ?_ NB1272_1286.out _; (with_reducible repeat (first | refine zai ?_ _ | refine zaj ?_ | refine zah ?_ _)); refine zco ?_ NB1272_1286.out _; (with_reducible repeat (first | refine zai ?_ _ | refine zaj ?_ | refine zah ?_ _)); exact BK1272.out⟩
              have n6_ : Aside0 (((w49.setCell ⟨gb1286, 0, none⟩ (.slice Ao50 t1279.length co50)).setCell ⟨gb1286, 1, none⟩ (.slice Ao52 t1282.length co52)).heap[gb1286]? = some (.cells #[.slice Ao50 t1279.length co50, .slice Ao52 t1282.length co52] 28 (0, 0))) := ⟨by (with_reducible repeat (first | refine zai ?_ _ | refine zaj ?_ | refine zah ?_ _)); refine zbn (cs := #[.slice Ao50 t1279.length co50, .slice none 0 0]) ?_ 1 _ rfl; (with_reducible repeat (first | refine zai ?_ _ | refine zaj ?_ | refine zah ?_ _)); refine zbn (cs := #[.slice none 0 0, .slice none 0 0]) ?_ 0 _ rfl; (with_reducible repeat (first | refine zai ?_ _ | refine zaj ?_ | refine zah ?_ _)); exact BK1286.out⟩
              have n7_ : Aside0 (Below w.heap.size w ((w49.setCell ⟨gb1286, 0, none⟩ (.slice Ao50 t1279.length co50)).setCell ⟨gb1286, 1, none⟩ (.slice Ao52 t1282.length co52))) := ⟨zB HB⟩
              (try clear HO_6)
              (try clear HO1275)
              (try clear HO1278)
              (try clear HO1281)
              (try clear HO1284)
              (try clear BK1272)
              (try clear BK1286)
              (try clear HB)
              generalize ((w49.setCell ⟨gb1286, 0, none⟩ (.slice Ao50 t1279.length co50)).setCell ⟨gb1286, 1, none⟩ (.slice Ao52 t1282.length co52)) = w54 at n0_ n1_ n2_ n3_ n4_ n5_ n6_ n7_ ⊢
              have HO_6 := n0_
              have HO1275 := n1_
              have HO1278 := n2_
              have HO1281 := n3_
              have HO1284 := n4_
              have BK1272 := n5_
              have BK1286 := n6_
              have HB := n7_
              clear n0_ n1_ n2_ n3_ n4_ n5_ n6_ n7_
              have hnb55 := NB1286_1272.out
              have hnc55 := NB1272_1286.out
              have hcz56_0 : w54.cell? ⟨gb1286, 0, none⟩ = some (.slice Ao50 t1279.length co50) := (zab BK1286.out 0).trans rfl
              have hcz56_1 : w54.cell? ⟨gb1286, 1, none⟩ = some (.slice Ao52 t1282.length co52) := (zab BK1286.out 1).trans rfl
              have hfz56_0 := zan BK1286.out 0
              have hfz56_1 := zan BK1286.out 1
              try go_wp2_with (first | ((with_reducible refine zby (b := .append) (xs := #[.tmp 58, .tmp 60]) rfl ?_); (try (refine zct (by rfl) ?_; dsimp only)); at_builtin; refine Kd.N_append k28 (w0 := w) w.heap.size rfl (.tmp 58) (.tmp 60) 74 28 (.agg #[(.slice none 0 0), (.slice none 0 0)]) 48 rfl Tryd.underlying74 info28 rfl (by decide) (by omega) u6 x6_2 (⟨t1279, t1282⟩ : S28) [.slice Ao50 t1279.length co50, .slice Ao52 t1282.length co52] (fun k_ => k_ ≠ gb1272 ∧ k_ ≠ gb1286) (fun k_ => ((fun k_ => k_ ≠ gb1272 ∧ k_ ≠ gb1286)) k_ ∧ some k_ ≠ (u6 : Value).ownBlock) rfl rfl ?aP (fun _ hk => hk) ?aF ?aO ?aB ?aS ?aL ?_; (case aP => exact (k28_mkF _ _ (⟨t1279, t1282⟩ : S28) (Kd.zal (Kd.zak (ok' := (fun k_ => ((fun k_ => k_ ≠ gb1272 ∧ k_ ≠ gb1286)) k_ ∧ some k_ ≠ (u6 : Value).ownBlock)) (HO1281.out) (fun k_ hk => ⟨⟨hk.2.1, hk.2.2⟩, hk.1⟩))).2.1 (Kd.V_F (Kd.zak (ok' := (fun k_ => ((fun k_ => k_ ≠ gb1272 ∧ k_ ≠ gb1286)) k_ ∧ some k_ ≠ (u6 : Value).ownBlock)) (HO1281.out) (fun k_ hk => ⟨⟨hk.2.1, hk.2.2⟩, hk.1⟩))) (Kd.zal (Kd.zak (ok' := (fun k_ => ((fun k_ => k_ ≠ gb1272 ∧ k_ ≠ gb1286)) k_ ∧ some k_ ≠ (u6 : Value).ownBlock)) (HO1284.out) (fun k_ hk => ⟨⟨hk.2.1, hk.2.2⟩, hk.1⟩))).2.1 (Kd.V_F (Kd.zak (ok' := (fun k_ => ((fun k_ => k_ ≠ gb1272 ∧ k_ ≠ gb1286)) k_ ∧ some k_ ≠ (u6 : Value).ownBlock)) (HO1284.out) (fun k_ hk => ⟨⟨hk.2.1, hk.2.2⟩, hk.1⟩))))); (case aB => exact (zB HB)); (case aF => exact (fun k_ hk => ⟨Kd.freshB (g := gb1272) (o := .cells #[.int .i64 ((rd_T75 l1 x34_2).f0), .int .i64 ((rd_T75 l1 x34_2).f1)] 75 (0, 0)) (zK BK1272) k_ hk, Kd.freshB (g := gb1286) (o := .cells #[.slice Ao50 t1279.length co50, .slice Ao52 t1282.length co52] 28 (0, 0)) (zK BK1286) k_ hk⟩)); (case aO => exact (zN HO_6)); (case aS => exact (za (zB HB))); (case aL => have := LMc24.out; omega); intro v1288 w57 ho hb hg hat; rw [← Ny1287.out] at ho; have n0_ := zA (blk_grown (g := gb1272) (o := .cells #[.int .i64 ((rd_T75 l1 x34_2).f0), .int .i64 ((rd_T75 l1 x34_2).f1)] 75 (0, 0)) (zK BK1272) hg (Kd.N_ne HO_6.out BK1272.out (by decide))); have n1_ := zA (Kd.zdf (ok := (fun k_ => k_ ≠ gb1272 ∧ k_ ≠ gb1286)) (by (with_reducible repeat (first | apply Kd.za8 | apply Kd.za7 | apply Kd.zbd)); exact Kd.zak HO1275.out (fun _ hk => ⟨⟨hk.2.1, hk.2.2⟩, hk.1⟩)) hg hat); have n2_ := zA (Kd.zdf (ok := (fun k_ => k_ ≠ gb1272 ∧ k_ ≠ gb1286)) (by (with_reducible repeat (first | apply Kd.za8 | apply Kd.za7 | apply Kd.zbd)); exact Kd.zak HO1278.out (fun _ hk => ⟨⟨hk.2.1, hk.2.2⟩, hk.1⟩)) hg hat); have n3_ := zA (Kd.zdf (ok := (fun k_ => k_ ≠ gb1272 ∧ k_ ≠ gb1286)) (by (with_reducible repeat (first | apply Kd.za8 | apply Kd.za7 | apply Kd.zbd)); exact Kd.zak HO1281.out (fun _ hk => ⟨⟨hk.2.1, hk.2.2⟩, hk.1⟩)) hg hat); have n4_ := zA (Kd.zdf (ok := (fun k_ => k_ ≠ gb1272 ∧ k_ ≠ gb1286)) (by (with_reducible repeat (first | apply Kd.za8 | apply Kd.za7 | apply Kd.zbd)); exact Kd.zak HO1284.out (fun _ hk => ⟨⟨hk.2.1, hk.2.2⟩, hk.1⟩)) hg hat); have n5_ := zA (blk_grown (g := gb1286) (o := .cells #[.slice Ao50 t1279.length co50, .slice Ao52 t1282.length co52] 28 (0, 0)) (zK BK1286) hg (Kd.N_away HO_6.out (fun _ hk => hk.2))); have n6_ := zA (hb); have n7_ := zA (ho); clear BK1272 HO1275 HO1278 HO1281 HO1284 BK1286 HB HO_6; have BK1272 := n0_; have HO1275 := n1_; have HO1278 := n2_; have HO1281 := n3_; have HO1284 := n4_; have BK1286 := n5_; have HB := n6_; have HO1289 := n7_; clear n0_ n1_ n2_ n3_ n4_ n5_ n6_ n7_ ho hb hg hat; have hcz58_0 : w57.cell? ⟨gb1272, 0, none⟩ = some (.int .i64 ((rd_T75 l1 x34_2).f0)) := (zab BK1272.out 0).trans rfl; have hcz58_1 : w57.cell? ⟨gb1272, 1, none⟩ = some (.int .i64 ((rd_T75 l1 x34_2).f1)) := (zab BK1272.out 1).trans rfl; have hfz58_0 := zan BK1272.out 0; have hfz58_1 := zan BK1272.out 1))
              go_roundg kj13
              case measure => have := HJ2.out; have := HK2.out; have := HJ13.out; omega
              case rel => exact ⟨(y1287), (decide (((rd_T75 l1 x34_2).f0) > ((rd_T75 l1 x34_2).f1))), (wrap64 (x34_2 + 1)), (zF), (zF), H', ⟨by have := HJ2.out; have := HK2.out; have := HJ13.out; omega⟩, ⟨by (with_reducible repeat (first | apply Kd.N_alloc | apply Kd.N_drewN | apply Kd.N_drew)); exact Kd.N_mono HO1289.out (fun _ hk => trivial)⟩, ⟨zB HB⟩⟩
            ·
             rw [if_neg c24] at H
             exact absurd H (by simp)
        ·
         rw [if_neg c13] at H
         exact absurd H (by simp)
       ·
        rw [if_neg c12] at H
        exact absurd H (by simp)
      ·
       rw [if_neg c11] at H
       have c11b0 : decide (x34_2 < (l1.length : Int)) = false := decide_eq_false c11
       clear c11
       replace H := zO H
       obtain ⟨⟨t1290, t1291⟩, A590, H⟩ := H
       try dsimp only at H
       have A59 := zA A590
       clear A590
       by_cases c60 : x7_2 = true
       ·
        subst c60
        rw [if_pos rfl] at H
        by_cases c61 : t1291 = 14
        ·
         rw [if_pos c61] at H
         have c61b0 : (t1291 == 14) = true := beq_iff_eq.mpr c61
         have c61b1 : (t1291 != 14) = false := bne_eq_false_iff_eq.mpr c61
         clear c61
         obtain rfl := Option.some.inj H
         obtain ⟨Ao62, co62, eo62⟩ := Kd.N_slice HO_6.out
         subst eo62
         go_wp2_with (first | ((with_reducible refine zae (f := 48) rfl ?_); refine za4 (some 74) rfl rfl Tryd.func48 (by kernel_rfl) rfl #[.int .i64 (wrap64 (1 + (Int.tmod (wrap64 (a0)) 1000))), .slice Ao62 x6_2.length co62] rfl (zE) ?_; (with_reducible refine (zbp.calls k2 (wrap64 (1 + (Int.tmod (wrap64 (a0)) 1000))) _ _ x6_2 t1290 t1291 _ ?side1 ?side2 A59.out).mono ?_); (case side1 => exact zJ (Kd.N_reads' HO_6.out).2.2); (case side2 => exact (Kd.N_reads' HO_6.out).2.1); rintro e w63 ⟨v1292, rfl, ho0, hb⟩; refine ⟨_, rfl, ?_⟩; have n0_ := zA (Kd.N_elder' (zN HO_6) (Kd.zbk ho0) hb); have n1_ := zA (Kd.zbw ho0 (za (zB HB))); have n2_ := zA (zac (zB HB) hb); clear HO_6 HB; have HO_6 := n0_; have HO1293 := n1_; have HB := n2_; clear n0_ n1_ n2_; (try clear hb); (try clear hb2); (try clear hk); (try clear hi); (try clear ho0); obtain ⟨Ao64, co64, eo64⟩ := Kd.zbq HO1293.out; subst eo64))
         go_ret
         exact ⟨zW, zB HB⟩
        ·
         rw [if_neg c61] at H
         exact absurd H (by simp)
       ·
        replace c60 := Bool.eq_false_iff.mpr c60
        subst c60
        rw [if_neg (show ¬ (false = true) by decide)] at H
        have HC65 := zA H
        clear H
        obtain ⟨Ao66, co66, eo66⟩ := Kd.N_slice HO_6.out
        subst eo66
        go_upto_region 18 with (first | ((with_reducible refine zae (f := 48) rfl ?_); refine za4 (some 74) rfl rfl Tryd.func48 (by kernel_rfl) rfl #[.int .i64 (wrap64 (1 + (Int.tmod (wrap64 (a0)) 1000))), .slice Ao66 x6_2.length co66] rfl (zE) ?_; (with_reducible refine (zbp.calls k2 (wrap64 (1 + (Int.tmod (wrap64 (a0)) 1000))) _ _ x6_2 t1290 t1291 _ ?side1 ?side2 A59.out).mono ?_); (case side1 => exact zJ (Kd.N_reads' HO_6.out).2.2); (case side2 => exact (Kd.N_reads' HO_6.out).2.1); rintro e w67 ⟨v1292, rfl, ho0, hb⟩; refine ⟨_, rfl, ?_⟩; have n0_ := zA (Kd.N_elder' (zN HO_6) (Kd.zbk ho0) hb); have n1_ := zA (Kd.zbw ho0 (za (zB HB))); have n2_ := zA (zac (zB HB) hb); clear HO_6 HB; have HO_6 := n0_; have HO1293 := n1_; have HB := n2_; clear n0_ n1_ n2_; (try clear hb); (try clear hb2); (try clear hk); (try clear hi); (try clear ho0)))
        (try simp only [Act.put, zs1, zs2, zs3])
        go_cut [93] (fun v93 wc => ∃ (kq : Nat) (x93_64 : Bool), v93 = .bool x93_64 ∧ Aside0 (zaa.j3 kq l1 (wrap64 (1 + (Int.tmod (wrap64 (a0)) 1000))) t1290 x93_64 = some r) ∧ Aside0 (kq ≤ k2) ∧ Aside0 (Kd.R (Kd.int .i64) 3 wc w.heap.size (fun _ => True) v1292 t1290) ∧ Aside0 (Below w.heap.size w wc))
        case first =>
         have H := HC65.out
         clear HC65
         by_cases c68 : t1291 = 0
         ·
          rw [if_pos c68] at H
          have c68b0 : (t1291 == 0) = true := beq_iff_eq.mpr c68
          have c68b1 : (t1291 != 0) = false := bne_eq_false_iff_eq.mpr c68
          clear c68
          (first | rw [c68b0] | (simp only [i64_w, i32_w]; rw [c68b0]) | skip)
          have H' := zA H
          clear H
          obtain ⟨Ao69, co69, eo69⟩ := Kd.zbq HO1293.out
          subst eo69
          go_wp2
          go_meet
          case rel => exact ⟨_, (((t1290.length : Int) != (l1.length : Int))), (zF), H', ⟨by have := HJ2.out; have := HK2.out; first | omega | exact Nat.le_refl _⟩, ⟨zR HO1293⟩, ⟨zB HB⟩⟩
         ·
          rw [if_neg c68] at H
          have c68b0 : (t1291 == 0) = false := beq_eq_false_iff_ne.mpr c68
          have c68b1 : (t1291 != 0) = true := bne_iff_ne.mpr c68
          (first | rw [c68b0] | (simp only [i64_w, i32_w]; rw [c68b0]) | skip)
          have H' := zA H
          clear H
          go_wp2
          go_meet
          case rel => exact ⟨_, (true), (zF), H', ⟨by have := HJ2.out; have := HK2.out; first | omega | exact Nat.le_refl _⟩, ⟨zR HO1293⟩, ⟨zB HB⟩⟩
        case rest =>
         clear HC65
         try clear c1
         try clear c2
         try clear p2
         try clear c3
         try clear c4
         try clear c5
         try clear c6
         try clear p6
         try clear c11
         try clear c11b0
         try clear c12
         try clear c13
         try clear c24
         try clear c36
         try clear c48
         try clear c55
         try clear c60
         try clear c61
         try clear c61b0
         try clear c61b1
         try clear p64
         try clear c68
         try clear c68b0
         try clear c68b1
         try clear hcz56_0
         try clear hcz56_1
         try clear hcz58_0
         try clear hcz58_1
         try clear hfz56_0
         try clear hfz56_1
         try clear hfz58_0
         try clear hfz58_1
         obtain ⟨kq, x93_64, rfl, HA, HJ64, HO_12, HB⟩ := hcut
         cases kq with
         | zero => exact absurd HA.out (by simp [zaa.j3])
         | succ kj64 =>
          have H := HA.out
          clear HA
          simp only [zaa.j3] at H
          by_cases c70 : x93_64 = true
          ·
           subst c70
           rw [if_pos rfl] at H
           exact absurd H (by simp)
          ·
           replace c70 := Bool.eq_false_iff.mpr c70
           subst c70
           rw [if_neg (show ¬ (false = true) by decide)] at H
           have H' := zA H
           clear H
           go_wp2
           go_loopg [14, 96] kj64 (fun kq v14 v96 w' => ∃ (x14_4 : Int) (x96_4 : Int), v14 = .int .i64 x14_4 ∧ v96 = .int .i64 x96_4 ∧ Aside0 (zaa.l1 kq (wrap64 (1 + (Int.tmod (wrap64 (a0)) 1000))) t1290 x14_4 l1 (l1.length : Int) x96_4 = some r) ∧ Aside0 (kq ≤ kj64) ∧ Aside0 (Kd.R (Kd.int .i64) 3 w' w.heap.size (fun _ => True) v1292 t1290) ∧ Aside0 (Below w.heap.size w w'))
           case atStart => exact ⟨(0), (0), (zF), (zF), H', ⟨Nat.le_refl _⟩, ⟨zR HO_12⟩, ⟨zB HB⟩⟩
           case round =>
            clear H'
            try clear c1
            try clear c2
            try clear p2
            try clear c3
            try clear c4
            try clear c5
            try clear c6
            try clear p6
            try clear c7
            try clear c11
            try clear c11b0
            try clear c12
            try clear c13
            try clear c24
            try clear c36
            try clear c48
            try clear c55
            try clear c60
            try clear c61
            try clear c61b0
            try clear c61b1
            try clear p64
            try clear c68
            try clear c68b0
            try clear c68b1
            try clear c70
            try clear hcz56_0
            try clear hcz56_1
            try clear hcz58_0
            try clear hcz58_1
            try clear hfz56_0
            try clear hfz56_1
            try clear hfz58_0
            try clear hfz58_1
            try clear p2
            try clear p6
            try clear p64
            obtain ⟨x14_4, x96_4, rfl, rfl, HA, HK4, HO_12, HB⟩ := hrel
            cases gk with
            | zero => exact absurd HA.out (by simp [zaa.l1])
            | succ k4 =>
             have H := HA.out
             clear HA
             simp only [zaa.l1] at H
             by_cases c71 : x96_4 < (l1.length : Int)
             ·
              rw [if_pos c71] at H
              have c71b0 : decide (x96_4 < (l1.length : Int)) = true := decide_eq_true c71
              clear c71
              by_cases c72 : 0 ≤ x96_4
              ·
               rw [if_pos c72] at H
               have c72b0 : decide (0 ≤ x96_4) = true := decide_eq_true c72
               clear c72
               by_cases c73 : x96_4 < (l1.length : Int)
               ·
                rw [if_pos c73] at H
                have c73b0 : decide (x96_4 < (l1.length : Int)) = true := decide_eq_true c73
                clear c73
                replace H := zO H
                obtain ⟨⟨t1297, t1300, t1303, t1306, t1309⟩, A740, H⟩ := H
                try dsimp only at H
                have A74 := zA A740
                clear A740
                by_cases c75 : x96_4 < (t1290.length : Int)
                ·
                 rw [if_pos c75] at H
                 have c75b0 : decide (x96_4 < (t1290.length : Int)) = true := decide_eq_true c75
                 clear c75
                 replace H := zO H
                 obtain ⟨t1313, A760, H⟩ := H
                 try dsimp only at H
                 have A76 := zA A760
                 clear A760
                 by_cases c77 : (rd t1290 x96_4) = t1313
                 ·
                  rw [if_pos c77] at H
                  have c77b0 : ((rd t1290 x96_4) == t1313) = true := beq_iff_eq.mpr c77
                  have c77b1 : ((rd t1290 x96_4) != t1313) = false := bne_eq_false_iff_eq.mpr c77
                  clear c77
                  have H' := zA H
                  clear H
                  have p1295 : 0 ≤ (x96_4 : Int) := of_decide_eq_true (by first | (with_reducible assumption) | assumption)
                  have q1295 : x96_4 < (l1.length : Int) := of_decide_eq_true (by first | (with_reducible assumption) | assumption)
                  obtain ⟨ad1295, e1295, hx1295_0, hx1295_1⟩ := at_T75 HR1.out x96_4 p1295 q1295
                  cases e1295
                  replace hx1295_0 := (HB.out.cell (World.block_lt_of_cell? w _ hx1295_0)).trans hx1295_0
                  replace hx1295_1 := (HB.out.cell (World.block_lt_of_cell? w _ hx1295_1)).trans hx1295_1
                  replace p1295 := eq_true p1295
                  replace q1295 := eq_true q1295
                  try go_wp2_with (first | ((with_reducible refine zbe (N := 16) rfl ?_); (try (refine zct (by rfl) ?_; dsimp only)); refine zbl ?hg (N := 16) ?hd (cs := #[.int .i64 0, .int .i64 0]) (t := 75) ?hr ?_; (case hd => rfl); (case hg => rfl); (case hr => first | (go_simp; done) | (go_simp; rfl)); intro gb1296 hg w78 hbox hb; have n0_ := zA (Kd.zb0 (zR HO_12) hb); have n1_ := zA (zac (zB HB) hb); have n2_ := zA (hbox); have n3_ := zA ((by rw [hg]; exact (za (zB HB)) : w.heap.size ≤ gb1296)); have n4_ := zA ((by rw [hg]; exact (za (zB HB)) : w.heap.size ≤ gb1296)); clear HO_12 HB; have HO_12 := n0_; have HB := n1_; have BK1296 := n2_; have GW1296 := n3_; have GE1296 := n4_; clear n0_ n1_ n2_ n3_ n4_ hb hbox hg; have hcz79_0 : w78.cell? ⟨gb1296, 0, none⟩ = some (.int .i64 0) := (zab BK1296.out 0).trans rfl; have hcz79_1 : w78.cell? ⟨gb1296, 1, none⟩ = some (.int .i64 0) := (zab BK1296.out 1).trans rfl; have hfz79_0 := zan BK1296.out 0; have hfz79_1 := zan BK1296.out 1) | ((with_reducible refine zae (f := 44) rfl ?_); refine za4 (some 106) rfl rfl Tryd.func44 (by kernel_rfl) rfl #[.int .i64 ((rd_T75 l1 x96_4).f0), .int .i64 ((rd_T75 l1 x96_4).f1)] rfl (zE) ?_; (with_reducible refine (za0.calls k4 ((rd_T75 l1 x96_4).f0) ((rd_T75 l1 x96_4).f1) t1297 t1300 t1303 t1306 t1309 _ A74.out).mono ?_); rintro e w80 ⟨v1298, v1301, v1304, v1307, rfl, ho0, ho1, ho2, ho3, hb⟩; refine ⟨_, rfl, ?_⟩; have n0_ := zA (Kd.zbr (Kd.R_told (Kd.R_told (Kd.R_old (by (with_reducible repeat (first | apply Kd.zb5 | apply Kd.zb6 | apply Kd.zcg)); exact (Kd.zbr (Kd.R_far (p := ⟨gb1296, 1, none⟩) (Kd.R_far (p := ⟨gb1296, 0, none⟩) (Kd.zc3 HO_12.out BK1296.out (by decide)) (fun _ hk => hk.2) (.int .i64 ((rd_T75 l1 x96_4).f0))) (fun _ hk => hk.2) (.int .i64 ((rd_T75 l1 x96_4).f1))) (fun _ h_ => h_.1))) hb) (Kd.zbk ho2)) (Kd.zbk ho3)) (fun _ h_ => h_.1)); have n1_ := zA (Kd.za2 (Kd.zak (ok' := fun k_ => some k_ ≠ (v1304 : Value).ownBlock ∧ some k_ ≠ (v1307 : Value).ownBlock ∧ some k_ ≠ (v1292 : Value).ownBlock ∧ k_ ≠ gb1296) ho0 (fun k_ hk_ => ⟨hk_.2.1, hk_.2.2, (Kd.fresh' (Kd.R_lt (by (with_reducible repeat (first | apply Kd.zb5 | apply Kd.zb6 | apply Kd.zcg)); exact (Kd.zbr (Kd.R_far (p := ⟨gb1296, 1, none⟩) (Kd.R_far (p := ⟨gb1296, 0, none⟩) (Kd.zc3 HO_12.out BK1296.out (by decide)) (fun _ hk => hk.2) (.int .i64 ((rd_T75 l1 x96_4).f0))) (fun _ hk => hk.2) (.int .i64 ((rd_T75 l1 x96_4).f1))) (fun _ h_ => h_.1)))) k_ hk_.1), (Kd.freshB (g := gb1296) (o := .cells #[.int .i64 ((rd_T75 l1 x96_4).f0), .int .i64 ((rd_T75 l1 x96_4).f1)] 75 (0, 0)) (by (with_reducible repeat (first | refine zai ?_ _ | refine zaj ?_ | refine zah ?_ _)); refine zbn (cs := #[.int .i64 ((rd_T75 l1 x96_4).f0), .int .i64 0]) ?_ 1 _ rfl; (with_reducible repeat (first | refine zai ?_ _ | refine zaj ?_ | refine zah ?_ _)); refine zbn (cs := #[.int .i64 0, .int .i64 0]) ?_ 0 _ rfl; (with_reducible repeat (first | refine zai ?_ _ | refine zaj ?_ | refine zah ?_ _)); exact BK1296.out) k_ hk_.1)⟩)) (za (zB HB))); have n2_ := zA (Kd.za2 (Kd.zak (ok' := fun k_ => some k_ ≠ (v1304 : Value).ownBlock ∧ some k_ ≠ (v1307 : Value).ownBlock ∧ some k_ ≠ (v1292 : Value).ownBlock ∧ k_ ≠ gb1296) ho1 (fun k_ hk_ => ⟨hk_.2.1, hk_.2.2, (Kd.fresh' (Kd.R_lt (by (with_reducible repeat (first | apply Kd.zb5 | apply Kd.zb6 | apply Kd.zcg)); exact (Kd.zbr (Kd.R_far (p := ⟨gb1296, 1, none⟩) (Kd.R_far (p := ⟨gb1296, 0, none⟩) (Kd.zc3 HO_12.out BK1296.out (by decide)) (fun _ hk => hk.2) (.int .i64 ((rd_T75 l1 x96_4).f0))) (fun _ hk => hk.2) (.int .i64 ((rd_T75 l1 x96_4).f1))) (fun _ h_ => h_.1)))) k_ hk_.1), (Kd.freshB (g := gb1296) (o := .cells #[.int .i64 ((rd_T75 l1 x96_4).f0), .int .i64 ((rd_T75 l1 x96_4).f1)] 75 (0, 0)) (by (with_reducible repeat (first | refine zai ?_ _ | refine zaj ?_ | refine zah ?_ _)); refine zbn (cs := #[.int .i64 ((rd_T75 l1 x96_4).f0), .int .i64 0]) ?_ 1 _ rfl; (with_reducible repeat (first | refine zai ?_ _ | refine zaj ?_ | refine zah ?_ _)); refine zbn (cs := #[.int .i64 0, .int .i64 0]) ?_ 0 _ rfl; (with_reducible repeat (first | refine zai ?_ _ | refine zaj ?_ | refine zah ?_ _)); exact BK1296.out) k_ hk_.1)⟩)) (za (zB HB))); have n3_ := zA (Kd.zbw (Kd.zcc (Kd.zbr (ok' := fun k_ => some k_ ≠ (v1307 : Value).ownBlock) ho2 (fun _ hk_ => hk_.2)) (Kd.R_lt (by (with_reducible repeat (first | apply Kd.zb5 | apply Kd.zb6 | apply Kd.zcg)); exact (Kd.zbr (Kd.R_far (p := ⟨gb1296, 1, none⟩) (Kd.R_far (p := ⟨gb1296, 0, none⟩) (Kd.zc3 HO_12.out BK1296.out (by decide)) (fun _ hk => hk.2) (.int .i64 ((rd_T75 l1 x96_4).f0))) (fun _ hk => hk.2) (.int .i64 ((rd_T75 l1 x96_4).f1))) (fun _ h_ => h_.1))))) (za (zB HB))); have n4_ := zA (Kd.zbw (Kd.zcc (Kd.zbr (ok' := fun k_ => some k_ ≠ (v1304 : Value).ownBlock) ho3 (fun _ hk_ => hk_.2)) (Kd.R_lt (by (with_reducible repeat (first | apply Kd.zb5 | apply Kd.zb6 | apply Kd.zcg)); exact (Kd.zbr (Kd.R_far (p := ⟨gb1296, 1, none⟩) (Kd.R_far (p := ⟨gb1296, 0, none⟩) (Kd.zc3 HO_12.out BK1296.out (by decide)) (fun _ hk => hk.2) (.int .i64 ((rd_T75 l1 x96_4).f0))) (fun _ hk => hk.2) (.int .i64 ((rd_T75 l1 x96_4).f1))) (fun _ h_ => h_.1))))) (za (zB HB))); have n5_ := zA (zaf (g := gb1296) (o := .cells #[.int .i64 ((rd_T75 l1 x96_4).f0), .int .i64 ((rd_T75 l1 x96_4).f1)] 75 (0, 0)) (by (with_reducible repeat (first | refine zai ?_ _ | refine zaj ?_ | refine zah ?_ _)); refine zbn (cs := #[.int .i64 ((rd_T75 l1 x96_4).f0), .int .i64 0]) ?_ 1 _ rfl; (with_reducible repeat (first | refine zai ?_ _ | refine zaj ?_ | refine zah ?_ _)); refine zbn (cs := #[.int .i64 0, .int .i64 0]) ?_ 0 _ rfl; (with_reducible repeat (first | refine zai ?_ _ | refine zaj ?_ | refine zah ?_ _)); exact BK1296.out) hb); have n6_ := zA (zac (zB HB) hb); clear HO_12 BK1296 HB; have HO_12 := n0_; have HO1299 := n1_; have HO1302 := n2_; have HO1305 := n3_; have HO1308 := n4_; have BK1296 := n5_; have HB := n6_; clear n0_ n1_ n2_ n3_ n4_ n5_ n6_; (try clear hb); (try clear hb2); (try clear hk); (try clear hi); (try clear ho0); (try clear ho1); (try clear ho2); (try clear ho3)) | ((with_reducible refine zbe (N := 17) rfl ?_); (try (refine zct (by rfl) ?_; dsimp only)); refine zbl ?hg (N := 17) ?hd (cs := #[.slice none 0 0, .slice none 0 0]) (t := 28) ?hr ?_; (case hd => rfl); (case hg => rfl); (case hr => first | (go_simp; done) | (go_simp; rfl)); intro gb1310 hg w81 hbox hb; have n0_ := zA (Kd.zb0 (zR HO_12) hb); have n1_ := zA (Kd.zar (Kd.zb7 (zV HO1299) gb1310 (Nat.le_of_eq hg.symm)) hb); have n2_ := zA (Kd.zar (Kd.zb7 (zV HO1302) gb1310 (Nat.le_of_eq hg.symm)) hb); have n3_ := zA (Kd.zb0 (zR HO1305) hb); have n4_ := zA (Kd.zb0 (zR HO1308) hb); have n5_ := zA (zaf (g := gb1296) (o := .cells #[.int .i64 ((rd_T75 l1 x96_4).f0), .int .i64 ((rd_T75 l1 x96_4).f1)] 75 (0, 0)) (zK BK1296) hb); have n6_ := zA (zac (zB HB) hb); have n7_ := zA (hbox); have n8_ := zA ((by rw [hg]; exact (za (zB HB)) : w.heap.size ≤ gb1310)); have n9_ := zA ((by rw [hg]; exact (za (zB HB)) : w.heap.size ≤ gb1310)); have n10_ := zA ((by rw [hg]; exact Nat.ne_of_lt (zb4 (g := gb1296) (o := .cells #[.int .i64 ((rd_T75 l1 x96_4).f0), .int .i64 ((rd_T75 l1 x96_4).f1)] 75 (0, 0)) (zK BK1296)) : gb1296 ≠ gb1310)); have n11_ := zA ((by rw [hg]; exact Nat.ne_of_gt (zb4 (g := gb1296) (o := .cells #[.int .i64 ((rd_T75 l1 x96_4).f0), .int .i64 ((rd_T75 l1 x96_4).f1)] 75 (0, 0)) (zK BK1296)) : gb1310 ≠ gb1296)); clear HO_12 HO1299 HO1302 HO1305 HO1308 BK1296 HB; have HO_12 := n0_; have HO1299 := n1_; have HO1302 := n2_; have HO1305 := n3_; have HO1308 := n4_; have BK1296 := n5_; have HB := n6_; have BK1310 := n7_; have GW1310 := n8_; have GE1310 := n9_; have NB1296_1310 := n10_; have NB1310_1296 := n11_; clear n0_ n1_ n2_ n3_ n4_ n5_ n6_ n7_ n8_ n9_ n10_ n11_ hb hbox hg) | ((with_reducible refine zbe (N := 18) rfl ?_); (try (refine zct (by rfl) ?_; dsimp only)); refine zbl ?hg (N := 18) ?hd (cs := #[.slice none 0 0, .slice none 0 0]) (t := 40) ?hr ?_; (case hd => rfl); (case hg => rfl); (case hr => first | (go_simp; done) | (go_simp; rfl)); intro gb1311 hg w82 hbox hb; have n0_ := zA (Kd.zb0 (zR HO_12) hb); have n1_ := zA (Kd.zar (Kd.zb7 (zV HO1299) gb1311 (Nat.le_of_eq hg.symm)) hb); have n2_ := zA (Kd.zar (Kd.zb7 (zV HO1302) gb1311 (Nat.le_of_eq hg.symm)) hb); have n3_ := zA (Kd.zb0 (zR HO1305) hb); have n4_ := zA (Kd.zb0 (zR HO1308) hb); have n5_ := zA (zaf (g := gb1296) (o := .cells #[.int .i64 ((rd_T75 l1 x96_4).f0), .int .i64 ((rd_T75 l1 x96_4).f1)] 75 (0, 0)) (zK BK1296) hb); have n6_ := zA (zaf (g := gb1310) (o := .cells #[.slice none 0 0, .slice none 0 0] 28 (0, 0)) (zK BK1310) hb); have n7_ := zA (zac (zB HB) hb); have n8_ := zA (hbox); have n9_ := zA ((by rw [hg]; exact (za (zB HB)) : w.heap.size ≤ gb1311)); have n10_ := zA ((by rw [hg]; exact (za (zB HB)) : w.heap.size ≤ gb1311)); have n11_ := zA ((by rw [hg]; exact Nat.ne_of_lt (zb4 (g := gb1296) (o := .cells #[.int .i64 ((rd_T75 l1 x96_4).f0), .int .i64 ((rd_T75 l1 x96_4).f1)] 75 (0, 0)) (zK BK1296)) : gb1296 ≠ gb1311)); have n12_ := zA ((by rw [hg]; exact Nat.ne_of_gt (zb4 (g := gb1296) (o := .cells #[.int .i64 ((rd_T75 l1 x96_4).f0), .int .i64 ((rd_T75 l1 x96_4).f1)] 75 (0, 0)) (zK BK1296)) : gb1311 ≠ gb1296)); have n13_ := zA ((by rw [hg]; exact Nat.ne_of_lt (zb4 (g := gb1310) (o := .cells #[.slice none 0 0, .slice none 0 0] 28 (0, 0)) (zK BK1310)) : gb1310 ≠ gb1311)); have n14_ := zA ((by rw [hg]; exact Nat.ne_of_gt (zb4 (g := gb1310) (o := .cells #[.slice none 0 0, .slice none 0 0] 28 (0, 0)) (zK BK1310)) : gb1311 ≠ gb1310)); clear HO_12 HO1299 HO1302 HO1305 HO1308 BK1296 BK1310 HB; have HO_12 := n0_; have HO1299 := n1_; have HO1302 := n2_; have HO1305 := n3_; have HO1308 := n4_; have BK1296 := n5_; have BK1310 := n6_; have HB := n7_; have BK1311 := n8_; have GW1311 := n9_; have GE1311 := n10_; have NB1296_1311 := n11_; have NB1311_1296 := n12_; have NB1310_1311 := n13_; have NB1311_1310 := n14_; clear n0_ n1_ n2_ n3_ n4_ n5_ n6_ n7_ n8_ n9_ n10_ n11_ n12_ n13_ n14_ hb hbox hg; obtain ⟨Ao83, co83, eo83⟩ := Kd.za3 HO1299.out; subst eo83; have hnb84 := NB1310_1296.out; have hnc84 := NB1296_1310.out; have hnb85 := NB1310_1311.out; have hnc85 := NB1311_1310.out; have hcz86_0 : w82.cell? ⟨gb1310, 0, none⟩ = some (.slice none 0 0) := (zab BK1310.out 0).trans rfl; have hcz86_1 : w82.cell? ⟨gb1310, 1, none⟩ = some (.slice none 0 0) := (zab BK1310.out 1).trans rfl; have hfz86_0 := zan BK1310.out 0; have hfz86_1 := zan BK1310.out 1; obtain ⟨Ao87, co87, eo87⟩ := Kd.za3 HO1302.out; subst eo87; obtain ⟨Ao88, co88, eo88⟩ := Kd.zbq HO1305.out; subst eo88; have hnb89 := NB1311_1296.out; have hnc89 := NB1296_1311.out; have hcz90_0 : w82.cell? ⟨gb1311, 0, none⟩ = some (.slice none 0 0) := (zab BK1311.out 0).trans rfl; have hcz90_1 : w82.cell? ⟨gb1311, 1, none⟩ = some (.slice none 0 0) := (zab BK1311.out 1).trans rfl; have hfz90_0 := zan BK1311.out 0; have hfz90_1 := zan BK1311.out 1; obtain ⟨Ao91, co91, eo91⟩ := Kd.zbq HO1308.out; subst eo91))
                  have n0_ : Aside0 (Kd.R (Kd.int .i64) 3 ((((w82.setCell ⟨gb1310, 0, none⟩ (.slice Ao83 t1297.length co83)).setCell ⟨gb1310, 1, none⟩ (.slice Ao87 t1300.length co87)).setCell ⟨gb1311, 0, none⟩ (.slice Ao88 t1303.length co88)).setCell ⟨gb1311, 1, none⟩ (.slice Ao91 t1306.length co91)) w.heap.size (fun k_ => some k_ ≠ (.slice Ao88 t1303.length co88 : Value).ownBlock ∧ some k_ ≠ (.slice Ao91 t1306.length co91 : Value).ownBlock) v1292 t1290) := ⟨by (with_reducible repeat (first | apply Kd.zb5 | apply Kd.zb6 | apply Kd.zcg)); exact Kd.zbr (Kd.R_far (p := ⟨gb1311, 1, none⟩) (Kd.R_far (p := ⟨gb1311, 0, none⟩) (Kd.R_far (p := ⟨gb1310, 1, none⟩) (Kd.R_far (p := ⟨gb1310, 0, none⟩) (Kd.zc3 (Kd.zc3 HO_12.out BK1310.out (by decide)) BK1311.out (by decide)) (fun _ hk => hk.1.2) (.slice Ao83 t1297.length co83)) (fun _ hk => hk.1.2) (.slice Ao87 t1300.length co87)) (fun _ hk => hk.2) (.slice Ao88 t1303.length co88)) (fun _ hk => hk.2) (.slice Ao91 t1306.length co91)) (fun _ hk => ⟨hk.1.1.1.2, hk.1.1.2⟩)⟩
                  have n1_ : Aside0 (Kd.V (Kd.int .u64) 57 ((((w82.setCell ⟨gb1310, 0, none⟩ (.slice Ao83 t1297.length co83)).setCell ⟨gb1310, 1, none⟩ (.slice Ao87 t1300.length co87)).setCell ⟨gb1311, 0, none⟩ (.slice Ao88 t1303.length co88)).setCell ⟨gb1311, 1, none⟩ (.slice Ao91 t1306.length co91)) w.heap.size (fun k_ => some k_ ≠ (v1292 : Value).ownBlock ∧ some k_ ≠ (.slice Ao88 t1303.length co88 : Value).ownBlock ∧ some k_ ≠ (.slice Ao91 t1306.length co91 : Value).ownBlock ∧ k_ ≠ gb1296 ∧ k_ ≠ gb1310 ∧ k_ ≠ gb1311) (.slice Ao83 t1297.length co83) t1297) := ⟨by (with_reducible repeat (first | apply Kd.za8 | apply Kd.za7 | apply Kd.zbd)); exact Kd.zak (Kd.V_far (p := ⟨gb1311, 1, none⟩) (Kd.V_far (p := ⟨gb1311, 0, none⟩) (Kd.V_far (p := ⟨gb1310, 1, none⟩) (Kd.V_far (p := ⟨gb1310, 0, none⟩) (Kd.zak (Kd.zak HO1299.out (fun k_ hk => (⟨hk, hk.1.2⟩ : _ ∧ k_ ≠ gb1310))) (fun k_ hk => (⟨hk, hk.1.2⟩ : _ ∧ k_ ≠ gb1311))) (fun _ hk => hk.1.2) (.slice Ao83 t1297.length co83)) (fun _ hk => hk.1.2) (.slice Ao87 t1300.length co87)) (fun _ hk => hk.2) (.slice Ao88 t1303.length co88)) (fun _ hk => hk.2) (.slice Ao91 t1306.length co91)) (fun _ hk => ⟨hk.1.1.1.1.2.2.1, ⟨hk.1.1.1.1.1, ⟨hk.1.1.1.1.2.1, ⟨hk.1.1.1.1.2.2.2, ⟨hk.1.1.1.2, hk.1.1.2⟩⟩⟩⟩⟩)⟩
                  have n2_ : Aside0 (Kd.V (Kd.int .u64) 57 ((((w82.setCell ⟨gb1310, 0, none⟩ (.slice Ao83 t1297.length co83)).setCell ⟨gb1310, 1, none⟩ (.slice Ao87 t1300.length co87)).setCell ⟨gb1311, 0, none⟩ (.slice Ao88 t1303.length co88)).setCell ⟨gb1311, 1, none⟩ (.slice Ao91 t1306.length co91)) w.heap.size (fun k_ => some k_ ≠ (v1292 : Value).ownBlock ∧ some k_ ≠ (.slice Ao88 t1303.length co88 : Value).ownBlock ∧ some k_ ≠ (.slice Ao91 t1306.length co91 : Value).ownBlock ∧ k_ ≠ gb1296 ∧ k_ ≠ gb1310 ∧ k_ ≠ gb1311) (.slice Ao87 t1300.length co87) t1300) := ⟨by (with_reducible repeat (first | apply Kd.za8 | apply Kd.za7 | apply Kd.zbd)); exact Kd.zak (Kd.V_far (p := ⟨gb1311, 1, none⟩) (Kd.V_far (p := ⟨gb1311, 0, none⟩) (Kd.V_far (p := ⟨gb1310, 1, none⟩) (Kd.V_far (p := ⟨gb1310, 0, none⟩) (Kd.zak (Kd.zak HO1302.out (fun k_ hk => (⟨hk, hk.1.2⟩ : _ ∧ k_ ≠ gb1310))) (fun k_ hk => (⟨hk, hk.1.2⟩ : _ ∧ k_ ≠ gb1311))) (fun _ hk => hk.1.2) (.slice Ao83 t1297.length co83)) (fun _ hk => hk.1.2) (.slice Ao87 t1300.length co87)) (fun _ hk => hk.2) (.slice Ao88 t1303.length co88)) (fun _ hk => hk.2) (.slice Ao91 t1306.length co91)) (fun _ hk => ⟨hk.1.1.1.1.2.2.1, ⟨hk.1.1.1.1.1, ⟨hk.1.1.1.1.2.1, ⟨hk.1.1.1.1.2.2.2, ⟨hk.1.1.1.2, hk.1.1.2⟩⟩⟩⟩⟩)⟩
                  have n3_ : Aside0 (Kd.R (Kd.int .i64) 3 ((((w82.setCell ⟨gb1310, 0, none⟩ (.slice Ao83 t1297.length co83)).setCell ⟨gb1310, 1, none⟩ (.slice Ao87 t1300.length co87)).setCell ⟨gb1311, 0, none⟩ (.slice Ao88 t1303.length co88)).setCell ⟨gb1311, 1, none⟩ (.slice Ao91 t1306.length co91)) w.heap.size (fun k_ => some k_ ≠ (v1292 : Value).ownBlock ∧ some k_ ≠ (.slice Ao91 t1306.length co91 : Value).ownBlock) (.slice Ao88 t1303.length co88) t1303) := ⟨by (with_reducible repeat (first | apply Kd.zb5 | apply Kd.zb6 | apply Kd.zcg)); exact Kd.zbr (Kd.R_far (p := ⟨gb1311, 1, none⟩) (Kd.R_far (p := ⟨gb1311, 0, none⟩) (Kd.R_far (p := ⟨gb1310, 1, none⟩) (Kd.R_far (p := ⟨gb1310, 0, none⟩) (Kd.zc3 (Kd.zc3 HO1305.out BK1310.out (by decide)) BK1311.out (by decide)) (fun _ hk => hk.1.2) (.slice Ao83 t1297.length co83)) (fun _ hk => hk.1.2) (.slice Ao87 t1300.length co87)) (fun _ hk => hk.2) (.slice Ao88 t1303.length co88)) (fun _ hk => hk.2) (.slice Ao91 t1306.length co91)) (fun _ hk => ⟨hk.1.1.2, hk.1.1.1⟩)⟩
                  have n4_ : Aside0 (Kd.R (Kd.int .i64) 3 ((((w82.setCell ⟨gb1310, 0, none⟩ (.slice Ao83 t1297.length co83)).setCell ⟨gb1310, 1, none⟩ (.slice Ao87 t1300.length co87)).setCell ⟨gb1311, 0, none⟩ (.slice Ao88 t1303.length co88)).setCell ⟨gb1311, 1, none⟩ (.slice Ao91 t1306.length co91)) w.heap.size (fun k_ => some k_ ≠ (v1292 : Value).ownBlock ∧ some k_ ≠ (.slice Ao88 t1303.length co88 : Value).ownBlock) (.slice Ao91 t1306.length co91) t1306) := ⟨by (with_reducible repeat (first | apply Kd.zb5 | apply Kd.zb6 | apply Kd.zcg)); exact Kd.zbr (Kd.R_far (p := ⟨gb1311, 1, none⟩) (Kd.R_far (p := ⟨gb1311, 0, none⟩) (Kd.R_far (p := ⟨gb1310, 1, none⟩) (Kd.R_far (p := ⟨gb1310, 0, none⟩) (Kd.zc3 (Kd.zc3 HO1308.out BK1310.out (by decide)) BK1311.out (by decide)) (fun _ hk => hk.1.2) (.slice Ao83 t1297.length co83)) (fun _ hk => hk.1.2) (.slice Ao87 t1300.length co87)) (fun _ hk => hk.2) (.slice Ao88 t1303.length co88)) (fun _ hk => hk.2) (.slice Ao91 t1306.length co91)) (fun _ hk => ⟨hk.1.1.2, hk.1.1.1⟩)⟩
                  have n5_ : Aside0 (((((w82.setCell ⟨gb1310, 0, none⟩ (.slice Ao83 t1297.length co83)).setCell ⟨gb1310, 1, none⟩ (.slice Ao87 t1300.length co87)).setCell ⟨gb1311, 0, none⟩ (.slice Ao88 t1303.length co88)).setCell ⟨gb1311, 1, none⟩ (.slice Ao91 t1306.length co91)).heap[gb1296]? = some (.cells #[.int .i64 ((rd_T75 l1 x96_4).f0), .int .i64 ((rd_T75 l1 x96_4).f1)] 75 (0, 0))) := ⟨by (with_reducible repeat (first | refine zai ?_ _ | refine zaj ?_ | refine zah ?_ _)); refine zco ?_ NB1296_1311.out _; (with_reducible repeat (first | refine zai ?_ _ | refine zaj ?_ | refine zah ?_ _)); refine zco ?_ NB1296_1311.out _; (with_reducible repeat (first | refine zai ?_ _ | refine zaj ?_ | refine zah ?_ _)); refine zco ?_ NB1296_1310.out _; (with_reducible repeat (first | refine zai ?_ _ | refine zaj ?_ | refine zah ?_ _)); refine zco ?_ NB1296_1310.out _; (with_reducible repeat (first | refine zai ?_ _ | refine zaj ?_ | refine zah ?_ _)); exact BK1296.out⟩
                  have n6_ : Aside0 (((((w82.setCell ⟨gb1310, 0, none⟩ (.slice Ao83 t1297.length co83)).setCell ⟨gb1310, 1, none⟩ (.slice Ao87 t1300.length co87)).setCell ⟨gb1311, 0, none⟩ (.slice Ao88 t1303.length co88)).setCell ⟨gb1311, 1, none⟩ (.slice Ao91 t1306.length co91)).heap[gb1310]? = some (.cells #[.slice Ao83 t1297.length co83, .slice Ao87 t1300.length co87] 28 (0, 0))) := ⟨by (with_reducible repeat (first | refine zai ?_ _ | refine zaj ?_ | refine zah ?_ _)); refine zco ?_ NB1310_1311.out _; (with_reducible repeat (first | refine zai ?_ _ | refine zaj ?_ | refine zah ?_ _)); refine zco ?_ NB1310_1311.out _; (with_reducible repeat (first | refine zai ?_ _ | refine zaj ?_ | refine zah ?_ _)); refine zbn (cs := #[.slice Ao83 t1297.length co83, .slice none 0 0]) ?_ 1 _ rfl; (with_reducible repeat (first | refine zai ?_ _ | refine zaj ?_ | refine zah ?_ _)); refine zbn (cs := #[.slice none 0 0, .slice none 0 0]) ?_ 0 _ rfl; (with_reducible repeat (first | refine zai ?_ _ | refine zaj ?_ | refine zah ?_ _)); exact BK1310.out⟩
                  have n7_ : Aside0 (((((w82.setCell ⟨gb1310, 0, none⟩ (.slice Ao83 t1297.length co83)).setCell ⟨gb1310, 1, none⟩ (.slice Ao87 t1300.length co87)).setCell ⟨gb1311, 0, none⟩ (.slice Ao88 t1303.length co88)).setCell ⟨gb1311, 1, none⟩ (.slice Ao91 t1306.length co91)).heap[gb1311]? = some (.cells #[.slice Ao88 t1303.length co88, .slice Ao91 t1306.length co91] 40 (0, 0))) := ⟨by (with_reducible repeat (first | refine zai ?_ _ | refine zaj ?_ | refine zah ?_ _)); refine zbn (cs := #[.slice Ao88 t1303.length co88, .slice none 0 0]) ?_ 1 _ rfl; (with_reducible repeat (first | refine zai ?_ _ | refine zaj ?_ | refine zah ?_ _)); refine zbn (cs := #[.slice none 0 0, .slice none 0 0]) ?_ 0 _ rfl; (with_reducible repeat (first | refine zai ?_ _ | refine zaj ?_ | refine zah ?_ _)); refine zco ?_ NB1311_1310.out _; (with_reducible repeat (first | refine zai ?_ _ | refine zaj ?_ | refine zah ?_ _)); refine zco ?_ NB1311_1310.out _; (with_reducible repeat (first | refine zai ?_ _ | refine zaj ?_ | refine zah ?_ _)); exact BK1311.out⟩
                  have n8_ : Aside0 (Below w.heap.size w ((((w82.setCell ⟨gb1310, 0, none⟩ (.slice Ao83 t1297.length co83)).setCell ⟨gb1310, 1, none⟩ (.slice Ao87 t1300.length co87)).setCell ⟨gb1311, 0, none⟩ (.slice Ao88 t1303.length co88)).setCell ⟨gb1311, 1, none⟩ (.slice Ao91 t1306.length co91))) := ⟨zB HB⟩
                  (try clear HO_12)
                  (try clear HO1299)
                  (try clear HO1302)
                  (try clear HO1305)
                  (try clear HO1308)
                  (try clear BK1296)
                  (try clear BK1310)
                  (try clear BK1311)
                  (try clear HB)
                  generalize ((((w82.setCell ⟨gb1310, 0, none⟩ (.slice Ao83 t1297.length co83)).setCell ⟨gb1310, 1, none⟩ (.slice Ao87 t1300.length co87)).setCell ⟨gb1311, 0, none⟩ (.slice Ao88 t1303.length co88)).setCell ⟨gb1311, 1, none⟩ (.slice Ao91 t1306.length co91)) = w92 at n0_ n1_ n2_ n3_ n4_ n5_ n6_ n7_ n8_ ⊢
                  have HO_12 := n0_
                  have HO1299 := n1_
                  have HO1302 := n2_
                  have HO1305 := n3_
                  have HO1308 := n4_
                  have BK1296 := n5_
                  have BK1310 := n6_
                  have BK1311 := n7_
                  have HB := n8_
                  clear n0_ n1_ n2_ n3_ n4_ n5_ n6_ n7_ n8_
                  have n0_ := zA (Kd.zcg HO_12.out)
                  have n1_ := zA (Kd.zbd HO1299.out)
                  have n2_ := zA (Kd.zbd HO1302.out)
                  have n3_ := zA (Kd.zcg HO1305.out)
                  have n4_ := zA (Kd.zcg HO1308.out)
                  have n5_ := zA (zaj BK1296.out)
                  have n6_ := zA (zaj BK1310.out)
                  have n7_ := zA (zaj BK1311.out)
                  have n8_ := zA (zbi HB.out)
                  clear HO_12 HO1299 HO1302 HO1305 HO1308 BK1296 BK1310 BK1311 HB
                  have HO_12 := n0_
                  have HO1299 := n1_
                  have HO1302 := n2_
                  have HO1305 := n3_
                  have HO1308 := n4_
                  have BK1296 := n5_
                  have BK1310 := n6_
                  have BK1311 := n7_
                  have HB := n8_
                  clear n0_ n1_ n2_ n3_ n4_ n5_ n6_ n7_ n8_
                  obtain ⟨Ao94, co94, eo94⟩ := Kd.zbq HO_12.out
                  (first | subst eo94 | (injection eo94 with f1_ f2_ f3_; have f4_ := f1_.symm; have f5_ := f3_.symm; clear f1_ f2_ f3_; subst f4_; subst f5_))
                  have p1312 : 0 ≤ (x96_4 : Int) := of_decide_eq_true (by first | (with_reducible assumption) | assumption)
                  have q1312 : x96_4 < (t1290.length : Int) := of_decide_eq_true (by first | (with_reducible assumption) | assumption)
                  obtain ⟨ad1312, e1312, hx1312_0⟩ := Kd.at_int (Kd.zay HO_12.out).2.2 x96_4 p1312 q1312
                  cases e1312
                  replace p1312 := eq_true p1312
                  replace q1312 := eq_true q1312
                  refine start_ (n := 8) (S := fun w' => w'.cell? ⟨gb1311, 0, none⟩ = some (.slice Ao88 t1303.length co88) ∧ w'.cell? ⟨gb1311, 1, none⟩ = some (.slice Ao91 t1306.length co91) ∧ w'.cell? (ad1312.add (x96_4).toNat) = some (.int .i64 (rd t1290 x96_4))) (ds := []) #[false, false, false, false, false, false, false, false] (by kernel_rfl) rfl rfl ⟨(zab BK1311.out 0).trans rfl, (zab BK1311.out 1).trans rfl, hx1312_0⟩ (fun hHeld => ?_); refine zcw zaa.tab25 zaa.bits25 (fun HT_ HW_ => ?_)
                  generalize w92.drew = w93 at HO_12 HO1299 HO1302 HO1305 HO1308 BK1296 BK1310 BK1311 HB hx1312_0 hHeld ⊢
                  refine pure_ (i := 0) (N := some 110) (v := ?_) (a' := ?_) #[true, false, false, false, false, false, false, false] rfl rfl (zav HT_.out (by kernel_rfl)) (fun _ _ _ h => h) (Or.inl ⟨by rfl, ?_⟩) ?_ ?_
                  rotate_left
                  ·
                   intro w'
                   go_simp
                   with_reducible rfl
                  rotate_left
                  ·
                   simp only [Act.put, zs1, zs2, zs3, i64_w, i32_w]
                   rfl
                  refine pure_ (i := 1) (N := some 111) (v := ?_) (a' := ?_) #[true, true, false, false, false, false, false, false] rfl rfl (zav HT_.out (by kernel_rfl)) (fun _ _ _ h => h) (Or.inl ⟨by rfl, ?_⟩) ?_ ?_
                  rotate_left
                  ·
                   intro w'
                   go_simp
                   with_reducible rfl
                  rotate_left
                  ·
                   simp only [Act.put, zs1, zs2, zs3, i64_w, i32_w]
                   rfl
                  refine pure_ (i := 2) (N := some 112) (v := ?_) (a' := ?_) #[true, true, true, false, false, false, false, false] rfl rfl (zav HT_.out (by kernel_rfl)) (fun _ _ _ h => h) (Or.inl ⟨by rfl, ?_⟩) ?_ ?_
                  rotate_left
                  ·
                   intro w'
                   go_simp
                   with_reducible rfl
                  rotate_left
                  ·
                   simp only [Act.put, zs1, zs2, zs3, i64_w, i32_w]
                   rfl
                  refine pure_ (i := 4) (N := some 114) (v := ?_) (a' := ?_) #[true, true, true, false, true, false, false, false] rfl rfl (zav HT_.out (by kernel_rfl)) (fun _ _ _ h => h) (Or.inl ⟨by rfl, ?_⟩) ?_ ?_
                  rotate_left
                  ·
                   intro w'
                   go_simp
                   with_reducible rfl
                  rotate_left
                  ·
                   simp only [Act.put, zs1, zs2, zs3, i64_w, i32_w]
                   rfl
                  refine take_ (i := 3) (N := some 113) (v := ?_) (a' := ?_) #[true, true, true, true, true, false, false, false] rfl rfl (zb9 HT_.out HW_.out (by kernel_rfl)) (fun _ _ _ h => h) (Or.inl ⟨by rfl, ?_⟩) hHeld ?_ ?_
                  rotate_left
                  ·
                   rintro w' ⟨s0, s1, s2⟩
                   go_simp
                   with_reducible rfl
                  rotate_left
                  ·
                   simp only [Act.put, zs1, zs2, zs3, i64_w, i32_w]
                   rfl
                  refine take_ (i := 5) (N := some 115) (v := ?_) (a' := ?_) #[true, true, true, true, true, true, false, false] rfl rfl (zb9 HT_.out HW_.out (by kernel_rfl)) (fun _ _ _ h => h) (Or.inl ⟨by rfl, ?_⟩) hHeld ?_ ?_
                  rotate_left
                  ·
                   rintro w' ⟨s0, s1, s2⟩
                   go_simp
                   with_reducible rfl
                  rotate_left
                  ·
                   simp only [Act.put, zs1, zs2, zs3, i64_w, i32_w]
                   rfl
                  refine one_ (i := 6) (N := some 116) #[true, true, true, true, true, true, true, false] rfl rfl (zb8 HT_.out (by kernel_rfl)) (by decide) (fun K hK => ?_)
                  refine goes_ Tryd.func47 (by kernel_rfl) rfl #[.int .i64 (wrap64 (1 + (Int.tmod (wrap64 (a0)) 1000))), .agg #[.slice Ao88 t1303.length co88, .slice Ao91 t1306.length co91]] (by rfl) rfl rfl (zE) ?_
                  with_reducible refine (za1.calls k4 (wrap64 (1 + (Int.tmod (wrap64 (a0)) 1000))) _ _ t1303 _ _ t1306 t1313 _ ?side1 ?side2 ?side3 ?side4 A76.out).mono ?_
                  (case side1 => exact zJ (Kd.zay HO1305.out).2.2)
                  (case side2 => exact (Kd.zay HO1305.out).2.1)
                  (case side3 => exact zJ (Kd.zay HO1308.out).2.2)
                  (case side4 => exact (Kd.zay HO1308.out).2.1)
                  rintro e w95 ⟨rfl, hb⟩
                  have HS2_ := (hb.cell (World.block_lt_of_cell? _ _ (hHeld.2.2))).trans (hHeld.2.2)
                  refine ⟨_, rfl, ?_⟩
                  have n0_ := zA (Kd.zb0 (zR HO_12) hb)
                  have n1_ := zA (Kd.zar (zV HO1299) hb)
                  have n2_ := zA (Kd.zar (zV HO1302) hb)
                  have n3_ := zA (Kd.zb0 (zR HO1305) hb)
                  have n4_ := zA (Kd.zb0 (zR HO1308) hb)
                  have n5_ := zA (zaf (g := gb1296) (o := .cells #[.int .i64 ((rd_T75 l1 x96_4).f0), .int .i64 ((rd_T75 l1 x96_4).f1)] 75 (0, 0)) (zK BK1296) hb)
                  have n6_ := zA (zaf (g := gb1310) (o := .cells #[.slice Ao83 t1297.length co83, .slice Ao87 t1300.length co87] 28 (0, 0)) (zK BK1310) hb)
                  have n7_ := zA (zaf (g := gb1311) (o := .cells #[.slice Ao88 t1303.length co88, .slice Ao91 t1306.length co91] 40 (0, 0)) (zK BK1311) hb)
                  have n8_ := zA (zac (zB HB) hb)
                  clear HO_12 HO1299 HO1302 HO1305 HO1308 BK1296 BK1310 BK1311 HB
                  have HO_12 := n0_
                  have HO1299 := n1_
                  have HO1302 := n2_
                  have HO1305 := n3_
                  have HO1308 := n4_
                  have BK1296 := n5_
                  have BK1310 := n6_
                  have BK1311 := n7_
                  have HB := n8_
                  clear n0_ n1_ n2_ n3_ n4_ n5_ n6_ n7_ n8_
                  (try clear hb)
                  (try clear hb2)
                  (try clear hk)
                  (try clear hi)
                  refine hK.out _ _ ⟨(zab BK1311.out 0).trans rfl, (zab BK1311.out 1).trans rfl, HS2_⟩ (fun hHeld => ?_)
                  clear hK K
                  refine norm_ (a' := ?_) ?_ ?_
                  rotate_left
                  ·
                   show Act.put _ (some 116) _ = _
                   simp only [Act.put, zs1, zs2, zs3, i64_w, i32_w]
                   rfl
                  refine pure_ (i := 7) (N := some 117) (v := ?_) (a' := ?_) #[true, true, true, true, true, true, true, true] rfl rfl (zav HT_.out (by kernel_rfl)) (fun _ _ _ h => h) (Or.inl ⟨by rfl, ?_⟩) ?_ ?_
                  rotate_left
                  ·
                   intro w'
                   go_simp
                   with_reducible rfl
                  rotate_left
                  ·
                   simp only [Act.put, zs1, zs2, zs3, i64_w, i32_w]
                   rfl
                  refine done_ (zdk HT_.out (by kernel_rfl)) ?_
                  have p1314 : 0 ≤ (x96_4 : Int) := of_decide_eq_true (by first | (with_reducible assumption) | assumption)
                  have q1314 : x96_4 < (t1290.length : Int) := of_decide_eq_true (by first | (with_reducible assumption) | assumption)
                  obtain ⟨ad1314, e1314, hx1314_0⟩ := Kd.at_int (Kd.zay HO_12.out).2.2 x96_4 p1314 q1314
                  obtain rfl : ad1312 = ad1314 := (by injection e1314)
                  replace p1314 := eq_true p1314
                  replace q1314 := eq_true q1314
                  try go_wp2
                  go_roundg k4
                  case measure => have := HJ2.out; have := HK2.out; have := HJ64.out; have := HK4.out; omega
                  case rel => exact ⟨(wrap64 (x14_4 + (rd t1290 x96_4))), (wrap64 (x96_4 + 1)), (zF), (zF), H', ⟨by have := HJ2.out; have := HK2.out; have := HJ64.out; have := HK4.out; omega⟩, ⟨by (with_reducible repeat (first | apply Kd.zb5 | apply Kd.zb6 | apply Kd.zcg)); exact Kd.zbr HO_12.out (fun _ hk => trivial)⟩, ⟨zB HB⟩⟩
                 ·
                  rw [if_neg c77] at H
                  exact absurd H (by simp)
                ·
                 rw [if_neg c75] at H
                 exact absurd H (by simp)
               ·
                rw [if_neg c73] at H
                exact absurd H (by simp)
              ·
               rw [if_neg c72] at H
               exact absurd H (by simp)
             ·
              rw [if_neg c71] at H
              have c71b0 : decide (x96_4 < (l1.length : Int)) = false := decide_eq_false c71
              clear c71
              replace H := zO H
              obtain ⟨t1294, A960, H⟩ := H
              try dsimp only at H
              have A96 := zA A960
              clear A960
              obtain rfl := Option.some.inj H
              obtain ⟨Ao97, co97, eo97⟩ := Kd.zbq HO_12.out
              subst eo97
              go_wp2_with (first | ((with_reducible refine zae (f := 49) rfl ?_); refine za4 (some 126) rfl rfl Tryd.func49 (by kernel_rfl) rfl #[.slice Ao97 t1290.length co97] rfl (zE) ?_; (with_reducible refine (zcq.calls k4 _ _ t1290 t1294 _ ?side1 ?side2 A96.out).mono ?_); (case side1 => exact zJ (Kd.zay HO_12.out).2.2); (case side2 => exact (Kd.zay HO_12.out).2.1); rintro e w' ⟨rfl, ⟨nd, rfl⟩⟩; refine ⟨_, rfl, ?_⟩))
              go_ret
              exact ⟨zW, zB HB⟩
end Go.Proofs.YtfjkamhcabckeaaDoor.P
end
