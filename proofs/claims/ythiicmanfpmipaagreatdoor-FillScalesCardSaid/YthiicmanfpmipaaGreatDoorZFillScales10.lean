-- Written by a program of this session (wip/tools/shake.py) out of its own texts and of the kit's printed ones; not trusted: Lean checks it.
import Derived.Test.YthiicmanfpmipaaGreatDoorZFillScales9
set_option maxHeartbeats 8000000
set_option maxRecDepth 100000
set_option linter.unusedVariables false
set_option linter.unusedSimpArgs false
section
namespace Go.Proofs.YthiicmanfpmipaaGreatDoor.P
open Go.RowKit Go.Proofs.YthiicmanfpmipaaGreatDoorW.PrintWords Go.Proofs.YthiicmanfpmipaaGreatDoorW.PrintLast Go.Proofs.YthiicmanfpmipaaGreatDoorW.PrintMore
attribute [local go_sem] zci zcj zcs zcr zb9 zca zcg zch
mutual
def zaa.j0 : Nat → List Int → List Int → Int → Bool → Int → Int → Option (Bool)
 | 0, _, _, _, _, _, _ => none
 | k + 1, x7, x8, x9, x39, x637000, x637001 => if x39 = true then ((zbq.f k).bind fun t639 => (some t639)) else ((zau.f k x637000 x637001).bind fun bt640 => (zaa.l0 k x7 x8 x9 ([] : List Int) x7 (x7.length : Int) 0 bt640.1 bt640.2.1))
def zaa.l0 : Nat → List Int → List Int → Int → List Int → List Int → Int → Int → List Int → List Int → Option (Bool)
 | 0, _, _, _, _, _, _, _, _, _ => none
 | k + 1, x7, x8, x9, x12, x46, x47, x48, x653000, x653001 => if x48 < x47 then (if 0 ≤ x48 then (if x48 < (x46.length : Int) then (if (rd x46 x48) < 1 then (some true) else (if (rd x46 x48) > 1000 then (some true) else (if x12.length < 17592186044416 then (zaa.l0 k x7 x8 x9 (x12 ++ [wrap64 ((rd x46 x48) * x9)]) x46 x47 (wrap64 (x48 + 1)) x653000 x653001) else (none)))) else (none)) else (none)) else ((zbu.f k x653000 x653001 x7 x8).bind fun bt658 => ((zbu.f k x653000 x653001 x12 x8).bind fun bt662 => (if bt658.2 = bt662.2 then (zaa.j2 k bt658.1 bt658.2 bt662.1 ((bt658.1.length : Int) != (bt662.1.length : Int)) x653000 x653001) else (zaa.j2 k bt658.1 bt658.2 bt662.1 true x653000 x653001))))
def zaa.j2 : Nat → List (S29) → Int → List (S29) → Bool → List Int → List Int → Option (Bool)
 | 0, _, _, _, _, _, _ => none
 | k + 1, x15, x16, x17, x88, x653000, x653001 => if x88 = true then (none) else (zaa.l1 k x15 x16 x17 (x15.length : Int) 0 x653000 x653001)
def zaa.l1 : Nat → List (S29) → Int → List (S29) → Int → Int → List Int → List Int → Option (Bool)
 | 0, _, _, _, _, _, _, _ => none
 | k + 1, x15, x16, x17, x90, x91, x653000, x653001 => if x91 < x90 then (if 0 ≤ x91 then (if x91 < (x15.length : Int) then (if x91 < (x17.length : Int) then ((ratio_Cmp.f k ((rd_T29 x15 x91).f0) ((rd_T29 x15 x91).f1) ((rd_T29 x17 x91).f0) ((rd_T29 x17 x91).f1)).bind fun t668 => (if t668 = 0 then (zaa.l1 k x15 x16 x17 x90 (wrap64 (x91 + 1)) x653000 x653001) else (none))) else (none)) else (none)) else (none)) else (if x16 = 0 then (if (x15.length : Int) = 1 then (if 0 < (x15.length : Int) then ((ratio_Cmp.f k ((rd_T29 x15 0).f0) ((rd_T29 x15 0).f1) x653000 x653001).bind fun t670 => (some (t670 == 0))) else (none)) else (some true)) else (some true))
end
def zaa.f (k : Nat) (a0_0 : Int) (a0_1 : Int) (l1_0 : List Int) (l1_1 : List Int) (a2 : Int) : Option (Bool) := (zbq.f k).bind fun t638 => (if t638 = true then (if (l1_0.length : Int) > 12 then (zaa.j0 k l1_0 l1_1 (wrap64 (1 + (Int.tmod (wrap64 (a2)) 9))) true a0_0 a0_1) else (zaa.j0 k l1_0 l1_1 (wrap64 (1 + (Int.tmod (wrap64 (a2)) 9))) (decide ((l1_1.length : Int) > 12)) a0_0 a0_1)) else (zaa.j0 k l1_0 l1_1 (wrap64 (1 + (Int.tmod (wrap64 (a2)) 9))) true a0_0 a0_1))
def zaa.T21 : Bool × List (List Nat × List Nat) := (true, [([], []), ([], []), ([0, 1], [0, 1]), ([2], [2]), ([], []), ([], []), ([4, 5], [4, 5]), ([6], [6]), ([3, 7], [3, 7]), ([8], [8])])
def zaa.B21 : List Nat := [0, 0, 3, 7, 0, 0, 48, 112, 255, 511]
theorem zaa.tab21 : rtab .any (opsOf Tryz.f5 21) = zaa.T21 := by kernel_rfl
theorem zaa.bits21 : waitsOk zaa.T21.2 zaa.B21 = true := by kernel_rfl
def zaa.T24 : Bool × List (List Nat × List Nat) := (true, [([], []), ([0], [0]), ([1], [1]), ([2], [2]), ([3, 2], [2, 3]), ([4, 2], [2, 4]), ([2, 5], [2, 5]), ([6, 2], [6]), ([7], [7]), ([8, 7], [7, 8]), ([9, 7], [7, 9]), ([7], [7]), ([10, 11, 7, 7], [7, 10, 11]), ([12, 7], [7, 12]), ([7, 13], [7, 13]), ([14, 12, 0, 1, 2, 3, 4, 5, 6, 7, 8, 9, 10, 11, 12, 13, 14], [14])])
def zaa.B24 : List Nat := [0, 1, 3, 7, 15, 31, 63, 127, 255, 511, 1023, 255, 4095, 8191, 16383, 32767]
theorem zaa.tab24 : rtab .any (opsOf Tryz.f5 24) = zaa.T24 := by kernel_rfl
theorem zaa.bits24 : waitsOk zaa.T24.2 zaa.B24 = true := by kernel_rfl
theorem zaa.calls (k : Nat) (a0_0 : Int) (a0_1 : Int) (A1_0 : Option Addr) (c1_0 : Nat) (l1_0 : List Int) (A1_1 : Option Addr) (c1_1 : Nat) (l1_1 : List Int) (a2 : Int) (r : Bool) (w : World) (hr1_0 : Kd.C (Kd.int .i64) w A1_0 l1_0.length l1_0) (hc1_0 : l1_0.length ≤ c1_0) (hr1_1 : Kd.C (Kd.int .i64) w A1_1 l1_1.length l1_1) (hc1_1 : l1_1.length ≤ c1_1) (hG : Glob w) (h : zaa.f k a0_0 a0_1 l1_0 l1_1 a2 = some r) :
  Calls Tryz.prog 5 #[.agg #[.int .i64 a0_0, .int .i64 a0_1], .agg #[.slice A1_0 l1_0.length c1_0, .slice A1_1 l1_1.length c1_1], .int .u8 a2] w fun e w' => e = .returned (.bool r) ∧ Below w.heap.size w w' := by
 have hu23 := Tryz.underlying23
 have hu43 := Tryz.underlying43
 have hu29 := Tryz.underlying29
 have hu32 := Tryz.underlying32
 have HR1_0 := zA hr1_0
 have HC1_0 := zA hc1_0
 clear hr1_0 hc1_0
 have HR1_1 := zA hr1_1
 have HC1_1 := zA hc1_1
 clear hr1_1 hc1_1
 have HG := zA hG
 clear hG
 have HB := zA (Below.refl w.heap.size w)
 have H : ((zbq.f k).bind fun t638 => (if t638 = true then (if (l1_0.length : Int) > 12 then (zaa.j0 k l1_0 l1_1 (wrap64 (1 + (Int.tmod (wrap64 (a2)) 9))) true a0_0 a0_1) else (zaa.j0 k l1_0 l1_1 (wrap64 (1 + (Int.tmod (wrap64 (a2)) 9))) (decide ((l1_1.length : Int) > 12)) a0_0 a0_1)) else (zaa.j0 k l1_0 l1_1 (wrap64 (1 + (Int.tmod (wrap64 (a2)) 9))) true a0_0 a0_1))) = some r := h
 clear h
 have HC4 := zA H
 clear H
 go_enter Tryz.func5, Tryz.ntmps5
 try go_wp2_with (first | ((with_reducible refine za4 (N := 3) rfl ?_); (try (refine zcb (by rfl) ?_; dsimp only)); refine zba ?hg (N := 3) ?hd (cs := #[.int .i64 a0_0, .int .i64 a0_1]) (t := 23) ?hr ?_; (case hd => rfl); (case hg => rfl); (case hr => first | (go_simp; done) | (go_simp; rfl)); intro gb636 hg w5 hbox hb; have n0_ := zA (zab (zB HB) hb); have n1_ := zA (hbox); have n2_ := zA ((by rw [hg]; exact (za (zB HB)) : w.heap.size ≤ gb636)); have n3_ := zA ((by rw [hg]; exact (za (zB HB)) : w.heap.size ≤ gb636)); clear HB; have HB := n0_; have BK636 := n1_; have GW636 := n2_; have GE636 := n3_; clear n0_ n1_ n2_ n3_ hb hbox hg) | ((with_reducible refine za4 (N := 4) rfl ?_); (try (refine zcb (by rfl) ?_; dsimp only)); refine zba ?hg (N := 4) ?hd (cs := #[.slice A1_0 l1_0.length c1_0, .slice A1_1 l1_1.length c1_1]) (t := 43) ?hr ?_; (case hd => rfl); (case hg => rfl); (case hr => first | (go_simp; done) | (go_simp; rfl)); intro gb637 hg w6 hbox hb; have n0_ := zA (zae (g := gb636) (o := .cells #[.int .i64 a0_0, .int .i64 a0_1] 23 (0, 0)) (zK BK636) hb); have n1_ := zA (zab (zB HB) hb); have n2_ := zA (hbox); have n3_ := zA ((by rw [hg]; exact (za (zB HB)) : w.heap.size ≤ gb637)); have n4_ := zA ((by rw [hg]; exact (za (zB HB)) : w.heap.size ≤ gb637)); have n5_ := zA ((by rw [hg]; exact Nat.ne_of_lt (zaw (g := gb636) (o := .cells #[.int .i64 a0_0, .int .i64 a0_1] 23 (0, 0)) (zK BK636)) : gb636 ≠ gb637)); have n6_ := zA ((by rw [hg]; exact Nat.ne_of_gt (zaw (g := gb636) (o := .cells #[.int .i64 a0_0, .int .i64 a0_1] 23 (0, 0)) (zK BK636)) : gb637 ≠ gb636)); clear BK636 HB; have BK636 := n0_; have HB := n1_; have BK637 := n2_; have GW637 := n3_; have GE637 := n4_; have NB636_637 := n5_; have NB637_636 := n6_; clear n0_ n1_ n2_ n3_ n4_ n5_ n6_ hb hbox hg))
 have n0_ := zA (zah BK636.out)
 have n1_ := zA (zah BK637.out)
 have n2_ := zA (zbe HB.out)
 clear BK636 BK637 HB
 have BK636 := n0_
 have BK637 := n1_
 have HB := n2_
 clear n0_ n1_ n2_
 refine zdi (n := 6) (S := fun w' => w'.cell? ⟨gb637, 0, none⟩ = some (.slice A1_0 l1_0.length c1_0) ∧ w'.cell? ⟨gb637, 1, none⟩ = some (.slice A1_1 l1_1.length c1_1)) (ds := []) #[false, false, false, false, false, false] (by kernel_rfl) rfl rfl ⟨(zac BK637.out 0).trans rfl, (zac BK637.out 1).trans rfl⟩ (fun hHeld => ?_)
 generalize w6.drew = w7 at BK636 BK637 HB hHeld ⊢
 refine pure_ (i := 0) (N := some 20) (v := ?_) (a' := ?_) #[true, false, false, false, false, false] rfl rfl (by kernel_rfl) (fun _ _ _ h => h) (Or.inl ⟨by rfl, ?_⟩) ?_ ?_
 rotate_left
 ·
  intro w'
  go_simp
  with_reducible rfl
 rotate_left
 ·
  simp only [Act.put, zs1, zs2, zs3, i64_w, i32_w]
  rfl
 refine pure_ (i := 2) (N := some 22) (v := ?_) (a' := ?_) #[true, false, true, false, false, false] rfl rfl (by kernel_rfl) (fun _ _ _ h => h) (Or.inl ⟨by rfl, ?_⟩) ?_ ?_
 rotate_left
 ·
  intro w'
  go_simp
  with_reducible rfl
 rotate_left
 ·
  simp only [Act.put, zs1, zs2, zs3, i64_w, i32_w]
  rfl
 refine take_ (i := 1) (N := some 21) (v := ?_) (a' := ?_) #[true, true, true, false, false, false] rfl rfl (by kernel_rfl) (fun _ _ _ h => h) (Or.inl ⟨by rfl, ?_⟩) hHeld ?_ ?_
 rotate_left
 ·
  rintro w' ⟨s0, s1⟩
  go_simp
  with_reducible rfl
 rotate_left
 ·
  simp only [Act.put, zs1, zs2, zs3, i64_w, i32_w]
  rfl
 refine pure_ (i := 4) (N := some 7) (v := ?_) (a' := ?_) #[true, true, true, false, true, false] rfl rfl (by kernel_rfl) (fun _ _ _ h => h) (Or.inl ⟨by rfl, ?_⟩) ?_ ?_
 rotate_left
 ·
  intro w'
  go_simp
  with_reducible rfl
 rotate_left
 ·
  simp only [Act.put, zs1, zs2, zs3, i64_w, i32_w]
  rfl
 refine take_ (i := 3) (N := some 23) (v := ?_) (a' := ?_) #[true, true, true, true, true, false] rfl rfl (by kernel_rfl) (fun _ _ _ h => h) (Or.inl ⟨by rfl, ?_⟩) hHeld ?_ ?_
 rotate_left
 ·
  rintro w' ⟨s0, s1⟩
  go_simp
  with_reducible rfl
 rotate_left
 ·
  simp only [Act.put, zs1, zs2, zs3, i64_w, i32_w]
  rfl
 refine pure_ (i := 5) (N := some 8) (v := ?_) (a' := ?_) #[true, true, true, true, true, true] rfl rfl (by kernel_rfl) (fun _ _ _ h => h) (Or.inl ⟨by rfl, ?_⟩) ?_ ?_
 rotate_left
 ·
  intro w'
  go_simp
  with_reducible rfl
 rotate_left
 ·
  simp only [Act.put, zs1, zs2, zs3, i64_w, i32_w]
  rfl
 refine done_ (by kernel_rfl) ?_
 go_upto_region 3 with (fail)
 go_cut [39] (fun v39 wc => ∃ (kq : Nat) (x39_3 : Bool), v39 = .bool x39_3 ∧ Aside0 (zaa.j0 kq l1_0 l1_1 (wrap64 (1 + (Int.tmod (wrap64 (a2)) 9))) x39_3 a0_0 a0_1 = some r) ∧ Aside0 (kq ≤ k) ∧ Aside0 (wc.heap[gb636]? = some (.cells #[.int .i64 a0_0, .int .i64 a0_1] 23 (0, 0))) ∧ Aside0 (wc.heap[gb637]? = some (.cells #[(.slice A1_0 l1_0.length c1_0), (.slice A1_1 l1_1.length c1_1)] 43 (0, 0))) ∧ Aside0 (Below w.heap.size w wc))
 case first =>
  have H := HC4.out
  clear HC4
  replace H := zO H
  obtain ⟨t638, A80, H⟩ := H
  try dsimp only at H
  have A8 := zA A80
  clear A80
  by_cases c9 : t638 = true
  ·
   subst c9
   rw [if_pos rfl] at H
   by_cases c10 : (l1_0.length : Int) > 12
   ·
    rw [if_pos c10] at H
    have c10b0 : decide (12 < (l1_0.length : Int)) = true := decide_eq_true c10
    have c10b1 : decide (12 < l1_0.length) = true := decide_eq_true (by omega)
    clear c10
    (first | rw [c10b0] | (simp only [i64_w, i32_w]; rw [c10b0]) | skip)
    have H' := zA H
    clear H
    go_wp2_with (first | ((with_reducible refine zad (f := 14) rfl ?_); refine zaz (some 28) rfl rfl Tryz.func14 (by kernel_rfl) rfl #[] rfl (zE) ?_; (with_reducible refine (zbq.calls k  true _ ?side1 A8.out).mono ?_); (case side1 => exact Glob.below HG.out (zB HB)); rintro e w11 ⟨rfl, hb⟩; refine ⟨_, rfl, ?_⟩; have n0_ := zA (zae (g := gb636) (o := .cells #[.int .i64 a0_0, .int .i64 a0_1] 23 (0, 0)) (zK BK636) hb); have n1_ := zA (zae (g := gb637) (o := .cells #[.slice A1_0 l1_0.length c1_0, .slice A1_1 l1_1.length c1_1] 43 (0, 0)) (zK BK637) hb); have n2_ := zA (zab (zB HB) hb); clear BK636 BK637 HB; have BK636 := n0_; have BK637 := n1_; have HB := n2_; clear n0_ n1_ n2_; (try clear hb); (try clear hb2); (try clear hk); (try clear hi)))
    go_meet
    case rel => exact ⟨_, (true), (zF), H', ⟨by first | omega | exact Nat.le_refl _⟩, ⟨zK BK636⟩, ⟨zK BK637⟩, ⟨zB HB⟩⟩
   ·
    rw [if_neg c10] at H
    have c10b0 : decide (12 < (l1_0.length : Int)) = false := decide_eq_false c10
    have c10b1 : decide (12 < l1_0.length) = false := decide_eq_false (by omega)
    clear c10
    (first | rw [c10b0] | (simp only [i64_w, i32_w]; rw [c10b0]) | skip)
    have H' := zA H
    clear H
    go_wp2_with (first | ((with_reducible refine zad (f := 14) rfl ?_); refine zaz (some 28) rfl rfl Tryz.func14 (by kernel_rfl) rfl #[] rfl (zE) ?_; (with_reducible refine (zbq.calls k  true _ ?side1 A8.out).mono ?_); (case side1 => exact Glob.below HG.out (zB HB)); rintro e w12 ⟨rfl, hb⟩; refine ⟨_, rfl, ?_⟩; have n0_ := zA (zae (g := gb636) (o := .cells #[.int .i64 a0_0, .int .i64 a0_1] 23 (0, 0)) (zK BK636) hb); have n1_ := zA (zae (g := gb637) (o := .cells #[.slice A1_0 l1_0.length c1_0, .slice A1_1 l1_1.length c1_1] 43 (0, 0)) (zK BK637) hb); have n2_ := zA (zab (zB HB) hb); clear BK636 BK637 HB; have BK636 := n0_; have BK637 := n1_; have HB := n2_; clear n0_ n1_ n2_; (try clear hb); (try clear hb2); (try clear hk); (try clear hi)))
    go_meet
    case rel => exact ⟨_, (decide ((l1_1.length : Int) > 12)), (zF), H', ⟨by first | omega | exact Nat.le_refl _⟩, ⟨zK BK636⟩, ⟨zK BK637⟩, ⟨zB HB⟩⟩
  ·
   replace c9 := Bool.eq_false_iff.mpr c9
   subst c9
   rw [if_neg (show ¬ (false = true) by decide)] at H
   have H' := zA H
   clear H
   go_wp2_with (first | ((with_reducible refine zad (f := 14) rfl ?_); refine zaz (some 28) rfl rfl Tryz.func14 (by kernel_rfl) rfl #[] rfl (zE) ?_; (with_reducible refine (zbq.calls k  false _ ?side1 A8.out).mono ?_); (case side1 => exact Glob.below HG.out (zB HB)); rintro e w13 ⟨rfl, hb⟩; refine ⟨_, rfl, ?_⟩; have n0_ := zA (zae (g := gb636) (o := .cells #[.int .i64 a0_0, .int .i64 a0_1] 23 (0, 0)) (zK BK636) hb); have n1_ := zA (zae (g := gb637) (o := .cells #[.slice A1_0 l1_0.length c1_0, .slice A1_1 l1_1.length c1_1] 43 (0, 0)) (zK BK637) hb); have n2_ := zA (zab (zB HB) hb); clear BK636 BK637 HB; have BK636 := n0_; have BK637 := n1_; have HB := n2_; clear n0_ n1_ n2_; (try clear hb); (try clear hb2); (try clear hk); (try clear hi)))
   go_meet
   case rel => exact ⟨_, (true), (zF), H', ⟨by first | omega | exact Nat.le_refl _⟩, ⟨zK BK636⟩, ⟨zK BK637⟩, ⟨zB HB⟩⟩
 case rest =>
  clear HC4
  try clear c1
  try clear p2
  try clear c5
  try clear p6
  try clear c9
  try clear c10
  try clear c10b0
  try clear c10b1
  obtain ⟨kq, x39_3, rfl, HA, HJ3, BK636, BK637, HB⟩ := hcut
  cases kq with
  | zero => exact absurd HA.out (by simp [zaa.j0])
  | succ kj3 =>
   have H := HA.out
   clear HA
   simp only [zaa.j0] at H
   by_cases c14 : x39_3 = true
   ·
    subst c14
    rw [if_pos rfl] at H
    replace H := zO H
    obtain ⟨t639, A150, H⟩ := H
    try dsimp only at H
    have A15 := zA A150
    clear A150
    obtain rfl := Option.some.inj H
    go_wp2_with (first | ((with_reducible refine zad (f := 14) rfl ?_); refine zaz (some 40) rfl rfl Tryz.func14 (by kernel_rfl) rfl #[] rfl (zE) ?_; (with_reducible refine (zbq.calls kj3  t639 _ ?side1 A15.out).mono ?_); (case side1 => exact Glob.below HG.out (zB HB)); rintro e w16 ⟨rfl, hb⟩; refine ⟨_, rfl, ?_⟩; have n0_ := zA (zae (g := gb636) (o := .cells #[.int .i64 a0_0, .int .i64 a0_1] 23 (0, 0)) (zK BK636) hb); have n1_ := zA (zae (g := gb637) (o := .cells #[.slice A1_0 l1_0.length c1_0, .slice A1_1 l1_1.length c1_1] 43 (0, 0)) (zK BK637) hb); have n2_ := zA (zab (zB HB) hb); clear BK636 BK637 HB; have BK636 := n0_; have BK637 := n1_; have HB := n2_; clear n0_ n1_ n2_; (try clear hb); (try clear hb2); (try clear hk); (try clear hi)))
    go_ret
    exact ⟨zW, zB HB⟩
   ·
    replace c14 := Bool.eq_false_iff.mpr c14
    subst c14
    rw [if_neg (show ¬ (false = true) by decide)] at H
    replace H := zO H
    obtain ⟨⟨t640, t643, t646, t649⟩, A170, H⟩ := H
    try dsimp only at H
    have A17 := zA A170
    clear A170
    have H' := zA H
    clear H
    have hnb18 := NB636_637.out
    have hnc18 := NB637_636.out
    have hcz19_0 : wc.cell? ⟨gb636, 0, none⟩ = some (.int .i64 a0_0) := (zac BK636.out 0).trans rfl
    have hcz19_1 : wc.cell? ⟨gb636, 1, none⟩ = some (.int .i64 a0_1) := (zac BK636.out 1).trans rfl
    have hfz19_0 := zaj BK636.out 0
    have hfz19_1 := zaj BK636.out 1
    go_wp2_with (first | ((with_reducible refine zad (f := 15) rfl ?_); refine zaz (some 43) rfl rfl Tryz.func15 (by kernel_rfl) rfl #[.agg #[.int .i64 a0_0, .int .i64 a0_1]] rfl (zE) ?_; (with_reducible refine (zau.calls kj3 a0_0 a0_1 t640 t643 t646 t649 _ A17.out).mono ?_); rintro e w20 ⟨v641, v644, v647, v650, rfl, ho0, ho1, ho2, ho3, hb⟩; refine ⟨_, rfl, ?_⟩; have n0_ := zA (Kd.za6 (Kd.zaq (ok' := fun k_ => some k_ ≠ (v647 : Value).ownBlock ∧ some k_ ≠ (v650 : Value).ownBlock ∧ k_ ≠ gb636 ∧ k_ ≠ gb637) ho0 (fun k_ hk_ => ⟨hk_.2.1, hk_.2.2, (Kd.freshB (g := gb636) (o := .cells #[.int .i64 a0_0, .int .i64 a0_1] 23 (0, 0)) (zK BK636) k_ hk_.1), (Kd.freshB (g := gb637) (o := .cells #[.slice A1_0 l1_0.length c1_0, .slice A1_1 l1_1.length c1_1] 43 (0, 0)) (zK BK637) k_ hk_.1)⟩)) (za (zB HB))); have n1_ := zA (Kd.za6 (Kd.zaq (ok' := fun k_ => some k_ ≠ (v647 : Value).ownBlock ∧ some k_ ≠ (v650 : Value).ownBlock ∧ k_ ≠ gb636 ∧ k_ ≠ gb637) ho1 (fun k_ hk_ => ⟨hk_.2.1, hk_.2.2, (Kd.freshB (g := gb636) (o := .cells #[.int .i64 a0_0, .int .i64 a0_1] 23 (0, 0)) (zK BK636) k_ hk_.1), (Kd.freshB (g := gb637) (o := .cells #[.slice A1_0 l1_0.length c1_0, .slice A1_1 l1_1.length c1_1] 43 (0, 0)) (zK BK637) k_ hk_.1)⟩)) (za (zB HB))); have n2_ := zA (Kd.zbo (Kd.zbl (ok' := fun k_ => some k_ ≠ (v650 : Value).ownBlock) ho2 (fun _ hk_ => hk_.2)) (za (zB HB))); have n3_ := zA (Kd.zbo (Kd.zbl (ok' := fun k_ => some k_ ≠ (v647 : Value).ownBlock) ho3 (fun _ hk_ => hk_.2)) (za (zB HB))); have n4_ := zA (zae (g := gb636) (o := .cells #[.int .i64 a0_0, .int .i64 a0_1] 23 (0, 0)) (zK BK636) hb); have n5_ := zA (zae (g := gb637) (o := .cells #[.slice A1_0 l1_0.length c1_0, .slice A1_1 l1_1.length c1_1] 43 (0, 0)) (zK BK637) hb); have n6_ := zA (zab (zB HB) hb); clear BK636 BK637 HB; have HO642 := n0_; have HO645 := n1_; have HO648 := n2_; have HO651 := n3_; have BK636 := n4_; have BK637 := n5_; have HB := n6_; clear n0_ n1_ n2_ n3_ n4_ n5_ n6_; (try clear hb); (try clear hb2); (try clear hk); (try clear hi); (try clear ho0); (try clear ho1); (try clear ho2); (try clear ho3)) | ((with_reducible refine za4 (N := 10) rfl ?_); (try (refine zcb (by rfl) ?_; dsimp only)); refine zba ?hg (N := 10) ?hd (cs := #[.slice none 0 0, .slice none 0 0]) (t := 29) ?hr ?_; (case hd => rfl); (case hg => rfl); (case hr => first | (go_simp; done) | (go_simp; rfl)); intro gb652 hg w21 hbox hb; have n0_ := zA (Kd.za1 (Kd.zdf (zV HO642) gb652 (Nat.le_of_eq hg.symm)) hb); have n1_ := zA (Kd.za1 (Kd.zdf (zV HO645) gb652 (Nat.le_of_eq hg.symm)) hb); have n2_ := zA (Kd.zbt (zR HO648) hb); have n3_ := zA (Kd.zbt (zR HO651) hb); have n4_ := zA (zae (g := gb636) (o := .cells #[.int .i64 a0_0, .int .i64 a0_1] 23 (0, 0)) (zK BK636) hb); have n5_ := zA (zae (g := gb637) (o := .cells #[.slice A1_0 l1_0.length c1_0, .slice A1_1 l1_1.length c1_1] 43 (0, 0)) (zK BK637) hb); have n6_ := zA (zab (zB HB) hb); have n7_ := zA (hbox); have n8_ := zA ((by rw [hg]; exact (za (zB HB)) : w.heap.size ≤ gb652)); have n9_ := zA ((by rw [hg]; exact (za (zB HB)) : w.heap.size ≤ gb652)); have n10_ := zA ((by rw [hg]; exact Nat.ne_of_lt (zaw (g := gb636) (o := .cells #[.int .i64 a0_0, .int .i64 a0_1] 23 (0, 0)) (zK BK636)) : gb636 ≠ gb652)); have n11_ := zA ((by rw [hg]; exact Nat.ne_of_gt (zaw (g := gb636) (o := .cells #[.int .i64 a0_0, .int .i64 a0_1] 23 (0, 0)) (zK BK636)) : gb652 ≠ gb636)); have n12_ := zA ((by rw [hg]; exact Nat.ne_of_lt (zaw (g := gb637) (o := .cells #[.slice A1_0 l1_0.length c1_0, .slice A1_1 l1_1.length c1_1] 43 (0, 0)) (zK BK637)) : gb637 ≠ gb652)); have n13_ := zA ((by rw [hg]; exact Nat.ne_of_gt (zaw (g := gb637) (o := .cells #[.slice A1_0 l1_0.length c1_0, .slice A1_1 l1_1.length c1_1] 43 (0, 0)) (zK BK637)) : gb652 ≠ gb637)); clear HO642 HO645 HO648 HO651 BK636 BK637 HB; have HO642 := n0_; have HO645 := n1_; have HO648 := n2_; have HO651 := n3_; have BK636 := n4_; have BK637 := n5_; have HB := n6_; have BK652 := n7_; have GW652 := n8_; have GE652 := n9_; have NB636_652 := n10_; have NB652_636 := n11_; have NB637_652 := n12_; have NB652_637 := n13_; clear n0_ n1_ n2_ n3_ n4_ n5_ n6_ n7_ n8_ n9_ n10_ n11_ n12_ n13_ hb hbox hg) | ((with_reducible refine za4 (N := 11) rfl ?_); (try (refine zcb (by rfl) ?_; dsimp only)); refine zba ?hg (N := 11) ?hd (cs := #[.slice none 0 0, .slice none 0 0]) (t := 32) ?hr ?_; (case hd => rfl); (case hg => rfl); (case hr => first | (go_simp; done) | (go_simp; rfl)); intro gb653 hg w22 hbox hb; have n0_ := zA (Kd.za1 (Kd.zdf (zV HO642) gb653 (Nat.le_of_eq hg.symm)) hb); have n1_ := zA (Kd.za1 (Kd.zdf (zV HO645) gb653 (Nat.le_of_eq hg.symm)) hb); have n2_ := zA (Kd.zbt (zR HO648) hb); have n3_ := zA (Kd.zbt (zR HO651) hb); have n4_ := zA (zae (g := gb636) (o := .cells #[.int .i64 a0_0, .int .i64 a0_1] 23 (0, 0)) (zK BK636) hb); have n5_ := zA (zae (g := gb637) (o := .cells #[.slice A1_0 l1_0.length c1_0, .slice A1_1 l1_1.length c1_1] 43 (0, 0)) (zK BK637) hb); have n6_ := zA (zae (g := gb652) (o := .cells #[.slice none 0 0, .slice none 0 0] 29 (0, 0)) (zK BK652) hb); have n7_ := zA (zab (zB HB) hb); have n8_ := zA (hbox); have n9_ := zA ((by rw [hg]; exact (za (zB HB)) : w.heap.size ≤ gb653)); have n10_ := zA ((by rw [hg]; exact (za (zB HB)) : w.heap.size ≤ gb653)); have n11_ := zA ((by rw [hg]; exact Nat.ne_of_lt (zaw (g := gb636) (o := .cells #[.int .i64 a0_0, .int .i64 a0_1] 23 (0, 0)) (zK BK636)) : gb636 ≠ gb653)); have n12_ := zA ((by rw [hg]; exact Nat.ne_of_gt (zaw (g := gb636) (o := .cells #[.int .i64 a0_0, .int .i64 a0_1] 23 (0, 0)) (zK BK636)) : gb653 ≠ gb636)); have n13_ := zA ((by rw [hg]; exact Nat.ne_of_lt (zaw (g := gb637) (o := .cells #[.slice A1_0 l1_0.length c1_0, .slice A1_1 l1_1.length c1_1] 43 (0, 0)) (zK BK637)) : gb637 ≠ gb653)); have n14_ := zA ((by rw [hg]; exact Nat.ne_of_gt (zaw (g := gb637) (o := .cells #[.slice A1_0 l1_0.length c1_0, .slice A1_1 l1_1.length c1_1] 43 (0, 0)) (zK BK637)) : gb653 ≠ gb637)); have n15_ := zA ((by rw [hg]; exact Nat.ne_of_lt (zaw (g := gb652) (o := .cells #[.slice none 0 0, .slice none 0 0] 29 (0, 0)) (zK BK652)) : gb652 ≠ gb653)); have n16_ := zA ((by rw [hg]; exact Nat.ne_of_gt (zaw (g := gb652) (o := .cells #[.slice none 0 0, .slice none 0 0] 29 (0, 0)) (zK BK652)) : gb653 ≠ gb652)); clear HO642 HO645 HO648 HO651 BK636 BK637 BK652 HB; have HO642 := n0_; have HO645 := n1_; have HO648 := n2_; have HO651 := n3_; have BK636 := n4_; have BK637 := n5_; have BK652 := n6_; have HB := n7_; have BK653 := n8_; have GW653 := n9_; have GE653 := n10_; have NB636_653 := n11_; have NB653_636 := n12_; have NB637_653 := n13_; have NB653_637 := n14_; have NB652_653 := n15_; have NB653_652 := n16_; clear n0_ n1_ n2_ n3_ n4_ n5_ n6_ n7_ n8_ n9_ n10_ n11_ n12_ n13_ n14_ n15_ n16_ hb hbox hg; obtain ⟨Ao23, co23, eo23⟩ := Kd.za9 HO642.out; subst eo23; have hnb24 := NB652_636.out; have hnc24 := NB636_652.out; have hnb25 := NB652_637.out; have hnc25 := NB637_652.out; have hnb26 := NB652_653.out; have hnc26 := NB653_652.out; have hcz27_0 : w22.cell? ⟨gb652, 0, none⟩ = some (.slice none 0 0) := (zac BK652.out 0).trans rfl; have hcz27_1 : w22.cell? ⟨gb652, 1, none⟩ = some (.slice none 0 0) := (zac BK652.out 1).trans rfl; have hfz27_0 := zaj BK652.out 0; have hfz27_1 := zaj BK652.out 1; obtain ⟨Ao28, co28, eo28⟩ := Kd.za9 HO645.out; subst eo28; obtain ⟨Ao29, co29, eo29⟩ := Kd.zbm HO648.out; subst eo29; have hnb30 := NB653_636.out; have hnc30 := NB636_653.out; have hnb31 := NB653_637.out; have hnc31 := NB637_653.out; have hcz32_0 : w22.cell? ⟨gb653, 0, none⟩ = some (.slice none 0 0) := (zac BK653.out 0).trans rfl; have hcz32_1 : w22.cell? ⟨gb653, 1, none⟩ = some (.slice none 0 0) := (zac BK653.out 1).trans rfl; have hfz32_0 := zaj BK653.out 0; have hfz32_1 := zaj BK653.out 1; obtain ⟨Ao33, co33, eo33⟩ := Kd.zbm HO651.out; subst eo33))
    go_loopg [12, 48] kj3 (fun kq v12 v48 w' => ∃ (x12_2 : List Int) (x48_2 : Int), v48 = .int .i64 x48_2 ∧ Aside0 (zaa.l0 kq l1_0 l1_1 (wrap64 (1 + (Int.tmod (wrap64 (a2)) 9))) x12_2 l1_0 (l1_0.length : Int) x48_2 t640 t643 = some r) ∧ Aside0 (kq ≤ kj3) ∧ Aside0 (Kd.R (Kd.int .i64) 3 w' w.heap.size (fun k_ => some k_ ≠ ((.slice Ao29 t646.length co29) : Value).ownBlock ∧ some k_ ≠ ((.slice Ao33 t649.length co33) : Value).ownBlock) v12 x12_2) ∧ Aside0 (Kd.V (Kd.int .u64) 82 w' w.heap.size (fun k_ => some k_ ≠ (v12 : Value).ownBlock ∧ some k_ ≠ ((.slice Ao29 t646.length co29) : Value).ownBlock ∧ some k_ ≠ ((.slice Ao33 t649.length co33) : Value).ownBlock ∧ k_ ≠ gb636 ∧ k_ ≠ gb637 ∧ k_ ≠ gb652 ∧ k_ ≠ gb653) (.slice Ao23 t640.length co23) t640) ∧ Aside0 (Kd.V (Kd.int .u64) 82 w' w.heap.size (fun k_ => some k_ ≠ (v12 : Value).ownBlock ∧ some k_ ≠ ((.slice Ao29 t646.length co29) : Value).ownBlock ∧ some k_ ≠ ((.slice Ao33 t649.length co33) : Value).ownBlock ∧ k_ ≠ gb636 ∧ k_ ≠ gb637 ∧ k_ ≠ gb652 ∧ k_ ≠ gb653) (.slice Ao28 t643.length co28) t643) ∧ Aside0 (Kd.R (Kd.int .i64) 3 w' w.heap.size (fun k_ => some k_ ≠ (v12 : Value).ownBlock ∧ some k_ ≠ ((.slice Ao33 t649.length co33) : Value).ownBlock) (.slice Ao29 t646.length co29) t646) ∧ Aside0 (Kd.R (Kd.int .i64) 3 w' w.heap.size (fun k_ => some k_ ≠ (v12 : Value).ownBlock ∧ some k_ ≠ ((.slice Ao29 t646.length co29) : Value).ownBlock) (.slice Ao33 t649.length co33) t649) ∧ Aside0 (w'.heap[gb636]? = some (.cells #[.int .i64 a0_0, .int .i64 a0_1] 23 (0, 0))) ∧ Aside0 (w'.heap[gb637]? = some (.cells #[(.slice A1_0 l1_0.length c1_0), (.slice A1_1 l1_1.length c1_1)] 43 (0, 0))) ∧ Aside0 (w'.heap[gb652]? = some (.cells #[(.slice Ao23 t640.length co23), (.slice Ao28 t643.length co28)] 29 (0, 0))) ∧ Aside0 (w'.heap[gb653]? = some (.cells #[(.slice Ao29 t646.length co29), (.slice Ao33 t649.length co33)] 32 (0, 0))) ∧ Aside0 (Below w.heap.size w w'))
    case atStart => exact ⟨(([] : List Int)), (0), (zF), H', ⟨Nat.le_refl _⟩, ⟨by first | exact Kd.R_nil _ _ _ _ _ | exact Kd.N_nil _ _ _ _ _ | exact Kd.V_nil _ _ _ _ _ | exact Kd.Q_nil _ _ _ _ _ | exact Kd.S_nil _ _ _ _ _⟩, ⟨by (with_reducible repeat (first | apply Kd.zbi | apply Kd.zbk | apply Kd.zbn)); exact Kd.zaq (Kd.V_far (p := ⟨gb653, 1, none⟩) (Kd.V_far (p := ⟨gb653, 0, none⟩) (Kd.V_far (p := ⟨gb652, 1, none⟩) (Kd.V_far (p := ⟨gb652, 0, none⟩) (Kd.zaq (Kd.zaq HO642.out (fun k_ hk => (⟨hk, hk.1.2⟩ : _ ∧ k_ ≠ gb652))) (fun k_ hk => (⟨hk, hk.1.2⟩ : _ ∧ k_ ≠ gb653))) (fun _ hk => hk.1.2) (.slice Ao23 t640.length co23)) (fun _ hk => hk.1.2) (.slice Ao28 t643.length co28)) (fun _ hk => hk.2) (.slice Ao29 t646.length co29)) (fun _ hk => hk.2) (.slice Ao33 t649.length co33)) (fun _ hk => ⟨(by simp [Value.ownBlock]), ⟨hk.1.1.1.1.1, ⟨hk.1.1.1.1.2.1, ⟨hk.1.1.1.1.2.2.1, ⟨hk.1.1.1.1.2.2.2, ⟨hk.1.1.1.2, hk.1.1.2⟩⟩⟩⟩⟩⟩)⟩, ⟨by (with_reducible repeat (first | apply Kd.zbi | apply Kd.zbk | apply Kd.zbn)); exact Kd.zaq (Kd.V_far (p := ⟨gb653, 1, none⟩) (Kd.V_far (p := ⟨gb653, 0, none⟩) (Kd.V_far (p := ⟨gb652, 1, none⟩) (Kd.V_far (p := ⟨gb652, 0, none⟩) (Kd.zaq (Kd.zaq HO645.out (fun k_ hk => (⟨hk, hk.1.2⟩ : _ ∧ k_ ≠ gb652))) (fun k_ hk => (⟨hk, hk.1.2⟩ : _ ∧ k_ ≠ gb653))) (fun _ hk => hk.1.2) (.slice Ao23 t640.length co23)) (fun _ hk => hk.1.2) (.slice Ao28 t643.length co28)) (fun _ hk => hk.2) (.slice Ao29 t646.length co29)) (fun _ hk => hk.2) (.slice Ao33 t649.length co33)) (fun _ hk => ⟨(by simp [Value.ownBlock]), ⟨hk.1.1.1.1.1, ⟨hk.1.1.1.1.2.1, ⟨hk.1.1.1.1.2.2.1, ⟨hk.1.1.1.1.2.2.2, ⟨hk.1.1.1.2, hk.1.1.2⟩⟩⟩⟩⟩⟩)⟩, ⟨by (with_reducible repeat (first | apply Kd.zbv | apply Kd.zbz | apply Kd.zb7)); exact Kd.zbl (Kd.R_far (p := ⟨gb653, 1, none⟩) (Kd.R_far (p := ⟨gb653, 0, none⟩) (Kd.R_far (p := ⟨gb652, 1, none⟩) (Kd.R_far (p := ⟨gb652, 0, none⟩) (Kd.R_types (Kd.R_types HO648.out BK652.out (by decide)) BK653.out (by decide)) (fun _ hk => hk.1.2) (.slice Ao23 t640.length co23)) (fun _ hk => hk.1.2) (.slice Ao28 t643.length co28)) (fun _ hk => hk.2) (.slice Ao29 t646.length co29)) (fun _ hk => hk.2) (.slice Ao33 t649.length co33)) (fun _ hk => ⟨(by simp [Value.ownBlock]), hk.1.1⟩)⟩, ⟨by (with_reducible repeat (first | apply Kd.zbv | apply Kd.zbz | apply Kd.zb7)); exact Kd.zbl (Kd.R_far (p := ⟨gb653, 1, none⟩) (Kd.R_far (p := ⟨gb653, 0, none⟩) (Kd.R_far (p := ⟨gb652, 1, none⟩) (Kd.R_far (p := ⟨gb652, 0, none⟩) (Kd.R_types (Kd.R_types HO651.out BK652.out (by decide)) BK653.out (by decide)) (fun _ hk => hk.1.2) (.slice Ao23 t640.length co23)) (fun _ hk => hk.1.2) (.slice Ao28 t643.length co28)) (fun _ hk => hk.2) (.slice Ao29 t646.length co29)) (fun _ hk => hk.2) (.slice Ao33 t649.length co33)) (fun _ hk => ⟨(by simp [Value.ownBlock]), hk.1.1⟩)⟩, ⟨by (with_reducible repeat (first | refine zak ?_ _ | refine zah ?_ | refine zai ?_ _)); refine zb8 ?_ NB636_653.out _; (with_reducible repeat (first | refine zak ?_ _ | refine zah ?_ | refine zai ?_ _)); refine zb8 ?_ NB636_653.out _; (with_reducible repeat (first | refine zak ?_ _ | refine zah ?_ | refine zai ?_ _)); refine zb8 ?_ NB636_652.out _; (with_reducible repeat (first | refine zak ?_ _ | refine zah ?_ | refine zai ?_ _)); refine zb8 ?_ NB636_652.out _; (with_reducible repeat (first | refine zak ?_ _ | refine zah ?_ | refine zai ?_ _)); exact BK636.out⟩, ⟨by (with_reducible repeat (first | refine zak ?_ _ | refine zah ?_ | refine zai ?_ _)); refine zb8 ?_ NB637_653.out _; (with_reducible repeat (first | refine zak ?_ _ | refine zah ?_ | refine zai ?_ _)); refine zb8 ?_ NB637_653.out _; (with_reducible repeat (first | refine zak ?_ _ | refine zah ?_ | refine zai ?_ _)); refine zb8 ?_ NB637_652.out _; (with_reducible repeat (first | refine zak ?_ _ | refine zah ?_ | refine zai ?_ _)); refine zb8 ?_ NB637_652.out _; (with_reducible repeat (first | refine zak ?_ _ | refine zah ?_ | refine zai ?_ _)); exact BK637.out⟩, ⟨by (with_reducible repeat (first | refine zak ?_ _ | refine zah ?_ | refine zai ?_ _)); refine zb8 ?_ NB652_653.out _; (with_reducible repeat (first | refine zak ?_ _ | refine zah ?_ | refine zai ?_ _)); refine zb8 ?_ NB652_653.out _; (with_reducible repeat (first | refine zak ?_ _ | refine zah ?_ | refine zai ?_ _)); refine zbb (cs := #[.slice Ao23 t640.length co23, .slice none 0 0]) ?_ 1 _ rfl; (with_reducible repeat (first | refine zak ?_ _ | refine zah ?_ | refine zai ?_ _)); refine zbb (cs := #[.slice none 0 0, .slice none 0 0]) ?_ 0 _ rfl; (with_reducible repeat (first | refine zak ?_ _ | refine zah ?_ | refine zai ?_ _)); exact BK652.out⟩, ⟨by (with_reducible repeat (first | refine zak ?_ _ | refine zah ?_ | refine zai ?_ _)); refine zbb (cs := #[.slice Ao29 t646.length co29, .slice none 0 0]) ?_ 1 _ rfl; (with_reducible repeat (first | refine zak ?_ _ | refine zah ?_ | refine zai ?_ _)); refine zbb (cs := #[.slice none 0 0, .slice none 0 0]) ?_ 0 _ rfl; (with_reducible repeat (first | refine zak ?_ _ | refine zah ?_ | refine zai ?_ _)); refine zb8 ?_ NB653_652.out _; (with_reducible repeat (first | refine zak ?_ _ | refine zah ?_ | refine zai ?_ _)); refine zb8 ?_ NB653_652.out _; (with_reducible repeat (first | refine zak ?_ _ | refine zah ?_ | refine zai ?_ _)); exact BK653.out⟩, ⟨zB HB⟩⟩
    case round =>
     clear H'
     try clear c1
     try clear c2
     try clear p2
     try clear c3
     try clear c5
     try clear p6
     try clear c9
     try clear c10
     try clear c10b0
     try clear c10b1
     try clear c14
     try clear c15
     try clear c18
     try clear c24
     try clear c25
     try clear c26
     try clear c30
     try clear c31
     try clear hcz19_0
     try clear hcz19_1
     try clear hcz27_0
     try clear hcz27_1
     try clear hcz32_0
     try clear hcz32_1
     try clear hfz19_0
     try clear hfz19_1
     try clear hfz27_0
     try clear hfz27_1
     try clear hfz32_0
     try clear hfz32_1
     try clear p2
     try clear p6
     obtain ⟨x12_2, x48_2, rfl, HA, HK2, HO_12, HO_653000, HO_653001, HO_654000, HO_654001, BK636, BK637, BK652, BK653, HB⟩ := hrel
     cases gk with
     | zero => exact absurd HA.out (by simp [zaa.l0])
     | succ k2 =>
      have H := HA.out
      clear HA
      simp only [zaa.l0] at H
      by_cases c34 : x48_2 < (l1_0.length : Int)
      ·
       rw [if_pos c34] at H
       have c34b0 : decide (x48_2 < (l1_0.length : Int)) = true := decide_eq_true c34
       clear c34
       by_cases c35 : 0 ≤ x48_2
       ·
        rw [if_pos c35] at H
        have c35b0 : decide (0 ≤ x48_2) = true := decide_eq_true c35
        clear c35
        by_cases c36 : x48_2 < (l1_0.length : Int)
        ·
         rw [if_pos c36] at H
         have c36b0 : decide (x48_2 < (l1_0.length : Int)) = true := decide_eq_true c36
         clear c36
         by_cases c37 : (rd l1_0 x48_2) < 1
         ·
          rw [if_pos c37] at H
          have c37b0 : decide ((rd l1_0 x48_2) < 1) = true := decide_eq_true c37
          clear c37
          obtain rfl := Option.some.inj H
          have p654 : 0 ≤ (x48_2 : Int) := of_decide_eq_true (by first | (with_reducible assumption) | assumption)
          have q654 : x48_2 < (l1_0.length : Int) := of_decide_eq_true (by first | (with_reducible assumption) | assumption)
          obtain ⟨ad654, e654, hx654_0⟩ := Kd.at_int HR1_0.out x48_2 p654 q654
          cases e654
          replace hx654_0 := (HB.out.cell (World.block_lt_of_cell? w _ hx654_0)).trans hx654_0
          replace p654 := eq_true p654
          replace q654 := eq_true q654
          go_wp2
          go_ret
          exact ⟨zW, zB HB⟩
         ·
          rw [if_neg c37] at H
          have c37b0 : decide ((rd l1_0 x48_2) < 1) = false := decide_eq_false c37
          clear c37
          by_cases c38 : (rd l1_0 x48_2) > 1000
          ·
           rw [if_pos c38] at H
           have c38b0 : decide (1000 < (rd l1_0 x48_2)) = true := decide_eq_true c38
           clear c38
           obtain rfl := Option.some.inj H
           have p654 : 0 ≤ (x48_2 : Int) := of_decide_eq_true (by first | (with_reducible assumption) | assumption)
           have q654 : x48_2 < (l1_0.length : Int) := of_decide_eq_true (by first | (with_reducible assumption) | assumption)
           obtain ⟨ad654, e654, hx654_0⟩ := Kd.at_int HR1_0.out x48_2 p654 q654
           cases e654
           replace hx654_0 := (HB.out.cell (World.block_lt_of_cell? w _ hx654_0)).trans hx654_0
           replace p654 := eq_true p654
           replace q654 := eq_true q654
           go_wp2
           go_ret
           exact ⟨zW, zB HB⟩
          ·
           rw [if_neg c38] at H
           have c38b0 : decide (1000 < (rd l1_0 x48_2)) = false := decide_eq_false c38
           clear c38
           by_cases c39 : x12_2.length < 17592186044416
           ·
            rw [if_pos c39] at H
            have LMc39 := zA c39
            clear c39
            obtain ⟨y655, hy655⟩ : ∃ y_ : List Int, y_ = (x12_2 ++ [wrap64 ((rd l1_0 x48_2) * (wrap64 (1 + (Int.tmod (wrap64 (a2)) 9))))]) := ⟨_, rfl⟩
            replace H : (zaa.l0 k2 l1_0 l1_1 (wrap64 (1 + (Int.tmod (wrap64 (a2)) 9))) y655 l1_0 (l1_0.length : Int) (wrap64 (x48_2 + 1)) t640 t643) = some r := by first | (rw [hy655]; with_reducible exact H) | (have H2_ := (Option.bind_some _ _).symm.trans H; rw [hy655]; with_reducible exact H2_) | (have H2_ := (Option.bind_some _ _).symm.trans H; with_reducible exact H2_) | with_reducible exact H | (rw [hy655]; exact H) | exact H
            have Ny655 := zA hy655
            clear hy655
            have H' := zA H
            clear H
            have p654 : 0 ≤ (x48_2 : Int) := of_decide_eq_true (by first | (with_reducible assumption) | assumption)
            have q654 : x48_2 < (l1_0.length : Int) := of_decide_eq_true (by first | (with_reducible assumption) | assumption)
            obtain ⟨ad654, e654, hx654_0⟩ := Kd.at_int HR1_0.out x48_2 p654 q654
            cases e654
            replace hx654_0 := (HB.out.cell (World.block_lt_of_cell? w _ hx654_0)).trans hx654_0
            replace p654 := eq_true p654
            replace q654 := eq_true q654
            go_wp2_with (first | ((with_reducible refine zbx (b := .append) (xs := #[.tmp 58, .tmp 62]) rfl ?_); (try (refine zcb (by rfl) ?_; dsimp only)); at_builtin; refine Kd.zda (Kd.int .i64) (w0 := w) w.heap.size rfl (.tmp 58) (.tmp 62) 24 3 (.int .i64 0) 8 rfl Tryz.underlying24 info3 rfl (by decide) (by omega) u12 x12_2 (wrap64 ((rd l1_0 x48_2) * (wrap64 (1 + (Int.tmod (wrap64 (a2)) 9))))) [.int .i64 (wrap64 ((rd l1_0 x48_2) * (wrap64 (1 + (Int.tmod (wrap64 (a2)) 9)))))] (fun k_ => some k_ ≠ (.slice Ao29 t646.length co29 : Value).ownBlock ∧ some k_ ≠ (.slice Ao33 t649.length co33 : Value).ownBlock) (fun _ => False) rfl rfl ?aP (fun _ hk => hk.elim) ?aF ?aO ?aB ?aS ?aL ?_; (case aP => exact rfl); (case aB => exact (zB HB)); (case aF => exact (fun k_ hk => ⟨Kd.fresh' (Kd.R_lt (zR HO_654000)) k_ hk, Kd.fresh' (Kd.R_lt (zR HO_654001)) k_ hk⟩)); (case aO => exact (zR HO_12)); (case aS => exact (za (zB HB))); (case aL => have := LMc39.out; omega); intro v656 w40 ho hb hg hat; rw [← Ny655.out] at ho; have n0_ := zA (Kd.V_afterv (ok := (fun k_ => some k_ ≠ (.slice Ao29 t646.length co29 : Value).ownBlock ∧ some k_ ≠ (.slice Ao33 t649.length co33 : Value).ownBlock ∧ k_ ≠ gb636 ∧ k_ ≠ gb637 ∧ k_ ≠ gb652 ∧ k_ ≠ gb653)) (by (with_reducible repeat (first | apply Kd.zbi | apply Kd.zbk | apply Kd.zbn)); exact Kd.zaq HO_653000.out (fun _ hk => ⟨⟨hk.2.1, ⟨hk.2.2.1, ⟨hk.2.2.2.1, ⟨hk.2.2.2.2.1, ⟨hk.2.2.2.2.2.1, hk.2.2.2.2.2.2⟩⟩⟩⟩⟩, hk.1⟩)) hg hat); have n1_ := zA (Kd.V_afterv (ok := (fun k_ => some k_ ≠ (.slice Ao29 t646.length co29 : Value).ownBlock ∧ some k_ ≠ (.slice Ao33 t649.length co33 : Value).ownBlock ∧ k_ ≠ gb636 ∧ k_ ≠ gb637 ∧ k_ ≠ gb652 ∧ k_ ≠ gb653)) (by (with_reducible repeat (first | apply Kd.zbi | apply Kd.zbk | apply Kd.zbn)); exact Kd.zaq HO_653001.out (fun _ hk => ⟨⟨hk.2.1, ⟨hk.2.2.1, ⟨hk.2.2.2.1, ⟨hk.2.2.2.2.1, ⟨hk.2.2.2.2.2.1, hk.2.2.2.2.2.2⟩⟩⟩⟩⟩, hk.1⟩)) hg hat); have n2_ := zA (Kd.R_after (ok := (fun k_ => some k_ ≠ (.slice Ao33 t649.length co33 : Value).ownBlock)) (by (with_reducible repeat (first | apply Kd.zbv | apply Kd.zbz | apply Kd.zb7)); exact Kd.zbl HO_654000.out (fun _ hk => ⟨hk.2, hk.1⟩)) hg hat); have n3_ := zA (Kd.R_after (ok := (fun k_ => some k_ ≠ (.slice Ao29 t646.length co29 : Value).ownBlock)) (by (with_reducible repeat (first | apply Kd.zbv | apply Kd.zbz | apply Kd.zb7)); exact Kd.zbl HO_654001.out (fun _ hk => ⟨hk.2, hk.1⟩)) hg hat); have n4_ := zA (blk_grown (g := gb636) (o := .cells #[.int .i64 a0_0, .int .i64 a0_1] 23 (0, 0)) (zK BK636) hg (Kd.R_ne HO_12.out BK636.out (by decide))); have n5_ := zA (blk_grown (g := gb637) (o := .cells #[.slice (some ad654) l1_0.length c1_0, .slice A1_1 l1_1.length c1_1] 43 (0, 0)) (zK BK637) hg (Kd.R_ne HO_12.out BK637.out (by decide))); have n6_ := zA (blk_grown (g := gb652) (o := .cells #[.slice Ao23 t640.length co23, .slice Ao28 t643.length co28] 29 (0, 0)) (zK BK652) hg (Kd.R_ne HO_12.out BK652.out (by decide))); have n7_ := zA (blk_grown (g := gb653) (o := .cells #[.slice Ao29 t646.length co29, .slice Ao33 t649.length co33] 32 (0, 0)) (zK BK653) hg (Kd.R_ne HO_12.out BK653.out (by decide))); have n8_ := zA (hb); have n9_ := zA (ho); clear HO_653000 HO_653001 HO_654000 HO_654001 BK636 BK637 BK652 BK653 HB HO_12; have HO_653000 := n0_; have HO_653001 := n1_; have HO_654000 := n2_; have HO_654001 := n3_; have BK636 := n4_; have BK637 := n5_; have BK652 := n6_; have BK653 := n7_; have HB := n8_; have HO657 := n9_; clear n0_ n1_ n2_ n3_ n4_ n5_ n6_ n7_ n8_ n9_ ho hb hg hat))
            go_roundg k2
            case measure => have := HJ3.out; have := HK2.out; omega
            case rel => exact ⟨(y655), (wrap64 (x48_2 + 1)), (zF), H', ⟨by have := HJ3.out; have := HK2.out; omega⟩, ⟨zR HO657⟩, ⟨by (with_reducible repeat (first | apply Kd.zbi | apply Kd.zbk | apply Kd.zbn)); exact Kd.zaq HO_653000.out (fun _ hk => ⟨hk.2, ⟨hk.1.1, ⟨hk.1.2.1, ⟨hk.1.2.2.1, ⟨hk.1.2.2.2.1, ⟨hk.1.2.2.2.2.1, hk.1.2.2.2.2.2⟩⟩⟩⟩⟩⟩)⟩, ⟨by (with_reducible repeat (first | apply Kd.zbi | apply Kd.zbk | apply Kd.zbn)); exact Kd.zaq HO_653001.out (fun _ hk => ⟨hk.2, ⟨hk.1.1, ⟨hk.1.2.1, ⟨hk.1.2.2.1, ⟨hk.1.2.2.2.1, ⟨hk.1.2.2.2.2.1, hk.1.2.2.2.2.2⟩⟩⟩⟩⟩⟩)⟩, ⟨by (with_reducible repeat (first | apply Kd.zbv | apply Kd.zbz | apply Kd.zb7)); exact Kd.zbl HO_654000.out (fun _ hk => ⟨hk.2, hk.1⟩)⟩, ⟨by (with_reducible repeat (first | apply Kd.zbv | apply Kd.zbz | apply Kd.zb7)); exact Kd.zbl HO_654001.out (fun _ hk => ⟨hk.2, hk.1⟩)⟩, ⟨zK BK636⟩, ⟨zK BK637⟩, ⟨zK BK652⟩, ⟨zK BK653⟩, ⟨zB HB⟩⟩
           ·
            rw [if_neg c39] at H
            exact absurd H (by simp)
        ·
         rw [if_neg c36] at H
         exact absurd H (by simp)
       ·
        rw [if_neg c35] at H
        exact absurd H (by simp)
      ·
       rw [if_neg c34] at H
       have c34b0 : decide (x48_2 < (l1_0.length : Int)) = false := decide_eq_false c34
       clear c34
       replace H := zO H
       obtain ⟨⟨t658, t661⟩, A410, H⟩ := H
       try dsimp only at H
       have A41 := zA A410
       clear A410
       replace H := zO H
       obtain ⟨⟨t662, t665⟩, A420, H⟩ := H
       try dsimp only at H
       have A42 := zA A420
       clear A420
       have HC43 := zA H
       clear H
       have hnb44 := NB652_636.out
       have hnc44 := NB636_652.out
       have hnb45 := NB652_637.out
       have hnc45 := NB637_652.out
       have hnb46 := NB652_653.out
       have hnc46 := NB653_652.out
       have hcz47_0 : wr.cell? ⟨gb652, 0, none⟩ = some (.slice Ao23 t640.length co23) := (zac BK652.out 0).trans rfl
       have hcz47_1 : wr.cell? ⟨gb652, 1, none⟩ = some (.slice Ao28 t643.length co28) := (zac BK652.out 1).trans rfl
       have hfz47_0 := zaj BK652.out 0
       have hfz47_1 := zaj BK652.out 1
       go_upto_region 16 with (first | ((with_reducible refine zad (f := 16) rfl ?_); refine zaz (some 69) rfl rfl Tryz.func16 (by kernel_rfl) rfl #[.agg #[.slice Ao23 t640.length co23, .slice Ao28 t643.length co28], .slice A1_0 l1_0.length c1_0, .slice A1_1 l1_1.length c1_1] rfl (zE) ?_; (with_reducible refine (zbu.calls k2 _ _ t640 _ _ t643 _ _ l1_0 _ _ l1_1 t658 t661 _ ?side1 ?side2 ?side3 ?side4 ?side5 ?side6 ?side7 ?side8 A41.out).mono ?_); (case side1 => exact zJ (Kd.zan HO_653000.out).2.2); (case side2 => exact (Kd.zan HO_653000.out).2.1); (case side3 => exact zJ (Kd.zan HO_653001.out).2.2); (case side4 => exact (Kd.zan HO_653001.out).2.1); (case side5 => exact zJ (Kd.zax HR1_0.out HB.out)); (case side6 => exact HC1_0.out); (case side7 => exact zJ (Kd.zax HR1_1.out HB.out)); (case side8 => exact HC1_1.out); rintro e w48 ⟨v659, rfl, ho0, hb⟩; refine ⟨_, rfl, ?_⟩; have n0_ := zA (Kd.zbt (zR HO_12) hb); have n1_ := zA (Kd.zb2 (zV HO_653000) (Kd.N_base ho0) hb); have n2_ := zA (Kd.zb2 (zV HO_653001) (Kd.N_base ho0) hb); have n3_ := zA (Kd.zbt (zR HO_654000) hb); have n4_ := zA (Kd.zbt (zR HO_654001) hb); have n5_ := zA (Kd.N_lower (Kd.zdh (ok' := fun k_ => some k_ ≠ (u12 : Value).ownBlock ∧ some k_ ≠ (.slice Ao29 t646.length co29 : Value).ownBlock ∧ some k_ ≠ (.slice Ao33 t649.length co33 : Value).ownBlock ∧ k_ ≠ gb636 ∧ k_ ≠ gb637 ∧ k_ ≠ gb652 ∧ k_ ≠ gb653) ho0 (fun k_ hk_ => ⟨(Kd.fresh' (Kd.R_lt (zR HO_12)) k_ hk_), (Kd.fresh' (Kd.R_lt (zR HO_654000)) k_ hk_), (Kd.fresh' (Kd.R_lt (zR HO_654001)) k_ hk_), (Kd.freshB (g := gb636) (o := .cells #[.int .i64 a0_0, .int .i64 a0_1] 23 (0, 0)) (zK BK636) k_ hk_), (Kd.freshB (g := gb637) (o := .cells #[.slice A1_0 l1_0.length c1_0, .slice A1_1 l1_1.length c1_1] 43 (0, 0)) (zK BK637) k_ hk_), (Kd.freshB (g := gb652) (o := .cells #[.slice Ao23 t640.length co23, .slice Ao28 t643.length co28] 29 (0, 0)) (zK BK652) k_ hk_), (Kd.freshB (g := gb653) (o := .cells #[.slice Ao29 t646.length co29, .slice Ao33 t649.length co33] 32 (0, 0)) (zK BK653) k_ hk_)⟩)) (za (zB HB))); have n6_ := zA (zae (g := gb636) (o := .cells #[.int .i64 a0_0, .int .i64 a0_1] 23 (0, 0)) (zK BK636) hb); have n7_ := zA (zae (g := gb637) (o := .cells #[.slice A1_0 l1_0.length c1_0, .slice A1_1 l1_1.length c1_1] 43 (0, 0)) (zK BK637) hb); have n8_ := zA (zae (g := gb652) (o := .cells #[.slice Ao23 t640.length co23, .slice Ao28 t643.length co28] 29 (0, 0)) (zK BK652) hb); have n9_ := zA (zae (g := gb653) (o := .cells #[.slice Ao29 t646.length co29, .slice Ao33 t649.length co33] 32 (0, 0)) (zK BK653) hb); have n10_ := zA (zab (zB HB) hb); clear HO_12 HO_653000 HO_653001 HO_654000 HO_654001 BK636 BK637 BK652 BK653 HB; have HO_12 := n0_; have HO_653000 := n1_; have HO_653001 := n2_; have HO_654000 := n3_; have HO_654001 := n4_; have HO660 := n5_; have BK636 := n6_; have BK637 := n7_; have BK652 := n8_; have BK653 := n9_; have HB := n10_; clear n0_ n1_ n2_ n3_ n4_ n5_ n6_ n7_ n8_ n9_ n10_; (try clear hb); (try clear hb2); (try clear hk); (try clear hi); (try clear ho0); have hcz49_0 : w48.cell? ⟨gb652, 0, none⟩ = some (.slice Ao23 t640.length co23) := (zac BK652.out 0).trans rfl; have hcz49_1 : w48.cell? ⟨gb652, 1, none⟩ = some (.slice Ao28 t643.length co28) := (zac BK652.out 1).trans rfl; have hfz49_0 := zaj BK652.out 0; have hfz49_1 := zaj BK652.out 1; obtain ⟨Ao50, co50, eo50⟩ := Kd.zbm HO_12.out; subst eo50) | ((with_reducible refine zad (f := 16) rfl ?_); refine zaz (some 76) rfl rfl Tryz.func16 (by kernel_rfl) rfl #[.agg #[.slice Ao23 t640.length co23, .slice Ao28 t643.length co28], .slice Ao50 x12_2.length co50, .slice A1_1 l1_1.length c1_1] rfl (zE) ?_; (with_reducible refine (zbu.calls k2 _ _ t640 _ _ t643 _ _ x12_2 _ _ l1_1 t662 t665 _ ?side1 ?side2 ?side3 ?side4 ?side5 ?side6 ?side7 ?side8 A42.out).mono ?_); (case side1 => exact zJ (Kd.zan HO_653000.out).2.2); (case side2 => exact (Kd.zan HO_653000.out).2.1); (case side3 => exact zJ (Kd.zan HO_653001.out).2.2); (case side4 => exact (Kd.zan HO_653001.out).2.1); (case side5 => exact zJ (Kd.zav HO_12.out).2.2); (case side6 => exact (Kd.zav HO_12.out).2.1); (case side7 => exact zJ (Kd.zax HR1_1.out HB.out)); (case side8 => exact HC1_1.out); rintro e w51 ⟨v663, rfl, ho0, hb⟩; refine ⟨_, rfl, ?_⟩; have n0_ := zA (Kd.zbt (zR HO_12) hb); have n1_ := zA (Kd.zb2 (zV HO_653000) (Kd.N_base ho0) hb); have n2_ := zA (Kd.zb2 (zV HO_653001) (Kd.N_base ho0) hb); have n3_ := zA (Kd.zbt (zR HO_654000) hb); have n4_ := zA (Kd.zbt (zR HO_654001) hb); have n5_ := zA (Kd.N_elder' (zN HO660) (Kd.N_base ho0) hb); have n6_ := zA (Kd.N_lower (Kd.zdh (ok' := fun k_ => some k_ ≠ (.slice Ao50 x12_2.length co50 : Value).ownBlock ∧ some k_ ≠ (.slice Ao29 t646.length co29 : Value).ownBlock ∧ some k_ ≠ (.slice Ao33 t649.length co33 : Value).ownBlock ∧ some k_ ≠ (v659 : Value).ownBlock ∧ k_ ≠ gb636 ∧ k_ ≠ gb637 ∧ k_ ≠ gb652 ∧ k_ ≠ gb653) ho0 (fun k_ hk_ => ⟨(Kd.fresh' (Kd.R_lt (zR HO_12)) k_ hk_), (Kd.fresh' (Kd.R_lt (zR HO_654000)) k_ hk_), (Kd.fresh' (Kd.R_lt (zR HO_654001)) k_ hk_), (Kd.fresh' (Kd.N_lt (zN HO660)) k_ hk_), (Kd.freshB (g := gb636) (o := .cells #[.int .i64 a0_0, .int .i64 a0_1] 23 (0, 0)) (zK BK636) k_ hk_), (Kd.freshB (g := gb637) (o := .cells #[.slice A1_0 l1_0.length c1_0, .slice A1_1 l1_1.length c1_1] 43 (0, 0)) (zK BK637) k_ hk_), (Kd.freshB (g := gb652) (o := .cells #[.slice Ao23 t640.length co23, .slice Ao28 t643.length co28] 29 (0, 0)) (zK BK652) k_ hk_), (Kd.freshB (g := gb653) (o := .cells #[.slice Ao29 t646.length co29, .slice Ao33 t649.length co33] 32 (0, 0)) (zK BK653) k_ hk_)⟩)) (za (zB HB))); have n7_ := zA (zae (g := gb636) (o := .cells #[.int .i64 a0_0, .int .i64 a0_1] 23 (0, 0)) (zK BK636) hb); have n8_ := zA (zae (g := gb637) (o := .cells #[.slice A1_0 l1_0.length c1_0, .slice A1_1 l1_1.length c1_1] 43 (0, 0)) (zK BK637) hb); have n9_ := zA (zae (g := gb652) (o := .cells #[.slice Ao23 t640.length co23, .slice Ao28 t643.length co28] 29 (0, 0)) (zK BK652) hb); have n10_ := zA (zae (g := gb653) (o := .cells #[.slice Ao29 t646.length co29, .slice Ao33 t649.length co33] 32 (0, 0)) (zK BK653) hb); have n11_ := zA (zab (zB HB) hb); clear HO_12 HO_653000 HO_653001 HO_654000 HO_654001 HO660 BK636 BK637 BK652 BK653 HB; have HO_12 := n0_; have HO_653000 := n1_; have HO_653001 := n2_; have HO_654000 := n3_; have HO_654001 := n4_; have HO660 := n5_; have HO664 := n6_; have BK636 := n7_; have BK637 := n8_; have BK652 := n9_; have BK653 := n10_; have HB := n11_; clear n0_ n1_ n2_ n3_ n4_ n5_ n6_ n7_ n8_ n9_ n10_ n11_; (try clear hb); (try clear hb2); (try clear hk); (try clear hi); (try clear ho0)))
       (try simp only [Act.put, zs1, zs2, zs3])
       go_cut [88] (fun v88 wc => ∃ (kq : Nat) (x88_42 : Bool), v88 = .bool x88_42 ∧ Aside0 (zaa.j2 kq t658 t661 t662 x88_42 t640 t643 = some r) ∧ Aside0 (kq ≤ k2) ∧ Aside0 (Kd.N k29 29 wc w.heap.size (fun k_ => some k_ ≠ (v663 : Value).ownBlock ∧ some k_ ≠ ((.slice Ao29 t646.length co29) : Value).ownBlock ∧ some k_ ≠ ((.slice Ao33 t649.length co33) : Value).ownBlock ∧ k_ ≠ gb636 ∧ k_ ≠ gb637 ∧ k_ ≠ gb652 ∧ k_ ≠ gb653) v659 t658) ∧ Aside0 (Kd.N k29 29 wc w.heap.size (fun k_ => some k_ ≠ (v659 : Value).ownBlock ∧ some k_ ≠ ((.slice Ao29 t646.length co29) : Value).ownBlock ∧ some k_ ≠ ((.slice Ao33 t649.length co33) : Value).ownBlock ∧ k_ ≠ gb636 ∧ k_ ≠ gb637 ∧ k_ ≠ gb652 ∧ k_ ≠ gb653) v663 t662) ∧ Aside0 (Kd.V (Kd.int .u64) 82 wc w.heap.size (fun k_ => some k_ ≠ (v659 : Value).ownBlock ∧ some k_ ≠ (v663 : Value).ownBlock ∧ some k_ ≠ ((.slice Ao29 t646.length co29) : Value).ownBlock ∧ some k_ ≠ ((.slice Ao33 t649.length co33) : Value).ownBlock ∧ k_ ≠ gb636 ∧ k_ ≠ gb637 ∧ k_ ≠ gb652 ∧ k_ ≠ gb653) (.slice Ao23 t640.length co23) t640) ∧ Aside0 (Kd.V (Kd.int .u64) 82 wc w.heap.size (fun k_ => some k_ ≠ (v659 : Value).ownBlock ∧ some k_ ≠ (v663 : Value).ownBlock ∧ some k_ ≠ ((.slice Ao29 t646.length co29) : Value).ownBlock ∧ some k_ ≠ ((.slice Ao33 t649.length co33) : Value).ownBlock ∧ k_ ≠ gb636 ∧ k_ ≠ gb637 ∧ k_ ≠ gb652 ∧ k_ ≠ gb653) (.slice Ao28 t643.length co28) t643) ∧ Aside0 (Kd.R (Kd.int .i64) 3 wc w.heap.size (fun k_ => some k_ ≠ ((.slice Ao33 t649.length co33) : Value).ownBlock) (.slice Ao29 t646.length co29) t646) ∧ Aside0 (Kd.R (Kd.int .i64) 3 wc w.heap.size (fun k_ => some k_ ≠ ((.slice Ao29 t646.length co29) : Value).ownBlock) (.slice Ao33 t649.length co33) t649) ∧ Aside0 (wc.heap[gb636]? = some (.cells #[.int .i64 a0_0, .int .i64 a0_1] 23 (0, 0))) ∧ Aside0 (wc.heap[gb637]? = some (.cells #[(.slice A1_0 l1_0.length c1_0), (.slice A1_1 l1_1.length c1_1)] 43 (0, 0))) ∧ Aside0 (wc.heap[gb652]? = some (.cells #[(.slice Ao23 t640.length co23), (.slice Ao28 t643.length co28)] 29 (0, 0))) ∧ Aside0 (wc.heap[gb653]? = some (.cells #[(.slice Ao29 t646.length co29), (.slice Ao33 t649.length co33)] 32 (0, 0))) ∧ Aside0 (Below w.heap.size w wc))
       case first =>
        have H := HC43.out
        clear HC43
        by_cases c52 : t661 = t665
        ·
         rw [if_pos c52] at H
         have c52b0 : (t661 == t665) = true := beq_iff_eq.mpr c52
         have c52b1 : (t661 != t665) = false := bne_eq_false_iff_eq.mpr c52
         clear c52
         (first | rw [c52b0] | (simp only [i64_w, i32_w]; rw [c52b0]) | skip)
         have H' := zA H
         clear H
         obtain ⟨Ao53, co53, eo53⟩ := Kd.N_slice HO660.out
         subst eo53
         obtain ⟨Ao54, co54, eo54⟩ := Kd.N_slice HO664.out
         subst eo54
         go_wp2
         go_meet
         case rel => exact ⟨_, (((t658.length : Int) != (t662.length : Int))), (zF), H', ⟨by have := HJ3.out; have := HK2.out; first | omega | exact Nat.le_refl _⟩, ⟨by (with_reducible repeat (first | apply Kd.N_alloc | apply Kd.N_drewN | apply Kd.zdk)); exact Kd.zdh HO660.out (fun _ hk => ⟨hk.2, ⟨hk.1.2.1, ⟨hk.1.2.2.1, ⟨hk.1.2.2.2.1, ⟨hk.1.2.2.2.2.1, ⟨hk.1.2.2.2.2.2.1, hk.1.2.2.2.2.2.2⟩⟩⟩⟩⟩⟩)⟩, ⟨by (with_reducible repeat (first | apply Kd.N_alloc | apply Kd.N_drewN | apply Kd.zdk)); exact Kd.zdh HO664.out (fun _ hk => ⟨hk.2.2.2.1, ⟨hk.2.1, ⟨hk.2.2.1, ⟨hk.2.2.2.2.1, ⟨hk.2.2.2.2.2.1, ⟨hk.2.2.2.2.2.2.1, hk.2.2.2.2.2.2.2⟩⟩⟩⟩⟩⟩)⟩, ⟨by (with_reducible repeat (first | apply Kd.zbi | apply Kd.zbk | apply Kd.zbn)); exact Kd.zaq HO_653000.out (fun _ hk => ⟨hk.1.2, ⟨hk.2, ⟨hk.1.1.2.1, ⟨hk.1.1.2.2.1, ⟨hk.1.1.2.2.2.1, ⟨hk.1.1.2.2.2.2.1, ⟨hk.1.1.2.2.2.2.2.1, hk.1.1.2.2.2.2.2.2⟩⟩⟩⟩⟩⟩⟩)⟩, ⟨by (with_reducible repeat (first | apply Kd.zbi | apply Kd.zbk | apply Kd.zbn)); exact Kd.zaq HO_653001.out (fun _ hk => ⟨hk.1.2, ⟨hk.2, ⟨hk.1.1.2.1, ⟨hk.1.1.2.2.1, ⟨hk.1.1.2.2.2.1, ⟨hk.1.1.2.2.2.2.1, ⟨hk.1.1.2.2.2.2.2.1, hk.1.1.2.2.2.2.2.2⟩⟩⟩⟩⟩⟩⟩)⟩, ⟨by (with_reducible repeat (first | apply Kd.zbv | apply Kd.zbz | apply Kd.zb7)); exact Kd.zbl HO_654000.out (fun _ hk => hk.2)⟩, ⟨by (with_reducible repeat (first | apply Kd.zbv | apply Kd.zbz | apply Kd.zb7)); exact Kd.zbl HO_654001.out (fun _ hk => hk.2)⟩, ⟨zK BK636⟩, ⟨zK BK637⟩, ⟨zK BK652⟩, ⟨zK BK653⟩, ⟨zB HB⟩⟩
        ·
         rw [if_neg c52] at H
         have c52b0 : (t661 == t665) = false := beq_eq_false_iff_ne.mpr c52
         have c52b1 : (t661 != t665) = true := bne_iff_ne.mpr c52
         (first | rw [c52b0] | (simp only [i64_w, i32_w]; rw [c52b0]) | skip)
         have H' := zA H
         clear H
         go_wp2
         go_meet
         case rel => exact ⟨_, (true), (zF), H', ⟨by have := HJ3.out; have := HK2.out; first | omega | exact Nat.le_refl _⟩, ⟨by (with_reducible repeat (first | apply Kd.N_alloc | apply Kd.N_drewN | apply Kd.zdk)); exact Kd.zdh HO660.out (fun _ hk => ⟨hk.2, ⟨hk.1.2.1, ⟨hk.1.2.2.1, ⟨hk.1.2.2.2.1, ⟨hk.1.2.2.2.2.1, ⟨hk.1.2.2.2.2.2.1, hk.1.2.2.2.2.2.2⟩⟩⟩⟩⟩⟩)⟩, ⟨by (with_reducible repeat (first | apply Kd.N_alloc | apply Kd.N_drewN | apply Kd.zdk)); exact Kd.zdh HO664.out (fun _ hk => ⟨hk.2.2.2.1, ⟨hk.2.1, ⟨hk.2.2.1, ⟨hk.2.2.2.2.1, ⟨hk.2.2.2.2.2.1, ⟨hk.2.2.2.2.2.2.1, hk.2.2.2.2.2.2.2⟩⟩⟩⟩⟩⟩)⟩, ⟨by (with_reducible repeat (first | apply Kd.zbi | apply Kd.zbk | apply Kd.zbn)); exact Kd.zaq HO_653000.out (fun _ hk => ⟨hk.1.2, ⟨hk.2, ⟨hk.1.1.2.1, ⟨hk.1.1.2.2.1, ⟨hk.1.1.2.2.2.1, ⟨hk.1.1.2.2.2.2.1, ⟨hk.1.1.2.2.2.2.2.1, hk.1.1.2.2.2.2.2.2⟩⟩⟩⟩⟩⟩⟩)⟩, ⟨by (with_reducible repeat (first | apply Kd.zbi | apply Kd.zbk | apply Kd.zbn)); exact Kd.zaq HO_653001.out (fun _ hk => ⟨hk.1.2, ⟨hk.2, ⟨hk.1.1.2.1, ⟨hk.1.1.2.2.1, ⟨hk.1.1.2.2.2.1, ⟨hk.1.1.2.2.2.2.1, ⟨hk.1.1.2.2.2.2.2.1, hk.1.1.2.2.2.2.2.2⟩⟩⟩⟩⟩⟩⟩)⟩, ⟨by (with_reducible repeat (first | apply Kd.zbv | apply Kd.zbz | apply Kd.zb7)); exact Kd.zbl HO_654000.out (fun _ hk => hk.2)⟩, ⟨by (with_reducible repeat (first | apply Kd.zbv | apply Kd.zbz | apply Kd.zb7)); exact Kd.zbl HO_654001.out (fun _ hk => hk.2)⟩, ⟨zK BK636⟩, ⟨zK BK637⟩, ⟨zK BK652⟩, ⟨zK BK653⟩, ⟨zB HB⟩⟩
       case rest =>
        clear HC43
        try clear c1
        try clear c2
        try clear p2
        try clear c3
        try clear c4
        try clear c5
        try clear p6
        try clear q6
        try clear hx6
        try clear c9
        try clear c10
        try clear c10b0
        try clear c10b1
        try clear c14
        try clear c15
        try clear c16
        try clear c18
        try clear c24
        try clear c25
        try clear c26
        try clear c30
        try clear c31
        try clear c34
        try clear c34b0
        try clear c35
        try clear c35b0
        try clear c36
        try clear c36b0
        try clear c37
        try clear c37b0
        try clear c38
        try clear c38b0
        try clear c39
        try clear c44
        try clear c45
        try clear c46
        try clear c52
        try clear c52b0
        try clear c52b1
        try clear hcz19_0
        try clear hcz19_1
        try clear hcz27_0
        try clear hcz27_1
        try clear hcz32_0
        try clear hcz32_1
        try clear hcz47_0
        try clear hcz47_1
        try clear hcz49_0
        try clear hcz49_1
        try clear hfz19_0
        try clear hfz19_1
        try clear hfz27_0
        try clear hfz27_1
        try clear hfz32_0
        try clear hfz32_1
        try clear hfz47_0
        try clear hfz47_1
        try clear hfz49_0
        try clear hfz49_1
        try clear hx654_0
        try clear p2
        try clear p6
        try clear p654
        try clear q654
        obtain ⟨kq, x88_42, rfl, HA, HJ42, HO_15, HO_17, HO_653000, HO_653001, HO_654000, HO_654001, BK636, BK637, BK652, BK653, HB⟩ := hcut
        cases kq with
        | zero => exact absurd HA.out (by simp [zaa.j2])
        | succ kj42 =>
         have H := HA.out
         clear HA
         simp only [zaa.j2] at H
         by_cases c55 : x88_42 = true
         ·
          subst c55
          rw [if_pos rfl] at H
          exact absurd H (by simp)
         ·
          replace c55 := Bool.eq_false_iff.mpr c55
          subst c55
          rw [if_neg (show ¬ (false = true) by decide)] at H
          have H' := zA H
          clear H
          obtain ⟨Ao56, co56, eo56⟩ := Kd.N_slice HO_15.out
          subst eo56
          go_wp2
          go_loopg [91] kj42 (fun kq v91 w' => ∃ (x91_4 : Int), v91 = .int .i64 x91_4 ∧ Aside0 (zaa.l1 kq t658 t661 t662 (t658.length : Int) x91_4 t640 t643 = some r) ∧ Aside0 (kq ≤ kj42) ∧ Aside0 (Kd.N k29 29 w' w.heap.size (fun k_ => some k_ ≠ (v663 : Value).ownBlock ∧ some k_ ≠ ((.slice Ao29 t646.length co29) : Value).ownBlock ∧ some k_ ≠ ((.slice Ao33 t649.length co33) : Value).ownBlock ∧ k_ ≠ gb636 ∧ k_ ≠ gb637 ∧ k_ ≠ gb652 ∧ k_ ≠ gb653) (.slice Ao56 t658.length co56) t658) ∧ Aside0 (Kd.N k29 29 w' w.heap.size (fun k_ => some k_ ≠ ((.slice Ao56 t658.length co56) : Value).ownBlock ∧ some k_ ≠ ((.slice Ao29 t646.length co29) : Value).ownBlock ∧ some k_ ≠ ((.slice Ao33 t649.length co33) : Value).ownBlock ∧ k_ ≠ gb636 ∧ k_ ≠ gb637 ∧ k_ ≠ gb652 ∧ k_ ≠ gb653) v663 t662) ∧ Aside0 (Kd.V (Kd.int .u64) 82 w' w.heap.size (fun k_ => some k_ ≠ ((.slice Ao56 t658.length co56) : Value).ownBlock ∧ some k_ ≠ (v663 : Value).ownBlock ∧ some k_ ≠ ((.slice Ao29 t646.length co29) : Value).ownBlock ∧ some k_ ≠ ((.slice Ao33 t649.length co33) : Value).ownBlock ∧ k_ ≠ gb636 ∧ k_ ≠ gb637 ∧ k_ ≠ gb652 ∧ k_ ≠ gb653) (.slice Ao23 t640.length co23) t640) ∧ Aside0 (Kd.V (Kd.int .u64) 82 w' w.heap.size (fun k_ => some k_ ≠ ((.slice Ao56 t658.length co56) : Value).ownBlock ∧ some k_ ≠ (v663 : Value).ownBlock ∧ some k_ ≠ ((.slice Ao29 t646.length co29) : Value).ownBlock ∧ some k_ ≠ ((.slice Ao33 t649.length co33) : Value).ownBlock ∧ k_ ≠ gb636 ∧ k_ ≠ gb637 ∧ k_ ≠ gb652 ∧ k_ ≠ gb653) (.slice Ao28 t643.length co28) t643) ∧ Aside0 (Kd.R (Kd.int .i64) 3 w' w.heap.size (fun k_ => some k_ ≠ ((.slice Ao33 t649.length co33) : Value).ownBlock) (.slice Ao29 t646.length co29) t646) ∧ Aside0 (Kd.R (Kd.int .i64) 3 w' w.heap.size (fun k_ => some k_ ≠ ((.slice Ao29 t646.length co29) : Value).ownBlock) (.slice Ao33 t649.length co33) t649) ∧ Aside0 (w'.heap[gb636]? = some (.cells #[.int .i64 a0_0, .int .i64 a0_1] 23 (0, 0))) ∧ Aside0 (w'.heap[gb637]? = some (.cells #[(.slice A1_0 l1_0.length c1_0), (.slice A1_1 l1_1.length c1_1)] 43 (0, 0))) ∧ Aside0 (w'.heap[gb652]? = some (.cells #[(.slice Ao23 t640.length co23), (.slice Ao28 t643.length co28)] 29 (0, 0))) ∧ Aside0 (w'.heap[gb653]? = some (.cells #[(.slice Ao29 t646.length co29), (.slice Ao33 t649.length co33)] 32 (0, 0))) ∧ Aside0 (Below w.heap.size w w'))
          case atStart => exact ⟨(0), (zF), H', ⟨Nat.le_refl _⟩, ⟨zN HO_15⟩, ⟨zN HO_17⟩, ⟨zV HO_653000⟩, ⟨zV HO_653001⟩, ⟨zR HO_654000⟩, ⟨zR HO_654001⟩, ⟨zK BK636⟩, ⟨zK BK637⟩, ⟨zK BK652⟩, ⟨zK BK653⟩, ⟨zB HB⟩⟩
          case round =>
           clear H'
           try clear c1
           try clear c2
           try clear p2
           try clear c3
           try clear c4
           try clear c5
           try clear p6
           try clear q6
           try clear hx6
           try clear c9
           try clear c10
           try clear c10b0
           try clear c10b1
           try clear c14
           try clear c15
           try clear c16
           try clear c18
           try clear c24
           try clear c25
           try clear c26
           try clear c30
           try clear c31
           try clear c34
           try clear c34b0
           try clear c35
           try clear c35b0
           try clear c36
           try clear c36b0
           try clear c37
           try clear c37b0
           try clear c38
           try clear c38b0
           try clear c39
           try clear c44
           try clear c45
           try clear c46
           try clear c52
           try clear c52b0
           try clear c52b1
           try clear c55
           try clear hcz19_0
           try clear hcz19_1
           try clear hcz27_0
           try clear hcz27_1
           try clear hcz32_0
           try clear hcz32_1
           try clear hcz47_0
           try clear hcz47_1
           try clear hcz49_0
           try clear hcz49_1
           try clear hfz19_0
           try clear hfz19_1
           try clear hfz27_0
           try clear hfz27_1
           try clear hfz32_0
           try clear hfz32_1
           try clear hfz47_0
           try clear hfz47_1
           try clear hfz49_0
           try clear hfz49_1
           try clear hx654_0
           try clear p2
           try clear p6
           try clear p654
           try clear q6
           try clear q654
           obtain ⟨x91_4, rfl, HA, HK4, HO_15, HO_17, HO_653000, HO_653001, HO_654000, HO_654001, BK636, BK637, BK652, BK653, HB⟩ := hrel
           cases gk with
           | zero => exact absurd HA.out (by simp [zaa.l1])
           | succ k4 =>
            have H := HA.out
            clear HA
            simp only [zaa.l1] at H
            by_cases c57 : x91_4 < (t658.length : Int)
            ·
             rw [if_pos c57] at H
             have c57b0 : decide (x91_4 < (t658.length : Int)) = true := decide_eq_true c57
             clear c57
             by_cases c58 : 0 ≤ x91_4
             ·
              rw [if_pos c58] at H
              have c58b0 : decide (0 ≤ x91_4) = true := decide_eq_true c58
              clear c58
              by_cases c59 : x91_4 < (t658.length : Int)
              ·
               rw [if_pos c59] at H
               have c59b0 : decide (x91_4 < (t658.length : Int)) = true := decide_eq_true c59
               clear c59
               by_cases c60 : x91_4 < (t662.length : Int)
               ·
                rw [if_pos c60] at H
                have c60b0 : decide (x91_4 < (t662.length : Int)) = true := decide_eq_true c60
                clear c60
                replace H := zO H
                obtain ⟨t668, A610, H⟩ := H
                try dsimp only at H
                have A61 := zA A610
                clear A610
                by_cases c62 : t668 = 0
                ·
                 rw [if_pos c62] at H
                 have c62b0 : (t668 == 0) = true := beq_iff_eq.mpr c62
                 have c62b1 : (t668 != 0) = false := bne_eq_false_iff_eq.mpr c62
                 clear c62
                 have H' := zA H
                 clear H
                 try go_wp2
                 have n0_ := zA (Kd.zdk HO_15.out)
                 have n1_ := zA (Kd.zdk HO_17.out)
                 have n2_ := zA (Kd.zbn HO_653000.out)
                 have n3_ := zA (Kd.zbn HO_653001.out)
                 have n4_ := zA (Kd.zb7 HO_654000.out)
                 have n5_ := zA (Kd.zb7 HO_654001.out)
                 have n6_ := zA (zah BK636.out)
                 have n7_ := zA (zah BK637.out)
                 have n8_ := zA (zah BK652.out)
                 have n9_ := zA (zah BK653.out)
                 have n10_ := zA (zbe HB.out)
                 clear HO_15 HO_17 HO_653000 HO_653001 HO_654000 HO_654001 BK636 BK637 BK652 BK653 HB
                 have HO_15 := n0_
                 have HO_17 := n1_
                 have HO_653000 := n2_
                 have HO_653001 := n3_
                 have HO_654000 := n4_
                 have HO_654001 := n5_
                 have BK636 := n6_
                 have BK637 := n7_
                 have BK652 := n8_
                 have BK653 := n9_
                 have HB := n10_
                 clear n0_ n1_ n2_ n3_ n4_ n5_ n6_ n7_ n8_ n9_ n10_
                 have p666 : 0 ≤ (x91_4 : Int) := of_decide_eq_true (by first | (with_reducible assumption) | assumption)
                 have q666 : x91_4 < (t658.length : Int) := of_decide_eq_true (by first | (with_reducible assumption) | assumption)
                 obtain ⟨ad666, A666_0, c666_0, A666_1, c666_1, e666, hx666_0, hx666_1, hl666_0, hi666_0, hl666_1, hi666_1⟩ := at_T29 (Kd.zde HO_15.out).2.2 x91_4 p666 q666
                 cases e666
                 obtain ⟨ce666, hce666, hMe666, hcc666⟩ := Kd.N_get HO_15.out z29 x91_4 p666 (by first | exact q666 | exact of_decide_eq_true (by first | (with_reducible assumption) | assumption) | (have e_ := (Kd.zde HO_15.out).1; omega))
                 obtain ⟨ua666_0, uc666_0, ua666_1, uc666_1, rfl, ul666_0, ge666_0, ul666_1, ge666_1⟩ := k29_openF hMe666
                 have hv666_0 := hcc666 0 _ rfl
                 rw [Nat.add_zero] at hv666_0
                 replace hv666_0 := Option.some.inj (hv666_0.symm.trans hx666_0)
                 injection hv666_0 with hva_ hvn_ hvc_
                 rw [hva_] at ge666_0
                 rw [hvc_] at ul666_0
                 have HL666_0 := zA (show Kd.V (Kd.int .u64) 82 _ w.heap.size _ _ ((rd_T29 t658 x91_4).f0) from Kd.V_mk ul666_0 ge666_0)
                 clear hva_ hvn_ hvc_ ge666_0 ul666_0
                 have hv666_1 := hcc666 1 _ rfl
                 rw [add_field _ _ 1 (by omega)] at hv666_1
                 replace hv666_1 := Option.some.inj (hv666_1.symm.trans hx666_1)
                 injection hv666_1 with hva_ hvn_ hvc_
                 rw [hva_] at ge666_1
                 rw [hvc_] at ul666_1
                 have HL666_1 := zA (show Kd.V (Kd.int .u64) 82 _ w.heap.size _ _ ((rd_T29 t658 x91_4).f1) from Kd.V_mk ul666_1 ge666_1)
                 clear hva_ hvn_ hvc_ ge666_1 ul666_1 hcc666 hce666
                 have HR666_0 := zA hi666_0
                 have HC666_0 := zA hl666_0
                 clear hi666_0 hl666_0
                 have HR666_1 := zA hi666_1
                 have HC666_1 := zA hl666_1
                 clear hi666_1 hl666_1
                 replace p666 := eq_true p666
                 replace q666 := eq_true q666
                 obtain ⟨Ao64, co64, eo64⟩ := Kd.N_slice HO_17.out
                 (first | subst eo64 | (injection eo64 with f1_ f2_ f3_; have f4_ := f1_.symm; have f5_ := f3_.symm; clear f1_ f2_ f3_; subst f4_; subst f5_))
                 have p667 : 0 ≤ (x91_4 : Int) := of_decide_eq_true (by first | (with_reducible assumption) | assumption)
                 have q667 : x91_4 < (t662.length : Int) := of_decide_eq_true (by first | (with_reducible assumption) | assumption)
                 obtain ⟨ad667, A667_0, c667_0, A667_1, c667_1, e667, hx667_0, hx667_1, hl667_0, hi667_0, hl667_1, hi667_1⟩ := at_T29 (Kd.zde HO_17.out).2.2 x91_4 p667 q667
                 cases e667
                 obtain ⟨ce667, hce667, hMe667, hcc667⟩ := Kd.N_get HO_17.out z29 x91_4 p667 (by first | exact q667 | exact of_decide_eq_true (by first | (with_reducible assumption) | assumption) | (have e_ := (Kd.zde HO_17.out).1; omega))
                 obtain ⟨ua667_0, uc667_0, ua667_1, uc667_1, rfl, ul667_0, ge667_0, ul667_1, ge667_1⟩ := k29_openF hMe667
                 have hv667_0 := hcc667 0 _ rfl
                 rw [Nat.add_zero] at hv667_0
                 replace hv667_0 := Option.some.inj (hv667_0.symm.trans hx667_0)
                 injection hv667_0 with hva_ hvn_ hvc_
                 rw [hva_] at ge667_0
                 rw [hvc_] at ul667_0
                 have HL667_0 := zA (show Kd.V (Kd.int .u64) 82 _ w.heap.size _ _ ((rd_T29 t662 x91_4).f0) from Kd.V_mk ul667_0 ge667_0)
                 clear hva_ hvn_ hvc_ ge667_0 ul667_0
                 have hv667_1 := hcc667 1 _ rfl
                 rw [add_field _ _ 1 (by omega)] at hv667_1
                 replace hv667_1 := Option.some.inj (hv667_1.symm.trans hx667_1)
                 injection hv667_1 with hva_ hvn_ hvc_
                 rw [hva_] at ge667_1
                 rw [hvc_] at ul667_1
                 have HL667_1 := zA (show Kd.V (Kd.int .u64) 82 _ w.heap.size _ _ ((rd_T29 t662 x91_4).f1) from Kd.V_mk ul667_1 ge667_1)
                 clear hva_ hvn_ hvc_ ge667_1 ul667_1 hcc667 hce667
                 have HR667_0 := zA hi667_0
                 have HC667_0 := zA hl667_0
                 clear hi667_0 hl667_0
                 have HR667_1 := zA hi667_1
                 have HC667_1 := zA hl667_1
                 clear hi667_1 hl667_1
                 replace p667 := eq_true p667
                 replace q667 := eq_true q667
                 refine zdi (n := 10) (S := fun w' => w'.cell? (ad666.add ((x91_4).toNat * 2)) = some (.slice A666_0 ((rd_T29 t658 x91_4).f0).length c666_0) ∧ w'.cell? ⟨(ad666.add ((x91_4).toNat * 2)).block, (ad666.add ((x91_4).toNat * 2)).off + 1, none⟩ = some (.slice A666_1 ((rd_T29 t658 x91_4).f1).length c666_1) ∧ w'.cell? (ad667.add ((x91_4).toNat * 2)) = some (.slice A667_0 ((rd_T29 t662 x91_4).f0).length c667_0) ∧ w'.cell? ⟨(ad667.add ((x91_4).toNat * 2)).block, (ad667.add ((x91_4).toNat * 2)).off + 1, none⟩ = some (.slice A667_1 ((rd_T29 t662 x91_4).f1).length c667_1)) (ds := []) #[false, false, false, false, false, false, false, false, false, false] (by kernel_rfl) rfl rfl ⟨hx666_0, hx666_1, hx667_0, hx667_1⟩ (fun hHeld => ?_); refine zcn zaa.tab21 zaa.bits21 (fun HT_ HW_ => ?_)
                 generalize wr.drew = w63 at HO_15 HO_17 HO_653000 HO_653001 HO_654000 HO_654001 BK636 BK637 BK652 BK653 HB HL666_0 HL666_1 HL667_0 HL667_1 HR666_0 HR666_1 HR667_0 HR667_1 hx666_0 hx666_1 hx667_0 hx667_1 hHeld ⊢
                 refine pure_ (i := 0) (N := some 94) (v := ?_) (a' := ?_) #[true, false, false, false, false, false, false, false, false, false] rfl rfl (zas HT_.out (by kernel_rfl)) (fun _ _ _ h => h) (Or.inl ⟨by rfl, ?_⟩) ?_ ?_
                 rotate_left
                 ·
                  intro w'
                  go_simp
                  with_reducible rfl
                 rotate_left
                 ·
                  simp only [Act.put, zs1, zs2, zs3, i64_w, i32_w]
                  rfl
                 refine pure_ (i := 1) (N := some 95) (v := ?_) (a' := ?_) #[true, true, false, false, false, false, false, false, false, false] rfl rfl (zas HT_.out (by kernel_rfl)) (fun _ _ _ h => h) (Or.inl ⟨by rfl, ?_⟩) ?_ ?_
                 rotate_left
                 ·
                  intro w'
                  go_simp
                  with_reducible rfl
                 rotate_left
                 ·
                  simp only [Act.put, zs1, zs2, zs3, i64_w, i32_w]
                  rfl
                 refine pure_ (i := 2) (N := some 96) (v := ?_) (a' := ?_) #[true, true, true, false, false, false, false, false, false, false] rfl rfl (zas HT_.out (by kernel_rfl)) (fun _ _ _ h => h) (Or.inl ⟨by rfl, ?_⟩) ?_ ?_
                 rotate_left
                 ·
                  intro w'
                  go_simp
                  with_reducible rfl
                 rotate_left
                 ·
                  simp only [Act.put, zs1, zs2, zs3, i64_w, i32_w]
                  rfl
                 refine pure_ (i := 4) (N := some 98) (v := ?_) (a' := ?_) #[true, true, true, false, true, false, false, false, false, false] rfl rfl (zas HT_.out (by kernel_rfl)) (fun _ _ _ h => h) (Or.inl ⟨by rfl, ?_⟩) ?_ ?_
                 rotate_left
                 ·
                  intro w'
                  go_simp
                  with_reducible rfl
                 rotate_left
                 ·
                  simp only [Act.put, zs1, zs2, zs3, i64_w, i32_w]
                  rfl
                 refine pure_ (i := 5) (N := some 99) (v := ?_) (a' := ?_) #[true, true, true, false, true, true, false, false, false, false] rfl rfl (zas HT_.out (by kernel_rfl)) (fun _ _ _ h => h) (Or.inl ⟨by rfl, ?_⟩) ?_ ?_
                 rotate_left
                 ·
                  intro w'
                  go_simp
                  with_reducible rfl
                 rotate_left
                 ·
                  simp only [Act.put, zs1, zs2, zs3, i64_w, i32_w]
                  rfl
                 refine pure_ (i := 6) (N := some 100) (v := ?_) (a' := ?_) #[true, true, true, false, true, true, true, false, false, false] rfl rfl (zas HT_.out (by kernel_rfl)) (fun _ _ _ h => h) (Or.inl ⟨by rfl, ?_⟩) ?_ ?_
                 rotate_left
                 ·
                  intro w'
                  go_simp
                  with_reducible rfl
                 rotate_left
                 ·
                  simp only [Act.put, zs1, zs2, zs3, i64_w, i32_w]
                  rfl
                 refine take_ (i := 3) (N := some 97) (v := ?_) (a' := ?_) #[true, true, true, true, true, true, true, false, false, false] rfl rfl (zbp HT_.out HW_.out (by kernel_rfl)) (fun _ _ _ h => h) (Or.inl ⟨by rfl, ?_⟩) hHeld ?_ ?_
                 rotate_left
                 ·
                  rintro w' ⟨s0, s1, s2, s3⟩
                  go_simp
                  with_reducible rfl
                 rotate_left
                 ·
                  simp only [Act.put, zs1, zs2, zs3, i64_w, i32_w]
                  rfl
                 refine take_ (i := 7) (N := some 101) (v := ?_) (a' := ?_) #[true, true, true, true, true, true, true, true, false, false] rfl rfl (zbp HT_.out HW_.out (by kernel_rfl)) (fun _ _ _ h => h) (Or.inl ⟨by rfl, ?_⟩) hHeld ?_ ?_
                 rotate_left
                 ·
                  rintro w' ⟨s0, s1, s2, s3⟩
                  go_simp
                  with_reducible rfl
                 rotate_left
                 ·
                  simp only [Act.put, zs1, zs2, zs3, i64_w, i32_w]
                  rfl
                 refine one_ (i := 8) (N := some 102) #[true, true, true, true, true, true, true, true, true, false] rfl rfl (zb6 HT_.out (by kernel_rfl)) (by decide) (fun K hK => ?_)
                 refine goes_ Tryz.func17 (by kernel_rfl) rfl #[.agg #[.slice A666_0 ((rd_T29 t658 x91_4).f0).length c666_0, .slice A666_1 ((rd_T29 t658 x91_4).f1).length c666_1], .agg #[.slice A667_0 ((rd_T29 t662 x91_4).f0).length c667_0, .slice A667_1 ((rd_T29 t662 x91_4).f1).length c667_1]] (by rfl) rfl rfl (zE) ?_
                 with_reducible refine (ratio_Cmp.calls k4 _ _ ((rd_T29 t658 x91_4).f0) _ _ ((rd_T29 t658 x91_4).f1) _ _ ((rd_T29 t662 x91_4).f0) _ _ ((rd_T29 t662 x91_4).f1) t668 _ ?side1 ?side2 ?side3 ?side4 ?side5 ?side6 ?side7 ?side8 A61.out).mono ?_
                 (case side1 => repeat (first | exact (by repeat (first | (with_reducible exact HR666_0.out) | (with_reducible refine Kd.zby ?_ _) | (with_reducible refine Kd.zb0 ?_ _) | (with_reducible refine Kd.zck ?_) | exact HR666_0.out)) | (with_reducible refine Kd.zby ?_ _) | (with_reducible refine Kd.zb0 ?_ _) | (with_reducible refine Kd.zck ?_)))
                 (case side2 => exact HC666_0.out)
                 (case side3 => repeat (first | exact (by repeat (first | (with_reducible exact HR666_1.out) | (with_reducible refine Kd.zby ?_ _) | (with_reducible refine Kd.zb0 ?_ _) | (with_reducible refine Kd.zck ?_) | exact HR666_1.out)) | (with_reducible refine Kd.zby ?_ _) | (with_reducible refine Kd.zb0 ?_ _) | (with_reducible refine Kd.zck ?_)))
                 (case side4 => exact HC666_1.out)
                 (case side5 => repeat (first | exact (by repeat (first | (with_reducible exact HR667_0.out) | (with_reducible refine Kd.zby ?_ _) | (with_reducible refine Kd.zb0 ?_ _) | (with_reducible refine Kd.zck ?_) | exact HR667_0.out)) | (with_reducible refine Kd.zby ?_ _) | (with_reducible refine Kd.zb0 ?_ _) | (with_reducible refine Kd.zck ?_)))
                 (case side6 => exact HC667_0.out)
                 (case side7 => repeat (first | exact (by repeat (first | (with_reducible exact HR667_1.out) | (with_reducible refine Kd.zby ?_ _) | (with_reducible refine Kd.zb0 ?_ _) | (with_reducible refine Kd.zck ?_) | exact HR667_1.out)) | (with_reducible refine Kd.zby ?_ _) | (with_reducible refine Kd.zb0 ?_ _) | (with_reducible refine Kd.zck ?_)))
                 (case side8 => exact HC667_1.out)
                 rintro e w65 ⟨rfl, hb⟩
                 have HS0_ := (hb.cell (World.block_lt_of_cell? _ _ (hHeld.1))).trans (hHeld.1)
                 have HS1_ := (hb.cell (World.block_lt_of_cell? _ _ (hHeld.2.1))).trans (hHeld.2.1)
                 have HS2_ := (hb.cell (World.block_lt_of_cell? _ _ (hHeld.2.2.1))).trans (hHeld.2.2.1)
                 have HS3_ := (hb.cell (World.block_lt_of_cell? _ _ (hHeld.2.2.2))).trans (hHeld.2.2.2)
                 refine ⟨_, rfl, ?_⟩
                 have n0_ := zA (Kd.N_below (zN HO_15) hb)
                 have n1_ := zA (Kd.N_below (zN HO_17) hb)
                 have n2_ := zA (Kd.za1 (zV HO_653000) hb)
                 have n3_ := zA (Kd.za1 (zV HO_653001) hb)
                 have n4_ := zA (Kd.zbt (zR HO_654000) hb)
                 have n5_ := zA (Kd.zbt (zR HO_654001) hb)
                 have n6_ := zA (Kd.za1 (zV HL666_0) hb)
                 have n7_ := zA (Kd.za1 (zV HL666_1) hb)
                 have n8_ := zA (Kd.za1 (zV HL667_0) hb)
                 have n9_ := zA (Kd.za1 (zV HL667_1) hb)
                 have n10_ := zA (zae (g := gb636) (o := .cells #[.int .i64 a0_0, .int .i64 a0_1] 23 (0, 0)) (zK BK636) hb)
                 have n11_ := zA (zae (g := gb637) (o := .cells #[.slice A1_0 l1_0.length c1_0, .slice A1_1 l1_1.length c1_1] 43 (0, 0)) (zK BK637) hb)
                 have n12_ := zA (zae (g := gb652) (o := .cells #[.slice Ao23 t640.length co23, .slice Ao28 t643.length co28] 29 (0, 0)) (zK BK652) hb)
                 have n13_ := zA (zae (g := gb653) (o := .cells #[.slice Ao29 t646.length co29, .slice Ao33 t649.length co33] 32 (0, 0)) (zK BK653) hb)
                 have n14_ := zA (Kd.zax (by repeat (first | (with_reducible exact HR666_0.out) | (with_reducible refine Kd.zby ?_ _) | (with_reducible refine Kd.zb0 ?_ _) | (with_reducible refine Kd.zck ?_) | exact HR666_0.out)) hb)
                 have n15_ := zA (Kd.zax (by repeat (first | (with_reducible exact HR666_1.out) | (with_reducible refine Kd.zby ?_ _) | (with_reducible refine Kd.zb0 ?_ _) | (with_reducible refine Kd.zck ?_) | exact HR666_1.out)) hb)
                 have n16_ := zA (Kd.zax (by repeat (first | (with_reducible exact HR667_0.out) | (with_reducible refine Kd.zby ?_ _) | (with_reducible refine Kd.zb0 ?_ _) | (with_reducible refine Kd.zck ?_) | exact HR667_0.out)) hb)
                 have n17_ := zA (Kd.zax (by repeat (first | (with_reducible exact HR667_1.out) | (with_reducible refine Kd.zby ?_ _) | (with_reducible refine Kd.zb0 ?_ _) | (with_reducible refine Kd.zck ?_) | exact HR667_1.out)) hb)
                 have n18_ := zA (zab (zB HB) hb)
                 clear HO_15 HO_17 HO_653000 HO_653001 HO_654000 HO_654001 HL666_0 HL666_1 HL667_0 HL667_1 BK636 BK637 BK652 BK653 HR666_0 HR666_1 HR667_0 HR667_1 HB
                 have HO_15 := n0_
                 have HO_17 := n1_
                 have HO_653000 := n2_
                 have HO_653001 := n3_
                 have HO_654000 := n4_
                 have HO_654001 := n5_
                 have HL666_0 := n6_
                 have HL666_1 := n7_
                 have HL667_0 := n8_
                 have HL667_1 := n9_
                 have BK636 := n10_
                 have BK637 := n11_
                 have BK652 := n12_
                 have BK653 := n13_
                 have HR666_0 := n14_
                 have HR666_1 := n15_
                 have HR667_0 := n16_
                 have HR667_1 := n17_
                 have HB := n18_
                 clear n0_ n1_ n2_ n3_ n4_ n5_ n6_ n7_ n8_ n9_ n10_ n11_ n12_ n13_ n14_ n15_ n16_ n17_ n18_
                 (try clear hb)
                 (try clear hb2)
                 (try clear hk)
                 (try clear hi)
                 refine hK.out _ _ ⟨HS0_, HS1_, HS2_, HS3_⟩ (fun hHeld => ?_)
                 clear hK K
                 refine norm_ (a' := ?_) ?_ ?_
                 rotate_left
                 ·
                  show Act.put _ (some 102) _ = _
                  simp only [Act.put, zs1, zs2, zs3, i64_w, i32_w]
                  rfl
                 refine pure_ (i := 9) (N := some 103) (v := ?_) (a' := ?_) #[true, true, true, true, true, true, true, true, true, true] rfl rfl (zas HT_.out (by kernel_rfl)) (fun _ _ _ h => h) (Or.inl ⟨by rfl, ?_⟩) ?_ ?_
                 rotate_left
                 ·
                  intro w'
                  go_simp
                  with_reducible rfl
                 rotate_left
                 ·
                  simp only [Act.put, zs1, zs2, zs3, i64_w, i32_w]
                  rfl
                 refine done_ (zc7 HT_.out (by kernel_rfl)) ?_
                 try go_wp2
                 go_roundg k4
                 case measure => have := HJ3.out; have := HK2.out; have := HJ42.out; have := HK4.out; omega
                 case rel => exact ⟨(wrap64 (x91_4 + 1)), (zF), H', ⟨by have := HJ3.out; have := HK2.out; have := HJ42.out; have := HK4.out; omega⟩, ⟨zN HO_15⟩, ⟨zN HO_17⟩, ⟨zV HO_653000⟩, ⟨zV HO_653001⟩, ⟨zR HO_654000⟩, ⟨zR HO_654001⟩, ⟨zK BK636⟩, ⟨zK BK637⟩, ⟨zK BK652⟩, ⟨zK BK653⟩, ⟨zB HB⟩⟩
                ·
                 rw [if_neg c62] at H
                 exact absurd H (by simp)
               ·
                rw [if_neg c60] at H
                exact absurd H (by simp)
              ·
               rw [if_neg c59] at H
               exact absurd H (by simp)
             ·
              rw [if_neg c58] at H
              exact absurd H (by simp)
            ·
             rw [if_neg c57] at H
             have c57b0 : decide (x91_4 < (t658.length : Int)) = false := decide_eq_false c57
             clear c57
             by_cases c66 : t661 = 0
             ·
              rw [if_pos c66] at H
              have c66b0 : (t661 == 0) = true := beq_iff_eq.mpr c66
              have c66b1 : (t661 != 0) = false := bne_eq_false_iff_eq.mpr c66
              clear c66
              by_cases c67 : (t658.length : Int) = 1
              ·
               rw [if_pos c67] at H
               have c67b0 : ((t658.length : Int) == 1) = true := beq_iff_eq.mpr c67
               have c67b1 : ((t658.length : Int) != 1) = false := bne_eq_false_iff_eq.mpr c67
               clear c67
               by_cases c68 : 0 < (t658.length : Int)
               ·
                rw [if_pos c68] at H
                have c68b0 : decide (0 < (t658.length : Int)) = true := decide_eq_true c68
                have c68b1 : decide (0 < t658.length) = true := decide_eq_true (by omega)
                clear c68
                replace H := zO H
                obtain ⟨t670, A690, H⟩ := H
                try dsimp only at H
                have A69 := zA A690
                clear A690
                obtain rfl := Option.some.inj H
                try go_wp2
                have n0_ := zA (Kd.zdk HO_15.out)
                have n1_ := zA (Kd.zdk HO_17.out)
                have n2_ := zA (Kd.zbn HO_653000.out)
                have n3_ := zA (Kd.zbn HO_653001.out)
                have n4_ := zA (Kd.zb7 HO_654000.out)
                have n5_ := zA (Kd.zb7 HO_654001.out)
                have n6_ := zA (zah BK636.out)
                have n7_ := zA (zah BK637.out)
                have n8_ := zA (zah BK652.out)
                have n9_ := zA (zah BK653.out)
                have n10_ := zA (zbe HB.out)
                clear HO_15 HO_17 HO_653000 HO_653001 HO_654000 HO_654001 BK636 BK637 BK652 BK653 HB
                have HO_15 := n0_
                have HO_17 := n1_
                have HO_653000 := n2_
                have HO_653001 := n3_
                have HO_654000 := n4_
                have HO_654001 := n5_
                have BK636 := n6_
                have BK637 := n7_
                have BK652 := n8_
                have BK653 := n9_
                have HB := n10_
                clear n0_ n1_ n2_ n3_ n4_ n5_ n6_ n7_ n8_ n9_ n10_
                have p669 : 0 ≤ (0 : Int) := (by omega)
                have q669 : 0 < (t658.length : Int) := of_decide_eq_true (by first | (with_reducible assumption) | assumption)
                obtain ⟨ad669, A669_0, c669_0, A669_1, c669_1, e669, hx669_0, hx669_1, hl669_0, hi669_0, hl669_1, hi669_1⟩ := at_T29 (Kd.zde HO_15.out).2.2 0 p669 q669
                cases e669
                obtain ⟨ce669, hce669, hMe669, hcc669⟩ := Kd.N_get HO_15.out z29 0 p669 (by first | exact q669 | exact of_decide_eq_true (by first | (with_reducible assumption) | assumption) | (have e_ := (Kd.zde HO_15.out).1; omega))
                obtain ⟨ua669_0, uc669_0, ua669_1, uc669_1, rfl, ul669_0, ge669_0, ul669_1, ge669_1⟩ := k29_openF hMe669
                have hv669_0 := hcc669 0 _ rfl
                rw [Nat.add_zero] at hv669_0
                replace hv669_0 := Option.some.inj (hv669_0.symm.trans hx669_0)
                injection hv669_0 with hva_ hvn_ hvc_
                rw [hva_] at ge669_0
                rw [hvc_] at ul669_0
                have HL669_0 := zA (show Kd.V (Kd.int .u64) 82 _ w.heap.size _ _ ((rd_T29 t658 0).f0) from Kd.V_mk ul669_0 ge669_0)
                clear hva_ hvn_ hvc_ ge669_0 ul669_0
                have hv669_1 := hcc669 1 _ rfl
                rw [add_field _ _ 1 (by omega)] at hv669_1
                replace hv669_1 := Option.some.inj (hv669_1.symm.trans hx669_1)
                injection hv669_1 with hva_ hvn_ hvc_
                rw [hva_] at ge669_1
                rw [hvc_] at ul669_1
                have HL669_1 := zA (show Kd.V (Kd.int .u64) 82 _ w.heap.size _ _ ((rd_T29 t658 0).f1) from Kd.V_mk ul669_1 ge669_1)
                clear hva_ hvn_ hvc_ ge669_1 ul669_1 hcc669 hce669
                have qi669 : (0 < t658.length) = True := eq_true (by omega)
                (try rw [show ((0 : Int)).toNat = 0 from rfl] at hx669_0)
                (try rw [show 0 * 2 = 0 from rfl] at hx669_0)
                (try rw [Addr.add_zero'] at hx669_0)
                (try rw [show ((0 : Int)).toNat = 0 from rfl] at hx669_1)
                (try rw [show 0 * 2 = 0 from rfl] at hx669_1)
                (try rw [Addr.add_zero'] at hx669_1)
                have HR669_0 := zA hi669_0
                have HC669_0 := zA hl669_0
                clear hi669_0 hl669_0
                have HR669_1 := zA hi669_1
                have HC669_1 := zA hl669_1
                clear hi669_1 hl669_1
                replace p669 := eq_true p669
                replace q669 := eq_true q669
                refine zdi (n := 16) (S := fun w' => w'.cell? ⟨gb652, 0, none⟩ = some (.slice Ao23 t640.length co23) ∧ w'.cell? ⟨gb652, 1, none⟩ = some (.slice Ao28 t643.length co28) ∧ w'.cell? ad669 = some (.slice A669_0 ((rd_T29 t658 0).f0).length c669_0) ∧ w'.cell? ⟨ad669.block, ad669.off + 1, none⟩ = some (.slice A669_1 ((rd_T29 t658 0).f1).length c669_1)) (ds := []) #[false, false, false, false, false, false, false, false, false, false, false, false, false, false, false, false] (by kernel_rfl) rfl rfl ⟨(zac BK652.out 0).trans rfl, (zac BK652.out 1).trans rfl, hx669_0, hx669_1⟩ (fun hHeld => ?_); refine zcn zaa.tab24 zaa.bits24 (fun HT_ HW_ => ?_)
                generalize wr.drew = w70 at HO_15 HO_17 HO_653000 HO_653001 HO_654000 HO_654001 BK636 BK637 BK652 BK653 HB HL669_0 HL669_1 HR669_0 HR669_1 hx669_0 hx669_1 hHeld ⊢
                refine pure_ (i := 0) (N := some 105) (v := ?_) (a' := ?_) #[true, false, false, false, false, false, false, false, false, false, false, false, false, false, false, false] rfl rfl (zas HT_.out (by kernel_rfl)) (fun _ _ _ h => h) (Or.inl ⟨by rfl, ?_⟩) ?_ ?_
                rotate_left
                ·
                 intro w'
                 go_simp
                 with_reducible rfl
                rotate_left
                ·
                 simp only [Act.put, zs1, zs2, zs3, i64_w, i32_w]
                 rfl
                refine pure_ (i := 1) (N := some 106) (v := ?_) (a' := ?_) #[true, true, false, false, false, false, false, false, false, false, false, false, false, false, false, false] rfl rfl (zas HT_.out (by kernel_rfl)) (fun _ _ _ h => h) (Or.inl ⟨by rfl, ?_⟩) ?_ ?_
                rotate_left
                ·
                 intro w'
                 go_simp
                 with_reducible rfl
                rotate_left
                ·
                 simp only [Act.put, zs1, zs2, zs3, i64_w, i32_w]
                 rfl
                refine pure_ (i := 2) (N := some 107) (v := ?_) (a' := ?_) #[true, true, true, false, false, false, false, false, false, false, false, false, false, false, false, false] rfl rfl (zas HT_.out (by kernel_rfl)) (fun _ _ _ h => h) (Or.inl ⟨by rfl, ?_⟩) ?_ ?_
                rotate_left
                ·
                 intro w'
                 go_simp
                 with_reducible rfl
                rotate_left
                ·
                 simp only [Act.put, zs1, zs2, zs3, i64_w, i32_w]
                 rfl
                refine pure_ (i := 3) (N := some 108) (v := ?_) (a' := ?_) #[true, true, true, true, false, false, false, false, false, false, false, false, false, false, false, false] rfl rfl (zas HT_.out (by kernel_rfl)) (fun _ _ _ h => h) (Or.inl ⟨by rfl, ?_⟩) ?_ ?_
                rotate_left
                ·
                 intro w'
                 go_simp
                 with_reducible rfl
                rotate_left
                ·
                 simp only [Act.put, zs1, zs2, zs3, i64_w, i32_w]
                 rfl
                refine pure_ (i := 4) (N := some 109) (v := ?_) (a' := ?_) #[true, true, true, true, true, false, false, false, false, false, false, false, false, false, false, false] rfl rfl (zas HT_.out (by kernel_rfl)) (fun _ _ _ h => h) (Or.inl ⟨by rfl, ?_⟩) ?_ ?_
                rotate_left
                ·
                 intro w'
                 go_simp
                 with_reducible rfl
                rotate_left
                ·
                 simp only [Act.put, zs1, zs2, zs3, i64_w, i32_w]
                 rfl
                refine pure_ (i := 5) (N := some 110) (v := ?_) (a' := ?_) #[true, true, true, true, true, true, false, false, false, false, false, false, false, false, false, false] rfl rfl (zas HT_.out (by kernel_rfl)) (fun _ _ _ h => h) (Or.inl ⟨by rfl, ?_⟩) ?_ ?_
                rotate_left
                ·
                 intro w'
                 go_simp
                 with_reducible rfl
                rotate_left
                ·
                 simp only [Act.put, zs1, zs2, zs3, i64_w, i32_w]
                 rfl
                refine pure_ (i := 6) (N := some 111) (v := ?_) (a' := ?_) #[true, true, true, true, true, true, true, false, false, false, false, false, false, false, false, false] rfl rfl (zas HT_.out (by kernel_rfl)) (fun _ _ _ h => h) (Or.inl ⟨by rfl, ?_⟩) ?_ ?_
                rotate_left
                ·
                 intro w'
                 go_simp
                 with_reducible rfl
                rotate_left
                ·
                 simp only [Act.put, zs1, zs2, zs3, i64_w, i32_w]
                 rfl
                refine pure_ (i := 7) (N := some 112) (v := ?_) (a' := ?_) #[true, true, true, true, true, true, true, true, false, false, false, false, false, false, false, false] rfl rfl (zas HT_.out (by kernel_rfl)) (fun _ _ _ h => h) (Or.inl ⟨by rfl, ?_⟩) ?_ ?_
                rotate_left
                ·
                 intro w'
                 go_simp
                 with_reducible rfl
                rotate_left
                ·
                 simp only [Act.put, zs1, zs2, zs3, i64_w, i32_w]
                 rfl
                refine pure_ (i := 8) (N := some 113) (v := ?_) (a' := ?_) #[true, true, true, true, true, true, true, true, true, false, false, false, false, false, false, false] rfl rfl (zas HT_.out (by kernel_rfl)) (fun _ _ _ h => h) (Or.inl ⟨by rfl, ?_⟩) ?_ ?_
                rotate_left
                ·
                 intro w'
                 go_simp
                 with_reducible rfl
                rotate_left
                ·
                 simp only [Act.put, zs1, zs2, zs3, i64_w, i32_w]
                 rfl
                refine pure_ (i := 9) (N := some 114) (v := ?_) (a' := ?_) #[true, true, true, true, true, true, true, true, true, true, false, false, false, false, false, false] rfl rfl (zas HT_.out (by kernel_rfl)) (fun _ _ _ h => h) (Or.inl ⟨by rfl, ?_⟩) ?_ ?_
                rotate_left
                ·
                 intro w'
                 go_simp
                 with_reducible rfl
                rotate_left
                ·
                 simp only [Act.put, zs1, zs2, zs3, i64_w, i32_w]
                 rfl
                refine take_ (i := 10) (N := some 115) (v := ?_) (a' := ?_) #[true, true, true, true, true, true, true, true, true, true, true, false, false, false, false, false] rfl rfl (zbp HT_.out HW_.out (by kernel_rfl)) (fun _ _ _ h => h) (Or.inl ⟨by rfl, ?_⟩) hHeld ?_ ?_
                rotate_left
                ·
                 rintro w' ⟨s0, s1, s2, s3⟩
                 go_simp
                 with_reducible rfl
                rotate_left
                ·
                 simp only [Act.put, zs1, zs2, zs3, i64_w, i32_w]
                 rfl
                refine take_ (i := 11) (N := some 116) (v := ?_) (a' := ?_) #[true, true, true, true, true, true, true, true, true, true, true, true, false, false, false, false] rfl rfl (zbp HT_.out HW_.out (by kernel_rfl)) (fun _ _ _ h => h) (Or.inl ⟨by rfl, ?_⟩) hHeld ?_ ?_
                rotate_left
                ·
                 rintro w' ⟨s0, s1, s2, s3⟩
                 go_simp
                 with_reducible rfl
                rotate_left
                ·
                 simp only [Act.put, zs1, zs2, zs3, i64_w, i32_w]
                 rfl
                refine one_ (i := 12) (N := some 117) #[true, true, true, true, true, true, true, true, true, true, true, true, true, false, false, false] rfl rfl (zb6 HT_.out (by kernel_rfl)) (by decide) (fun K hK => ?_)
                refine goes_ Tryz.func17 (by kernel_rfl) rfl #[.agg #[.slice A669_0 ((rd_T29 t658 0).f0).length c669_0, .slice A669_1 ((rd_T29 t658 0).f1).length c669_1], .agg #[.slice Ao23 t640.length co23, .slice Ao28 t643.length co28]] (by rfl) rfl rfl (zE) ?_
                with_reducible refine (ratio_Cmp.calls k4 _ _ ((rd_T29 t658 0).f0) _ _ ((rd_T29 t658 0).f1) _ _ t640 _ _ t643 t670 _ ?side1 ?side2 ?side3 ?side4 ?side5 ?side6 ?side7 ?side8 A69.out).mono ?_
                (case side1 => repeat (first | exact (by repeat (first | (with_reducible exact HR669_0.out) | (with_reducible refine Kd.zby ?_ _) | (with_reducible refine Kd.zb0 ?_ _) | (with_reducible refine Kd.zck ?_) | exact HR669_0.out)) | (with_reducible refine Kd.zby ?_ _) | (with_reducible refine Kd.zb0 ?_ _) | (with_reducible refine Kd.zck ?_)))
                (case side2 => exact HC669_0.out)
                (case side3 => repeat (first | exact (by repeat (first | (with_reducible exact HR669_1.out) | (with_reducible refine Kd.zby ?_ _) | (with_reducible refine Kd.zb0 ?_ _) | (with_reducible refine Kd.zck ?_) | exact HR669_1.out)) | (with_reducible refine Kd.zby ?_ _) | (with_reducible refine Kd.zb0 ?_ _) | (with_reducible refine Kd.zck ?_)))
                (case side4 => exact HC669_1.out)
                (case side5 => exact zJ (Kd.zan HO_653000.out).2.2)
                (case side6 => exact (Kd.zan HO_653000.out).2.1)
                (case side7 => exact zJ (Kd.zan HO_653001.out).2.2)
                (case side8 => exact (Kd.zan HO_653001.out).2.1)
                rintro e w71 ⟨rfl, hb⟩
                have HS2_ := (hb.cell (World.block_lt_of_cell? _ _ (hHeld.2.2.1))).trans (hHeld.2.2.1)
                have HS3_ := (hb.cell (World.block_lt_of_cell? _ _ (hHeld.2.2.2))).trans (hHeld.2.2.2)
                refine ⟨_, rfl, ?_⟩
                have n0_ := zA (Kd.N_below (zN HO_15) hb)
                have n1_ := zA (Kd.N_below (zN HO_17) hb)
                have n2_ := zA (Kd.za1 (zV HO_653000) hb)
                have n3_ := zA (Kd.za1 (zV HO_653001) hb)
                have n4_ := zA (Kd.zbt (zR HO_654000) hb)
                have n5_ := zA (Kd.zbt (zR HO_654001) hb)
                have n6_ := zA (Kd.za1 (zV HL669_0) hb)
                have n7_ := zA (Kd.za1 (zV HL669_1) hb)
                have n8_ := zA (zae (g := gb636) (o := .cells #[.int .i64 a0_0, .int .i64 a0_1] 23 (0, 0)) (zK BK636) hb)
                have n9_ := zA (zae (g := gb637) (o := .cells #[.slice A1_0 l1_0.length c1_0, .slice A1_1 l1_1.length c1_1] 43 (0, 0)) (zK BK637) hb)
                have n10_ := zA (zae (g := gb652) (o := .cells #[.slice Ao23 t640.length co23, .slice Ao28 t643.length co28] 29 (0, 0)) (zK BK652) hb)
                have n11_ := zA (zae (g := gb653) (o := .cells #[.slice Ao29 t646.length co29, .slice Ao33 t649.length co33] 32 (0, 0)) (zK BK653) hb)
                have n12_ := zA (Kd.zax (by repeat (first | (with_reducible exact HR669_0.out) | (with_reducible refine Kd.zby ?_ _) | (with_reducible refine Kd.zb0 ?_ _) | (with_reducible refine Kd.zck ?_) | exact HR669_0.out)) hb)
                have n13_ := zA (Kd.zax (by repeat (first | (with_reducible exact HR669_1.out) | (with_reducible refine Kd.zby ?_ _) | (with_reducible refine Kd.zb0 ?_ _) | (with_reducible refine Kd.zck ?_) | exact HR669_1.out)) hb)
                have n14_ := zA (zab (zB HB) hb)
                clear HO_15 HO_17 HO_653000 HO_653001 HO_654000 HO_654001 HL669_0 HL669_1 BK636 BK637 BK652 BK653 HR669_0 HR669_1 HB
                have HO_15 := n0_
                have HO_17 := n1_
                have HO_653000 := n2_
                have HO_653001 := n3_
                have HO_654000 := n4_
                have HO_654001 := n5_
                have HL669_0 := n6_
                have HL669_1 := n7_
                have BK636 := n8_
                have BK637 := n9_
                have BK652 := n10_
                have BK653 := n11_
                have HR669_0 := n12_
                have HR669_1 := n13_
                have HB := n14_
                clear n0_ n1_ n2_ n3_ n4_ n5_ n6_ n7_ n8_ n9_ n10_ n11_ n12_ n13_ n14_
                (try clear hb)
                (try clear hb2)
                (try clear hk)
                (try clear hi)
                refine hK.out _ _ ⟨(zac BK652.out 0).trans rfl, (zac BK652.out 1).trans rfl, HS2_, HS3_⟩ (fun hHeld => ?_)
                clear hK K
                refine norm_ (a' := ?_) ?_ ?_
                rotate_left
                ·
                 show Act.put _ (some 117) _ = _
                 simp only [Act.put, zs1, zs2, zs3, i64_w, i32_w]
                 rfl
                refine pure_ (i := 13) (N := some 118) (v := ?_) (a' := ?_) #[true, true, true, true, true, true, true, true, true, true, true, true, true, true, false, false] rfl rfl (zas HT_.out (by kernel_rfl)) (fun _ _ _ h => h) (Or.inl ⟨by rfl, ?_⟩) ?_ ?_
                rotate_left
                ·
                 intro w'
                 go_simp
                 with_reducible rfl
                rotate_left
                ·
                 simp only [Act.put, zs1, zs2, zs3, i64_w, i32_w]
                 rfl
                refine pure_ (i := 14) (N := some 119) (v := ?_) (a' := ?_) #[true, true, true, true, true, true, true, true, true, true, true, true, true, true, true, false] rfl rfl (zas HT_.out (by kernel_rfl)) (fun _ _ _ h => h) (Or.inl ⟨by rfl, ?_⟩) ?_ ?_
                rotate_left
                ·
                 intro w'
                 go_simp
                 with_reducible rfl
                rotate_left
                ·
                 simp only [Act.put, zs1, zs2, zs3, i64_w, i32_w]
                 rfl
                refine pure_ (i := 15) (N := some 6) (v := ?_) (a' := ?_) #[true, true, true, true, true, true, true, true, true, true, true, true, true, true, true, true] rfl rfl (zas HT_.out (by kernel_rfl)) (fun _ _ _ h => h) (Or.inl ⟨by rfl, ?_⟩) ?_ ?_
                rotate_left
                ·
                 intro w'
                 go_simp
                 with_reducible rfl
                rotate_left
                ·
                 simp only [Act.put, zs1, zs2, zs3, i64_w, i32_w]
                 rfl
                refine done_ (zc7 HT_.out (by kernel_rfl)) ?_
                try go_wp2
                go_ret
                exact ⟨zW, zB HB⟩
               ·
                rw [if_neg c68] at H
                exact absurd H (by simp)
              ·
               rw [if_neg c67] at H
               have c67b0 : ((t658.length : Int) == 1) = false := beq_eq_false_iff_ne.mpr c67
               have c67b1 : ((t658.length : Int) != 1) = true := bne_iff_ne.mpr c67
               obtain rfl := Option.some.inj H
               try go_wp2
               have n0_ := zA (Kd.zdk HO_15.out)
               have n1_ := zA (Kd.zdk HO_17.out)
               have n2_ := zA (Kd.zbn HO_653000.out)
               have n3_ := zA (Kd.zbn HO_653001.out)
               have n4_ := zA (Kd.zb7 HO_654000.out)
               have n5_ := zA (Kd.zb7 HO_654001.out)
               have n6_ := zA (zah BK636.out)
               have n7_ := zA (zah BK637.out)
               have n8_ := zA (zah BK652.out)
               have n9_ := zA (zah BK653.out)
               have n10_ := zA (zbe HB.out)
               clear HO_15 HO_17 HO_653000 HO_653001 HO_654000 HO_654001 BK636 BK637 BK652 BK653 HB
               have HO_15 := n0_
               have HO_17 := n1_
               have HO_653000 := n2_
               have HO_653001 := n3_
               have HO_654000 := n4_
               have HO_654001 := n5_
               have BK636 := n6_
               have BK637 := n7_
               have BK652 := n8_
               have BK653 := n9_
               have HB := n10_
               clear n0_ n1_ n2_ n3_ n4_ n5_ n6_ n7_ n8_ n9_ n10_
               refine zdi (n := 16) (S := fun w' => True) (ds := []) #[false, false, false, false, false, false, false, false, false, false, false, false, false, false, false, false] (by kernel_rfl) rfl rfl trivial (fun hHeld => ?_); refine zcn zaa.tab24 zaa.bits24 (fun HT_ HW_ => ?_)
               generalize wr.drew = w72 at HO_15 HO_17 HO_653000 HO_653001 HO_654000 HO_654001 BK636 BK637 BK652 BK653 HB hHeld ⊢
               refine pure_ (i := 0) (N := some 105) (v := ?_) (a' := ?_) #[true, false, false, false, false, false, false, false, false, false, false, false, false, false, false, false] rfl rfl (zas HT_.out (by kernel_rfl)) (fun _ _ _ h => h) (Or.inl ⟨by rfl, ?_⟩) ?_ ?_
               rotate_left
               ·
                intro w'
                go_simp
                with_reducible rfl
               rotate_left
               ·
                simp only [Act.put, zs1, zs2, zs3, i64_w, i32_w]
                rfl
               refine pure_ (i := 1) (N := some 106) (v := ?_) (a' := ?_) #[true, true, false, false, false, false, false, false, false, false, false, false, false, false, false, false] rfl rfl (zas HT_.out (by kernel_rfl)) (fun _ _ _ h => h) (Or.inl ⟨by rfl, ?_⟩) ?_ ?_
               rotate_left
               ·
                intro w'
                go_simp
                with_reducible rfl
               rotate_left
               ·
                simp only [Act.put, zs1, zs2, zs3, i64_w, i32_w]
                rfl
               refine pure_ (i := 2) (N := some 107) (v := ?_) (a' := ?_) #[true, true, true, false, false, false, false, false, false, false, false, false, false, false, false, false] rfl rfl (zas HT_.out (by kernel_rfl)) (fun _ _ _ h => h) (Or.inl ⟨by rfl, ?_⟩) ?_ ?_
               rotate_left
               ·
                intro w'
                go_simp
                with_reducible rfl
               rotate_left
               ·
                simp only [Act.put, zs1, zs2, zs3, i64_w, i32_w]
                rfl
               refine pure_ (i := 3) (N := some 108) (v := ?_) (a' := ?_) #[true, true, true, true, false, false, false, false, false, false, false, false, false, false, false, false] rfl rfl (zas HT_.out (by kernel_rfl)) (fun _ _ _ h => h) (Or.inl ⟨by rfl, ?_⟩) ?_ ?_
               rotate_left
               ·
                intro w'
                go_simp
                with_reducible rfl
               rotate_left
               ·
                simp only [Act.put, zs1, zs2, zs3, i64_w, i32_w]
                rfl
               refine pure_ (i := 4) (N := some 109) (v := ?_) (a' := ?_) #[true, true, true, true, true, false, false, false, false, false, false, false, false, false, false, false] rfl rfl (zas HT_.out (by kernel_rfl)) (fun _ _ _ h => h) (Or.inl ⟨by rfl, ?_⟩) ?_ ?_
               rotate_left
               ·
                intro w'
                go_simp
                with_reducible rfl
               rotate_left
               ·
                simp only [Act.put, zs1, zs2, zs3, i64_w, i32_w]
                rfl
               refine pure_ (i := 5) (N := some 110) (v := ?_) (a' := ?_) #[true, true, true, true, true, true, false, false, false, false, false, false, false, false, false, false] rfl rfl (zas HT_.out (by kernel_rfl)) (fun _ _ _ h => h) (Or.inl ⟨by rfl, ?_⟩) ?_ ?_
               rotate_left
               ·
                intro w'
                go_simp
                with_reducible rfl
               rotate_left
               ·
                simp only [Act.put, zs1, zs2, zs3, i64_w, i32_w]
                rfl
               refine pure_ (i := 6) (N := some 111) (v := ?_) (a' := ?_) #[true, true, true, true, true, true, true, false, false, false, false, false, false, false, false, false] rfl rfl (zas HT_.out (by kernel_rfl)) (fun _ _ _ h => h) (Or.inl ⟨by rfl, ?_⟩) ?_ ?_
               rotate_left
               ·
                intro w'
                go_simp
                with_reducible rfl
               rotate_left
               ·
                simp only [Act.put, zs1, zs2, zs3, i64_w, i32_w]
                rfl
               refine pure_ (i := 7) (N := some 112) (v := ?_) (a' := ?_) #[true, true, true, true, true, true, true, true, false, false, false, false, false, false, false, false] rfl rfl (zas HT_.out (by kernel_rfl)) (fun _ _ _ h => h) (Or.inl ⟨by rfl, ?_⟩) ?_ ?_
               rotate_left
               ·
                intro w'
                go_simp
                with_reducible rfl
               rotate_left
               ·
                simp only [Act.put, zs1, zs2, zs3, i64_w, i32_w]
                rfl
               refine pure_ (i := 8) (N := some 113) (v := undef) (a' := ?_) #[true, true, true, true, true, true, true, true, true, false, false, false, false, false, false, false] rfl rfl (zas HT_.out (by kernel_rfl)) (fun _ _ _ h => h) (Or.inr ⟨by rfl, rfl⟩) ?_ ?_
               rotate_left
               ·
                simp only [Act.put, zs1, zs2, zs3, i64_w, i32_w]
                rfl
               refine pure_ (i := 9) (N := some 114) (v := undef) (a' := ?_) #[true, true, true, true, true, true, true, true, true, true, false, false, false, false, false, false] rfl rfl (zas HT_.out (by kernel_rfl)) (fun _ _ _ h => h) (Or.inr ⟨by rfl, rfl⟩) ?_ ?_
               rotate_left
               ·
                simp only [Act.put, zs1, zs2, zs3, i64_w, i32_w]
                rfl
               refine pure_ (i := 10) (N := some 115) (v := undef) (a' := ?_) #[true, true, true, true, true, true, true, true, true, true, true, false, false, false, false, false] rfl rfl (zas HT_.out (by kernel_rfl)) (fun _ _ _ h => h) (Or.inr ⟨by rfl, rfl⟩) ?_ ?_
               rotate_left
               ·
                simp only [Act.put, zs1, zs2, zs3, i64_w, i32_w]
                rfl
               refine pure_ (i := 11) (N := some 116) (v := undef) (a' := ?_) #[true, true, true, true, true, true, true, true, true, true, true, true, false, false, false, false] rfl rfl (zas HT_.out (by kernel_rfl)) (fun _ _ _ h => h) (Or.inr ⟨by rfl, rfl⟩) ?_ ?_
               rotate_left
               ·
                simp only [Act.put, zs1, zs2, zs3, i64_w, i32_w]
                rfl
               refine pure_ (i := 12) (N := some 117) (v := undef) (a' := ?_) #[true, true, true, true, true, true, true, true, true, true, true, true, true, false, false, false] rfl rfl (zas HT_.out (by kernel_rfl)) (fun _ _ _ h => h) (Or.inr ⟨by rfl, rfl⟩) ?_ ?_
               rotate_left
               ·
                simp only [Act.put, zs1, zs2, zs3, i64_w, i32_w]
                rfl
               refine pure_ (i := 13) (N := some 118) (v := undef) (a' := ?_) #[true, true, true, true, true, true, true, true, true, true, true, true, true, true, false, false] rfl rfl (zas HT_.out (by kernel_rfl)) (fun _ _ _ h => h) (Or.inr ⟨by rfl, rfl⟩) ?_ ?_
               rotate_left
               ·
                simp only [Act.put, zs1, zs2, zs3, i64_w, i32_w]
                rfl
               refine pure_ (i := 14) (N := some 119) (v := ?_) (a' := ?_) #[true, true, true, true, true, true, true, true, true, true, true, true, true, true, true, false] rfl rfl (zas HT_.out (by kernel_rfl)) (fun _ _ _ h => h) (Or.inl ⟨by rfl, ?_⟩) ?_ ?_
               rotate_left
               ·
                intro w'
                go_simp
                with_reducible rfl
               rotate_left
               ·
                simp only [Act.put, zs1, zs2, zs3, i64_w, i32_w]
                rfl
               refine pure_ (i := 15) (N := some 6) (v := ?_) (a' := ?_) #[true, true, true, true, true, true, true, true, true, true, true, true, true, true, true, true] rfl rfl (zas HT_.out (by kernel_rfl)) (fun _ _ _ h => h) (Or.inl ⟨by rfl, ?_⟩) ?_ ?_
               rotate_left
               ·
                intro w'
                go_simp
                with_reducible rfl
               rotate_left
               ·
                simp only [Act.put, zs1, zs2, zs3, i64_w, i32_w]
                rfl
               refine done_ (zc7 HT_.out (by kernel_rfl)) ?_
               try go_wp2
               go_ret
               exact ⟨zW, zB HB⟩
             ·
              rw [if_neg c66] at H
              have c66b0 : (t661 == 0) = false := beq_eq_false_iff_ne.mpr c66
              have c66b1 : (t661 != 0) = true := bne_iff_ne.mpr c66
              obtain rfl := Option.some.inj H
              try go_wp2
              have n0_ := zA (Kd.zdk HO_15.out)
              have n1_ := zA (Kd.zdk HO_17.out)
              have n2_ := zA (Kd.zbn HO_653000.out)
              have n3_ := zA (Kd.zbn HO_653001.out)
              have n4_ := zA (Kd.zb7 HO_654000.out)
              have n5_ := zA (Kd.zb7 HO_654001.out)
              have n6_ := zA (zah BK636.out)
              have n7_ := zA (zah BK637.out)
              have n8_ := zA (zah BK652.out)
              have n9_ := zA (zah BK653.out)
              have n10_ := zA (zbe HB.out)
              clear HO_15 HO_17 HO_653000 HO_653001 HO_654000 HO_654001 BK636 BK637 BK652 BK653 HB
              have HO_15 := n0_
              have HO_17 := n1_
              have HO_653000 := n2_
              have HO_653001 := n3_
              have HO_654000 := n4_
              have HO_654001 := n5_
              have BK636 := n6_
              have BK637 := n7_
              have BK652 := n8_
              have BK653 := n9_
              have HB := n10_
              clear n0_ n1_ n2_ n3_ n4_ n5_ n6_ n7_ n8_ n9_ n10_
              refine zdi (n := 16) (S := fun w' => True) (ds := []) #[false, false, false, false, false, false, false, false, false, false, false, false, false, false, false, false] (by kernel_rfl) rfl rfl trivial (fun hHeld => ?_); refine zcn zaa.tab24 zaa.bits24 (fun HT_ HW_ => ?_)
              generalize wr.drew = w73 at HO_15 HO_17 HO_653000 HO_653001 HO_654000 HO_654001 BK636 BK637 BK652 BK653 HB hHeld ⊢
              refine pure_ (i := 0) (N := some 105) (v := ?_) (a' := ?_) #[true, false, false, false, false, false, false, false, false, false, false, false, false, false, false, false] rfl rfl (zas HT_.out (by kernel_rfl)) (fun _ _ _ h => h) (Or.inl ⟨by rfl, ?_⟩) ?_ ?_
              rotate_left
              ·
               intro w'
               go_simp
               with_reducible rfl
              rotate_left
              ·
               simp only [Act.put, zs1, zs2, zs3, i64_w, i32_w]
               rfl
              refine pure_ (i := 1) (N := some 106) (v := ?_) (a' := ?_) #[true, true, false, false, false, false, false, false, false, false, false, false, false, false, false, false] rfl rfl (zas HT_.out (by kernel_rfl)) (fun _ _ _ h => h) (Or.inl ⟨by rfl, ?_⟩) ?_ ?_
              rotate_left
              ·
               intro w'
               go_simp
               with_reducible rfl
              rotate_left
              ·
               simp only [Act.put, zs1, zs2, zs3, i64_w, i32_w]
               rfl
              refine pure_ (i := 2) (N := some 107) (v := ?_) (a' := ?_) #[true, true, true, false, false, false, false, false, false, false, false, false, false, false, false, false] rfl rfl (zas HT_.out (by kernel_rfl)) (fun _ _ _ h => h) (Or.inl ⟨by rfl, ?_⟩) ?_ ?_
              rotate_left
              ·
               intro w'
               go_simp
               with_reducible rfl
              rotate_left
              ·
               simp only [Act.put, zs1, zs2, zs3, i64_w, i32_w]
               rfl
              refine pure_ (i := 3) (N := some 108) (v := undef) (a' := ?_) #[true, true, true, true, false, false, false, false, false, false, false, false, false, false, false, false] rfl rfl (zas HT_.out (by kernel_rfl)) (fun _ _ _ h => h) (Or.inr ⟨by rfl, rfl⟩) ?_ ?_
              rotate_left
              ·
               simp only [Act.put, zs1, zs2, zs3, i64_w, i32_w]
               rfl
              refine pure_ (i := 4) (N := some 109) (v := undef) (a' := ?_) #[true, true, true, true, true, false, false, false, false, false, false, false, false, false, false, false] rfl rfl (zas HT_.out (by kernel_rfl)) (fun _ _ _ h => h) (Or.inr ⟨by rfl, rfl⟩) ?_ ?_
              rotate_left
              ·
               simp only [Act.put, zs1, zs2, zs3, i64_w, i32_w]
               rfl
              refine pure_ (i := 5) (N := some 110) (v := undef) (a' := ?_) #[true, true, true, true, true, true, false, false, false, false, false, false, false, false, false, false] rfl rfl (zas HT_.out (by kernel_rfl)) (fun _ _ _ h => h) (Or.inr ⟨by rfl, rfl⟩) ?_ ?_
              rotate_left
              ·
               simp only [Act.put, zs1, zs2, zs3, i64_w, i32_w]
               rfl
              refine pure_ (i := 6) (N := some 111) (v := ?_) (a' := ?_) #[true, true, true, true, true, true, true, false, false, false, false, false, false, false, false, false] rfl rfl (zas HT_.out (by kernel_rfl)) (fun _ _ _ h => h) (Or.inl ⟨by rfl, ?_⟩) ?_ ?_
              rotate_left
              ·
               intro w'
               go_simp
               with_reducible rfl
              rotate_left
              ·
               simp only [Act.put, zs1, zs2, zs3, i64_w, i32_w]
               rfl
              refine pure_ (i := 7) (N := some 112) (v := ?_) (a' := ?_) #[true, true, true, true, true, true, true, true, false, false, false, false, false, false, false, false] rfl rfl (zas HT_.out (by kernel_rfl)) (fun _ _ _ h => h) (Or.inl ⟨by rfl, ?_⟩) ?_ ?_
              rotate_left
              ·
               intro w'
               go_simp
               with_reducible rfl
              rotate_left
              ·
               simp only [Act.put, zs1, zs2, zs3, i64_w, i32_w]
               rfl
              refine pure_ (i := 8) (N := some 113) (v := undef) (a' := ?_) #[true, true, true, true, true, true, true, true, true, false, false, false, false, false, false, false] rfl rfl (zas HT_.out (by kernel_rfl)) (fun _ _ _ h => h) (Or.inr ⟨by rfl, rfl⟩) ?_ ?_
              rotate_left
              ·
               simp only [Act.put, zs1, zs2, zs3, i64_w, i32_w]
               rfl
              refine pure_ (i := 9) (N := some 114) (v := undef) (a' := ?_) #[true, true, true, true, true, true, true, true, true, true, false, false, false, false, false, false] rfl rfl (zas HT_.out (by kernel_rfl)) (fun _ _ _ h => h) (Or.inr ⟨by rfl, rfl⟩) ?_ ?_
              rotate_left
              ·
               simp only [Act.put, zs1, zs2, zs3, i64_w, i32_w]
               rfl
              refine pure_ (i := 10) (N := some 115) (v := undef) (a' := ?_) #[true, true, true, true, true, true, true, true, true, true, true, false, false, false, false, false] rfl rfl (zas HT_.out (by kernel_rfl)) (fun _ _ _ h => h) (Or.inr ⟨by rfl, rfl⟩) ?_ ?_
              rotate_left
              ·
               simp only [Act.put, zs1, zs2, zs3, i64_w, i32_w]
               rfl
              refine pure_ (i := 11) (N := some 116) (v := undef) (a' := ?_) #[true, true, true, true, true, true, true, true, true, true, true, true, false, false, false, false] rfl rfl (zas HT_.out (by kernel_rfl)) (fun _ _ _ h => h) (Or.inr ⟨by rfl, rfl⟩) ?_ ?_
              rotate_left
              ·
               simp only [Act.put, zs1, zs2, zs3, i64_w, i32_w]
               rfl
              refine pure_ (i := 12) (N := some 117) (v := undef) (a' := ?_) #[true, true, true, true, true, true, true, true, true, true, true, true, true, false, false, false] rfl rfl (zas HT_.out (by kernel_rfl)) (fun _ _ _ h => h) (Or.inr ⟨by rfl, rfl⟩) ?_ ?_
              rotate_left
              ·
               simp only [Act.put, zs1, zs2, zs3, i64_w, i32_w]
               rfl
              refine pure_ (i := 13) (N := some 118) (v := undef) (a' := ?_) #[true, true, true, true, true, true, true, true, true, true, true, true, true, true, false, false] rfl rfl (zas HT_.out (by kernel_rfl)) (fun _ _ _ h => h) (Or.inr ⟨by rfl, rfl⟩) ?_ ?_
              rotate_left
              ·
               simp only [Act.put, zs1, zs2, zs3, i64_w, i32_w]
               rfl
              refine pure_ (i := 14) (N := some 119) (v := ?_) (a' := ?_) #[true, true, true, true, true, true, true, true, true, true, true, true, true, true, true, false] rfl rfl (zas HT_.out (by kernel_rfl)) (fun _ _ _ h => h) (Or.inl ⟨by rfl, ?_⟩) ?_ ?_
              rotate_left
              ·
               intro w'
               go_simp
               with_reducible rfl
              rotate_left
              ·
               simp only [Act.put, zs1, zs2, zs3, i64_w, i32_w]
               rfl
              refine pure_ (i := 15) (N := some 6) (v := ?_) (a' := ?_) #[true, true, true, true, true, true, true, true, true, true, true, true, true, true, true, true] rfl rfl (zas HT_.out (by kernel_rfl)) (fun _ _ _ h => h) (Or.inl ⟨by rfl, ?_⟩) ?_ ?_
              rotate_left
              ·
               intro w'
               go_simp
               with_reducible rfl
              rotate_left
              ·
               simp only [Act.put, zs1, zs2, zs3, i64_w, i32_w]
               rfl
              refine done_ (zc7 HT_.out (by kernel_rfl)) ?_
              try go_wp2
              go_ret
              exact ⟨zW, zB HB⟩
def sN (r : Rat) : List Int := dig 10000 r.num.toNat
def sD (r : Rat) : List Int := dig 10000 r.den
theorem mkRat_nat (x y : Nat) : mkRat (x : Int) y = (x : Rat) / (y : Rat) := by
 rw [Rat.mkRat_eq_div]
 rfl
theorem bdBy (p : Nat × Nat) (hp1 : p.1 < 1000000) (hp2 : p.2 < 1000000) (h : 1 ≤ p.1) : Bd (ful p) 1 := by
 have hd := Bd.mk (x := p.2) (y := p.1) (m := 1) (by omega) (by omega) (by omega)
 rw [mkRat_nat] at hd
 exact hd
theorem bd0 : Bd 0 1 := ⟨Rat.le_refl, by rw [Nat.pow_one]; decide, by rw [Nat.pow_one]; decide⟩
theorem bdTot {L : Rat} {k : Nat} (hL : Bd L k) : ∀ (l : List (Nat × Nat)), (∀ p ∈ l, p.1 < 1000000 ∧ p.2 < 1000000) → Bd (tot L l) (l.length * (k + 2) + 1)
 | [], _ => bd0.le (by omega)
 | p :: l, h => by
  have h1 := h p List.mem_cons_self
  have ih := bdTot hL l fun q hq => h q (List.mem_cons_of_mem _ hq)
  show Bd (giv L p + tot L l) _
  exact ((bdGiv hL p h1.1 h1.2).add ih).le (by rw [List.length_cons, Nat.add_mul]; omega)
theorem bdTot32 {L : Rat} {k : Nat} (hL : Bd L k) {l : List (Nat × Nat)} (hl : l.length ≤ 32) (h : ∀ p ∈ l, p.1 < 1000000 ∧ p.2 < 1000000) : Bd (tot L l) (32 * (k + 2) + 1) :=
 (bdTot hL l h).le (by have := Nat.mul_le_mul_right (k + 2) hl; omega)
theorem GoodK.small {l : List (Nat × Nat)} (h : GoodK l) : ∀ p ∈ l, p.1 < 1000000 ∧ p.2 < 1000000 := fun p hp => by
 have := h.2 p hp
 omega
theorem bdLow {l : List (Nat × Nat)} {x : Rat} : ∀ (m : List (Nat × Nat)) (low : Rat), (∀ p ∈ m, 1 ≤ p.1 ∧ p.1 ≤ 10000 ∧ p.2 ≤ 64) → Bd low 1 → Bd (lowR l x low m) 1
 | [], low, _, h => h
 | p :: m, low, hm, h => by
  have h1 := hm p List.mem_cons_self
  unfold lowR
  refine bdLow m _ (fun q hq => hm q (List.mem_cons_of_mem _ hq)) ?_
  split
  ·
   exact bdBy p (by omega) (by omega) h1.1
  ·
   exact h
def openN (low : Rat) : List (Nat × Nat) → Nat
 | [] => 0
 | p :: l => (if low < ful p then p.1 else 0) + openN low l
theorem openN_eq (low : Rat) : ∀ l, openR low l = (openN low l : Rat)
 | [] => rfl
 | p :: l => by
  unfold openR openN
  rw [openN_eq low l, Rat.natCast_add]
  split <;> rfl
theorem openN_le (low : Rat) : ∀ l : List (Nat × Nat), (∀ p ∈ l, p.1 ≤ 10000) → openN low l ≤ 10000 * l.length
 | [], _ => Nat.le_refl _
 | p :: l, h => by
  have h1 := h p List.mem_cons_self
  have h2 := openN_le low l fun q hq => h q (List.mem_cons_of_mem _ hq)
  unfold openN
  rw [List.length_cons]
  split <;> omega
theorem tot_low {l : List (Nat × Nat)} {x : Rat} (hx : 0 ≤ x) : tot (lowR l x 0 l) l ≤ x := by
 obtain ⟨_, i2, _⟩ := lowR_facts l x l 0 Rat.le_refl (.inl rfl)
 rcases i2 with h | h
 ·
  rw [h, tot_zero]
  exact hx
 ·
  grind
theorem levR_eq (l : List (Nat × Nat)) (x : Rat) : levR l x = if openN (lowR l x 0 l) l = 0 ∨ x - tot (lowR l x 0 l) l = 0 then lowR l x 0 l else lowR l x 0 l + (x - tot (lowR l x 0 l) l) / (openN (lowR l x 0 l) l : Rat) := by
 unfold levR
 dsimp only
 rw [openN_eq]
 by_cases h : openN (lowR l x 0 l) l = 0
 ·
  rw [if_pos (show ((openN (lowR l x 0 l) l : Nat) : Rat) = 0 ∨ x - tot (lowR l x 0 l) l = 0 from .inl (by rw [h]; rfl)), if_pos (show openN (lowR l x 0 l) l = 0 ∨ x - tot (lowR l x 0 l) l = 0 from .inl h)]
 ·
  have h2 : ((openN (lowR l x 0 l) l : Nat) : Rat) ≠ 0 := Rat.ne_of_gt (Rat.natCast_pos.2 (Nat.pos_of_ne_zero h))
  by_cases h3 : x - tot (lowR l x 0 l) l = 0
  ·
   rw [if_pos (.inr h3), if_pos (.inr h3)]
  ·
   rw [if_neg (fun e => e.elim h2 h3), if_neg (fun e => e.elim h h3)]
theorem bdLev {l : List (Nat × Nat)} (hl : GoodK l) {x : Rat} {k : Nat} (hx : Bd x k) : Bd (levR l x) (k + 100) := by
 have hb := bdLow (l := l) (x := x) l 0 hl.2 bd0
 rw [levR_eq]
 split
 ·
  exact hb.le (by omega)
 ·
  rename_i h
  have ho : openN (lowR l x 0 l) l ≠ 0 := fun e => h (.inl e)
  have hle := openN_le (lowR l x 0 l) l fun p hp => (hl.2 p hp).2.1
  have h32 := hl.1
  have ht := bdTot32 hb hl.1 hl.small
  have hd := (hx.sub ht (tot_low hx.1)).div (bdN (x := openN (lowR l x 0 l) l) (by omega)) (Rat.natCast_pos.2 (by omega))
  exact (hb.add hd).le (by omega)
def pR (r : Rat) : S29 := ⟨rN r, rD r⟩
theorem getD_map {α β : Type} (f : α → β) (l : List α) (i : Nat) (hi : i < l.length) (z : β) : (l.map f).getD i z = f l[i] := by
 rw [List.getD_eq_getElem?_getD, List.getElem?_map, List.getElem?_eq_getElem hi]
 rfl
theorem rdP {α : Type} (f : α → S29) (l : List α) (i : Nat) (hi : i < l.length) : rd_T29 (l.map f) (i : Int) = f l[i] := by
 unfold rd_T29
 rw [Int.toNat_natCast, getD_map f l i hi]
theorem rdC {α : Type} (f : α → S90) (l : List α) (i : Nat) (hi : i < l.length) : rd_T90 (l.map f) (i : Int) = f l[i] := by
 unfold rd_T90
 rw [Int.toNat_natCast, getD_map f l i hi]
def gets (l : List (Nat × Nat)) (x : Rat) : List Rat := l.map (giv (levR l x))
def fillV (x : Rat) (ws cs : List Int) : List S29 × Int := if fillE x ws cs = 0 then ((gets (kids ws cs) x).map pR, 0) else ([], fillE x ws cs)
theorem pFill_l0 {L : Rat} {m : Nat} (hL : Bd L m) (hm : m ≤ 3000) (l : List (Nat × Nat)) (hl : GoodK l) : ∀ (d i : Nat) (acc : List S29), i + d = l.length → acc.length = i →
  Ev (fun k => zbu.l0 k acc (l.map chOf) (l.length : Int) (i : Int) (rN L) (rD L)) (acc ++ ((l.drop i).map (giv L)).map pR, 0)
 | 0, i, acc, hi, ha => by
  rw [List.drop_of_length_le (by omega), List.map_nil, List.map_nil, List.append_nil]
  exact Ev.step (fun _ => zbu.l0.eq_2 ..) (Ev.neg (by omega) (Ev.const _))
 | d + 1, i, acc, hi, ha => by
  have hil : i < l.length := by omega
  have h32 := hl.1
  have hpi := hl.2 l[i] (List.getElem_mem hil)
  refine Ev.step (fun _ => zbu.l0.eq_2 ..) (Ev.pos (by omega) (Ev.pos (by omega) (Ev.pos (by rw [List.length_map]; omega) ?_)))
  rw [rdC chOf l i hil, show wrap64 ((i : Int) + 1) = ((i + 1 : Nat) : Int) by unfold wrap64; omega]
  refine Ev.bind (gGiven hL hm l[i] (by omega) (by omega)) (Ev.pos (by omega) ?_)
  have h := pFill_l0 hL hm l hl d (i + 1) (acc ++ [pR (giv L l[i])]) (by omega) (by rw [List.length_append, ha]; rfl)
  rw [List.drop_eq_getElem_cons hil, List.map_cons, List.map_cons]
  rw [List.append_assoc] at h
  exact h
theorem pFill {x : Rat} {m : Nat} (hx : Bd x m) (hm : m ≤ 2900) {ws cs : List Int} (hw : ws.length ≤ 1000) (hc : cs.length ≤ 1000) : Ev (fun k => zbu.f k (rN x) (rD x) ws cs) (fillV x ws cs) := by
 have h1 : Ev (fun k => zc0.f k (rN x) (rD x) ws cs) (chV x ws cs) := Ev.of fun _ => chF_rt (hx.le (by omega)) hw hc
 unfold fillV
 by_cases he : fillE x ws cs = 0
 ·
  have h2 : chV x ws cs = ((kids ws cs).map chOf, 0) := if_pos he
  rw [h2] at h1
  rw [if_pos he]
  obtain ⟨e1, hg, hxc, -, -⟩ := fillE_good he
  have h3 : Ev (fun k => fill_level.f k (rN x) (rD x) ((kids ws cs).map chOf)) (rN (levR (kids ws cs) x), rD (levR (kids ws cs) x)) := Ev.of fun _ => lvF_rt (hx.le (by omega)) hg hxc
  refine Ev.bind h1 (Ev.pos rfl (Ev.bind h3 ?_))
  have h4 := pFill_l0 (bdLev hg hx) (by omega) (kids ws cs) hg (kids ws cs).length 0 [] (by omega) rfl
  rw [List.drop_zero, List.nil_append] at h4
  have e : (((kids ws cs).map chOf).length : Int) = ((kids ws cs).length : Int) := by rw [List.length_map]
  dsimp only
  rw [e]
  exact h4
 ·
  have h2 : chV x ws cs = ([], fillE x ws cs) := if_neg he
  rw [h2] at h1
  rw [if_neg he]
  exact Ev.bind h1 (Ev.neg he (Ev.const _))
theorem rd_get (l : List Int) (i : Nat) (hi : i < l.length) : rd l (i : Int) = l[i] := by unfold rd; simp [hi]
theorem bothX (a b : Int) (ha : a < 9223372036854775808) (hb : b < 9223372036854775808) : ∃ x, Bd x 1 ∧ Ev (fun k => zau.f k a b) (rN x, rD x, sN x, sD x) := by
 obtain ⟨n, hn, hn2⟩ : ∃ n : Nat, mx a 0 = (n : Int) ∧ n < 9223372036854775808 := by
  unfold mx
  split
  ·
   exact ⟨0, rfl, by omega⟩
  ·
   exact ⟨a.toNat, by omega, by omega⟩
 obtain ⟨m, hm, hm2, hm3⟩ : ∃ m : Nat, mx b 1 = (m : Int) ∧ m < 9223372036854775808 ∧ 1 ≤ m := by
  unfold mx
  split
  ·
   exact ⟨1, rfl, by omega, by omega⟩
  ·
   exact ⟨b.toNat, by omega, by omega, by omega⟩
 have p1 : n < 18446744073709551616 ^ 1 := by rw [Nat.pow_one]; omega
 have p2 : m < 18446744073709551616 ^ 1 := by rw [Nat.pow_one]; omega
 refine ⟨mkRat (n : Int) m, Bd.mk (by omega) p1 p2, ?_⟩
 unfold zau.f
 rw [hn, hm, u64s (by omega) (by omega), u64s (by omega) (by omega)]
 exact Ev.bind (nOf n (by omega)) (Ev.bind (nOf m (by omega)) (Ev.bind (qOf (by omega) p1 p2 (by omega)) (Ev.bind (rOf n (by omega)) (Ev.bind (rOf m (by omega)) (Ev.bind (dOf (by omega) p1 p2 (by omega)) (Ev.const _))))))
theorem gets_len (l : List (Nat × Nat)) (x : Rat) : (gets l x).length = l.length := List.length_map ..
theorem gets_get (l : List (Nat × Nat)) (x : Rat) (i : Nat) (hi : i < l.length) : (gets l x)[i]'(by rw [gets_len]; exact hi) = giv (levR l x) l[i] := List.getElem_map ..
theorem rdG (l : List (Nat × Nat)) (x : Rat) (i : Nat) (hi : i < l.length) : rd_T29 ((gets l x).map pR) (i : Int) = pR (giv (levR l x) l[i]) := by
 rw [rdP pR (gets l x) i (by rw [gets_len]; exact hi), gets_get l x i hi]
theorem bdG {l : List (Nat × Nat)} (hl : GoodK l) {x : Rat} {m : Nat} (hx : Bd x m) (i : Nat) (hi : i < l.length) : Bd (giv (levR l x) l[i]) (m + 101) := by
 have h := hl.2 l[i] (List.getElem_mem hi)
 exact bdGiv (bdLev hl hx) l[i] (by omega) (by omega)
theorem isLev {l : List (Nat × Nat)} (hl : GoodK l) {x : Rat} (h0 : 0 ≤ x) (hc : x ≤ csum l) : IsLev l x (levR l x) := lev_ref l x (fun p hp => (hl.2 p hp).1) h0 hc
theorem fill_ex : fillV ((2 : Nat) : Rat) [1, 1, 8] [1, 1, 1] = ([pR (1 / 2), pR (1 / 2), pR 1], 0) := by
 have he : fillE ((2 : Nat) : Rat) [1, 1, 8] [1, 1, 1] = 0 := by decide +kernel
 have hL : gets (kids [1, 1, 8] [1, 1, 1]) ((2 : Nat) : Rat) = [1 / 2, 1 / 2, 1] := by decide +kernel
 unfold fillV
 rw [if_pos he, hL]
 rfl
theorem awakeE : Ev (fun k => zbq.f k) true := by
 have h := pFill (bdN (x := 2) (by omega)) (by omega) (ws := [1, 1, 8]) (cs := [1, 1, 1]) (by decide) (by decide)
 rw [fill_ex] at h
 have t1 : Ev (fun k => zay.f k (rN (1 / 2)) (rD (1 / 2))) (rT 1 2) := by
  have t := nRtext (x := 1) (y := 2) (m := 1) (by omega) (by omega) (by omega)
  have e1 : (1 / 2 : Rat).num.toNat = 1 := by decide +kernel
  have e2 : (1 / 2 : Rat).den = 2 := by decide +kernel
  unfold rN rD
  rw [e1, e2]
  exact t
 have t2 : Ev (fun k => zay.f k (rN 1) (rD 1)) (rT 1 1) := nRtext (x := 1) (y := 1) (m := 1) (by omega) (by omega) (by omega)
 have q1 : (rT 1 2).toList = ([49, 47, 50] : List UInt8) := by decide +kernel
 have q2 : ((rT 1 1).toList == ([49] : List UInt8)) = true := by decide +kernel
 refine Ev.bind (qIntN 2 (by omega)) (Ev.bind h (Ev.pos rfl (Ev.pos rfl (Ev.pos (by decide) (Ev.bind t1 (Ev.pos q1 (Ev.pos (by decide) (Ev.bind t2 ?_))))))))
 rw [q2]
 exact Ev.const _
end Go.Proofs.YthiicmanfpmipaaGreatDoor.P
end
section
namespace Go.Proofs.YthiicmanfpmipaaGreatDoor.P
open Go.RowKit Go.Proofs.YthiicmanfpmipaaGreatDoorW.PrintWords Go.Proofs.YthiicmanfpmipaaGreatDoorW.PrintLast Go.Proofs.YthiicmanfpmipaaGreatDoorW.PrintMore
attribute [local go_sem] zci zcj zcs zcr zb9 zca zcg zch
section
open Go.ChangeShapes Go.WideShapes Go.Deep
theorem ints_C {W : World} {a : Addr} {len : Nat} {zs : List Int} (hl : len ≤ zs.length) (hm : len ≤ 9223372036854775807) (hcell : ∀ i, i < zs.length → W.cell? (a.add i) = some (.int .i64 (zs.getD i 0))) : Kd.C (Kd.int .i64) W (some a) (zs.take len).length (zs.take len) := by
 refine Kd.C_of_reads (enc := Value.int .i64) (d := (0 : Int)) (h1 := fun _ => rfl) ⟨rfl, by rw [List.length_take]; omega, fun _ => ⟨a, rfl, fun j hj => ?_⟩⟩
 rw [List.length_take] at hj
 rw [hcell j (by omega), List.getD_eq_getElem?_getD, List.getD_eq_getElem?_getD, List.getElem?_take, if_pos (by omega)]
theorem wf_i64 {x : Int} (h : (Lit.int .i64 x).wf = true) : x < 9223372036854775808 := by
 have h2 : IntKind.i64.min ≤ x ∧ x ≤ 9223372036854775807 := by simpa [Lit.wf] using h
 omega
theorem open_X {H : Type} {enc : TypeId × Value → H} {W : World} {base : Nat} {spare : Nat → Bool} {held : Bool} {r : Reach} {b0 : Nat} {v : Value} {d : DataW H} {p : List MemPlace} (hval : Value.okWide Tryz.prog W r b0 23 v) (h : DataW.Trod enc Tryz.prog W base spare held 23 v d p) : ∃ a b : Int, v = .agg #[.int .i64 a, .int .i64 b] ∧ a < 9223372036854775808 ∧ b < 9223372036854775808 := by
 obtain ⟨va, vb, ya, yb, n, rfl, _, _, fa, fb⟩ := Joins.open_agg2 Tryz.underlying23 (by kernel_rfl) (by kernel_rfl) hval h
 obtain ⟨a, ea, _, wa⟩ := DataW.trod_int Tryz.underlying3 fa
 obtain ⟨b, eb, _, wb⟩ := DataW.trod_int Tryz.underlying3 fb
 simp only [List.cons.injEq, and_true] at ea eb
 exact ⟨a, b, by rw [ea, eb], wf_i64 wa, wf_i64 wb⟩
def Ints (W : World) (v : Value) (l : List Int) : Prop := ∃ A c, v = .slice A l.length c ∧ l.length ≤ c ∧ Kd.C (Kd.int .i64) W A l.length l
theorem open_ints4 {H : Type} {enc : TypeId × Value → H} {W : World} {base fuel : Nat} {held : Bool} {v : Value} {x : DataW H × List MemPlace} (h : DataW.trod enc Tryz.prog W base (fun _ => true) held fuel 24 [v] = some x) : ∃ l, Ints W v l := by
 rcases open_ints Tryz.underlying24 Tryz.underlying3 (by kernel_rfl) h with ⟨hcs, _⟩ | ⟨a, len, cap, zs, hcs, _, hl, hm, hz, _, hcell, hwz⟩
 ·
  simp only [List.cons.injEq, and_true] at hcs
  subst hcs
  exact ⟨[], none, 0, rfl, Nat.le_refl _, ⟨rfl, Nat.zero_le _, fun h => absurd h (Nat.lt_irrefl 0)⟩⟩
 ·
  simp only [List.cons.injEq, and_true] at hcs
  subst hcs
  have hz' : zs.length = cap := hz
  have hmx : maxLen ≤ 9223372036854775807 := by decide +kernel
  have hll : (zs.take len).length = len := by rw [List.length_take]; omega
  exact ⟨zs.take len, some a, cap, by rw [hll], by rw [hll]; exact hl, ints_C (by omega) (by omega) hcell⟩
theorem open_L2 {H : Type} {enc : TypeId × Value → H} {W : World} {base base2 : Nat} {held : Bool} {d : DataW H} {p : List MemPlace} {v : Value} (hv : Value.okWide Tryz.prog W .any base2 43 v)
  (h : DataW.Trod enc Tryz.prog W base (fun _ => true) held 43 v d p) : ∃ u0 u1 l0 l1, v = .agg #[u0, u1] ∧ Ints W u0 l0 ∧ Ints W u1 l1 := by
 have c3 : Tryz.prog.cellsOf 43 = 2 := by kernel_rfl
 have c5 : Tryz.prog.cellsOf 24 = 1 := by kernel_rfl
 have hv' := hv
 simp only [Value.okWide, Tryz.underlying43] at hv'
 obtain ⟨cs, rfl, hn, _⟩ := hv'
 rw [c3] at hn
 obtain ⟨fuel, hf⟩ := h
 obtain ⟨xs, k, hk, hxy, hcl, hxl, hel⟩ := DataW.trod_array Tryz.underlying43 hf
 obtain ⟨l, rfl⟩ : ∃ l : List Value, cs = l.toArray := ⟨cs.toList, rfl⟩
 obtain ⟨v0, v1, rfl⟩ : ∃ a b, l = [a, b] := by
  match l, (show l.length = 2 by simpa using hn) with
  | [a, b], _ => exact ⟨a, b, rfl⟩
 obtain ⟨y0, y1, rfl⟩ : ∃ a b, xs = [a, b] := by
  match xs, hxl with
  | [a, b], _ => exact ⟨a, b, rfl⟩
 have g0 := hel 0 (by decide)
 have g1 := hel 1 (by decide)
 simp [c5, Value.cells] at g0 g1
 obtain ⟨l0, h0⟩ := open_ints4 g0
 obtain ⟨l1, h1⟩ := open_ints4 g1
 exact ⟨v0, v1, l0, l1, rfl, h0, h1⟩
end
end Go.Proofs.YthiicmanfpmipaaGreatDoor.P
end
