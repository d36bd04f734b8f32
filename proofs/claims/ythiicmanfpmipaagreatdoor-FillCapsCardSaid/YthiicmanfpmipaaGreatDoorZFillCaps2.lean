-- Written by a program of this session (wip/tools/shake.py) out of its own texts and of the kit's printed ones; not trusted: Lean checks it.
import Derived.Test.YthiicmanfpmipaaGreatDoorZFillCaps1
set_option maxHeartbeats 8000000
set_option maxRecDepth 100000
set_option linter.unusedVariables false
set_option linter.unusedSimpArgs false
section
namespace Go.Proofs.YthiicmanfpmipaaGreatDoor.P
open Go.RowKit Go.Proofs.YthiicmanfpmipaaGreatDoorW.PrintWords Go.Proofs.YthiicmanfpmipaaGreatDoorW.PrintLast Go.Proofs.YthiicmanfpmipaaGreatDoorW.PrintMore
attribute [local go_sem] zcf zci zcu zct zb6 zb2 zch zce
def zbn.f (k : Nat) (l0_0 : List Int) (l0_1 : List Int) (l1_0 : List Int) (l1_1 : List Int) : Option (List Int × List Int × List Int) := (zbi.f k l0_0 l1_1).bind fun t126 => ((zbi.f k l1_0 l0_1).bind fun t129 => ((zbi.f k l0_1 l1_1).bind fun t132 => (some (t126, t129, t132))))
def zbn.T1 : Bool × List (List Nat × List Nat) := (true, [([], []), ([0], [0]), ([], []), ([2], [2]), ([1, 3], [1, 3]), ([], []), ([5], [5]), ([], []), ([7], [7]), ([6, 8, 4], [6, 8]), ([], []), ([10], [10]), ([], []), ([12], [12]), ([11, 13, 9], [11, 13]), ([4, 14, 0, 1, 2, 3, 4], [4]), ([9, 15, 0, 1, 2, 3, 4, 5, 6, 7, 8, 9, 15], [9]), ([14, 16, 0, 1, 2, 3, 4, 5, 6, 7, 8, 9, 10, 11, 12, 13, 14, 15, 16], [14])])
def zbn.B1 : List Nat := [0, 1, 0, 4, 15, 0, 32, 0, 128, 511, 0, 1024, 0, 4096, 16383, 32767, 65535, 131071]
theorem zbn.tab1 : rtab .any (opsOf Tryz.f41 1) = zbn.T1 := by kernel_rfl
theorem zbn.bits1 : waitsOk zbn.T1.2 zbn.B1 = true := by kernel_rfl
theorem zbn.calls (k : Nat) (A0_0 : Option Addr) (c0_0 : Nat) (l0_0 : List Int) (A0_1 : Option Addr) (c0_1 : Nat) (l0_1 : List Int) (A1_0 : Option Addr) (c1_0 : Nat) (l1_0 : List Int) (A1_1 : Option Addr) (c1_1 : Nat) (l1_1 : List Int) (r1 : List Int) (r2 : List Int) (r3 : List Int) (w : World) (hr0_0 : Kd.C (Kd.int .u64) w A0_0 l0_0.length l0_0) (hc0_0 : l0_0.length ≤ c0_0) (hr0_1 : Kd.C (Kd.int .u64) w A0_1 l0_1.length l0_1) (hc0_1 : l0_1.length ≤ c0_1) (hr1_0 : Kd.C (Kd.int .u64) w A1_0 l1_0.length l1_0) (hc1_0 : l1_0.length ≤ c1_0) (hr1_1 : Kd.C (Kd.int .u64) w A1_1 l1_1.length l1_1) (hc1_1 : l1_1.length ≤ c1_1) (h : zbn.f k l0_0 l0_1 l1_0 l1_1 = some (r1, r2, r3)) :
  Calls Tryz.prog 41 #[.agg #[.slice A0_0 l0_0.length c0_0, .slice A0_1 l0_1.length c0_1], .agg #[.slice A1_0 l1_0.length c1_0, .slice A1_1 l1_1.length c1_1]] w fun e w' => ∃ v0_ v1_ v2_ : Value, e = .returned (.tuple #[v0_, v1_, v2_]) ∧ Kd.V (Kd.int .u64) 82 w' w.heap.size (fun k_ => (w.heap.size ≤ k_)) v0_ r1 ∧ Kd.V (Kd.int .u64) 82 w' w.heap.size (fun k_ => (w.heap.size ≤ k_)) v1_ r2 ∧ Kd.V (Kd.int .u64) 82 w' w.heap.size (fun k_ => (w.heap.size ≤ k_)) v2_ r3 ∧ Below w.heap.size w w' := by
 have hu29 := Tryz.underlying29
 have HR0_0 := zA hr0_0
 have HC0_0 := zA hc0_0
 clear hr0_0 hc0_0
 have HR0_1 := zA hr0_1
 have HC0_1 := zA hc0_1
 clear hr0_1 hc0_1
 have HR1_0 := zA hr1_0
 have HC1_0 := zA hc1_0
 clear hr1_0 hc1_0
 have HR1_1 := zA hr1_1
 have HC1_1 := zA hc1_1
 clear hr1_1 hc1_1
 have HB := zA (Below.refl w.heap.size w)
 have H : ((zbi.f k l0_0 l1_1).bind fun t126 => ((zbi.f k l1_0 l0_1).bind fun t129 => ((zbi.f k l0_1 l1_1).bind fun t132 => (some (t126, t129, t132))))) = some (r1, r2, r3) := h
 clear h
 replace H := zO H
 obtain ⟨t126, A30, H⟩ := H
 try dsimp only at H
 have A3 := zA A30
 clear A30
 replace H := zO H
 obtain ⟨t129, A40, H⟩ := H
 try dsimp only at H
 have A4 := zA A40
 clear A40
 replace H := zO H
 obtain ⟨t132, A50, H⟩ := H
 try dsimp only at H
 have A5 := zA A50
 clear A50
 simp only [Option.some.injEq, Prod.mk.injEq] at H
 obtain ⟨rfl, rfl, rfl⟩ := H
 go_enter Tryz.func41, Tryz.ntmps41
 try go_wp2_with (first | ((with_reducible refine za8 (N := 2) rfl ?_); refine zbd ?hg (N := 2) ?hd (cs := #[.slice A0_0 l0_0.length c0_0, .slice A0_1 l0_1.length c0_1]) (t := 29) ?hr ?_; (case hd => rfl); (case hg => rfl); (case hr => first | (go_simp; done) | (go_simp; rfl)); intro gb124 hg w6 hbox hb; have n0_ := zA (zaa (zB HB) hb); have n1_ := zA (hbox); have n2_ := zA ((by rw [hg]; exact (za (zB HB)) : w.heap.size ≤ gb124)); have n3_ := zA ((by rw [hg]; exact (za (zB HB)) : w.heap.size ≤ gb124)); clear HB; have HB := n0_; have BK124 := n1_; have GW124 := n2_; have GE124 := n3_; clear n0_ n1_ n2_ n3_ hb hbox hg) | ((with_reducible refine za8 (N := 3) rfl ?_); refine zbd ?hg (N := 3) ?hd (cs := #[.slice A1_0 l1_0.length c1_0, .slice A1_1 l1_1.length c1_1]) (t := 29) ?hr ?_; (case hd => rfl); (case hg => rfl); (case hr => first | (go_simp; done) | (go_simp; rfl)); intro gb125 hg w7 hbox hb; have n0_ := zA (zad (g := gb124) (o := .cells #[.slice A0_0 l0_0.length c0_0, .slice A0_1 l0_1.length c0_1] 29 (0, 0)) (zK BK124) hb); have n1_ := zA (zaa (zB HB) hb); have n2_ := zA (hbox); have n3_ := zA ((by rw [hg]; exact (za (zB HB)) : w.heap.size ≤ gb125)); have n4_ := zA ((by rw [hg]; exact (za (zB HB)) : w.heap.size ≤ gb125)); have n5_ := zA ((by rw [hg]; exact Nat.ne_of_lt (zax (g := gb124) (o := .cells #[.slice A0_0 l0_0.length c0_0, .slice A0_1 l0_1.length c0_1] 29 (0, 0)) (zK BK124)) : gb124 ≠ gb125)); have n6_ := zA ((by rw [hg]; exact Nat.ne_of_gt (zax (g := gb124) (o := .cells #[.slice A0_0 l0_0.length c0_0, .slice A0_1 l0_1.length c0_1] 29 (0, 0)) (zK BK124)) : gb125 ≠ gb124)); clear BK124 HB; have BK124 := n0_; have HB := n1_; have BK125 := n2_; have GW125 := n3_; have GE125 := n4_; have NB124_125 := n5_; have NB125_124 := n6_; clear n0_ n1_ n2_ n3_ n4_ n5_ n6_ hb hbox hg))
 have n0_ := zA (zai BK124.out)
 have n1_ := zA (zai BK125.out)
 have n2_ := zA (zbo HB.out)
 clear BK124 BK125 HB
 have BK124 := n0_
 have BK125 := n1_
 have HB := n2_
 clear n0_ n1_ n2_
 refine start_ (n := 18) (S := fun w' => w'.cell? ⟨gb124, 0, none⟩ = some (.slice A0_0 l0_0.length c0_0) ∧ w'.cell? ⟨gb124, 1, none⟩ = some (.slice A0_1 l0_1.length c0_1) ∧ w'.cell? ⟨gb125, 0, none⟩ = some (.slice A1_0 l1_0.length c1_0) ∧ w'.cell? ⟨gb125, 1, none⟩ = some (.slice A1_1 l1_1.length c1_1)) (ds := []) #[false, false, false, false, false, false, false, false, false, false, false, false, false, false, false, false, false, false] (by kernel_rfl) rfl rfl ⟨(zab BK124.out 0).trans rfl, (zab BK124.out 1).trans rfl, (zab BK125.out 0).trans rfl, (zab BK125.out 1).trans rfl⟩ (fun hHeld => ?_); refine zcq zbn.tab1 zbn.bits1 (fun HT_ HW_ => ?_)
 generalize w7.drew = w8 at BK124 BK125 HB hHeld ⊢
 refine pure_ (i := 0) (N := some 7) (v := ?_) (a' := ?_) #[true, false, false, false, false, false, false, false, false, false, false, false, false, false, false, false, false, false] rfl rfl (zat HT_.out (by kernel_rfl)) (fun _ _ _ h => h) (Or.inl ⟨by rfl, ?_⟩) ?_ ?_
 rotate_left
 ·
  intro w'
  go_simp
  with_reducible rfl
 rotate_left
 ·
  simp only [Act.put, zs1, zs2, zs3, i64_w, i32_w]
  rfl
 refine pure_ (i := 2) (N := some 9) (v := ?_) (a' := ?_) #[true, false, true, false, false, false, false, false, false, false, false, false, false, false, false, false, false, false] rfl rfl (zat HT_.out (by kernel_rfl)) (fun _ _ _ h => h) (Or.inl ⟨by rfl, ?_⟩) ?_ ?_
 rotate_left
 ·
  intro w'
  go_simp
  with_reducible rfl
 rotate_left
 ·
  simp only [Act.put, zs1, zs2, zs3, i64_w, i32_w]
  rfl
 refine pure_ (i := 5) (N := some 12) (v := ?_) (a' := ?_) #[true, false, true, false, false, true, false, false, false, false, false, false, false, false, false, false, false, false] rfl rfl (zat HT_.out (by kernel_rfl)) (fun _ _ _ h => h) (Or.inl ⟨by rfl, ?_⟩) ?_ ?_
 rotate_left
 ·
  intro w'
  go_simp
  with_reducible rfl
 rotate_left
 ·
  simp only [Act.put, zs1, zs2, zs3, i64_w, i32_w]
  rfl
 refine pure_ (i := 7) (N := some 14) (v := ?_) (a' := ?_) #[true, false, true, false, false, true, false, true, false, false, false, false, false, false, false, false, false, false] rfl rfl (zat HT_.out (by kernel_rfl)) (fun _ _ _ h => h) (Or.inl ⟨by rfl, ?_⟩) ?_ ?_
 rotate_left
 ·
  intro w'
  go_simp
  with_reducible rfl
 rotate_left
 ·
  simp only [Act.put, zs1, zs2, zs3, i64_w, i32_w]
  rfl
 refine pure_ (i := 10) (N := some 17) (v := ?_) (a' := ?_) #[true, false, true, false, false, true, false, true, false, false, true, false, false, false, false, false, false, false] rfl rfl (zat HT_.out (by kernel_rfl)) (fun _ _ _ h => h) (Or.inl ⟨by rfl, ?_⟩) ?_ ?_
 rotate_left
 ·
  intro w'
  go_simp
  with_reducible rfl
 rotate_left
 ·
  simp only [Act.put, zs1, zs2, zs3, i64_w, i32_w]
  rfl
 refine pure_ (i := 12) (N := some 19) (v := ?_) (a' := ?_) #[true, false, true, false, false, true, false, true, false, false, true, false, true, false, false, false, false, false] rfl rfl (zat HT_.out (by kernel_rfl)) (fun _ _ _ h => h) (Or.inl ⟨by rfl, ?_⟩) ?_ ?_
 rotate_left
 ·
  intro w'
  go_simp
  with_reducible rfl
 rotate_left
 ·
  simp only [Act.put, zs1, zs2, zs3, i64_w, i32_w]
  rfl
 refine take_ (i := 1) (N := some 8) (v := ?_) (a' := ?_) #[true, true, true, false, false, true, false, true, false, false, true, false, true, false, false, false, false, false] rfl rfl (zbk HT_.out HW_.out (by kernel_rfl)) (fun _ _ _ h => h) (Or.inl ⟨by rfl, ?_⟩) hHeld ?_ ?_
 rotate_left
 ·
  rintro w' ⟨s0, s1, s2, s3⟩
  go_simp
  with_reducible rfl
 rotate_left
 ·
  simp only [Act.put, zs1, zs2, zs3, i64_w, i32_w]
  rfl
 refine take_ (i := 3) (N := some 10) (v := ?_) (a' := ?_) #[true, true, true, true, false, true, false, true, false, false, true, false, true, false, false, false, false, false] rfl rfl (zbk HT_.out HW_.out (by kernel_rfl)) (fun _ _ _ h => h) (Or.inl ⟨by rfl, ?_⟩) hHeld ?_ ?_
 rotate_left
 ·
  rintro w' ⟨s0, s1, s2, s3⟩
  go_simp
  with_reducible rfl
 rotate_left
 ·
  simp only [Act.put, zs1, zs2, zs3, i64_w, i32_w]
  rfl
 refine take_ (i := 6) (N := some 13) (v := ?_) (a' := ?_) #[true, true, true, true, false, true, true, true, false, false, true, false, true, false, false, false, false, false] rfl rfl (zbk HT_.out HW_.out (by kernel_rfl)) (fun _ _ _ h => h) (Or.inl ⟨by rfl, ?_⟩) hHeld ?_ ?_
 rotate_left
 ·
  rintro w' ⟨s0, s1, s2, s3⟩
  go_simp
  with_reducible rfl
 rotate_left
 ·
  simp only [Act.put, zs1, zs2, zs3, i64_w, i32_w]
  rfl
 refine take_ (i := 8) (N := some 15) (v := ?_) (a' := ?_) #[true, true, true, true, false, true, true, true, true, false, true, false, true, false, false, false, false, false] rfl rfl (zbk HT_.out HW_.out (by kernel_rfl)) (fun _ _ _ h => h) (Or.inl ⟨by rfl, ?_⟩) hHeld ?_ ?_
 rotate_left
 ·
  rintro w' ⟨s0, s1, s2, s3⟩
  go_simp
  with_reducible rfl
 rotate_left
 ·
  simp only [Act.put, zs1, zs2, zs3, i64_w, i32_w]
  rfl
 refine take_ (i := 11) (N := some 18) (v := ?_) (a' := ?_) #[true, true, true, true, false, true, true, true, true, false, true, true, true, false, false, false, false, false] rfl rfl (zbk HT_.out HW_.out (by kernel_rfl)) (fun _ _ _ h => h) (Or.inl ⟨by rfl, ?_⟩) hHeld ?_ ?_
 rotate_left
 ·
  rintro w' ⟨s0, s1, s2, s3⟩
  go_simp
  with_reducible rfl
 rotate_left
 ·
  simp only [Act.put, zs1, zs2, zs3, i64_w, i32_w]
  rfl
 refine take_ (i := 13) (N := some 20) (v := ?_) (a' := ?_) #[true, true, true, true, false, true, true, true, true, false, true, true, true, true, false, false, false, false] rfl rfl (zbk HT_.out HW_.out (by kernel_rfl)) (fun _ _ _ h => h) (Or.inl ⟨by rfl, ?_⟩) hHeld ?_ ?_
 rotate_left
 ·
  rintro w' ⟨s0, s1, s2, s3⟩
  go_simp
  with_reducible rfl
 rotate_left
 ·
  simp only [Act.put, zs1, zs2, zs3, i64_w, i32_w]
  rfl
 refine one_ (i := 4) (N := some 11) #[true, true, true, true, true, true, true, true, true, false, true, true, true, true, false, false, false, false] rfl rfl (zbu HT_.out (by kernel_rfl)) (by decide) (fun K hK => ?_)
 refine goes_ Tryz.func45 (by kernel_rfl) rfl #[.slice A0_0 l0_0.length c0_0, .slice A1_1 l1_1.length c1_1] (by rfl) rfl rfl (zE) ?_
 with_reducible refine (zbi.calls k _ _ l0_0 _ _ l1_1 t126 _ ?side1 ?side2 ?side3 ?side4 A3.out).mono ?_
 (case side1 => exact zJ (Kd.zas HR0_0.out HB.out))
 (case side2 => exact HC0_0.out)
 (case side3 => exact zJ (Kd.zas HR1_1.out HB.out))
 (case side4 => exact HC1_1.out)
 rintro e w9 ⟨v127, rfl, ho0, hb⟩
 refine ⟨_, rfl, ?_⟩
 have n0_ := zA (Kd.zaz (Kd.zam (ok' := fun k_ => (w.heap.size ≤ k_) ∧ k_ ≠ gb124 ∧ k_ ≠ gb125) ho0 (fun k_ hk_ => ⟨(Nat.le_trans (za (zB HB)) hk_), (Kd.freshB (g := gb124) (o := .cells #[.slice A0_0 l0_0.length c0_0, .slice A0_1 l0_1.length c0_1] 29 (0, 0)) (zK BK124) k_ hk_), (Kd.freshB (g := gb125) (o := .cells #[.slice A1_0 l1_0.length c1_0, .slice A1_1 l1_1.length c1_1] 29 (0, 0)) (zK BK125) k_ hk_)⟩)) (za (zB HB)))
 have n1_ := zA (zad (g := gb124) (o := .cells #[.slice A0_0 l0_0.length c0_0, .slice A0_1 l0_1.length c0_1] 29 (0, 0)) (zK BK124) hb)
 have n2_ := zA (zad (g := gb125) (o := .cells #[.slice A1_0 l1_0.length c1_0, .slice A1_1 l1_1.length c1_1] 29 (0, 0)) (zK BK125) hb)
 have n3_ := zA (zaa (zB HB) hb)
 clear BK124 BK125 HB
 have HO128 := n0_
 have BK124 := n1_
 have BK125 := n2_
 have HB := n3_
 clear n0_ n1_ n2_ n3_
 (try clear hb)
 (try clear hb2)
 (try clear hk)
 (try clear hi)
 (try clear ho0)
 refine hK.out _ _ ⟨(zab BK124.out 0).trans rfl, (zab BK124.out 1).trans rfl, (zab BK125.out 0).trans rfl, (zab BK125.out 1).trans rfl⟩ (fun hHeld => ?_)
 clear hK K
 refine norm_ (a' := ?_) ?_ ?_
 rotate_left
 ·
  show Act.put _ (some 11) _ = _
  simp only [Act.put, zs1, zs2, zs3, i64_w, i32_w]
  rfl
 refine one_ (i := 9) (N := some 16) #[true, true, true, true, true, true, true, true, true, true, true, true, true, true, false, false, false, false] rfl rfl (zbu HT_.out (by kernel_rfl)) (by decide) (fun K hK => ?_)
 refine goes_ Tryz.func45 (by kernel_rfl) rfl #[.slice A1_0 l1_0.length c1_0, .slice A0_1 l0_1.length c0_1] (by rfl) rfl rfl (zE) ?_
 with_reducible refine (zbi.calls k _ _ l1_0 _ _ l0_1 t129 _ ?side1 ?side2 ?side3 ?side4 A4.out).mono ?_
 (case side1 => exact zJ (Kd.zas HR1_0.out HB.out))
 (case side2 => exact HC1_0.out)
 (case side3 => exact zJ (Kd.zas HR0_1.out HB.out))
 (case side4 => exact HC0_1.out)
 rintro e w10 ⟨v130, rfl, ho0, hb⟩
 refine ⟨_, rfl, ?_⟩
 have n0_ := zA (Kd.zau (zV HO128) hb)
 have n1_ := zA (Kd.zaz (Kd.zam (ok' := fun k_ => (w.heap.size ≤ k_) ∧ k_ ≠ gb124 ∧ k_ ≠ gb125) ho0 (fun k_ hk_ => ⟨(Nat.le_trans (za (zB HB)) hk_), (Kd.freshB (g := gb124) (o := .cells #[.slice A0_0 l0_0.length c0_0, .slice A0_1 l0_1.length c0_1] 29 (0, 0)) (zK BK124) k_ hk_), (Kd.freshB (g := gb125) (o := .cells #[.slice A1_0 l1_0.length c1_0, .slice A1_1 l1_1.length c1_1] 29 (0, 0)) (zK BK125) k_ hk_)⟩)) (za (zB HB)))
 have n2_ := zA (zad (g := gb124) (o := .cells #[.slice A0_0 l0_0.length c0_0, .slice A0_1 l0_1.length c0_1] 29 (0, 0)) (zK BK124) hb)
 have n3_ := zA (zad (g := gb125) (o := .cells #[.slice A1_0 l1_0.length c1_0, .slice A1_1 l1_1.length c1_1] 29 (0, 0)) (zK BK125) hb)
 have n4_ := zA (zaa (zB HB) hb)
 clear HO128 BK124 BK125 HB
 have HO128 := n0_
 have HO131 := n1_
 have BK124 := n2_
 have BK125 := n3_
 have HB := n4_
 clear n0_ n1_ n2_ n3_ n4_
 (try clear hb)
 (try clear hb2)
 (try clear hk)
 (try clear hi)
 (try clear ho0)
 refine hK.out _ _ ⟨(zab BK124.out 0).trans rfl, (zab BK124.out 1).trans rfl, (zab BK125.out 0).trans rfl, (zab BK125.out 1).trans rfl⟩ (fun hHeld => ?_)
 clear hK K
 refine norm_ (a' := ?_) ?_ ?_
 rotate_left
 ·
  show Act.put _ (some 16) _ = _
  simp only [Act.put, zs1, zs2, zs3, i64_w, i32_w]
  rfl
 refine one_ (i := 14) (N := some 21) #[true, true, true, true, true, true, true, true, true, true, true, true, true, true, true, false, false, false] rfl rfl (zbu HT_.out (by kernel_rfl)) (by decide) (fun K hK => ?_)
 refine goes_ Tryz.func45 (by kernel_rfl) rfl #[.slice A0_1 l0_1.length c0_1, .slice A1_1 l1_1.length c1_1] (by rfl) rfl rfl (zE) ?_
 with_reducible refine (zbi.calls k _ _ l0_1 _ _ l1_1 t132 _ ?side1 ?side2 ?side3 ?side4 A5.out).mono ?_
 (case side1 => exact zJ (Kd.zas HR0_1.out HB.out))
 (case side2 => exact HC0_1.out)
 (case side3 => exact zJ (Kd.zas HR1_1.out HB.out))
 (case side4 => exact HC1_1.out)
 rintro e w11 ⟨v133, rfl, ho0, hb⟩
 refine ⟨_, rfl, ?_⟩
 have n0_ := zA (Kd.zau (zV HO128) hb)
 have n1_ := zA (Kd.zau (zV HO131) hb)
 have n2_ := zA (Kd.zaz (Kd.zam (ok' := fun k_ => (w.heap.size ≤ k_) ∧ k_ ≠ gb124 ∧ k_ ≠ gb125) ho0 (fun k_ hk_ => ⟨(Nat.le_trans (za (zB HB)) hk_), (Kd.freshB (g := gb124) (o := .cells #[.slice A0_0 l0_0.length c0_0, .slice A0_1 l0_1.length c0_1] 29 (0, 0)) (zK BK124) k_ hk_), (Kd.freshB (g := gb125) (o := .cells #[.slice A1_0 l1_0.length c1_0, .slice A1_1 l1_1.length c1_1] 29 (0, 0)) (zK BK125) k_ hk_)⟩)) (za (zB HB)))
 have n3_ := zA (zad (g := gb124) (o := .cells #[.slice A0_0 l0_0.length c0_0, .slice A0_1 l0_1.length c0_1] 29 (0, 0)) (zK BK124) hb)
 have n4_ := zA (zad (g := gb125) (o := .cells #[.slice A1_0 l1_0.length c1_0, .slice A1_1 l1_1.length c1_1] 29 (0, 0)) (zK BK125) hb)
 have n5_ := zA (zaa (zB HB) hb)
 clear HO128 HO131 BK124 BK125 HB
 have HO128 := n0_
 have HO131 := n1_
 have HO134 := n2_
 have BK124 := n3_
 have BK125 := n4_
 have HB := n5_
 clear n0_ n1_ n2_ n3_ n4_ n5_
 (try clear hb)
 (try clear hb2)
 (try clear hk)
 (try clear hi)
 (try clear ho0)
 refine hK.out _ _ ⟨(zab BK124.out 0).trans rfl, (zab BK124.out 1).trans rfl, (zab BK125.out 0).trans rfl, (zab BK125.out 1).trans rfl⟩ (fun hHeld => ?_)
 clear hK K
 refine norm_ (a' := ?_) ?_ ?_
 rotate_left
 ·
  show Act.put _ (some 21) _ = _
  simp only [Act.put, zs1, zs2, zs3, i64_w, i32_w]
  rfl
 refine pure_ (i := 15) (N := some 4) (v := ?_) (a' := ?_) #[true, true, true, true, true, true, true, true, true, true, true, true, true, true, true, true, false, false] rfl rfl (zat HT_.out (by kernel_rfl)) (fun _ _ _ h => h) (Or.inl ⟨by rfl, ?_⟩) ?_ ?_
 rotate_left
 ·
  intro w'
  go_simp
  with_reducible rfl
 rotate_left
 ·
  simp only [Act.put, zs1, zs2, zs3, i64_w, i32_w]
  rfl
 refine pure_ (i := 16) (N := some 5) (v := ?_) (a' := ?_) #[true, true, true, true, true, true, true, true, true, true, true, true, true, true, true, true, true, false] rfl rfl (zat HT_.out (by kernel_rfl)) (fun _ _ _ h => h) (Or.inl ⟨by rfl, ?_⟩) ?_ ?_
 rotate_left
 ·
  intro w'
  go_simp
  with_reducible rfl
 rotate_left
 ·
  simp only [Act.put, zs1, zs2, zs3, i64_w, i32_w]
  rfl
 refine pure_ (i := 17) (N := some 6) (v := ?_) (a' := ?_) #[true, true, true, true, true, true, true, true, true, true, true, true, true, true, true, true, true, true] rfl rfl (zat HT_.out (by kernel_rfl)) (fun _ _ _ h => h) (Or.inl ⟨by rfl, ?_⟩) ?_ ?_
 rotate_left
 ·
  intro w'
  go_simp
  with_reducible rfl
 rotate_left
 ·
  simp only [Act.put, zs1, zs2, zs3, i64_w, i32_w]
  rfl
 refine done_ (zdf HT_.out (by kernel_rfl)) ?_
 try go_wp2
 go_ret3
 exact ⟨_, _, _, zW, by (with_reducible repeat (first | apply Kd.zbr | apply Kd.zbq | apply Kd.zbt)); exact Kd.zam HO128.out (fun _ hk => hk.1), by (with_reducible repeat (first | apply Kd.zbr | apply Kd.zbq | apply Kd.zbt)); exact Kd.zam HO131.out (fun _ hk => hk.1), by (with_reducible repeat (first | apply Kd.zbr | apply Kd.zbq | apply Kd.zbt)); exact Kd.zam HO134.out (fun _ hk => hk.1), zB HB⟩
def cmp_isNaN_int.f (a0 : Int) : Option (Bool) := some (a0 != a0)
theorem cmp_isNaN_int.calls (a0 : Int) (r : Bool) (w : World) (h : cmp_isNaN_int.f a0 = some r) :
  Calls Tryz.prog 127 #[.int .i64 a0] w fun e w' => e = .returned (.bool r) ∧ Drawn0 w w' := by
 have H : (some (a0 != a0)) = some r := h
 clear h
 obtain rfl := Option.some.inj H
 go_enter Tryz.func127, Tryz.ntmps127
 go_wp2
 go_ret
 exact ⟨zF, by repeat (first | exact Drawn0.refl _ | apply Drawn0.step)⟩
def cmp_Compare_int.f (a0 : Int) (a1 : Int) : Option (Int) := (cmp_isNaN_int.f a0).bind fun t135 => ((cmp_isNaN_int.f a1).bind fun t136 => (if t135 = true then (if t136 = true then (some 0) else (some (-1))) else (if t136 = true then (some 1) else (if a0 < a1 then (some (-1)) else (if a0 > a1 then (some 1) else (some 0))))))
theorem cmp_Compare_int.calls (a0 : Int) (a1 : Int) (r : Int) (w : World) (h : cmp_Compare_int.f a0 a1 = some r) :
  Calls Tryz.prog 79 #[.int .i64 a0, .int .i64 a1] w fun e w' => e = .returned (.int .i64 r) ∧ Drawn0 w w' := by
 have H : ((cmp_isNaN_int.f a0).bind fun t135 => ((cmp_isNaN_int.f a1).bind fun t136 => (if t135 = true then (if t136 = true then (some 0) else (some (-1))) else (if t136 = true then (some 1) else (if a0 < a1 then (some (-1)) else (if a0 > a1 then (some 1) else (some 0))))))) = some r := h
 clear h
 replace H := zO H
 obtain ⟨t135, A30, H⟩ := H
 try dsimp only at H
 have A3 := zA A30
 clear A30
 replace H := zO H
 obtain ⟨t136, A40, H⟩ := H
 try dsimp only at H
 have A4 := zA A40
 clear A40
 by_cases c5 : t135 = true
 ·
  subst c5
  rw [if_pos rfl] at H
  by_cases c6 : t136 = true
  ·
   subst c6
   rw [if_pos rfl] at H
   obtain rfl := Option.some.inj H
   go_enter Tryz.func79, Tryz.ntmps79
   go_wp2_with (first | ((with_reducible refine zae (f := 127) rfl ?_); refine za2 (some 8) rfl rfl Tryz.func127 (by kernel_rfl) rfl #[.int .i64 a0] rfl (zE) ?_; (with_reducible refine (cmp_isNaN_int.calls a0 true _ A3.out).mono ?_); rintro e w' ⟨rfl, ⟨nd, rfl⟩⟩; refine ⟨_, rfl, ?_⟩) | ((with_reducible refine zae (f := 127) rfl ?_); refine za2 (some 10) rfl rfl Tryz.func127 (by kernel_rfl) rfl #[.int .i64 a1] rfl (zE) ?_; (with_reducible refine (cmp_isNaN_int.calls a1 true _ A4.out).mono ?_); rintro e w' ⟨rfl, ⟨nd, rfl⟩⟩; refine ⟨_, rfl, ?_⟩))
   go_ret
   exact ⟨zF, by repeat (first | exact Drawn0.refl _ | apply Drawn0.step)⟩
  ·
   replace c6 := Bool.eq_false_iff.mpr c6
   subst c6
   rw [if_neg (show ¬ (false = true) by decide)] at H
   obtain rfl := Option.some.inj H
   go_enter Tryz.func79, Tryz.ntmps79
   go_wp2_with (first | ((with_reducible refine zae (f := 127) rfl ?_); refine za2 (some 8) rfl rfl Tryz.func127 (by kernel_rfl) rfl #[.int .i64 a0] rfl (zE) ?_; (with_reducible refine (cmp_isNaN_int.calls a0 true _ A3.out).mono ?_); rintro e w' ⟨rfl, ⟨nd, rfl⟩⟩; refine ⟨_, rfl, ?_⟩) | ((with_reducible refine zae (f := 127) rfl ?_); refine za2 (some 10) rfl rfl Tryz.func127 (by kernel_rfl) rfl #[.int .i64 a1] rfl (zE) ?_; (with_reducible refine (cmp_isNaN_int.calls a1 false _ A4.out).mono ?_); rintro e w' ⟨rfl, ⟨nd, rfl⟩⟩; refine ⟨_, rfl, ?_⟩))
   go_ret
   exact ⟨zF, by repeat (first | exact Drawn0.refl _ | apply Drawn0.step)⟩
 ·
  replace c5 := Bool.eq_false_iff.mpr c5
  subst c5
  rw [if_neg (show ¬ (false = true) by decide)] at H
  by_cases c7 : t136 = true
  ·
   subst c7
   rw [if_pos rfl] at H
   obtain rfl := Option.some.inj H
   go_enter Tryz.func79, Tryz.ntmps79
   go_wp2_with (first | ((with_reducible refine zae (f := 127) rfl ?_); refine za2 (some 8) rfl rfl Tryz.func127 (by kernel_rfl) rfl #[.int .i64 a0] rfl (zE) ?_; (with_reducible refine (cmp_isNaN_int.calls a0 false _ A3.out).mono ?_); rintro e w' ⟨rfl, ⟨nd, rfl⟩⟩; refine ⟨_, rfl, ?_⟩) | ((with_reducible refine zae (f := 127) rfl ?_); refine za2 (some 10) rfl rfl Tryz.func127 (by kernel_rfl) rfl #[.int .i64 a1] rfl (zE) ?_; (with_reducible refine (cmp_isNaN_int.calls a1 true _ A4.out).mono ?_); rintro e w' ⟨rfl, ⟨nd, rfl⟩⟩; refine ⟨_, rfl, ?_⟩))
   go_ret
   exact ⟨zF, by repeat (first | exact Drawn0.refl _ | apply Drawn0.step)⟩
  ·
   replace c7 := Bool.eq_false_iff.mpr c7
   subst c7
   rw [if_neg (show ¬ (false = true) by decide)] at H
   by_cases c8 : a0 < a1
   ·
    rw [if_pos c8] at H
    have c8b0 : decide (a0 < a1) = true := decide_eq_true c8
    clear c8
    obtain rfl := Option.some.inj H
    go_enter Tryz.func79, Tryz.ntmps79
    go_wp2_with (first | ((with_reducible refine zae (f := 127) rfl ?_); refine za2 (some 8) rfl rfl Tryz.func127 (by kernel_rfl) rfl #[.int .i64 a0] rfl (zE) ?_; (with_reducible refine (cmp_isNaN_int.calls a0 false _ A3.out).mono ?_); rintro e w' ⟨rfl, ⟨nd, rfl⟩⟩; refine ⟨_, rfl, ?_⟩) | ((with_reducible refine zae (f := 127) rfl ?_); refine za2 (some 10) rfl rfl Tryz.func127 (by kernel_rfl) rfl #[.int .i64 a1] rfl (zE) ?_; (with_reducible refine (cmp_isNaN_int.calls a1 false _ A4.out).mono ?_); rintro e w' ⟨rfl, ⟨nd, rfl⟩⟩; refine ⟨_, rfl, ?_⟩))
    go_ret
    exact ⟨zF, by repeat (first | exact Drawn0.refl _ | apply Drawn0.step)⟩
   ·
    rw [if_neg c8] at H
    have c8b0 : decide (a0 < a1) = false := decide_eq_false c8
    clear c8
    by_cases c9 : a0 > a1
    ·
     rw [if_pos c9] at H
     have c9b0 : decide (a1 < a0) = true := decide_eq_true c9
     clear c9
     obtain rfl := Option.some.inj H
     go_enter Tryz.func79, Tryz.ntmps79
     go_wp2_with (first | ((with_reducible refine zae (f := 127) rfl ?_); refine za2 (some 8) rfl rfl Tryz.func127 (by kernel_rfl) rfl #[.int .i64 a0] rfl (zE) ?_; (with_reducible refine (cmp_isNaN_int.calls a0 false _ A3.out).mono ?_); rintro e w' ⟨rfl, ⟨nd, rfl⟩⟩; refine ⟨_, rfl, ?_⟩) | ((with_reducible refine zae (f := 127) rfl ?_); refine za2 (some 10) rfl rfl Tryz.func127 (by kernel_rfl) rfl #[.int .i64 a1] rfl (zE) ?_; (with_reducible refine (cmp_isNaN_int.calls a1 false _ A4.out).mono ?_); rintro e w' ⟨rfl, ⟨nd, rfl⟩⟩; refine ⟨_, rfl, ?_⟩))
     go_ret
     exact ⟨zF, by repeat (first | exact Drawn0.refl _ | apply Drawn0.step)⟩
    ·
     rw [if_neg c9] at H
     have c9b0 : decide (a1 < a0) = false := decide_eq_false c9
     clear c9
     obtain rfl := Option.some.inj H
     go_enter Tryz.func79, Tryz.ntmps79
     go_wp2_with (first | ((with_reducible refine zae (f := 127) rfl ?_); refine za2 (some 8) rfl rfl Tryz.func127 (by kernel_rfl) rfl #[.int .i64 a0] rfl (zE) ?_; (with_reducible refine (cmp_isNaN_int.calls a0 false _ A3.out).mono ?_); rintro e w' ⟨rfl, ⟨nd, rfl⟩⟩; refine ⟨_, rfl, ?_⟩) | ((with_reducible refine zae (f := 127) rfl ?_); refine za2 (some 10) rfl rfl Tryz.func127 (by kernel_rfl) rfl #[.int .i64 a1] rfl (zE) ?_; (with_reducible refine (cmp_isNaN_int.calls a1 false _ A4.out).mono ?_); rintro e w' ⟨rfl, ⟨nd, rfl⟩⟩; refine ⟨_, rfl, ?_⟩))
     go_ret
     exact ⟨zF, by repeat (first | exact Drawn0.refl _ | apply Drawn0.step)⟩
def zbb.f (a0 : Int) : Option (Bool) := some (a0 != a0)
theorem zbb.calls (a0 : Int) (r : Bool) (w : World) (h : zbb.f a0 = some r) :
  Calls Tryz.prog 129 #[.int .u64 a0] w fun e w' => e = .returned (.bool r) ∧ Drawn0 w w' := by
 have H : (some (a0 != a0)) = some r := h
 clear h
 obtain rfl := Option.some.inj H
 go_enter Tryz.func129, Tryz.ntmps129
 go_wp2
 go_ret
 exact ⟨zF, by repeat (first | exact Drawn0.refl _ | apply Drawn0.step)⟩
def zcw.f (a0 : Int) (a1 : Int) : Option (Int) := (zbb.f a0).bind fun t137 => ((zbb.f a1).bind fun t138 => (if t137 = true then (if t138 = true then (some 0) else (some (-1))) else (if t138 = true then (some 1) else (if a0 < a1 then (some (-1)) else (if a0 > a1 then (some 1) else (some 0))))))
theorem zcw.calls (a0 : Int) (a1 : Int) (r : Int) (w : World) (h : zcw.f a0 a1 = some r) :
  Calls Tryz.prog 81 #[.int .u64 a0, .int .u64 a1] w fun e w' => e = .returned (.int .i64 r) ∧ Drawn0 w w' := by
 have H : ((zbb.f a0).bind fun t137 => ((zbb.f a1).bind fun t138 => (if t137 = true then (if t138 = true then (some 0) else (some (-1))) else (if t138 = true then (some 1) else (if a0 < a1 then (some (-1)) else (if a0 > a1 then (some 1) else (some 0))))))) = some r := h
 clear h
 replace H := zO H
 obtain ⟨t137, A30, H⟩ := H
 try dsimp only at H
 have A3 := zA A30
 clear A30
 replace H := zO H
 obtain ⟨t138, A40, H⟩ := H
 try dsimp only at H
 have A4 := zA A40
 clear A40
 by_cases c5 : t137 = true
 ·
  subst c5
  rw [if_pos rfl] at H
  by_cases c6 : t138 = true
  ·
   subst c6
   rw [if_pos rfl] at H
   obtain rfl := Option.some.inj H
   go_enter Tryz.func81, Tryz.ntmps81
   go_wp2_with (first | ((with_reducible refine zae (f := 129) rfl ?_); refine za2 (some 8) rfl rfl Tryz.func129 (by kernel_rfl) rfl #[.int .u64 a0] rfl (zE) ?_; (with_reducible refine (zbb.calls a0 true _ A3.out).mono ?_); rintro e w' ⟨rfl, ⟨nd, rfl⟩⟩; refine ⟨_, rfl, ?_⟩) | ((with_reducible refine zae (f := 129) rfl ?_); refine za2 (some 10) rfl rfl Tryz.func129 (by kernel_rfl) rfl #[.int .u64 a1] rfl (zE) ?_; (with_reducible refine (zbb.calls a1 true _ A4.out).mono ?_); rintro e w' ⟨rfl, ⟨nd, rfl⟩⟩; refine ⟨_, rfl, ?_⟩))
   go_ret
   exact ⟨zF, by repeat (first | exact Drawn0.refl _ | apply Drawn0.step)⟩
  ·
   replace c6 := Bool.eq_false_iff.mpr c6
   subst c6
   rw [if_neg (show ¬ (false = true) by decide)] at H
   obtain rfl := Option.some.inj H
   go_enter Tryz.func81, Tryz.ntmps81
   go_wp2_with (first | ((with_reducible refine zae (f := 129) rfl ?_); refine za2 (some 8) rfl rfl Tryz.func129 (by kernel_rfl) rfl #[.int .u64 a0] rfl (zE) ?_; (with_reducible refine (zbb.calls a0 true _ A3.out).mono ?_); rintro e w' ⟨rfl, ⟨nd, rfl⟩⟩; refine ⟨_, rfl, ?_⟩) | ((with_reducible refine zae (f := 129) rfl ?_); refine za2 (some 10) rfl rfl Tryz.func129 (by kernel_rfl) rfl #[.int .u64 a1] rfl (zE) ?_; (with_reducible refine (zbb.calls a1 false _ A4.out).mono ?_); rintro e w' ⟨rfl, ⟨nd, rfl⟩⟩; refine ⟨_, rfl, ?_⟩))
   go_ret
   exact ⟨zF, by repeat (first | exact Drawn0.refl _ | apply Drawn0.step)⟩
 ·
  replace c5 := Bool.eq_false_iff.mpr c5
  subst c5
  rw [if_neg (show ¬ (false = true) by decide)] at H
  by_cases c7 : t138 = true
  ·
   subst c7
   rw [if_pos rfl] at H
   obtain rfl := Option.some.inj H
   go_enter Tryz.func81, Tryz.ntmps81
   go_wp2_with (first | ((with_reducible refine zae (f := 129) rfl ?_); refine za2 (some 8) rfl rfl Tryz.func129 (by kernel_rfl) rfl #[.int .u64 a0] rfl (zE) ?_; (with_reducible refine (zbb.calls a0 false _ A3.out).mono ?_); rintro e w' ⟨rfl, ⟨nd, rfl⟩⟩; refine ⟨_, rfl, ?_⟩) | ((with_reducible refine zae (f := 129) rfl ?_); refine za2 (some 10) rfl rfl Tryz.func129 (by kernel_rfl) rfl #[.int .u64 a1] rfl (zE) ?_; (with_reducible refine (zbb.calls a1 true _ A4.out).mono ?_); rintro e w' ⟨rfl, ⟨nd, rfl⟩⟩; refine ⟨_, rfl, ?_⟩))
   go_ret
   exact ⟨zF, by repeat (first | exact Drawn0.refl _ | apply Drawn0.step)⟩
  ·
   replace c7 := Bool.eq_false_iff.mpr c7
   subst c7
   rw [if_neg (show ¬ (false = true) by decide)] at H
   by_cases c8 : a0 < a1
   ·
    rw [if_pos c8] at H
    have c8b0 : decide (a0 < a1) = true := decide_eq_true c8
    clear c8
    obtain rfl := Option.some.inj H
    go_enter Tryz.func81, Tryz.ntmps81
    go_wp2_with (first | ((with_reducible refine zae (f := 129) rfl ?_); refine za2 (some 8) rfl rfl Tryz.func129 (by kernel_rfl) rfl #[.int .u64 a0] rfl (zE) ?_; (with_reducible refine (zbb.calls a0 false _ A3.out).mono ?_); rintro e w' ⟨rfl, ⟨nd, rfl⟩⟩; refine ⟨_, rfl, ?_⟩) | ((with_reducible refine zae (f := 129) rfl ?_); refine za2 (some 10) rfl rfl Tryz.func129 (by kernel_rfl) rfl #[.int .u64 a1] rfl (zE) ?_; (with_reducible refine (zbb.calls a1 false _ A4.out).mono ?_); rintro e w' ⟨rfl, ⟨nd, rfl⟩⟩; refine ⟨_, rfl, ?_⟩))
    go_ret
    exact ⟨zF, by repeat (first | exact Drawn0.refl _ | apply Drawn0.step)⟩
   ·
    rw [if_neg c8] at H
    have c8b0 : decide (a0 < a1) = false := decide_eq_false c8
    clear c8
    by_cases c9 : a0 > a1
    ·
     rw [if_pos c9] at H
     have c9b0 : decide (a1 < a0) = true := decide_eq_true c9
     clear c9
     obtain rfl := Option.some.inj H
     go_enter Tryz.func81, Tryz.ntmps81
     go_wp2_with (first | ((with_reducible refine zae (f := 129) rfl ?_); refine za2 (some 8) rfl rfl Tryz.func129 (by kernel_rfl) rfl #[.int .u64 a0] rfl (zE) ?_; (with_reducible refine (zbb.calls a0 false _ A3.out).mono ?_); rintro e w' ⟨rfl, ⟨nd, rfl⟩⟩; refine ⟨_, rfl, ?_⟩) | ((with_reducible refine zae (f := 129) rfl ?_); refine za2 (some 10) rfl rfl Tryz.func129 (by kernel_rfl) rfl #[.int .u64 a1] rfl (zE) ?_; (with_reducible refine (zbb.calls a1 false _ A4.out).mono ?_); rintro e w' ⟨rfl, ⟨nd, rfl⟩⟩; refine ⟨_, rfl, ?_⟩))
     go_ret
     exact ⟨zF, by repeat (first | exact Drawn0.refl _ | apply Drawn0.step)⟩
    ·
     rw [if_neg c9] at H
     have c9b0 : decide (a1 < a0) = false := decide_eq_false c9
     clear c9
     obtain rfl := Option.some.inj H
     go_enter Tryz.func81, Tryz.ntmps81
     go_wp2_with (first | ((with_reducible refine zae (f := 129) rfl ?_); refine za2 (some 8) rfl rfl Tryz.func129 (by kernel_rfl) rfl #[.int .u64 a0] rfl (zE) ?_; (with_reducible refine (zbb.calls a0 false _ A3.out).mono ?_); rintro e w' ⟨rfl, ⟨nd, rfl⟩⟩; refine ⟨_, rfl, ?_⟩) | ((with_reducible refine zae (f := 129) rfl ?_); refine za2 (some 10) rfl rfl Tryz.func129 (by kernel_rfl) rfl #[.int .u64 a1] rfl (zE) ?_; (with_reducible refine (zbb.calls a1 false _ A4.out).mono ?_); rintro e w' ⟨rfl, ⟨nd, rfl⟩⟩; refine ⟨_, rfl, ?_⟩))
     go_ret
     exact ⟨zF, by repeat (first | exact Drawn0.refl _ | apply Drawn0.step)⟩
def revCmp : List Int → List Int → Int
 | x :: xs, y :: ys => if x = y then revCmp xs ys else if x < y then -1 else 1
 | _, _ => 0
def natCmp (l0 l1 : List Int) : Int := if l0.length = l1.length then revCmp l0.reverse l1.reverse else if l0.length < l1.length then -1 else 1
def zcp.f (l0 l1 : List Int) : Option Int := some (natCmp l0 l1)
section
open Go.Shelf
attribute [local go_sem] Oper.semAt_some
def bw (zs : List Int) (k : Nat) : List (Fin zs.length) := (List.finRange zs.length).reverse.take k
theorem bw_succ (zs : List Int) (k : Nat) (h : k < zs.length) : bw zs (k + 1) = bw zs k ++ [⟨zs.length - 1 - k, by omega⟩] := by
 unfold bw
 rw [List.take_succ_eq_append_getElem (by simpa using h)]
 congr 2
 rw [List.getElem_reverse]
 simp
theorem bw_length (zs : List Int) (k : Nat) (h : k ≤ zs.length) : (bw zs k).length = k := by simp [bw]; omega
def bwv (zs : List Int) (x : Fin zs.length) : Int := zs.getD x.val 0
theorem bwv_eq (zs : List Int) (x : Fin zs.length) : bwv zs x = zs.getD x.val 0 := rfl
def BwKp (n₀ Bs : Nat) (A B : World) : Prop := Below n₀ A B ∧ B.cell? ⟨Bs, 0, none⟩ = A.cell? ⟨Bs, 0, none⟩
theorem back1_in (F : Fence) (n : Nat) (h8 : F.fn 128) (hro : F.round = none) (hn : 1 ≤ n) (l Bs n₀ cap : Nat) (A : Option Addr) (zs : List Int) (hreach : zs.length ≤ 9223372036854775807) (J Jx : List (Fin zs.length) → World → Prop)
  (hY : ∀ pre x W, J pre W → pre.length < zs.length → YieldAt F (n - 1) Tryz.prog l #[.int .i64 (x.val : Int), .int .u64 (bwv zs x)] W fun e W' =>
   (e = .returned (.bool true) ∧ J (pre ++ [x]) W' ∧ BwKp n₀ Bs W W') ∨ (e = .returned (.bool false) ∧ Jx (pre ++ [x]) W'))
  (W : World) (hBs : W.cell? ⟨Bs, 0, none⟩ = some (.slice A zs.length cap)) (hc : ∀ j, j < zs.length → ∃ ad, A = some ad ∧ ad.block < n₀ ∧ W.cell? (ad.add j) = some (.int .u64 (zs.getD j 0))) (h0 : J [] W) :
  CallsIn F n Tryz.prog 128 #[.func (.yield l) #[] #[], .pointer (some ⟨Bs, 0, none⟩)] W fun e W' => (∃ v, e = .returned v) ∧
   ((∃ ys, ys = bw zs zs.length ∧ J ys W') ∨ (∃ pre, (∃ k, k ≤ zs.length ∧ pre = bw zs k) ∧ Jx pre W')) := by
 refine callsIn_of_wp Tryz.func128 rfl h8 ?_ hro
 simp only [Tryz.ntmps128, List.size_toArray, List.length_cons, List.length_nil, Nat.reduceAdd, Nat.reduceSub, Array.replicate_succ, Array.replicate_zero, List.push_toArray, List.append_toArray, List.nil_append, List.cons_append]
 gi_wp2
 gi_loopw [3] (fun i wr => ∃ (k : Nat) (m : Int), k ≤ zs.length ∧ m = (zs.length : Int) - 1 - k ∧ i = .int .i64 m ∧ J (bw zs k) wr ∧ BwKp n₀ Bs W wr)
  (fun i _ => (intOf i + 1).toNat)
 case atStart => exact ⟨0, (zs.length : Int) - 1, Nat.zero_le _, by omega, rfl, h0, Below.refl _ _, rfl⟩
 case round =>
  obtain ⟨k, m, hk, hm, rfl, hJs, hnx, hbx⟩ := hrel
  have hBr : wr.cell? ⟨Bs, 0, none⟩ = some (.slice A zs.length cap) := hbx.trans hBs
  have HM := Lib.hid hm
  by_cases hlt : k < zs.length
  ·
   obtain ⟨j, hj⟩ : ∃ j : Nat, m = j := ⟨zs.length - 1 - k, by omega⟩
   subst hj
   have hjk : zs.length - 1 - k = j := by omega
   obtain ⟨ad, rfl, hb, hcj⟩ := hc j (by omega)
   have hcx : wr.cell? (ad.add j) = some (.int .u64 (zs.getD j 0)) := (hnx.cell (p := ad.add j) (by unfold Addr.add; split <;> exact hb)).trans hcj
   have hjl : j < zs.length := by omega
   obtain ⟨fn, tmps, assign, body, hy, hR⟩ := hY _ ⟨j, hjl⟩ wr hJs (by rw [bw_length _ _ hk]; exact hlt)
   have hlast : bw zs (k + 1) = bw zs k ++ [⟨j, hjl⟩] := by
    rw [bw_succ zs k hlt]
    congr 3
   have HL := Lib.hid hlast
   have HB := Lib.hid hbx
   rw [bwv_eq] at hy
   dsimp only at hy
   obtain ⟨x, hx⟩ : ∃ x, zs.getD j 0 = x := ⟨_, rfl⟩
   rw [hx] at hcx hy
   have hj0 : (0 : Int) ≤ j := by omega
   have hj1 : (j : Int) < zs.length := by omega
   clear hm hjk hx hlast hc hcj hBs hbx
   gi_wp2
   refine hR.mono ?_
   rintro e W3 (⟨rfl, hJ3, hk3, hb3⟩ | ⟨rfl, hJx3⟩)
   ·
    gi_wp2
    go_roundw
    case rel => exact ⟨k + 1, (j : Int) - 1, by omega, by have := HM.out; omega, rfl, by rw [HL.out]; exact hJ3, hnx.trans hk3, hb3.trans HB.out⟩
    case measure => simp [intOf]
   ·
    gi_wp2
    refine bodyPost_ret (results_none rfl _ _ _) rfl ?_
    exact ⟨⟨_, rfl⟩, .inr ⟨_, ⟨k + 1, by omega, HL.out.symm⟩, hJx3⟩⟩
  ·
   obtain rfl : k = zs.length := by omega
   obtain rfl : m = -1 := by omega
   gi_wp2
   go_end0
   exact ⟨⟨_, rfl⟩, .inl ⟨_, rfl, hJs⟩⟩
theorem back_in (F : Fence) (n : Nat) (h : F.fn 80) (hro : F.round = none) (a : Option Addr) (len cap : Nat) (w : World) :
  CallsIn F n Tryz.prog 80 #[.slice a len cap] w fun e w' => e = .returned (.func (.func 128) #[] #[.pointer (some ⟨w.heap.size, 0, none⟩)]) ∧ w' = w.alloc (.cells #[.slice a len cap] 27) := by
 refine callsIn_of_wp Tryz.func80 rfl h ?_ hro
 simp only [Tryz.ntmps80, List.size_toArray, List.length_cons, List.length_nil, Nat.reduceAdd, Nat.reduceSub, Array.replicate_succ, Array.replicate_zero, List.push_toArray, List.append_toArray, List.nil_append, List.cons_append]
 gi_wp2
 go_ret
 exact ⟨rfl, rfl⟩
theorem back_stops (F : Fence) (n : Nat) (h7 : F.fn 128) (hro : F.round = none) (hn : 1 ≤ n) (Bs n₀ cap : Nat) (A : Option Addr) (zs : List Int) (hreach : zs.length ≤ 9223372036854775807) (w : World) (hBs : Bs < w.heap.size) (hn₀ : n₀ ≤ w.heap.size)
  (hc : w.cell? ⟨Bs, 0, none⟩ = some (.slice A zs.length cap)) (hI : ∀ j, j < zs.length → ∃ ad, A = some ad ∧ ad.block < n₀ ∧ w.cell? (ad.add j) = some (.int .u64 (zs.getD j 0))) :
  SeqStopsK F n Tryz.prog 128 #[.pointer (some ⟨Bs, 0, none⟩)] (fun x : Fin zs.length => #[Value.int .i64 (x.val : Int), Value.int .u64 (bwv zs x)]) (BwKp n₀ Bs) (fun ys => ys = bw zs zs.length)
   (fun pre => ∃ k, k ≤ zs.length ∧ pre = bw zs k) zs.length w := fun l J Jx W hW _ _ hY h0 =>
 back1_in F n h7 hro hn l Bs n₀ cap A zs hreach J Jx hY W ((hW.cell (p := ⟨Bs, 0, none⟩) hBs).trans hc)
  (fun j hj => by
   obtain ⟨ad, e, hb, hcj⟩ := hI j hj
   exact ⟨ad, e, hb, (hW.cell (p := ad.add j) (by unfold Addr.add; split <;> (show ad.block < _; omega))).trans hcj⟩) h0
theorem bwKp_t {n₀ Bs : Nat} {A B C : World} (h : BwKp n₀ Bs A B) (h' : BwKp n₀ Bs B C) : BwKp n₀ Bs A C := ⟨h.1.trans h'.1, h'.2.trans h.2⟩
theorem bwKp_b {n₀ Bs : Nat} {w : World} (hn : n₀ ≤ w.heap.size) (hB : Bs < w.heap.size) (W : World) (l : Nat) (o o' : Obj) (hl : w.heap.size ≤ l) (ho : W.heap[l]? = some o) (hc : o.isCells = false) (hw : o.isWalk = false) : BwKp n₀ Bs W (W.putObj l o') :=
 ⟨belowK_b hn W l o o' hl ho hc hw, by
  unfold World.cell?
  rw [World.putObj_heap_other (by show Bs ≠ l; omega)]⟩
end
theorem compare_int {a b : Nat} (h : a ≠ b) : cmp_Compare_int.f (a : Int) (b : Int) = some (if a < b then -1 else 1) := by
 unfold cmp_Compare_int.f cmp_isNaN_int.f
 rcases Nat.lt_or_ge a b with h1 | h1
 ·
  simp [h1]
 ·
  have h2 : ¬ a < b := by omega
  have h3 : b < a := by omega
  simp [h2, h3]
theorem compare_u64 {a b : Int} (h : a ≠ b) : zcw.f a b = some (if a < b then -1 else 1) := by
 unfold zcw.f zbb.f
 by_cases h1 : a < b
 ·
  simp [h1]
 ·
  have h3 : b < a := by omega
  simp [h1, h3]
theorem zcp.ne (A0 : Option Addr) (c0 n0 : Nat) (A1 : Option Addr) (c1 n1 : Nat) (w : World) (h : n0 ≠ n1) (r : Int) (hr : cmp_Compare_int.f (n0 : Int) (n1 : Int) = some r) :
  Calls Tryz.prog 42 #[.slice A0 n0 c0, .slice A1 n1 c1] w fun e w' => e = .returned (.int .i64 r) ∧ Below w.heap.size w w' := by
 have hne : ((n0 : Int) != (n1 : Int)) = true := by simp; omega
 have hne2 : ((n0 : Nat) != n1) = true := by simpa using h
 have HC := Lib.hid hr
 clear hr
 go_enter Tryz.func42, Tryz.ntmps42
 go_wp2_with (go_at_call 79; refine (cmp_Compare_int.calls _ _ _ _ HC.out).mono ?_; rintro e w' ⟨rfl, ⟨nd, rfl⟩⟩)
 refine bodyPost_ret (v := .int .i64 r) (by simp [results, Tryz.f42, go_sem]) rfl ⟨rfl, ?_⟩
 exact (zbh (((Below.refl _ _).alloc (Nat.le_refl _) _).alloc (by simp) _) nd).setCell (p := ⟨w.heap.size + 1, 0, none⟩) (by simp) _
section
open Go.Shelf
attribute [local go_sem] Oper.semAt_some
theorem zcp.eq_in (F : Fence) (n : Nat) (h4 : F.fn 42) (h6 : F.fn 80) (h8 : F.fn 128) (h9 : F.fn 81) (hro : F.round = none) (hn : 4 ≤ n) (hcmp : ∀ (m l : Nat) (a b : Int) (w : World), a ≠ b → CallsIn (F.inRound l) m Tryz.prog 81 #[.int .u64 a, .int .u64 b] w fun e w' => e = .returned (.int .i64 (if a < b then -1 else 1)) ∧ Drawn0 w w')
  (A0 : Option Addr) (c0 : Nat) (l0 : List Int) (A1 : Option Addr) (c1 : Nat) (l1 : List Int) (w : World) (hreach : l0.length ≤ 9223372036854775807) (hl : l1.length = l0.length)
  (hI0 : ∀ j, j < l0.length → ∃ ad, A0 = some ad ∧ ad.block < w.heap.size ∧ w.cell? (ad.add j) = some (.int .u64 (l0.getD j 0)))
  (hI1 : ∀ j, j < l0.length → ∃ ad, A1 = some ad ∧ ad.block < w.heap.size ∧ w.cell? (ad.add j) = some (.int .u64 (l1.getD j 0))) :
  CallsIn F n Tryz.prog 42 #[.slice A0 l0.length c0, .slice A1 l0.length c1] w fun e W' =>
   ((e = .returned (.int .i64 0) ∧ ∀ p ∈ bw l0 l0.length, bwv l0 p = l1.getD p.val 0) ∨ (∃ k : Nat, ∃ p : Fin l0.length, bw l0 (k + 1) = bw l0 k ++ [p] ∧ k < l0.length ∧ (∀ p ∈ bw l0 k, bwv l0 p = l1.getD p.val 0) ∧ bwv l0 p ≠ l1.getD p.val 0 ∧ e = .returned (.int .i64 (if bwv l0 p < l1.getD p.val 0 then -1 else 1)))) ∧ Below w.heap.size w W' := by
 have h1 : 1 ≤ n := by omega
 have hne : ((l0.length : Int) != (l0.length : Int)) = false := by simp
 refine callsIn_of_wp_marks Tryz.func42 rfl h4 ?_ hro
 simp only [Tryz.ntmps42, List.size_toArray, List.length_cons, List.length_nil, Nat.reduceAdd, Nat.reduceSub, Array.replicate_succ, Array.replicate_zero, List.push_toArray, List.append_toArray, List.nil_append, List.cons_append]
 have HI0 := Lib.hid hI0
 have HI1 := Lib.hid hI1
 have HL := Lib.hid hl
 have HC := Lib.hid hcmp
 clear hI0 hI1 hl hcmp
 gi_wp2_with (gi_at_call 80; refine (back_in F (n - 1) h6 hro _ _ _ _).mono ?_; rintro e w' ⟨rfl, rfl⟩)
 have bB := Boxed.new w 27 (.slice A1 l0.length c1)
 have bR := Boxed.new (w.alloc (.cells #[.slice A1 l0.length c1] 27)) 3 (.int .i64 0)
 have bN := Boxed.new ((w.alloc (.cells #[.slice A1 l0.length c1] 27)).alloc (.cells #[.int .i64 0] 3)) 27 (.slice A0 l0.length c0)
 rw [World.size_alloc] at bR
 rw [World.size_alloc, World.size_alloc] at bN
 have hB0 : Below w.heap.size w (((w.alloc (.cells #[.slice A1 l0.length c1] 27)).alloc (.cells #[.int .i64 0] 3)).alloc (.cells #[.slice A0 l0.length c0] 27)) := (((Below.refl _ w).alloc (Nat.le_refl _) _).alloc (by simp) _).alloc (by simp; omega) _
 refine wpIn_rangeFunc_ownG hro h1 (gf := 128) (lb := #[.pointer (some ⟨w.heap.size + 1 + 1, 0, none⟩)]) rfl h8 (enters_of Tryz.func128 (by kernel_rfl) rfl)
  (back_stops F (n - 1) h8 hro (by omega) (w.heap.size + 1 + 1) w.heap.size c0 A0 l0 hreach _ (by simp) (by simp; omega) bN.cell (fun j hj => by
   obtain ⟨ad, e, hb, hc⟩ := HI0.out j hj
   exact ⟨ad, e, hb, (hB0.cell (p := ad.add j) (by unfold Addr.add; split <;> exact hb)).trans hc⟩)) bwKp_t (bwKp_b (by simp; omega) (by simp)) (Below.refl _ _) (fun _ => rfl)
  (fun pre W => ((∀ p ∈ pre, bwv l0 p = l1.getD p.val 0) ∧ W.cell? ⟨w.heap.size, 0, none⟩ = some (.slice A1 l0.length c1) ∧ W.cell? ⟨w.heap.size + 1, 0, none⟩ = some (.int .i64 0) ∧ W.frozen? ⟨w.heap.size + 1, 0, none⟩ = false) ∧ Below w.heap.size w W)
  (fun c pre W => (c = .ret ∧ ∃ ini last, pre = ini ++ [last] ∧ (∀ p ∈ ini, bwv l0 p = l1.getD p.val 0) ∧ bwv l0 last ≠ l1.getD last.val 0 ∧ W.cell? ⟨w.heap.size + 1, 0, none⟩ = some (.int .i64 (if bwv l0 last < l1.getD last.val 0 then -1 else 1))) ∧ Below w.heap.size w W)
  (OwnFrom.and (Own.from (fun s A B row hs hg hr => ⟨hs.1, cell_kept hs.2.1 hg hr, cell_kept hs.2.2.1 hg hr, (frozen_kept hs.2.2.1 hg hr).trans hs.2.2.2⟩) _) (ownFrom_below (Nat.le_refl _) (by simp; omega)))
  (fun c => OwnFrom.and (Own.from (fun s A B row hs hg hr => by obtain ⟨hc, ini, last, e1, e2, e3, e4⟩ := hs; exact ⟨hc, ini, last, e1, e2, e3, cell_kept e4 hg hr⟩) _) (ownFrom_below (Nat.le_refl _) (by simp; omega)))
  ⟨⟨by simp, ((bB.alloc _).alloc _).cell, (bR.alloc _).cell, (bR.alloc _).frozen⟩, hB0⟩
  (fun x => { tmps := #[.slice A0 l0.length c0, .slice A1 l0.length c1, undef, .pointer (some ⟨w.heap.size, 0, none⟩), .pointer (some ⟨w.heap.size + 1, 0, none⟩), .int .i64 (x.val : Int), .int .u64 (bwv l0 x), .slice A0 l0.length c0, .int .i64 l0.length, .slice A1 l0.length c1, .int .i64 l0.length, .bool false, undef, undef, undef, undef, undef, .slice A0 l0.length c0, .func (.func 128) #[] #[.pointer (some ⟨w.heap.size + 1 + 1, 0, none⟩)], .int .i64 (x.val : Int), .int .u64 (bwv l0 x), undef, undef, undef, undef, undef, undef, undef, undef, undef, undef, undef, undef], defers := [] }) ?assign ?body ?done ?stop
 case assign =>
  intro l x W K hK
  gi_wp2
  exact hK
 case body =>
  rintro l pre x W ⟨⟨hp, hcb, hcr, hfr⟩, hB⟩ _
  obtain ⟨ad, rfl, hb, hc1⟩ := HI1.out x.val x.isLt
  have hcx : W.cell? (ad.add x.val) = some (.int .u64 (l1.getD x.val 0)) := (hB.cell (p := ad.add x.val) (by unfold Addr.add; split <;> exact hb)).trans hc1
  have hx0 : (0 : Int) ≤ (x.val : Int) := by omega
  have hx1 : (x.val : Int) < (l0.length : Int) := by have := x.isLt; omega
  have HP := Lib.hid hp
  clear hp hc1
  obtain ⟨j, hj⟩ : ∃ j, x.val = j := ⟨_, rfl⟩
  rw [hj] at hcx hx0 hx1
  obtain ⟨u, hu⟩ : ∃ u, bwv l0 x = u := ⟨_, rfl⟩
  obtain ⟨v, hv⟩ : ∃ v, l1.getD j 0 = v := ⟨_, rfl⟩
  rw [hv] at hcx
  simp only [hu, hj]
  have HU := Lib.hid hu
  have HV := Lib.hid hv
  have HJ := Lib.hid hj
  clear hu hv hj
  have HCR := Lib.hid hcr
  by_cases huv : u = v
  ·
   have e1 : (u != v) = false := by simp [huv]
   have HE := Lib.hid huv
   clear huv
   gi_wp2
   exact ⟨KeepsFrom.refl _ _, ⟨Below.refl _ _, rfl⟩, ⟨fun p hp' => (List.mem_append.1 hp').elim (HP.out p) (fun e => by simp at e; subst e; rw [HU.out, HJ.out, HV.out]; exact HE.out), hcb, HCR.out, hfr⟩, hB⟩
  ·
   have e1 : (u != v) = true := by simpa using huv
   have HCC := Lib.hid (fun m_ w_ => HC.out m_ l u v w_ huv)
   have HE := Lib.hid huv
   clear huv
   gi_wp2
   refine ⟨fun _ => by omega, ?_⟩
   refine (HCC.out _ _).mono ?_
   rintro e w' ⟨rfl, ⟨nd, rfl⟩⟩
   obtain ⟨z, hz⟩ : ∃ z : Int, (if u < v then -1 else 1) = z := ⟨_, rfl⟩
   have HZ := Lib.hid hz
   simp only [hz]
   clear hz
   gi_wp2
   have hkd : KeepsOthers W (W.drewN nd) := ⟨Nat.le_of_eq (by simp), fun k o ho hc => by simpa using ho⟩
   exact ⟨(hkd.trans (KeepsOthers.setCell _ _ _)).from _, ⟨rfl, pre, x, rfl, HP.out, by rw [HU.out, HJ.out, HV.out]; exact HE.out, by rw [HU.out, HJ.out, HV.out, HZ.out]; exact World.cell?_setCell_same' _ _ _ (by rw [World.cell?_drewN, HCR.out]; rfl)⟩, (zbh hB nd).setCell (p := ⟨w.heap.size + 1, 0, none⟩) (by simp) _⟩
 case done =>
  rintro D ys W hD rfl ⟨⟨hp, hcb, hcr, hfr⟩, hB⟩ hK
  have HP := Lib.hid hp
  clear hp
  gi_wp2
  have hK' := (KeepsOthers.setCell W ⟨w.heap.size + 1, 0, none⟩ (.int .i64 0)).same D _ hK rfl
  refine ⟨by simp, .inl ⟨_, _, rfl, run_takeDeferred hK', ?_⟩⟩
  have hc5 := cell_kept (World.cell?_setCell_same' W ⟨w.heap.size + 1, 0, none⟩ (.int .i64 0) (by rw [hcr]; rfl)) (grownBy_putObj' _ D (.deferred none)) (fun r e => by cases e; exact ⟨_, hK', rfl⟩)
  refine ⟨.int .i64 0, ?_, .inl ⟨rfl, HP.out⟩, (hB.setCell (p := ⟨w.heap.size + 1, 0, none⟩) (by simp) _).trans (belowK_b (w := w) (Nat.le_refl _) _ D _ _ (by simp at hD; omega) hK' rfl rfl)⟩
  simp [results, Tryz.f42, go_sem, hc5]
 case stop =>
  rintro D c pre W hD ⟨k, hk, rfl⟩ ⟨⟨rfl, ini, last, e1, e2, e3, hcr⟩, hB⟩ hK
  have HE := Lib.hid e1
  have H2 := Lib.hid e2
  have H3 := Lib.hid e3
  clear e1 e2 e3
  gi_wp2
  refine ⟨by simp, .inl ⟨_, _, rfl, run_takeDeferred hK, ?_⟩⟩
  have hc5 := cell_kept hcr (grownBy_putObj' _ D (.deferred none)) (fun r e => by cases e; exact ⟨_, hK, rfl⟩)
  obtain ⟨k', rfl⟩ : ∃ k', k = k' + 1 := by
   cases k with
   | zero => have := HE.out; simp [bw] at this
   | succ k' => exact ⟨k', rfl⟩
  have e1 := HE.out
  rw [bw_succ _ _ (by omega)] at e1
  obtain ⟨rfl, e5⟩ := List.append_inj' e1 rfl
  have e6 : (⟨l0.length - 1 - k', by omega⟩ : Fin l0.length) = last := by simpa using e5
  refine ⟨.int .i64 (if bwv l0 last < l1.getD last.val 0 then -1 else 1), ?_, .inr ⟨k', last, by rw [bw_succ _ _ (by omega), e6], by omega, H2.out, H3.out, rfl⟩, hB.trans (belowK_b (w := w) (Nat.le_refl _) W D _ _ (by simp at hD; omega) hK rfl rfl)⟩
  simp [results, Tryz.f42, go_sem, hc5]
end
theorem revCmp_eq : ∀ (a b : List Int), (∀ j, j < a.length → a.getD j 0 = b.getD j 0) → a.length = b.length → revCmp a b = 0
 | [], [], _, _ => rfl
 | x :: xs, y :: ys, h, hl => by
  have h0 := h 0 (by simp)
  simp at h0
  unfold revCmp
  rw [if_pos h0]
  exact revCmp_eq xs ys (fun j hj => by have := h (j + 1) (by simpa using hj); simpa using this) (by simpa using hl)
theorem revCmp_ne : ∀ (a b : List Int) (k : Nat), k < a.length → a.length = b.length → (∀ j, j < k → a.getD j 0 = b.getD j 0) → a.getD k 0 ≠ b.getD k 0 → revCmp a b = if a.getD k 0 < b.getD k 0 then -1 else 1
 | [], _, k, hk, _, _, _ => by simp at hk
 | x :: xs, [], k, _, hl, _, _ => by simp at hl
 | x :: xs, y :: ys, 0, _, _, _, hne => by
  simp at hne
  simp [revCmp, hne]
 | x :: xs, y :: ys, k + 1, hk, hl, h, hne => by
  have h0 := h 0 (by omega)
  simp at h0
  unfold revCmp
  rw [if_pos h0, revCmp_ne xs ys k (by simpa using hk) (by simpa using hl) (fun j hj => by have := h (j + 1) (by omega); simpa using this) (by simpa using hne)]
  simp
theorem rev_getD (a : List Int) (k : Nat) (h : k < a.length) : a.reverse.getD k 0 = a.getD (a.length - 1 - k) 0 := by
 rw [List.getD_eq_getElem?_getD, List.getD_eq_getElem?_getD, List.getElem?_reverse h]
theorem mem_bw (zs : List Int) (k : Nat) (p : Fin zs.length) (hk : k ≤ zs.length) : p ∈ bw zs k ↔ zs.length - 1 - p.val < k := by
 unfold bw
 rw [List.mem_take_iff_getElem]
 constructor
 ·
  rintro ⟨i, hi, he⟩
  rw [List.getElem_reverse] at he
  simp at he hi
  have := congrArg Fin.val he
  simp at this
  omega
 ·
  intro h
  have hp := p.isLt
  refine ⟨zs.length - 1 - p.val, by simp; omega, ?_⟩
  rw [List.getElem_reverse]
  apply Fin.ext
  simp
  omega
theorem zcp.calls (A0 : Option Addr) (c0 : Nat) (l0 : List Int) (A1 : Option Addr) (c1 : Nat) (l1 : List Int) (r : Int) (w : World) (hr0 : Kd.C (Kd.int .u64) w A0 l0.length l0) (hc0 : l0.length ≤ c0) (hr1 : Kd.C (Kd.int .u64) w A1 l1.length l1) (hc1 : l1.length ≤ c1) (h : zcp.f l0 l1 = some r) :
  Calls Tryz.prog 42 #[.slice A0 l0.length c0, .slice A1 l1.length c1] w fun e w' => e = .returned (.int .i64 r) ∧ Below w.heap.size w w' := by
 obtain rfl := Option.some.inj h
 unfold natCmp
 by_cases hl : l0.length = l1.length
 ·
  rw [if_pos hl, ← hl]
  have read : ∀ {A : Option Addr} {l : List Int}, Kd.C (Kd.int .u64) w A l.length l → ∀ j, j < l.length → ∃ ad, A = some ad ∧ ad.block < w.heap.size ∧ w.cell? (ad.add j) = some (.int .u64 (l.getD j 0)) := fun hr j hj => by
   obtain ⟨ad, e, hc⟩ := Kd.at_int hr (j : Int) (by omega) (by omega)
   refine ⟨ad, e, ?_, by simpa [rd] using hc⟩
   have := World.block_lt_of_cell? w _ hc
   unfold Addr.add at this
   split at this <;> exact this
  have hm : l0.length ≤ 9223372036854775807 := hr0.2.1
  refine (callsIn_wide (n := 4)).1 ((zcp.eq_in Fence.wide 4 trivial trivial trivial trivial rfl (by omega) (fun m l a b w_ hab => CallsIn.inRound l (callsIn_wide.2 (zcw.calls a b _ w_ (compare_u64 hab)))) A0 c0 l0 A1 c1 l1 w hm hl.symm (read hr0) (fun j hj => read hr1 j (by omega))).mono ?_)
  rintro e W' ⟨⟨rfl, he⟩ | ⟨k, p, hb, hk, he, hne, rfl⟩, hB⟩
  ·
   refine ⟨?_, hB⟩
   rw [revCmp_eq]
   ·
    intro j hj
    rw [List.length_reverse] at hj
    rw [rev_getD _ _ hj, rev_getD _ _ (by omega), ← hl]
    exact he ⟨l0.length - 1 - j, by omega⟩ ((mem_bw _ _ _ (Nat.le_refl _)).2 (by omega))
   ·
    simpa using hl
  ·
   refine ⟨?_, hB⟩
   have hp : p.val = l0.length - 1 - k := by
    rw [bw_succ _ _ hk] at hb
    have := List.append_inj' hb rfl
    have e6 : (⟨l0.length - 1 - k, by omega⟩ : Fin l0.length) = p := by simpa using this.2
    rw [← e6]
   have e1 : l0.reverse.getD k 0 = bwv l0 p := by rw [rev_getD _ _ hk, bwv_eq, hp]
   have e2 : l1.reverse.getD k 0 = l1.getD p.val 0 := by rw [rev_getD _ _ (by omega), hp, ← hl]
   rw [revCmp_ne _ _ k (by simpa using hk) (by simpa using hl) ?_ (by rw [e1, e2]; exact hne), e1, e2]
   intro j hj
   rw [rev_getD _ _ (by omega), rev_getD _ _ (by omega), ← hl]
   exact he ⟨l0.length - 1 - j, by omega⟩ ((mem_bw _ _ _ (by omega)).2 (by show l0.length - 1 - (l0.length - 1 - j) < k; omega))
 ·
  rw [if_neg hl]
  exact zcp.ne A0 c0 l0.length A1 c1 l1.length w hl _ (compare_int hl)
def zc9.f (k : Nat) (l0_0 : List Int) (l0_1 : List Int) (l1_0 : List Int) (l1_1 : List Int) : Option (Int) := (zbn.f k l0_0 l0_1 l1_0 l1_1).bind fun bt141 => ((zcp.f bt141.1 bt141.2.1).bind fun t150 => (some t150))
theorem zc9.calls (k : Nat) (A0_0 : Option Addr) (c0_0 : Nat) (l0_0 : List Int) (A0_1 : Option Addr) (c0_1 : Nat) (l0_1 : List Int) (A1_0 : Option Addr) (c1_0 : Nat) (l1_0 : List Int) (A1_1 : Option Addr) (c1_1 : Nat) (l1_1 : List Int) (r : Int) (w : World) (hr0_0 : Kd.C (Kd.int .u64) w A0_0 l0_0.length l0_0) (hc0_0 : l0_0.length ≤ c0_0) (hr0_1 : Kd.C (Kd.int .u64) w A0_1 l0_1.length l0_1) (hc0_1 : l0_1.length ≤ c0_1) (hr1_0 : Kd.C (Kd.int .u64) w A1_0 l1_0.length l1_0) (hc1_0 : l1_0.length ≤ c1_0) (hr1_1 : Kd.C (Kd.int .u64) w A1_1 l1_1.length l1_1) (hc1_1 : l1_1.length ≤ c1_1) (h : zc9.f k l0_0 l0_1 l1_0 l1_1 = some r) :
  Calls Tryz.prog 17 #[.agg #[.slice A0_0 l0_0.length c0_0, .slice A0_1 l0_1.length c0_1], .agg #[.slice A1_0 l1_0.length c1_0, .slice A1_1 l1_1.length c1_1]] w fun e w' => e = .returned (.int .i64 r) ∧ Below w.heap.size w w' := by
 have hu29 := Tryz.underlying29
 have HR0_0 := zA hr0_0
 have HC0_0 := zA hc0_0
 clear hr0_0 hc0_0
 have HR0_1 := zA hr0_1
 have HC0_1 := zA hc0_1
 clear hr0_1 hc0_1
 have HR1_0 := zA hr1_0
 have HC1_0 := zA hc1_0
 clear hr1_0 hc1_0
 have HR1_1 := zA hr1_1
 have HC1_1 := zA hc1_1
 clear hr1_1 hc1_1
 have HB := zA (Below.refl w.heap.size w)
 have H : ((zbn.f k l0_0 l0_1 l1_0 l1_1).bind fun bt141 => ((zcp.f bt141.1 bt141.2.1).bind fun t150 => (some t150))) = some r := h
 clear h
 replace H := zO H
 obtain ⟨⟨t141, t144, t147⟩, A30, H⟩ := H
 try dsimp only at H
 have A3 := zA A30
 clear A30
 replace H := zO H
 obtain ⟨t150, A40, H⟩ := H
 try dsimp only at H
 have A4 := zA A40
 clear A40
 obtain rfl := Option.some.inj H
 go_enter Tryz.func17, Tryz.ntmps17
 go_wp2_with (first | ((with_reducible refine za8 (N := 2) rfl ?_); refine zbd ?hg (N := 2) ?hd (cs := #[.slice A0_0 l0_0.length c0_0, .slice A0_1 l0_1.length c0_1]) (t := 29) ?hr ?_; (case hd => rfl); (case hg => rfl); (case hr => first | (go_simp; done) | (go_simp; rfl)); intro gb139 hg w5 hbox hb; have n0_ := zA (zaa (zB HB) hb); have n1_ := zA (hbox); have n2_ := zA ((by rw [hg]; exact (za (zB HB)) : w.heap.size ≤ gb139)); have n3_ := zA ((by rw [hg]; exact (za (zB HB)) : w.heap.size ≤ gb139)); clear HB; have HB := n0_; have BK139 := n1_; have GW139 := n2_; have GE139 := n3_; clear n0_ n1_ n2_ n3_ hb hbox hg) | ((with_reducible refine za8 (N := 3) rfl ?_); refine zbd ?hg (N := 3) ?hd (cs := #[.slice A1_0 l1_0.length c1_0, .slice A1_1 l1_1.length c1_1]) (t := 29) ?hr ?_; (case hd => rfl); (case hg => rfl); (case hr => first | (go_simp; done) | (go_simp; rfl)); intro gb140 hg w6 hbox hb; have n0_ := zA (zad (g := gb139) (o := .cells #[.slice A0_0 l0_0.length c0_0, .slice A0_1 l0_1.length c0_1] 29 (0, 0)) (zK BK139) hb); have n1_ := zA (zaa (zB HB) hb); have n2_ := zA (hbox); have n3_ := zA ((by rw [hg]; exact (za (zB HB)) : w.heap.size ≤ gb140)); have n4_ := zA ((by rw [hg]; exact (za (zB HB)) : w.heap.size ≤ gb140)); have n5_ := zA ((by rw [hg]; exact Nat.ne_of_lt (zax (g := gb139) (o := .cells #[.slice A0_0 l0_0.length c0_0, .slice A0_1 l0_1.length c0_1] 29 (0, 0)) (zK BK139)) : gb139 ≠ gb140)); have n6_ := zA ((by rw [hg]; exact Nat.ne_of_gt (zax (g := gb139) (o := .cells #[.slice A0_0 l0_0.length c0_0, .slice A0_1 l0_1.length c0_1] 29 (0, 0)) (zK BK139)) : gb140 ≠ gb139)); clear BK139 HB; have BK139 := n0_; have HB := n1_; have BK140 := n2_; have GW140 := n3_; have GE140 := n4_; have NB139_140 := n5_; have NB140_139 := n6_; clear n0_ n1_ n2_ n3_ n4_ n5_ n6_ hb hbox hg; have hnb7 := NB139_140.out; have hnc7 := NB140_139.out; have hcz8_0 : w6.cell? ⟨gb139, 0, none⟩ = some (.slice A0_0 l0_0.length c0_0) := (zab BK139.out 0).trans rfl; have hcz8_1 : w6.cell? ⟨gb139, 1, none⟩ = some (.slice A0_1 l0_1.length c0_1) := (zab BK139.out 1).trans rfl; have hfz8_0 := zal BK139.out 0; have hfz8_1 := zal BK139.out 1; have hcz9_0 : w6.cell? ⟨gb140, 0, none⟩ = some (.slice A1_0 l1_0.length c1_0) := (zab BK140.out 0).trans rfl; have hcz9_1 : w6.cell? ⟨gb140, 1, none⟩ = some (.slice A1_1 l1_1.length c1_1) := (zab BK140.out 1).trans rfl; have hfz9_0 := zal BK140.out 0; have hfz9_1 := zal BK140.out 1) | ((with_reducible refine zae (f := 41) rfl ?_); refine za2 (some 11) rfl rfl Tryz.func41 (by kernel_rfl) rfl #[.agg #[.slice A0_0 l0_0.length c0_0, .slice A0_1 l0_1.length c0_1], .agg #[.slice A1_0 l1_0.length c1_0, .slice A1_1 l1_1.length c1_1]] rfl (zE) ?_; (with_reducible refine (zbn.calls k _ _ l0_0 _ _ l0_1 _ _ l1_0 _ _ l1_1 t141 t144 t147 _ ?side1 ?side2 ?side3 ?side4 ?side5 ?side6 ?side7 ?side8 A3.out).mono ?_); (case side1 => exact zJ (Kd.zas HR0_0.out HB.out)); (case side2 => exact HC0_0.out); (case side3 => exact zJ (Kd.zas HR0_1.out HB.out)); (case side4 => exact HC0_1.out); (case side5 => exact zJ (Kd.zas HR1_0.out HB.out)); (case side6 => exact HC1_0.out); (case side7 => exact zJ (Kd.zas HR1_1.out HB.out)); (case side8 => exact HC1_1.out); rintro e w10 ⟨v142, v145, v148, rfl, ho0, ho1, ho2, hb⟩; refine ⟨_, rfl, ?_⟩; have n0_ := zA (Kd.zaz (Kd.zam (ok' := fun k_ => k_ ≠ gb139 ∧ k_ ≠ gb140) ho0 (fun k_ hk_ => ⟨(Kd.freshB (g := gb139) (o := .cells #[.slice A0_0 l0_0.length c0_0, .slice A0_1 l0_1.length c0_1] 29 (0, 0)) (zK BK139) k_ hk_), (Kd.freshB (g := gb140) (o := .cells #[.slice A1_0 l1_0.length c1_0, .slice A1_1 l1_1.length c1_1] 29 (0, 0)) (zK BK140) k_ hk_)⟩)) (za (zB HB))); have n1_ := zA (Kd.zaz (Kd.zam (ok' := fun k_ => k_ ≠ gb139 ∧ k_ ≠ gb140) ho1 (fun k_ hk_ => ⟨(Kd.freshB (g := gb139) (o := .cells #[.slice A0_0 l0_0.length c0_0, .slice A0_1 l0_1.length c0_1] 29 (0, 0)) (zK BK139) k_ hk_), (Kd.freshB (g := gb140) (o := .cells #[.slice A1_0 l1_0.length c1_0, .slice A1_1 l1_1.length c1_1] 29 (0, 0)) (zK BK140) k_ hk_)⟩)) (za (zB HB))); have n2_ := zA (Kd.zaz (Kd.zam (ok' := fun k_ => k_ ≠ gb139 ∧ k_ ≠ gb140) ho2 (fun k_ hk_ => ⟨(Kd.freshB (g := gb139) (o := .cells #[.slice A0_0 l0_0.length c0_0, .slice A0_1 l0_1.length c0_1] 29 (0, 0)) (zK BK139) k_ hk_), (Kd.freshB (g := gb140) (o := .cells #[.slice A1_0 l1_0.length c1_0, .slice A1_1 l1_1.length c1_1] 29 (0, 0)) (zK BK140) k_ hk_)⟩)) (za (zB HB))); have n3_ := zA (zad (g := gb139) (o := .cells #[.slice A0_0 l0_0.length c0_0, .slice A0_1 l0_1.length c0_1] 29 (0, 0)) (zK BK139) hb); have n4_ := zA (zad (g := gb140) (o := .cells #[.slice A1_0 l1_0.length c1_0, .slice A1_1 l1_1.length c1_1] 29 (0, 0)) (zK BK140) hb); have n5_ := zA (zaa (zB HB) hb); clear BK139 BK140 HB; have HO143 := n0_; have HO146 := n1_; have HO149 := n2_; have BK139 := n3_; have BK140 := n4_; have HB := n5_; clear n0_ n1_ n2_ n3_ n4_ n5_; (try clear hb); (try clear hb2); (try clear hk); (try clear hi); (try clear ho0); (try clear ho1); (try clear ho2); obtain ⟨Ao11, co11, eo11⟩ := Kd.za1 HO143.out; subst eo11; obtain ⟨Ao12, co12, eo12⟩ := Kd.za1 HO146.out; subst eo12) | ((with_reducible refine zae (f := 42) rfl ?_); refine za2 (some 17) rfl rfl Tryz.func42 (by kernel_rfl) rfl #[.slice Ao11 t141.length co11, .slice Ao12 t144.length co12] rfl (zE) ?_; (with_reducible refine (zcp.calls _ _ t141 _ _ t144 t150 _ ?side1 ?side2 ?side3 ?side4 A4.out).mono ?_); (case side1 => exact zJ (Kd.zak HO143.out).2.2); (case side2 => exact (Kd.zak HO143.out).2.1); (case side3 => exact zJ (Kd.zak HO146.out).2.2); (case side4 => exact (Kd.zak HO146.out).2.1); rintro e w13 ⟨rfl, hb⟩; refine ⟨_, rfl, ?_⟩; have n0_ := zA (Kd.zau (zV HO143) hb); have n1_ := zA (Kd.zau (zV HO146) hb); have n2_ := zA (Kd.zau (zV HO149) hb); have n3_ := zA (zad (g := gb139) (o := .cells #[.slice A0_0 l0_0.length c0_0, .slice A0_1 l0_1.length c0_1] 29 (0, 0)) (zK BK139) hb); have n4_ := zA (zad (g := gb140) (o := .cells #[.slice A1_0 l1_0.length c1_0, .slice A1_1 l1_1.length c1_1] 29 (0, 0)) (zK BK140) hb); have n5_ := zA (zaa (zB HB) hb); clear HO143 HO146 HO149 BK139 BK140 HB; have HO143 := n0_; have HO146 := n1_; have HO149 := n2_; have BK139 := n3_; have BK140 := n4_; have HB := n5_; clear n0_ n1_ n2_ n3_ n4_ n5_; (try clear hb); (try clear hb2); (try clear hk); (try clear hi)))
 go_ret
 exact ⟨zW, zB HB⟩
def zdd.f (k : Nat) (a0 : Int) : Option (List Int) := (zbl.f k (([a0] : List Int))).bind fun t154 => (some t154)
theorem zdd.calls (k : Nat) (a0 : Int) (r : List Int) (w : World) (h : zdd.f k a0 = some r) :
  Calls Tryz.prog 35 #[.int .u64 a0] w fun e w' => ∃ v0_ : Value, e = .returned (v0_) ∧ Kd.V (Kd.int .u64) 82 w' w.heap.size (fun k_ => (w.heap.size ≤ k_)) v0_ r ∧ Below w.heap.size w w' := by
 have HB := zA (Below.refl w.heap.size w)
 have H : ((zbl.f k (([a0] : List Int))).bind fun t154 => (some t154)) = some r := h
 clear h
 obtain ⟨y151, hy151⟩ : ∃ y_ : List Int, y_ = (([a0] : List Int)) := ⟨_, rfl⟩
 replace H : ((zbl.f k y151).bind fun t154 => (some t154)) = some r := by first | (rw [hy151]; with_reducible exact H) | (have H2_ := (Option.bind_some _ _).symm.trans H; rw [hy151]; with_reducible exact H2_) | (have H2_ := (Option.bind_some _ _).symm.trans H; with_reducible exact H2_) | with_reducible exact H | (rw [hy151]; exact H) | exact H
 have Ny151 := zA hy151
 clear hy151
 replace H := zO H
 obtain ⟨t154, A20, H⟩ := H
 try dsimp only at H
 have A2 := zA A20
 clear A20
 obtain rfl := Option.some.inj H
 go_enter Tryz.func35, Tryz.ntmps35
 go_wp2_with (first | ((with_reducible refine za8 (N := 4) rfl ?_); refine Kd.R_lit (Kd.int .u64) _ 82 ?hg (N := 4) ?hd (xs := ([a0] : List Int)) (inner := [.int .u64 a0]) (ok := fun _ => True) (okp := fun _ => True) ?hr ?hp (fun _ hk => hk) trivial (Below.refl _ _) (Nat.le_refl _) (by simp) ?_; (case hd => rfl); (case hg => rfl); (case hr => first | (go_simp; done) | (go_simp; rfl)); (case hp => exact (Reps.one (show Kd.M (Kd.int .u64) _ _ _ a0 [.int .u64 a0] from rfl) (Reps.none _ _))); intro v152 w3 ho4 hb hg_ hnew_; clear hg_ hnew_; (first | rw [← Ny151.out] at ho4 | (simp only [Int.reduceToNat] at ho4; rw [← Ny151.out] at ho4)); have n0_ := zA (Kd.zbs (Kd.R_newM (M := fun k_ => (w.heap.size ≤ k_)) ho4 (za (zB HB)) (fun k_ h_ => h_)) (za (zB HB))); have n1_ := zA (zaa (zB HB) hb); clear HB; have HO153 := n0_; have HB := n1_; clear n0_ n1_ hb ho4; obtain ⟨Ao5, co5, eo5⟩ := Kd.zbm HO153.out; subst eo5) | ((with_reducible refine zae (f := 67) rfl ?_); refine za2 (some 5) rfl rfl Tryz.func67 (by kernel_rfl) rfl #[.slice Ao5 y151.length co5] rfl (zE) ?_; (with_reducible refine (zbl.calls k (fun k_ => some k_ = (.slice Ao5 y151.length co5 : Value).ownBlock) _ _ y151 t154 _ ?side1 A2.out).mono ?_); (case side1 => exact Kd.R_V (Kd.zde rfl (HO153.out))); rintro e w6 ⟨v155, rfl, ho0, hb⟩; refine ⟨_, rfl, ?_⟩; have n0_ := zA (Kd.zbf (zR HO153) hb); have n1_ := zA (Kd.zaz (Kd.zam (ok' := fun k_ => (w.heap.size ≤ k_)) ho0 (fun k_ hk_ => Or.elim hk_ (fun hs_ => ((HO153.out).1 k_ hs_.symm).1) (fun hn_ => (Nat.le_trans (za (zB HB)) hn_)))) (za (zB HB))); have n2_ := zA (zaa (zB HB) hb); clear HO153 HB; have HO153 := n0_; have HO156 := n1_; have HB := n2_; clear n0_ n1_ n2_; (try clear hb); (try clear hb2); (try clear hk); (try clear hi); (try clear ho0)))
 go_ret
 exact ⟨_, zW, zV HO156, zB HB⟩
def zcs.f (k : Nat)  : Option (List Int) := (zdd.f k 1).bind fun t157 => (some t157)
theorem zcs.calls (k : Nat)  (r : List Int) (w : World) (h : zcs.f k  = some r) :
  Calls Tryz.prog 43 #[] w fun e w' => ∃ v0_ : Value, e = .returned (v0_) ∧ Kd.V (Kd.int .u64) 82 w' w.heap.size (fun k_ => (w.heap.size ≤ k_)) v0_ r ∧ Below w.heap.size w w' := by
 have HB := zA (Below.refl w.heap.size w)
 have H : ((zdd.f k 1).bind fun t157 => (some t157)) = some r := h
 clear h
 replace H := zO H
 obtain ⟨t157, A10, H⟩ := H
 try dsimp only at H
 have A1 := zA A10
 clear A10
 obtain rfl := Option.some.inj H
 go_enter Tryz.func43, Tryz.ntmps43
 go_wp2_with (first | ((with_reducible refine zae (f := 35) rfl ?_); refine za2 (some 1) rfl rfl Tryz.func35 (by kernel_rfl) rfl #[.int .u64 1] rfl (zE) ?_; (with_reducible refine (zdd.calls k 1 t157 _ A1.out).mono ?_); rintro e w2 ⟨v158, rfl, ho0, hb⟩; refine ⟨_, rfl, ?_⟩; have n0_ := zA (Kd.zaz (Kd.zam (ok' := fun k_ => (w.heap.size ≤ k_)) ho0 (fun k_ hk_ => (Nat.le_trans (za (zB HB)) hk_))) (za (zB HB))); have n1_ := zA (zaa (zB HB) hb); clear HB; have HO159 := n0_; have HB := n1_; clear n0_ n1_; (try clear hb); (try clear hb2); (try clear hk); (try clear hi); (try clear ho0)))
 go_ret
 exact ⟨_, zW, zV HO159, zB HB⟩
def zb9.f (k : Nat) (a0 : Int) : Option (List Int × List Int) := (zdd.f k (IntKind.u64.wrap (mx a0 0))).bind fun t161 => ((zcs.f k).bind fun t164 => (some (t161, t164)))
theorem zb9.calls (k : Nat) (a0 : Int) (r1 : List Int) (r2 : List Int) (w : World) (h : zb9.f k a0 = some (r1, r2)) :
  Calls Tryz.prog 18 #[.int .i64 a0] w fun e w' => ∃ v0_ v1_ : Value, e = .returned (.agg #[v0_, v1_]) ∧ Kd.V (Kd.int .u64) 82 w' w.heap.size (fun k_ => (w.heap.size ≤ k_)) v0_ r1 ∧ Kd.V (Kd.int .u64) 82 w' w.heap.size (fun k_ => (w.heap.size ≤ k_)) v1_ r2 ∧ Below w.heap.size w w' := by
 have hu29 := Tryz.underlying29
 have HB := zA (Below.refl w.heap.size w)
 have H : ((zdd.f k (IntKind.u64.wrap (mx a0 0))).bind fun t161 => ((zcs.f k).bind fun t164 => (some (t161, t164)))) = some (r1, r2) := h
 clear h
 obtain ⟨ji2, hji2⟩ : ∃ j_ : Int, (mx a0 0) = j_ := ⟨_, rfl⟩
 replace H : ((zdd.f k (IntKind.u64.wrap (ji2))).bind fun t161 => ((zcs.f k).bind fun t164 => (some (t161, t164)))) = some (r1, r2) := by first | (rw [hji2] at H; exact H) | (simp only [hji2] at H ⊢; exact H)
 (try (have hji2l : 0 ≤ ji2 := by (rw [← hji2]; unfold mx; (repeat' split) <;> omega)))
 (try (have hji2m : 0 ≤ ji2 := by omega))
 have hji2_ : (if a0 < 0 then 0 else a0) = ji2 := hji2
 (try (have hji2n_ := hji2_; simp only [Int.ofNat_lt] at hji2n_))
 replace H := zO H
 obtain ⟨t161, A30, H⟩ := H
 try dsimp only at H
 have A3 := zA A30
 clear A30
 replace H := zO H
 obtain ⟨t164, A40, H⟩ := H
 try dsimp only at H
 have A4 := zA A40
 clear A40
 simp only [Option.some.injEq, Prod.mk.injEq] at H
 obtain ⟨rfl, rfl⟩ := H
 go_enter Tryz.func18, Tryz.ntmps18
 go_wp2_with (first | ((with_reducible refine za8 (N := 2) rfl ?_); refine zbd ?hg (N := 2) ?hd (cs := #[.slice none 0 0, .slice none 0 0]) (t := 29) ?hr ?_; (case hd => rfl); (case hg => rfl); (case hr => first | (go_simp; done) | (go_simp; rfl)); intro gb160 hg w5 hbox hb; have n0_ := zA (zaa (zB HB) hb); have n1_ := zA (hbox); have n2_ := zA ((by rw [hg]; exact (za (zB HB)) : w.heap.size ≤ gb160)); have n3_ := zA ((by rw [hg]; exact (za (zB HB)) : w.heap.size ≤ gb160)); clear HB; have HB := n0_; have BK160 := n1_; have GW160 := n2_; have GE160 := n3_; clear n0_ n1_ n2_ n3_ hb hbox hg) | ((with_reducible refine zae (f := 35) rfl ?_); refine za2 (some 6) rfl rfl Tryz.func35 (by kernel_rfl) rfl #[.int .u64 (IntKind.u64.wrap (ji2))] rfl (by (try simp only [List.map_toArray, List.map_cons, List.map_nil]); first | done | (simp only [hji2]; rfl) | rfl | (simp only [List.length_drop, List.length_take]; rfl) | ((simp [Act.eval, wrap64]) <;> omega) | ((simp [Act.eval, wrap64, IntKind.wrap, IntKind.bits, IntKind.signed]) <;> omega)) ?_; (with_reducible refine (zdd.calls k (IntKind.u64.wrap (ji2)) t161 _ A3.out).mono ?_); rintro e w6 ⟨v162, rfl, ho0, hb⟩; refine ⟨_, rfl, ?_⟩; have n0_ := zA (Kd.zaz (Kd.zam (ok' := fun k_ => (w.heap.size ≤ k_) ∧ k_ ≠ gb160) ho0 (fun k_ hk_ => ⟨(Nat.le_trans (za (zB HB)) hk_), (Kd.freshB (g := gb160) (o := .cells #[.slice none 0 0, .slice none 0 0] 29 (0, 0)) (zK BK160) k_ hk_)⟩)) (za (zB HB))); have n1_ := zA (zad (g := gb160) (o := .cells #[.slice none 0 0, .slice none 0 0] 29 (0, 0)) (zK BK160) hb); have n2_ := zA (zaa (zB HB) hb); clear BK160 HB; have HO163 := n0_; have BK160 := n1_; have HB := n2_; clear n0_ n1_ n2_; (try clear hb); (try clear hb2); (try clear hk); (try clear hi); (try clear ho0)) | ((with_reducible refine zae (f := 43) rfl ?_); refine za2 (some 7) rfl rfl Tryz.func43 (by kernel_rfl) rfl #[] rfl (zE) ?_; (with_reducible refine (zcs.calls k  t164 _ A4.out).mono ?_); rintro e w7 ⟨v165, rfl, ho0, hb⟩; refine ⟨_, rfl, ?_⟩; have n0_ := zA (Kd.zau (zV HO163) hb); have n1_ := zA (Kd.zaz (Kd.zam (ok' := fun k_ => (w.heap.size ≤ k_) ∧ k_ ≠ gb160) ho0 (fun k_ hk_ => ⟨(Nat.le_trans (za (zB HB)) hk_), (Kd.freshB (g := gb160) (o := .cells #[.slice none 0 0, .slice none 0 0] 29 (0, 0)) (zK BK160) k_ hk_)⟩)) (za (zB HB))); have n2_ := zA (zad (g := gb160) (o := .cells #[.slice none 0 0, .slice none 0 0] 29 (0, 0)) (zK BK160) hb); have n3_ := zA (zaa (zB HB) hb); clear HO163 BK160 HB; have HO163 := n0_; have HO166 := n1_; have BK160 := n2_; have HB := n3_; clear n0_ n1_ n2_ n3_; (try clear hb); (try clear hb2); (try clear hk); (try clear hi); (try clear ho0); obtain ⟨Ao8, co8, eo8⟩ := Kd.za1 HO166.out; subst eo8; obtain ⟨Ao9, co9, eo9⟩ := Kd.za1 HO163.out; subst eo9; have hcz10_0 : w7.cell? ⟨gb160, 0, none⟩ = some (.slice none 0 0) := (zab BK160.out 0).trans rfl; have hcz10_1 : w7.cell? ⟨gb160, 1, none⟩ = some (.slice none 0 0) := (zab BK160.out 1).trans rfl; have hfz10_0 := zal BK160.out 0; have hfz10_1 := zal BK160.out 1))
 refine bodyPost_ret (results_cell_row rfl _ _ gb160 29 #[.slice Ao9 t161.length co9, .slice Ao8 t164.length co8] (0, 0) _ rfl (by (with_reducible repeat (first | refine zaj ?_ _ | refine zai ?_ | refine zah ?_ _)); refine zbc (cs := #[.slice Ao9 t161.length co9, .slice none 0 0]) ?_ 1 _ rfl; (with_reducible repeat (first | refine zaj ?_ _ | refine zai ?_ | refine zah ?_ _)); refine zbc (cs := #[.slice none 0 0, .slice none 0 0]) ?_ 0 _ rfl; (with_reducible repeat (first | refine zaj ?_ _ | refine zai ?_ | refine zah ?_ _)); exact BK160.out) Tryz.underlying29 rfl (by kernel_rfl)) rfl ?_
 exact ⟨_, _, by first | rfl | (simp [zb7, zb4] <;> rfl) | (simp only [← hji2]; first | rfl | (simp [zb7, zb4] <;> rfl)) | (simp [*, zb7, zb4] <;> rfl), by (with_reducible repeat (first | apply Kd.zbr | apply Kd.zbq | apply Kd.zbt)); exact Kd.zam (Kd.V_far (p := ⟨gb160, 1, none⟩) (Kd.V_far (p := ⟨gb160, 0, none⟩) (Kd.zam HO163.out (fun k_ hk => (⟨hk, hk.2⟩ : _ ∧ k_ ≠ gb160))) (fun _ hk => hk.2) (.slice Ao9 t161.length co9)) (fun _ hk => hk.2) (.slice Ao8 t164.length co8)) (fun _ hk => hk.1.1), by (with_reducible repeat (first | apply Kd.zbr | apply Kd.zbq | apply Kd.zbt)); exact Kd.zam (Kd.V_far (p := ⟨gb160, 1, none⟩) (Kd.V_far (p := ⟨gb160, 0, none⟩) (Kd.zam HO166.out (fun k_ hk => (⟨hk, hk.2⟩ : _ ∧ k_ ≠ gb160))) (fun _ hk => hk.2) (.slice Ao9 t161.length co9)) (fun _ hk => hk.2) (.slice Ao8 t164.length co8)) (fun _ hk => hk.1.1), zB HB⟩
def za9.f (l0 : List Int) : Option (List Int) := if l0.length < 17592186044416 then some l0 else none
theorem za9.calls (A0 : Option Addr) (c0 : Nat) (l0 : List Int) (r : List Int) (w : World) (hr0 : Kd.C (Kd.int .u64) w A0 l0.length l0) (hc0 : l0.length ≤ c0) (h : za9.f l0 = some r) :
  Calls Tryz.prog 130 #[.slice A0 l0.length c0] w fun e w' => ∃ v0_ : Value, e = .returned (v0_) ∧ Kd.R (Kd.int .u64) 82 w' w.heap.size (fun _ => True) v0_ r ∧ Below w.heap.size w w' := by
 unfold za9.f at h
 split at h
 ·
  rename_i hlt
  injection h with h
  subst h
  cases A0 with
  | none =>
   obtain rfl : l0 = [] := by
    rcases Nat.eq_zero_or_pos l0.length with h0 | h0
    ·
     exact List.eq_nil_of_length_eq_zero h0
    ·
     obtain ⟨ad, e, _⟩ := Kd.at_int hr0 0 (by omega) (by omega)
     cases e
   have heq : ∀ W : World, (binOp .eql 27 (.slice none 0 c0) (.slice none 0 0)).run Tryz.prog W = .ok (.bool true) W := fun W => Lib.run_eql_slice_nil W 27 82 none 0 c0 0 0 Tryz.underlying27
   go_enter Tryz.func130, Tryz.ntmps130
   go_wp2
   go_ret
   exact ⟨_, rfl, Kd.R_nil _ _ _ _ _, Below.refl _ _⟩
  | some ad =>
   have heq : ∀ W : World, (binOp .eql 27 (.slice (some ad) l0.length c0) (.slice none 0 0)).run Tryz.prog W = .ok (.bool false) W := fun W => Lib.run_eql_slice_nil W 27 82 (some ad) l0.length c0 0 0 Tryz.underlying27
   have HR0 := zA hr0
   have HLT := zA hlt
   clear hr0 hlt hc0
   go_enter Tryz.func130, Tryz.ntmps130
   go_wp2_with (first
    | ((with_reducible refine za8 (N := 5) rfl ?_); refine Kd.R_lit (Kd.int .u64) _ 82 ?hg (N := 5) ?hd (xs := ([] : List Int)) (inner := []) (ok := fun _ => True) (okp := fun _ => True) ?hr ?hp (fun _ hk => hk) trivial (Below.refl _ _) (Nat.le_refl _) (by simp) ?_; (case hd => rfl); (case hg => rfl); (case hr => first | (go_simp; done) | (go_simp; rfl)); (case hp => exact (Reps.none _ _)); intro v5 w3 ho4 hb hg_ hnew_; clear hg_ hnew_; have HO := zA ho4; have HB := zA hb; clear hb ho4)
    | ((with_reducible refine zb3 (b := .append) (xs := #[.tmp 5, .tmp 6]) rfl ?_); at_builtin; refine Kd.R_append_rows (Kd.int .u64) (w0 := w) w.heap.size rfl (.tmp 5) (.tmp 6) 27 82 (.int .u64 0) 8 rfl Tryz.underlying27 info82 rfl (by decide) (by omega) v5 [] l0 _ _ _ (fun _ => True) (fun _ => False) rfl rfl ?aO ?aR (fun _ _ h => h) (fun _ h => h.elim) ?aF ?aB ?aS ?aL ?_; (case aR => exact (Kd.zas HR0.out HB.out)); (case aB => exact HB.out); (case aF => exact (fun _ _ => trivial)); (case aO => exact HO.out); (case aS => exact HB.out.size); (case aL => have := HLT.out; simp; omega); intro v177 w5 ho hb hg hat; have n0_ := zA hb; have n1_ := zA ho; clear HB HO; have HB := n0_; have HO := n1_; clear n0_ n1_ ho hb hg hat))
   go_ret
   exact ⟨_, rfl, HO.out, HB.out⟩
 ·
  cases h
def bits_Len64.f (x : Int) : Option Int := if 0 ≤ x then (if x ≤ 18446744073709551615 then some (Lib.bitLen x.toNat) else none) else none
theorem bits_Len64.calls (a0 : Int) (r : Int) (w : World) (h : bits_Len64.f a0 = some r) :
  Calls Tryz.prog 160 #[.int .u64 a0] w fun e w' => e = .returned (.int .i64 r) ∧ Drawn0 w w' := by
 unfold bits_Len64.f at h
 split at h
 ·
  rename_i h0
  split at h
  ·
   rename_i h1
   injection h with h
   subst h
   exact (Tryz.bits_Len64 a0 w h0 h1).mono fun e w' ⟨he, hw⟩ => ⟨he, by rw [hw]; exact Drawn0.refl _⟩
  ·
   cases h
 ·
  cases h
def zck.f (l0 : List Int) : Option (Int) := if (l0.length : Int) = 0 then (some 0) else (if 0 ≤ (wrap64 ((l0.length : Int) - 1)) then (if (wrap64 ((l0.length : Int) - 1)) < (l0.length : Int) then ((bits_Len64.f (rd l0 (wrap64 ((l0.length : Int) - 1)))).bind fun t168 => (some (wrap64 ((wrap64 (64 * (wrap64 ((l0.length : Int) - 1)))) + t168)))) else (none)) else (none))
theorem zck.calls (A0 : Option Addr) (c0 : Nat) (l0 : List Int) (r : Int) (w : World) (hr0 : Kd.C (Kd.int .u64) w A0 l0.length l0) (hc0 : l0.length ≤ c0) (h : zck.f l0 = some r) :
  Calls Tryz.prog 131 #[.slice A0 l0.length c0] w fun e w' => e = .returned (.int .i64 r) ∧ Drawn0 w w' := by
 have HR0 := zA hr0
 have HC0 := zA hc0
 clear hr0 hc0
 have H : (if (l0.length : Int) = 0 then (some 0) else (if 0 ≤ (wrap64 ((l0.length : Int) - 1)) then (if (wrap64 ((l0.length : Int) - 1)) < (l0.length : Int) then ((bits_Len64.f (rd l0 (wrap64 ((l0.length : Int) - 1)))).bind fun t168 => (some (wrap64 ((wrap64 (64 * (wrap64 ((l0.length : Int) - 1)))) + t168)))) else (none)) else (none))) = some r := h
 clear h
 by_cases c2 : (l0.length : Int) = 0
 ·
  rw [if_pos c2] at H
  have c2b0 : ((l0.length : Int) == 0) = true := beq_iff_eq.mpr c2
  have c2b1 : ((l0.length : Int) != 0) = false := bne_eq_false_iff_eq.mpr c2
  clear c2
  obtain rfl := Option.some.inj H
  go_enter Tryz.func131, Tryz.ntmps131
  go_wp2
  go_ret
  exact ⟨zF, by repeat (first | exact Drawn0.refl _ | apply Drawn0.step)⟩
 ·
  rw [if_neg c2] at H
  have c2b0 : ((l0.length : Int) == 0) = false := beq_eq_false_iff_ne.mpr c2
  have c2b1 : ((l0.length : Int) != 0) = true := bne_iff_ne.mpr c2
  have c2b2 : ¬ (l0 = []) := fun h_ => c2 (by rw [h_]; rfl)
  obtain ⟨ji3, hji3⟩ : ∃ j_ : Int, (wrap64 ((l0.length : Int) - 1)) = j_ := ⟨_, rfl⟩
  replace H : (if 0 ≤ (ji3) then (if (ji3) < (l0.length : Int) then ((bits_Len64.f (rd l0 (ji3))).bind fun t168 => (some (wrap64 ((wrap64 (64 * (ji3))) + t168)))) else (none)) else (none)) = some r := by first | (rw [hji3] at H; exact H) | (simp only [hji3] at H ⊢; exact H)
  have hji3w : (IntKind.i64.wrap ((l0.length : Int) - 1)) = ji3 := (i64_w _).trans hji3
  by_cases c4 : 0 ≤ (ji3)
  ·
   rw [if_pos c4] at H
   have c4b0 : decide (0 ≤ (ji3)) = true := decide_eq_true c4
   clear c4
   by_cases c5 : (ji3) < (l0.length : Int)
   ·
    rw [if_pos c5] at H
    have c5b0 : decide ((ji3) < (l0.length : Int)) = true := decide_eq_true c5
    clear c5
    replace H := zO H
    obtain ⟨t168, A60, H⟩ := H
    try dsimp only at H
    have A6 := zA A60
    clear A60
    obtain rfl := Option.some.inj H
    have p167 : 0 ≤ ((ji3) : Int) := of_decide_eq_true (by first | (with_reducible assumption) | assumption)
    have q167 : (ji3) < (l0.length : Int) := of_decide_eq_true (by first | (with_reducible assumption) | assumption)
    obtain ⟨ad167, e167, hx167_0⟩ := Kd.at_int HR0.out (ji3) p167 q167
    cases e167
    replace p167 := eq_true p167
    replace q167 := eq_true q167
    go_enter Tryz.func131, Tryz.ntmps131
    go_wp2_with (first | ((with_reducible refine zae (f := 160) rfl ?_); refine za2 (some 16) rfl rfl Tryz.func160 (by kernel_rfl) rfl #[.int .u64 (rd l0 (ji3))] rfl (by (try simp only [List.map_toArray, List.map_cons, List.map_nil]); first | done | (simp only [hji3]; rfl) | rfl | (simp only [List.length_drop, List.length_take]; rfl) | ((simp [Act.eval, wrap64]) <;> omega) | ((simp [Act.eval, wrap64, IntKind.wrap, IntKind.bits, IntKind.signed]) <;> omega)) ?_; (with_reducible refine (bits_Len64.calls (rd l0 (ji3)) t168 _ A6.out).mono ?_); rintro e w' ⟨rfl, ⟨nd, rfl⟩⟩; refine ⟨_, rfl, ?_⟩))
    go_ret
    exact ⟨by first | rfl | (simp; done) | (simp only [← hji3] <;> (first | rfl | simp)) | (simp [*]; done), by repeat (first | exact Drawn0.refl _ | apply Drawn0.step)⟩
   ·
    rw [if_neg c5] at H
    exact absurd H (by simp)
  ·
   rw [if_neg c4] at H
   exact absurd H (by simp)
def za4.l0 : Nat → Int → List Int → Int → List Int → Int → Int → Option (List Int)
 | 0, _, _, _, _, _, _ => none
 | k + 1, x1, x5, x6, x18, x19, x20 => if x20 < x19 then (if 0 ≤ x20 then (if x20 < (x18.length : Int) then (if 0 ≤ (Int.tmod x1 64) then (if x5.length < 17592186044416 then (if 0 ≤ (wrap64 (64 - (Int.tmod x1 64))) then (za4.l0 k x1 (x5 ++ [Go.bits .or .u64 (shl .u64 (rd x18 x20) (Int.tmod x1 64)) x6]) (shr .u64 (rd x18 x20) (wrap64 (64 - (Int.tmod x1 64)))) x18 x19 (wrap64 (x20 + 1))) else (none)) else (none)) else (none)) else (none)) else (none)) else (if x5.length < 17592186044416 then ((zbl.f k (x5 ++ [x6])).bind fun t179 => (some t179)) else (none))
def za4.f (k : Nat) (l0 : List Int) (a1 : Int) : Option (List Int) := if 0 ≤ (wrap64 (Int.tdiv a1 64)) then (if (wrap64 (Int.tdiv a1 64)) ≤ (wrap64 ((wrap64 ((wrap64 (Int.tdiv a1 64)) + (l0.length : Int))) + 1)) then (if (wrap64 ((wrap64 ((wrap64 (Int.tdiv a1 64)) + (l0.length : Int))) + 1) : Int).toNat ≤ 35184372088832 then (za4.l0 k a1 (List.replicate (wrap64 (Int.tdiv a1 64) : Int).toNat 0) 0 l0 (l0.length : Int) 0) else (none)) else (none)) else (none)
theorem za4.calls (k : Nat) (A0 : Option Addr) (c0 : Nat) (l0 : List Int) (a1 : Int) (r : List Int) (w : World) (hr0 : Kd.C (Kd.int .u64) w A0 l0.length l0) (hc0 : l0.length ≤ c0) (h : za4.f k l0 a1 = some r) :
  Calls Tryz.prog 132 #[.slice A0 l0.length c0, .int .i64 a1] w fun e w' => ∃ v0_ : Value, e = .returned (v0_) ∧ Kd.V (Kd.int .u64) 82 w' w.heap.size (fun k_ => (w.heap.size ≤ k_)) v0_ r ∧ Below w.heap.size w w' := by
 have HR0 := zA hr0
 have HC0 := zA hc0
 clear hr0 hc0
 have HB := zA (Below.refl w.heap.size w)
 have H : (if 0 ≤ (wrap64 (Int.tdiv a1 64)) then (if (wrap64 (Int.tdiv a1 64)) ≤ (wrap64 ((wrap64 ((wrap64 (Int.tdiv a1 64)) + (l0.length : Int))) + 1)) then (if (wrap64 ((wrap64 ((wrap64 (Int.tdiv a1 64)) + (l0.length : Int))) + 1) : Int).toNat ≤ 35184372088832 then (za4.l0 k a1 (List.replicate (wrap64 (Int.tdiv a1 64) : Int).toNat 0) 0 l0 (l0.length : Int) 0) else (none)) else (none)) else (none)) = some r := h
 clear h
 obtain ⟨ji3, hji3⟩ : ∃ j_ : Int, (wrap64 (Int.tdiv a1 64)) = j_ := ⟨_, rfl⟩
 replace H : (if 0 ≤ (ji3) then (if (ji3) ≤ (wrap64 ((wrap64 ((ji3) + (l0.length : Int))) + 1)) then (if (wrap64 ((wrap64 ((ji3) + (l0.length : Int))) + 1) : Int).toNat ≤ 35184372088832 then (za4.l0 k a1 (List.replicate (ji3 : Int).toNat 0) 0 l0 (l0.length : Int) 0) else (none)) else (none)) else (none)) = some r := by first | (rw [hji3] at H; exact H) | (simp only [hji3] at H ⊢; exact H)
 have hji3w : (IntKind.i64.wrap (Int.tdiv a1 64)) = ji3 := (i64_w _).trans hji3
 by_cases c4 : 0 ≤ (ji3)
 ·
  rw [if_pos c4] at H
  have c4b0 := eq_true c4
  have c4b1 : decide (0 ≤ (ji3)) = true := decide_eq_true c4
  clear c4
  by_cases c5 : (ji3) ≤ (wrap64 ((wrap64 ((ji3) + (l0.length : Int))) + 1))
  ·
   rw [if_pos c5] at H
   have c5b0 := eq_true c5
   have c5b1 : decide ((ji3) ≤ (wrap64 ((wrap64 ((ji3) + (l0.length : Int))) + 1))) = true := decide_eq_true c5
   by_cases c6 : (wrap64 ((wrap64 ((ji3) + (l0.length : Int))) + 1) : Int).toNat ≤ 35184372088832
   ·
    rw [if_pos c6] at H
    have c6b0 := eq_true c6
    have c6b1 : decide ((wrap64 ((wrap64 ((ji3) + (l0.length : Int))) + 1) : Int).toNat ≤ 35184372088832) = true := decide_eq_true c6
    obtain ⟨y169, hy169⟩ : ∃ y_ : List Int, y_ = (List.replicate (ji3 : Int).toNat 0) := ⟨_, rfl⟩
    replace H : (za4.l0 k a1 y169 0 l0 (l0.length : Int) 0) = some r := by first | (rw [hy169]; with_reducible exact H) | (have H2_ := (Option.bind_some _ _).symm.trans H; rw [hy169]; with_reducible exact H2_) | (have H2_ := (Option.bind_some _ _).symm.trans H; with_reducible exact H2_) | with_reducible exact H | (rw [hy169]; exact H) | exact H
    have Ny169 := zA hy169
    clear hy169
    have H' := zA H
    clear H
    go_enter Tryz.func132, Tryz.ntmps132
    go_wp2_with (first | ((with_reducible refine za8 (N := 17) rfl ?_); refine R_makec_ (Kd.int .u64) _ 82 rfl (N := 17) rfl 27 _ _ rfl ji3 (wrap64 ((wrap64 ((ji3) + (l0.length : Int))) + 1)) rfl rfl Tryz.underlying27 (.int .u64 0) 8 info82 rfl (by decide) (by omega) 0 (ok := fun _ => True) (okp := fun _ => True) rfl (fun _ hk => hk) trivial (of_decide_eq_true (by first | (with_reducible assumption) | assumption)) (of_decide_eq_true (by first | (with_reducible assumption) | assumption)) (Nat.le_trans (Nat.mul_le_mul_right _ (of_decide_eq_true (by first | (with_reducible assumption) | assumption) : (wrap64 ((wrap64 ((ji3) + (l0.length : Int))) + 1)).toNat ≤ 35184372088832)) (by omega)) (Below.refl _ _) (Nat.le_refl _) ?_; intro v170 w7 ho8 hb hg_ hnew_; clear hg_ hnew_; (first | rw [← Ny169.out] at ho8 | (simp only [Int.reduceToNat] at ho8; rw [← Ny169.out] at ho8)); have n0_ := zA (Kd.zbs (Kd.R_newM (M := fun k_ => (w.heap.size ≤ k_)) ho8 (za (zB HB)) (fun k_ h_ => h_)) (za (zB HB))); have n1_ := zA (zaa (zB HB) hb); clear HB; have HO171 := n0_; have HB := n1_; clear n0_ n1_ hb ho8))
    go_loopg [5, 6, 20] k (fun kq v5 v6 v20 w' => ∃ (x5_1 : List Int) (x6_1 : Int) (x20_1 : Int), v6 = .int .u64 x6_1 ∧ v20 = .int .i64 x20_1 ∧ Aside0 (za4.l0 kq a1 x5_1 x6_1 l0 (l0.length : Int) x20_1 = some r) ∧ Aside0 (kq ≤ k) ∧ Aside0 (Kd.R (Kd.int .u64) 82 w' w.heap.size (fun k_ => (w.heap.size ≤ k_)) v5 x5_1) ∧ Aside0 (Below w.heap.size w w'))
    case atStart => exact ⟨(y169), (0), (0), (zF), (zF), H', ⟨Nat.le_refl _⟩, ⟨by (with_reducible repeat (first | apply Kd.zca | apply Kd.zcb | apply Kd.zcl)); exact Kd.zbp HO171.out (fun _ hk => hk.1)⟩, ⟨zB HB⟩⟩
    case round =>
     clear H'
     try clear c1
     try clear p2
     try clear c4
     try clear c4b0
     try clear c4b1
     try clear c5
     try clear c5b0
     try clear c5b1
     try clear c6
     try clear c6b0
     try clear c6b1
     try clear p6
     obtain ⟨x5_1, x6_1, x20_1, rfl, rfl, HA, HK1, HO_5, HB⟩ := hrel
     cases gk with
     | zero => exact absurd HA.out (by simp [za4.l0])
     | succ k1 =>
      have H := HA.out
      clear HA
      simp only [za4.l0] at H
      by_cases c9 : x20_1 < (l0.length : Int)
      ·
       rw [if_pos c9] at H
       have c9b0 : decide (x20_1 < (l0.length : Int)) = true := decide_eq_true c9
       clear c9
       by_cases c10 : 0 ≤ x20_1
       ·
        rw [if_pos c10] at H
        have c10b0 : decide (0 ≤ x20_1) = true := decide_eq_true c10
        clear c10
        by_cases c11 : x20_1 < (l0.length : Int)
        ·
         rw [if_pos c11] at H
         have c11b0 : decide (x20_1 < (l0.length : Int)) = true := decide_eq_true c11
         clear c11
         obtain ⟨ji12, hji12⟩ : ∃ j_ : Int, (Int.tmod a1 64) = j_ := ⟨_, rfl⟩
         replace H : (if 0 ≤ (ji12) then (if x5_1.length < 17592186044416 then (if 0 ≤ (wrap64 (64 - (ji12))) then (za4.l0 k1 a1 (x5_1 ++ [Go.bits .or .u64 (shl .u64 (rd l0 x20_1) (ji12)) x6_1]) (shr .u64 (rd l0 x20_1) (wrap64 (64 - (ji12)))) l0 (l0.length : Int) (wrap64 (x20_1 + 1))) else (none)) else (none)) else (none)) = some r := by first | (rw [hji12] at H; exact H) | (simp only [hji12] at H ⊢; exact H)
         by_cases c13 : 0 ≤ (ji12)
         ·
          rw [if_pos c13] at H
          have c13b0 := eq_true c13
          have c13b1 : decide (0 ≤ (ji12)) = true := decide_eq_true c13
          clear c13
          obtain ⟨ji14, hji14⟩ : ∃ j_ : Int, (shl .u64 (rd l0 x20_1) (ji12)) = j_ := ⟨_, rfl⟩
          replace H : (if x5_1.length < 17592186044416 then (if 0 ≤ (wrap64 (64 - (ji12))) then (za4.l0 k1 a1 (x5_1 ++ [Go.bits .or .u64 (ji14) x6_1]) (shr .u64 (rd l0 x20_1) (wrap64 (64 - (ji12)))) l0 (l0.length : Int) (wrap64 (x20_1 + 1))) else (none)) else (none)) = some r := by first | (rw [hji14] at H; exact H) | (simp only [hji14] at H ⊢; exact H)
          have hji14_ : (IntKind.u64.wrap ((rd l0 x20_1) * 2 ^ min (ji12).toNat 64)) = ji14 := hji14
          have hji14z : (ji12) ≤ 64 → (IntKind.u64.wrap ((rd l0 x20_1) * 2 ^ (ji12).toNat)) = ji14 := shl_small hji14
          by_cases c15 : x5_1.length < 17592186044416
          ·
           rw [if_pos c15] at H
           have LMc15 := zA c15
           clear c15
           obtain ⟨y173, hy173⟩ : ∃ y_ : List Int, y_ = (x5_1 ++ [Go.bits .or .u64 (ji14) x6_1]) := ⟨_, rfl⟩
           replace H : (if 0 ≤ (wrap64 (64 - (ji12))) then (za4.l0 k1 a1 y173 (shr .u64 (rd l0 x20_1) (wrap64 (64 - (ji12)))) l0 (l0.length : Int) (wrap64 (x20_1 + 1))) else (none)) = some r := by first | (rw [hy173]; with_reducible exact H) | (have H2_ := (Option.bind_some _ _).symm.trans H; rw [hy173]; with_reducible exact H2_) | (have H2_ := (Option.bind_some _ _).symm.trans H; with_reducible exact H2_) | with_reducible exact H | (rw [hy173]; exact H) | exact H
           have Ny173 := zA hy173
           clear hy173
           obtain ⟨ji16, hji16⟩ : ∃ j_ : Int, (wrap64 (64 - (ji12))) = j_ := ⟨_, rfl⟩
           replace H : (if 0 ≤ (ji16) then (za4.l0 k1 a1 y173 (shr .u64 (rd l0 x20_1) (ji16)) l0 (l0.length : Int) (wrap64 (x20_1 + 1))) else (none)) = some r := by first | (rw [hji16] at H; exact H) | (simp only [hji16] at H ⊢; exact H)
           have hji16w : (IntKind.i64.wrap (64 - (ji12))) = ji16 := (i64_w _).trans hji16
           by_cases c17 : 0 ≤ (ji16)
           ·
            rw [if_pos c17] at H
            have c17b0 := eq_true c17
            have c17b1 : decide (0 ≤ (ji16)) = true := decide_eq_true c17
            clear c17
            obtain ⟨ji18, hji18⟩ : ∃ j_ : Int, (shr .u64 (rd l0 x20_1) (ji16)) = j_ := ⟨_, rfl⟩
            replace H : (za4.l0 k1 a1 y173 ji18 l0 (l0.length : Int) (wrap64 (x20_1 + 1))) = some r := by first | (rw [hji18] at H; exact H) | (simp only [hji18] at H ⊢; exact H)
            have hji18_ : ((rd l0 x20_1) / 2 ^ min (ji16).toNat 64) = ji18 := hji18
            have hji18z : (ji16) ≤ 64 → ((rd l0 x20_1) / 2 ^ (ji16).toNat) = ji18 := shr_small hji18
            have H' := zA H
            clear H
            have p172 : 0 ≤ (x20_1 : Int) := of_decide_eq_true (by first | (with_reducible assumption) | assumption)
            have q172 : x20_1 < (l0.length : Int) := of_decide_eq_true (by first | (with_reducible assumption) | assumption)
            obtain ⟨ad172, e172, hx172_0⟩ := Kd.at_int HR0.out x20_1 p172 q172
            cases e172
            replace hx172_0 := (HB.out.cell (World.block_lt_of_cell? w _ hx172_0)).trans hx172_0
            replace p172 := eq_true p172
            replace q172 := eq_true q172
            go_wp2_with (first | ((with_reducible refine zb3 (b := .append) (xs := #[.tmp 24, .tmp 31]) rfl ?_); at_builtin; refine Kd.zdj (Kd.int .u64) (w0 := w) w.heap.size rfl (.tmp 24) (.tmp 31) 27 82 (.int .u64 0) 8 rfl Tryz.underlying27 info82 rfl (by decide) (by omega) u5 x5_1 (Go.bits .or .u64 (ji14) x6_1) [.int .u64 (Go.bits .or .u64 (ji14) x6_1)] (fun k_ => (w.heap.size ≤ k_)) (fun _ => False) rfl rfl ?aP (fun _ hk => hk.elim) ?aF ?aO ?aB ?aS ?aL ?_; (case aP => exact rfl); (case aB => exact (zB HB)); (case aF => exact (fun k_ hk => (Nat.le_trans (za (zB HB)) hk))); (case aO => exact (zR HO_5)); (case aS => exact (za (zB HB))); (case aL => have := LMc15.out; omega); intro v174 w19 ho hb hg hat; rw [← Ny173.out] at ho; have n0_ := zA (hb); have n1_ := zA (ho); clear HB HO_5; have HB := n0_; have HO175 := n1_; clear n0_ n1_ ho hb hg hat))
            go_roundg k1
            case measure => have := HK1.out; omega
            case rel => exact ⟨(y173), (ji18), (wrap64 (x20_1 + 1)), (by first | rfl | (simp; done) | (simp only [← hji18] <;> (first | rfl | simp)) | (simp [*]; done)), (zF), H', ⟨by have := HK1.out; omega⟩, ⟨zR HO175⟩, ⟨zB HB⟩⟩
           ·
            rw [if_neg c17] at H
            exact absurd H (by simp)
          ·
           rw [if_neg c15] at H
           exact absurd H (by simp)
         ·
          rw [if_neg c13] at H
          exact absurd H (by simp)
        ·
         rw [if_neg c11] at H
         exact absurd H (by simp)
       ·
        rw [if_neg c10] at H
        exact absurd H (by simp)
      ·
       rw [if_neg c9] at H
       have c9b0 : decide (x20_1 < (l0.length : Int)) = false := decide_eq_false c9
       clear c9
       by_cases c20 : x5_1.length < 17592186044416
       ·
        rw [if_pos c20] at H
        have LMc20 := zA c20
        clear c20
        obtain ⟨y176, hy176⟩ : ∃ y_ : List Int, y_ = (x5_1 ++ [x6_1]) := ⟨_, rfl⟩
        replace H : ((zbl.f k1 y176).bind fun t179 => (some t179)) = some r := by first | (rw [hy176]; with_reducible exact H) | (have H2_ := (Option.bind_some _ _).symm.trans H; rw [hy176]; with_reducible exact H2_) | (have H2_ := (Option.bind_some _ _).symm.trans H; with_reducible exact H2_) | with_reducible exact H | (rw [hy176]; exact H) | exact H
        have Ny176 := zA hy176
        clear hy176
        replace H := zO H
        obtain ⟨t179, A210, H⟩ := H
        try dsimp only at H
        have A21 := zA A210
        clear A210
        obtain rfl := Option.some.inj H
        go_wp2_with (first | ((with_reducible refine zb3 (b := .append) (xs := #[.tmp 39, .tmp 41]) rfl ?_); at_builtin; refine Kd.zdj (Kd.int .u64) (w0 := w) w.heap.size rfl (.tmp 39) (.tmp 41) 27 82 (.int .u64 0) 8 rfl Tryz.underlying27 info82 rfl (by decide) (by omega) u5 x5_1 x6_1 [.int .u64 x6_1] (fun k_ => (w.heap.size ≤ k_)) (fun _ => False) rfl rfl ?aP (fun _ hk => hk.elim) ?aF ?aO ?aB ?aS ?aL ?_; (case aP => exact rfl); (case aB => exact (zB HB)); (case aF => exact (fun k_ hk => (Nat.le_trans (za (zB HB)) hk))); (case aO => exact (zR HO_5)); (case aS => exact (za (zB HB))); (case aL => have := LMc20.out; omega); intro v177 w22 ho hb hg hat; rw [← Ny176.out] at ho; have n0_ := zA (hb); have n1_ := zA (ho); clear HB HO_5; have HB := n0_; have HO178 := n1_; clear n0_ n1_ ho hb hg hat; obtain ⟨Ao23, co23, eo23⟩ := Kd.zbm HO178.out; subst eo23) | ((with_reducible refine zae (f := 67) rfl ?_); refine za2 (some 43) rfl rfl Tryz.func67 (by kernel_rfl) rfl #[.slice Ao23 y176.length co23] rfl (zE) ?_; (with_reducible refine (zbl.calls k1 (fun k_ => some k_ = (.slice Ao23 y176.length co23 : Value).ownBlock) _ _ y176 t179 _ ?side1 A21.out).mono ?_); (case side1 => exact Kd.R_V (Kd.zde rfl (HO178.out))); rintro e w24 ⟨v180, rfl, ho0, hb⟩; refine ⟨_, rfl, ?_⟩; have n0_ := zA (Kd.zbf (zR HO178) hb); have n1_ := zA (Kd.zaz (Kd.zam (ok' := fun k_ => (w.heap.size ≤ k_)) ho0 (fun k_ hk_ => Or.elim hk_ (fun hs_ => ((HO178.out).1 k_ hs_.symm)) (fun hn_ => (Nat.le_trans (za (zB HB)) hn_)))) (za (zB HB))); have n2_ := zA (zaa (zB HB) hb); clear HO178 HB; have HO178 := n0_; have HO181 := n1_; have HB := n2_; clear n0_ n1_ n2_; (try clear hb); (try clear hb2); (try clear hk); (try clear hi); (try clear ho0)))
        go_ret
        exact ⟨_, by first | rfl | (simp [zb7, zb4] <;> rfl) | (simp only [← hji3]; first | rfl | (simp [zb7, zb4] <;> rfl)) | (simp [*, zb7, zb4] <;> rfl), zV HO181, zB HB⟩
       ·
        rw [if_neg c20] at H
        exact absurd H (by simp)
   ·
    rw [if_neg c6] at H
    exact absurd H (by simp)
  ·
   rw [if_neg c5] at H
   exact absurd H (by simp)
 ·
  rw [if_neg c4] at H
  exact absurd H (by simp)
def nat_Nat_at.f (l0 : List Int) (a1 : Int) : Option (Int) := if a1 ≥ (l0.length : Int) then (some 0) else (if 0 ≤ a1 then (if a1 < (l0.length : Int) then (some (rd l0 a1)) else (none)) else (none))
theorem nat_Nat_at.calls (A0 : Option Addr) (c0 : Nat) (l0 : List Int) (a1 : Int) (r : Int) (w : World) (hr0 : Kd.C (Kd.int .u64) w A0 l0.length l0) (hc0 : l0.length ≤ c0) (h : nat_Nat_at.f l0 a1 = some r) :
  Calls Tryz.prog 90 #[.slice A0 l0.length c0, .int .i64 a1] w fun e w' => e = .returned (.int .u64 r) ∧ Drawn0 w w' := by
 have HR0 := zA hr0
 have HC0 := zA hc0
 clear hr0 hc0
 have H : (if a1 ≥ (l0.length : Int) then (some 0) else (if 0 ≤ a1 then (if a1 < (l0.length : Int) then (some (rd l0 a1)) else (none)) else (none))) = some r := h
 clear h
 by_cases c3 : a1 ≥ (l0.length : Int)
 ·
  rw [if_pos c3] at H
  have c3b0 : decide ((l0.length : Int) ≤ a1) = true := decide_eq_true c3
  clear c3
  obtain rfl := Option.some.inj H
  go_enter Tryz.func90, Tryz.ntmps90
  go_wp2
  go_ret
  exact ⟨zF, by repeat (first | exact Drawn0.refl _ | apply Drawn0.step)⟩
 ·
  rw [if_neg c3] at H
  have c3b0 : decide ((l0.length : Int) ≤ a1) = false := decide_eq_false c3
  clear c3
  by_cases c4 : 0 ≤ a1
  ·
   rw [if_pos c4] at H
   have c4b0 : decide (0 ≤ a1) = true := decide_eq_true c4
   clear c4
   by_cases c5 : a1 < (l0.length : Int)
   ·
    rw [if_pos c5] at H
    have c5b0 : decide (a1 < (l0.length : Int)) = true := decide_eq_true c5
    clear c5
    obtain rfl := Option.some.inj H
    have p182 : 0 ≤ (a1 : Int) := of_decide_eq_true (by first | (with_reducible assumption) | assumption)
    have q182 : a1 < (l0.length : Int) := of_decide_eq_true (by first | (with_reducible assumption) | assumption)
    obtain ⟨ad182, e182, hx182_0⟩ := Kd.at_int HR0.out a1 p182 q182
    cases e182
    replace p182 := eq_true p182
    replace q182 := eq_true q182
    go_enter Tryz.func90, Tryz.ntmps90
    go_wp2
    go_ret
    exact ⟨zF, by repeat (first | exact Drawn0.refl _ | apply Drawn0.step)⟩
   ·
    rw [if_neg c5] at H
    exact absurd H (by simp)
  ·
   rw [if_neg c4] at H
   exact absurd H (by simp)
def bits_Sub64.f (x y c : Int) : Option (Int × Int) := if c ≤ 1 then some (((x.toNat + 18446744073709551616 - y.toNat - c.toNat) % 18446744073709551616 : Nat), ((if x.toNat < y.toNat + c.toNat then 1 else 0 : Nat) : Int)) else none
def bits_Sub64.entry : Array Value → Sem Value := fun args => do
 let (x, y, c) ← Extern.MathBitsCarry.three "Sub64" args
 pure (Extern.MathBitsCarry.pair ((x + Extern.MathBitsCarry.m64 - y - c) % Extern.MathBitsCarry.m64) (if x < y + c then 1 else 0))
theorem bits_Sub64.run_entry (x y c : Int) (hc : c ≤ 1) (w : World) : (bits_Sub64.entry #[.int .u64 x, .int .u64 y, .int .u64 c]).run Tryz.prog w = .ok (.tuple #[.int .u64 ((x.toNat + 18446744073709551616 - y.toNat - c.toNat) % 18446744073709551616 : Nat), .int .u64 ((if x.toNat < y.toNat + c.toNat then 1 else 0 : Nat) : Int)]) w := by
 rcases c with n | n
 ·
  match n, hc with
  | 0, _ => rfl
  | 1, _ => rfl
  | n + 2, hc => exact absurd hc (by simp; omega)
 ·
  rfl
theorem bits_Sub64.run {W : World} {x y c r1 r2 : Int} (h : bits_Sub64.f x y c = some (r1, r2)) : (callFunc 161 #[.int .u64 x, .int .u64 y, .int .u64 c]).run Tryz.prog W = .ok (.value (.tuple #[.int .u64 r1, .int .u64 r2])) W := by
 unfold bits_Sub64.f at h
 split at h
 ·
  rename_i hc
  injection h with h
  injection h with h1 h2
  subst h1; subst h2
  rw [run_callFunc_extern Tryz.func161 (by kernel_rfl) (by kernel_rfl) (by kernel_rfl) (e := bits_Sub64.entry) (by kernel_rfl), bits_Sub64.run_entry x y c hc]
  rfl
 ·
  cases h
def zbx.l0 : Nat → List Int → List Int → List Int → Int → Int → Int → Option (List Int)
 | 0, _, _, _, _, _, _ => none
 | k + 1, x0, x1, x5, x6, x12, x13 => if x13 < x12 then (if 0 ≤ x13 then (if x13 < (x0.length : Int) then ((nat_Nat_at.f x1 x13).bind fun t187 => ((bits_Sub64.f (rd x0 x13) t187 x6).bind fun bt188 => (if x13 < (x5.length : Int) then (zbx.l0 k x0 x1 (x5.set (x13 : Int).toNat bt188.1) bt188.2 x12 (wrap64 (x13 + 1))) else (none)))) else (none)) else (none)) else ((zbl.f k x5).bind fun t191 => (some t191))
def zbx.f (k : Nat) (l0 : List Int) (l1 : List Int) : Option (List Int) := if 0 ≤ (l0.length : Int) then (if ((l0.length : Int) : Int).toNat ≤ 35184372088832 then (zbx.l0 k l0 l1 (List.replicate ((l0.length : Int) : Int).toNat 0) 0 (l0.length : Int) 0) else (none)) else (none)
def zbx.T6 : Bool × List (List Nat × List Nat) := (true, [([], []), ([], []), ([], []), ([], []), ([2, 3], [2, 3]), ([4], [4]), ([], []), ([], []), ([6, 7], [6, 7]), ([], []), ([5, 8, 9, 8], [5, 8, 9]), ([10], [10]), ([11], [11]), ([11], [11]), ([0, 1, 0, 1, 2, 3, 4, 5, 6, 7, 8, 9, 10, 11, 12], [0, 1]), ([14, 12, 10, 0, 1, 2, 3, 4, 5, 6, 7, 8, 9, 10, 11, 12], [12, 14]), ([13, 15, 0, 1, 2, 3, 4, 5, 6, 7, 8, 9, 10, 11, 12, 13, 14, 15], [9, 13])])
def zbx.B6 : List Nat := [0, 0, 0, 0, 12, 28, 0, 0, 192, 0, 1020, 2044, 4092, 4092, 8191, 24575, 65535]
theorem zbx.tab6 : rtab .any (opsOf Tryz.f133 6) = zbx.T6 := by kernel_rfl
theorem zbx.bits6 : waitsOk zbx.T6.2 zbx.B6 = true := by kernel_rfl
theorem zbx.calls (k : Nat) (A0 : Option Addr) (c0 : Nat) (l0 : List Int) (A1 : Option Addr) (c1 : Nat) (l1 : List Int) (r : List Int) (w : World) (hr0 : Kd.C (Kd.int .u64) w A0 l0.length l0) (hc0 : l0.length ≤ c0) (hr1 : Kd.C (Kd.int .u64) w A1 l1.length l1) (hc1 : l1.length ≤ c1) (h : zbx.f k l0 l1 = some r) :
  Calls Tryz.prog 133 #[.slice A0 l0.length c0, .slice A1 l1.length c1] w fun e w' => ∃ v0_ : Value, e = .returned (v0_) ∧ Kd.V (Kd.int .u64) 82 w' w.heap.size (fun k_ => (w.heap.size ≤ k_)) v0_ r ∧ Below w.heap.size w w' := by
 have HR0 := zA hr0
 have HC0 := zA hc0
 clear hr0 hc0
 have HR1 := zA hr1
 have HC1 := zA hc1
 clear hr1 hc1
 have HB := zA (Below.refl w.heap.size w)
 have H : (if 0 ≤ (l0.length : Int) then (if ((l0.length : Int) : Int).toNat ≤ 35184372088832 then (zbx.l0 k l0 l1 (List.replicate ((l0.length : Int) : Int).toNat 0) 0 (l0.length : Int) 0) else (none)) else (none)) = some r := h
 clear h
 by_cases c3 : 0 ≤ (l0.length : Int)
 ·
  rw [if_pos c3] at H
  have c3b0 := eq_true c3
  have c3b1 : decide (0 ≤ (l0.length : Int)) = true := decide_eq_true c3
  clear c3
  by_cases c4 : ((l0.length : Int) : Int).toNat ≤ 35184372088832
  ·
   rw [if_pos c4] at H
   have c4b0 := eq_true c4
   have c4b1 : decide (((l0.length : Int) : Int).toNat ≤ 35184372088832) = true := decide_eq_true c4
   clear c4
   obtain ⟨y183, hy183⟩ : ∃ y_ : List Int, y_ = (List.replicate ((l0.length : Int) : Int).toNat 0) := ⟨_, rfl⟩
   replace H : (zbx.l0 k l0 l1 y183 0 (l0.length : Int) 0) = some r := by first | (rw [hy183]; with_reducible exact H) | (have H2_ := (Option.bind_some _ _).symm.trans H; rw [hy183]; with_reducible exact H2_) | (have H2_ := (Option.bind_some _ _).symm.trans H; with_reducible exact H2_) | with_reducible exact H | (rw [hy183]; exact H) | exact H
   have Ny183 := zA hy183
   clear hy183
   have H' := zA H
   clear H
   go_enter Tryz.func133, Tryz.ntmps133
   go_wp2_with (first | ((with_reducible refine za8 (N := 10) rfl ?_); refine Kd.R_make (Kd.int .u64) _ 82 rfl (N := 10) rfl 27 _ _ rfl (l0.length : Int) rfl rfl Tryz.underlying27 (.int .u64 0) 8 info82 rfl (by decide) (by omega) 0 (ok := fun _ => True) (okp := fun _ => True) rfl (fun _ hk => hk) trivial (of_decide_eq_true (by first | (with_reducible assumption) | assumption)) (Nat.le_trans (Nat.mul_le_mul_right _ (of_decide_eq_true (by first | (with_reducible assumption) | assumption) : (l0.length : Int).toNat ≤ 35184372088832)) (by omega)) (Below.refl _ _) (Nat.le_refl _) ?_; intro v184 w5 ho6 hb hg_ hnew_; clear hg_ hnew_; (first | rw [← Ny183.out] at ho6 | (simp only [Int.reduceToNat] at ho6; rw [← Ny183.out] at ho6)); have n0_ := zA (Kd.zbs (Kd.R_newM (M := fun k_ => (w.heap.size ≤ k_)) ho6 (za (zB HB)) (fun k_ h_ => h_)) (za (zB HB))); have n1_ := zA (zaa (zB HB) hb); clear HB; have HO185 := n0_; have HB := n1_; clear n0_ n1_ hb ho6))
   go_loopg [6, 13] k (fun kq v6 v13 w' => ∃ (x5_1 : List Int) (x6_1 : Int) (x13_1 : Int), v6 = .int .u64 x6_1 ∧ v13 = .int .i64 x13_1 ∧ Aside0 (zbx.l0 kq l0 l1 x5_1 x6_1 (l0.length : Int) x13_1 = some r) ∧ Aside0 (kq ≤ k) ∧ Aside0 (Kd.R (Kd.int .u64) 82 w' w.heap.size (fun k_ => (w.heap.size ≤ k_)) v184 x5_1) ∧ Aside0 (Below w.heap.size w w'))
   case atStart => exact ⟨(y183), (0), (0), (zF), (zF), H', ⟨Nat.le_refl _⟩, ⟨by (with_reducible repeat (first | apply Kd.zca | apply Kd.zcb | apply Kd.zcl)); exact Kd.zbp HO185.out (fun _ hk => hk.1)⟩, ⟨zB HB⟩⟩
   case round =>
    clear H'
    try clear c1
    try clear p2
    try clear c3
    try clear c3b0
    try clear c3b1
    try clear c4
    try clear c4b0
    try clear c4b1
    obtain ⟨x5_1, x6_1, x13_1, rfl, rfl, HA, HK1, HO_5, HB⟩ := hrel
    cases gk with
    | zero => exact absurd HA.out (by simp [zbx.l0])
    | succ k1 =>
     have H := HA.out
     clear HA
     simp only [zbx.l0] at H
     by_cases c7 : x13_1 < (l0.length : Int)
     ·
      rw [if_pos c7] at H
      have c7b0 : decide (x13_1 < (l0.length : Int)) = true := decide_eq_true c7
      clear c7
      by_cases c8 : 0 ≤ x13_1
      ·
       rw [if_pos c8] at H
       have c8b0 : decide (0 ≤ x13_1) = true := decide_eq_true c8
       clear c8
       by_cases c9 : x13_1 < (l0.length : Int)
       ·
        rw [if_pos c9] at H
        have c9b0 : decide (x13_1 < (l0.length : Int)) = true := decide_eq_true c9
        clear c9
        replace H := zO H
        obtain ⟨t187, A100, H⟩ := H
        try dsimp only at H
        have A10 := zA A100
        clear A100
        replace H := zO H
        obtain ⟨⟨t188, t189⟩, A110, H⟩ := H
        try dsimp only at H
        have A11 := fun W_ => bits_Sub64.run (W := W_) A110
        clear A110
        by_cases c12 : x13_1 < (x5_1.length : Int)
        ·
         rw [if_pos c12] at H
         have c12b0 : decide (x13_1 < (x5_1.length : Int)) = true := decide_eq_true c12
         clear c12
         obtain ⟨y190, hy190⟩ : ∃ y_ : List Int, y_ = (x5_1.set (x13_1 : Int).toNat t188) := ⟨_, rfl⟩
         replace H : (zbx.l0 k1 l0 l1 y190 t189 (l0.length : Int) (wrap64 (x13_1 + 1))) = some r := by first | (rw [hy190]; with_reducible exact H) | (have H2_ := (Option.bind_some _ _).symm.trans H; rw [hy190]; with_reducible exact H2_) | (have H2_ := (Option.bind_some _ _).symm.trans H; with_reducible exact H2_) | with_reducible exact H | (rw [hy190]; exact H) | exact H
         have Ny190 := zA hy190
         clear hy190
         have H' := zA H
         clear H
         try go_wp2
         have n0_ := zA (Kd.zcl HO_5.out)
         have n1_ := zA (zbo HB.out)
         clear HO_5 HB
         have HO_5 := n0_
         have HB := n1_
         clear n0_ n1_
         have p186 : 0 ≤ (x13_1 : Int) := of_decide_eq_true (by first | (with_reducible assumption) | assumption)
         have q186 : x13_1 < (l0.length : Int) := of_decide_eq_true (by first | (with_reducible assumption) | assumption)
         obtain ⟨ad186, e186, hx186_0⟩ := Kd.at_int HR0.out x13_1 p186 q186
         have hw186_0 := hx186_0
         cases e186
         replace hx186_0 := (HB.out.cell (World.block_lt_of_cell? w _ hx186_0)).trans hx186_0
         replace p186 := eq_true p186
         replace q186 := eq_true q186
         refine start_ (n := 17) (S := fun w' => w'.cell? (ad186.add (x13_1).toNat) = some (.int .u64 (rd l0 x13_1))) (ds := [15]) #[false, false, false, false, false, false, false, false, false, false, false, false, false, false, false, false, false] (by kernel_rfl) rfl rfl (((HB.out.cell (World.block_lt_of_cell? w _ hw186_0)).trans hw186_0)) (fun hHeld => ?_); refine zcq zbx.tab6 zbx.bits6 (fun HT_ HW_ => ?_)
         generalize wr.drew = w14 at HO_5 HB hx186_0 hHeld ⊢
         refine pure_ (i := 0) (N := some 17) (v := ?_) (a' := ?_) #[true, false, false, false, false, false, false, false, false, false, false, false, false, false, false, false, false] rfl rfl (zat HT_.out (by kernel_rfl)) (fun _ _ _ h => h) (Or.inl ⟨by rfl, ?_⟩) ?_ ?_
         rotate_left
         ·
          intro w'
          go_simp
          with_reducible rfl
         rotate_left
         ·
          simp only [Act.put, zs1, zs2, zs3, i64_w, i32_w]
          rfl
         refine pure_ (i := 1) (N := some 18) (v := ?_) (a' := ?_) #[true, true, false, false, false, false, false, false, false, false, false, false, false, false, false, false, false] rfl rfl (zat HT_.out (by kernel_rfl)) (fun _ _ _ h => h) (Or.inl ⟨by rfl, ?_⟩) ?_ ?_
         rotate_left
         ·
          intro w'
          go_simp
          with_reducible rfl
         rotate_left
         ·
          simp only [Act.put, zs1, zs2, zs3, i64_w, i32_w]
          rfl
         refine pure_ (i := 2) (N := some 19) (v := ?_) (a' := ?_) #[true, true, true, false, false, false, false, false, false, false, false, false, false, false, false, false, false] rfl rfl (zat HT_.out (by kernel_rfl)) (fun _ _ _ h => h) (Or.inl ⟨by rfl, ?_⟩) ?_ ?_
         rotate_left
         ·
          intro w'
          go_simp
          with_reducible rfl
         rotate_left
         ·
          simp only [Act.put, zs1, zs2, zs3, i64_w, i32_w]
          rfl
         refine pure_ (i := 3) (N := some 20) (v := ?_) (a' := ?_) #[true, true, true, true, false, false, false, false, false, false, false, false, false, false, false, false, false] rfl rfl (zat HT_.out (by kernel_rfl)) (fun _ _ _ h => h) (Or.inl ⟨by rfl, ?_⟩) ?_ ?_
         rotate_left
         ·
          intro w'
          go_simp
          with_reducible rfl
         rotate_left
         ·
          simp only [Act.put, zs1, zs2, zs3, i64_w, i32_w]
          rfl
         refine pure_ (i := 4) (N := some 21) (v := ?_) (a' := ?_) #[true, true, true, true, true, false, false, false, false, false, false, false, false, false, false, false, false] rfl rfl (zat HT_.out (by kernel_rfl)) (fun _ _ _ h => h) (Or.inl ⟨by rfl, ?_⟩) ?_ ?_
         rotate_left
         ·
          intro w'
          go_simp
          with_reducible rfl
         rotate_left
         ·
          simp only [Act.put, zs1, zs2, zs3, i64_w, i32_w]
          rfl
         refine pure_ (i := 6) (N := some 23) (v := ?_) (a' := ?_) #[true, true, true, true, true, false, true, false, false, false, false, false, false, false, false, false, false] rfl rfl (zat HT_.out (by kernel_rfl)) (fun _ _ _ h => h) (Or.inl ⟨by rfl, ?_⟩) ?_ ?_
         rotate_left
         ·
          intro w'
          go_simp
          with_reducible rfl
         rotate_left
         ·
          simp only [Act.put, zs1, zs2, zs3, i64_w, i32_w]
          rfl
         refine pure_ (i := 7) (N := some 24) (v := ?_) (a' := ?_) #[true, true, true, true, true, false, true, true, false, false, false, false, false, false, false, false, false] rfl rfl (zat HT_.out (by kernel_rfl)) (fun _ _ _ h => h) (Or.inl ⟨by rfl, ?_⟩) ?_ ?_
         rotate_left
         ·
          intro w'
          go_simp
          with_reducible rfl
         rotate_left
         ·
          simp only [Act.put, zs1, zs2, zs3, i64_w, i32_w]
          rfl
         refine pure_ (i := 9) (N := some 26) (v := ?_) (a' := ?_) #[true, true, true, true, true, false, true, true, false, true, false, false, false, false, false, false, false] rfl rfl (zat HT_.out (by kernel_rfl)) (fun _ _ _ h => h) (Or.inl ⟨by rfl, ?_⟩) ?_ ?_
         rotate_left
         ·
          intro w'
          go_simp
          with_reducible rfl
         rotate_left
         ·
          simp only [Act.put, zs1, zs2, zs3, i64_w, i32_w]
          rfl
         refine take_ (i := 5) (N := some 22) (v := ?_) (a' := ?_) #[true, true, true, true, true, true, true, true, false, true, false, false, false, false, false, false, false] rfl rfl (zbk HT_.out HW_.out (by kernel_rfl)) (fun _ _ _ h => h) (Or.inl ⟨by rfl, ?_⟩) hHeld ?_ ?_
         rotate_left
         ·
          intro w' s0
          go_simp
          with_reducible rfl
         rotate_left
         ·
          simp only [Act.put, zs1, zs2, zs3, i64_w, i32_w]
          rfl
         refine one_ (i := 8) (N := some 25) #[true, true, true, true, true, true, true, true, true, true, false, false, false, false, false, false, false] rfl rfl (zbu HT_.out (by kernel_rfl)) (by decide) (fun K hK => ?_)
         refine goes_ Tryz.func90 (by kernel_rfl) rfl #[.slice A1 l1.length c1, .int .i64 x13_1] (by rfl) rfl rfl (zE) ?_
         with_reducible refine (nat_Nat_at.calls _ _ l1 x13_1 t187 _ ?side1 ?side2 A10.out).mono ?_
         (case side1 => exact zJ (Kd.zas HR1.out HB.out))
         (case side2 => exact HC1.out)
         rintro e w' ⟨rfl, ⟨nd, rfl⟩⟩
         refine ⟨_, rfl, ?_⟩
         have p13 : 0 ≤ (x13_1 : Int) := of_decide_eq_true (by first | (with_reducible assumption) | assumption)
         have q13 : (x13_1 : Int) < ((x5_1.length : Int) : Int) := of_decide_eq_true (by first | (with_reducible assumption) | assumption)
         obtain ⟨go13, co13, eo13, gb13, gl13, cl13, HG13⟩ := Kd.R_form HO_5.out (by omega)
         (first | cases eo13 | (injection eo13 with ea_ en_ ec_; (first | subst ea_ | (injection ea_ with ea_; subst ea_)); subst ec_; clear en_))
         have GB13 := zA gb13
         have GG13 := zA HG13
         clear gb13 gl13 HG13
         obtain ⟨hx13_0, hf13_0⟩ := Kd.zda 0 HO_5.out (x13_1 : Int) p13 q13
         replace p13 := eq_true p13
         replace q13 := eq_true q13
         have HP15 := Kd.R_putn HO_5.out (x13_1 : Int) t188
         rw [← Ny190.out] at HP15
         have HQ15 := zA HP15
         clear HP15
         refine hK.out _ _ (((HB.out.cell (World.block_lt_of_cell? w _ hw186_0)).trans hw186_0)) (fun hHeld => ?_)
         clear hK K
         refine norm_ (a' := ?_) ?_ ?_
         rotate_left
         ·
          show Act.put _ (some 25) _ = _
          simp only [Act.put, zs1, zs2, zs3, i64_w, i32_w]
          rfl
         refine pure_ (i := 10) (N := some 27) (v := ?_) (a' := ?_) #[true, true, true, true, true, true, true, true, true, true, true, false, false, false, false, false, false] rfl rfl (zat HT_.out (by kernel_rfl)) (fun _ _ _ h => h) (Or.inl ⟨by rfl, ?_⟩) ?_ ?_
         rotate_left
         ·
          intro w'
          go_simp
          with_reducible rfl
         rotate_left
         ·
          simp only [Act.put, zs1, zs2, zs3, i64_w, i32_w]
          rfl
         refine pure_ (i := 11) (N := some 16) (v := ?_) (a' := ?_) #[true, true, true, true, true, true, true, true, true, true, true, true, false, false, false, false, false] rfl rfl (zat HT_.out (by kernel_rfl)) (fun _ _ _ h => h) (Or.inl ⟨by rfl, ?_⟩) ?_ ?_
         rotate_left
         ·
          intro w'
          go_simp
          with_reducible rfl
         rotate_left
         ·
          simp only [Act.put, zs1, zs2, zs3, i64_w, i32_w]
          rfl
         refine pure_ (i := 12) (N := some 28) (v := ?_) (a' := ?_) #[true, true, true, true, true, true, true, true, true, true, true, true, true, false, false, false, false] rfl rfl (zat HT_.out (by kernel_rfl)) (fun _ _ _ h => h) (Or.inl ⟨by rfl, ?_⟩) ?_ ?_
         rotate_left
         ·
          intro w'
          go_simp
          with_reducible rfl
         rotate_left
         ·
          simp only [Act.put, zs1, zs2, zs3, i64_w, i32_w]
          rfl
         refine pure_ (i := 13) (N := some 29) (v := ?_) (a' := ?_) #[true, true, true, true, true, true, true, true, true, true, true, true, true, true, false, false, false] rfl rfl (zat HT_.out (by kernel_rfl)) (fun _ _ _ h => h) (Or.inl ⟨by rfl, ?_⟩) ?_ ?_
         rotate_left
         ·
          intro w'
          go_simp
          with_reducible rfl
         rotate_left
         ·
          simp only [Act.put, zs1, zs2, zs3, i64_w, i32_w]
          rfl
         refine pure_ (i := 14) (N := some 30) (v := ?_) (a' := ?_) #[true, true, true, true, true, true, true, true, true, true, true, true, true, true, true, false, false] rfl rfl (zat HT_.out (by kernel_rfl)) (fun _ _ _ h => h) (Or.inl ⟨by rfl, ?_⟩) ?_ ?_
         rotate_left
         ·
          intro w'
          go_simp
          with_reducible rfl
         rotate_left
         ·
          simp only [Act.put, zs1, zs2, zs3, i64_w, i32_w]
          rfl
         refine last_ (i := 15) (N := none) #[true, true, true, true, true, true, true, true, true, true, true, true, true, true, true, true, false] rfl rfl (zbu HT_.out (by kernel_rfl)) (by decide) (fun K hK => ?_)
         refine skip_ (w1 := ?_) (by rfl) rfl ?_ ?_
         rotate_left
         ·
          go_simp
          rfl
         refine hK.out _ _ ?_
         clear hK K
         refine pure_ (i := 16) (N := some 6) (v := ?_) (a' := ?_) #[true, true, true, true, true, true, true, true, true, true, true, true, true, true, true, true, true] rfl rfl (zat HT_.out (by kernel_rfl)) (fun _ _ _ h => h) (Or.inl ⟨by rfl, ?_⟩) ?_ ?_
         rotate_left
         ·
          intro w'
          go_simp
          with_reducible rfl
         rotate_left
         ·
          simp only [Act.put, zs1, zs2, zs3, i64_w, i32_w]
          rfl
         refine done_ (zdf HT_.out (by kernel_rfl)) ?_
         try go_wp2
         go_roundg k1
         case measure => have := HK1.out; omega
         case rel => exact ⟨(y190), (t189), (wrap64 (x13_1 + 1)), (zF), (zF), H', ⟨by have := HK1.out; omega⟩, ⟨zR HQ15⟩, ⟨zB HB⟩⟩
        ·
         rw [if_neg c12] at H
         exact absurd H (by simp)
       ·
        rw [if_neg c9] at H
        exact absurd H (by simp)
      ·
       rw [if_neg c8] at H
       exact absurd H (by simp)
     ·
      rw [if_neg c7] at H
      have c7b0 : decide (x13_1 < (l0.length : Int)) = false := decide_eq_false c7
      clear c7
      replace H := zO H
      obtain ⟨t191, A160, H⟩ := H
      try dsimp only at H
      have A16 := zA A160
      clear A160
      obtain rfl := Option.some.inj H
      obtain ⟨Ao17, co17, eo17⟩ := Kd.zbm HO_5.out
      subst eo17
      go_wp2_with (first | ((with_reducible refine zae (f := 67) rfl ?_); refine za2 (some 33) rfl rfl Tryz.func67 (by kernel_rfl) rfl #[.slice Ao17 x5_1.length co17] rfl (zE) ?_; (with_reducible refine (zbl.calls k1 (fun k_ => some k_ = (.slice Ao17 x5_1.length co17 : Value).ownBlock) _ _ x5_1 t191 _ ?side1 A16.out).mono ?_); (case side1 => exact Kd.R_V (Kd.zde rfl (HO_5.out))); rintro e w18 ⟨v192, rfl, ho0, hb⟩; refine ⟨_, rfl, ?_⟩; have n0_ := zA (Kd.zbf (zR HO_5) hb); have n1_ := zA (Kd.zaz (Kd.zam (ok' := fun k_ => (w.heap.size ≤ k_)) ho0 (fun k_ hk_ => Or.elim hk_ (fun hs_ => ((HO_5.out).1 k_ hs_.symm)) (fun hn_ => (Nat.le_trans (za (zB HB)) hn_)))) (za (zB HB))); have n2_ := zA (zaa (zB HB) hb); clear HO_5 HB; have HO_5 := n0_; have HO193 := n1_; have HB := n2_; clear n0_ n1_ n2_; (try clear hb); (try clear hb2); (try clear hk); (try clear hi); (try clear ho0)))
      go_ret
      exact ⟨_, zW, zV HO193, zB HB⟩
  ·
   rw [if_neg c4] at H
   exact absurd H (by simp)
 ·
  rw [if_neg c3] at H
  exact absurd H (by simp)
end Go.Proofs.YthiicmanfpmipaaGreatDoor.P
end
