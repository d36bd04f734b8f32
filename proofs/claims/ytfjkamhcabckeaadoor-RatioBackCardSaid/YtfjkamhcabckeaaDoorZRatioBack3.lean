-- Written by a program of this session (wip/tools/shake.py) out of its own texts and of the kit's printed ones; not trusted: Lean checks it.
import Derived.Test.YtfjkamhcabckeaaDoorZRatioBack2
set_option maxHeartbeats 8000000
set_option maxRecDepth 100000
set_option linter.unusedVariables false
set_option linter.unusedSimpArgs false
section
namespace Go.Proofs.YtfjkamhcabckeaaDoor.P
open Go.RowKit Go.Proofs.YtfjkamhcabckeaaDoorW.PrintWords Go.Proofs.YtfjkamhcabckeaaDoorW.PrintLast Go.Proofs.YtfjkamhcabckeaaDoorW.PrintMore
attribute [local go_sem] zc7 zc8 max_two min_two zct zcu zc6 zc9
def zbd.f (k : Nat) (l0_0 : List Int) (l0_1 : List Int) (l1_0 : List Int) (l1_1 : List Int) : Option (List Int × List Int × List Int) := (zbg.f k l0_0 l1_1).bind fun t696 => ((zbg.f k l1_0 l0_1).bind fun t699 => ((zbg.f k l0_1 l1_1).bind fun t702 => (some (t696, t699, t702))))
def zbd.T1 : Bool × List (List Nat × List Nat) := (true, [([], []), ([0], [0]), ([], []), ([2], [2]), ([1, 3], [1, 3]), ([], []), ([5], [5]), ([], []), ([7], [7]), ([6, 8, 4], [6, 8]), ([], []), ([10], [10]), ([], []), ([12], [12]), ([11, 13, 9], [11, 13]), ([4, 14, 0, 1, 2, 3, 4], [4]), ([9, 15, 0, 1, 2, 3, 4, 5, 6, 7, 8, 9, 15], [9]), ([14, 16, 0, 1, 2, 3, 4, 5, 6, 7, 8, 9, 10, 11, 12, 13, 14, 15, 16], [14])])
def zbd.B1 : List Nat := [0, 1, 0, 4, 15, 0, 32, 0, 128, 511, 0, 1024, 0, 4096, 16383, 32767, 65535, 131071]
theorem zbd.tab1 : rtab .any (opsOf Tryd.f62 1) = zbd.T1 := by kernel_rfl
theorem zbd.bits1 : waitsOk zbd.T1.2 zbd.B1 = true := by kernel_rfl
theorem zbd.calls (k : Nat) (A0_0 : Option Addr) (c0_0 : Nat) (l0_0 : List Int) (A0_1 : Option Addr) (c0_1 : Nat) (l0_1 : List Int) (A1_0 : Option Addr) (c1_0 : Nat) (l1_0 : List Int) (A1_1 : Option Addr) (c1_1 : Nat) (l1_1 : List Int) (r1 : List Int) (r2 : List Int) (r3 : List Int) (w : World) (hr0_0 : Kd.C (Kd.int .u64) w A0_0 l0_0.length l0_0) (hc0_0 : l0_0.length ≤ c0_0) (hr0_1 : Kd.C (Kd.int .u64) w A0_1 l0_1.length l0_1) (hc0_1 : l0_1.length ≤ c0_1) (hr1_0 : Kd.C (Kd.int .u64) w A1_0 l1_0.length l1_0) (hc1_0 : l1_0.length ≤ c1_0) (hr1_1 : Kd.C (Kd.int .u64) w A1_1 l1_1.length l1_1) (hc1_1 : l1_1.length ≤ c1_1) (h : zbd.f k l0_0 l0_1 l1_0 l1_1 = some (r1, r2, r3)) :
  Calls Tryd.prog 62 #[.agg #[.slice A0_0 l0_0.length c0_0, .slice A0_1 l0_1.length c0_1], .agg #[.slice A1_0 l1_0.length c1_0, .slice A1_1 l1_1.length c1_1]] w fun e w' => ∃ v0_ v1_ v2_ : Value, e = .returned (.tuple #[v0_, v1_, v2_]) ∧ Kd.V (Kd.int .u64) 57 w' w.heap.size (fun k_ => (w.heap.size ≤ k_)) v0_ r1 ∧ Kd.V (Kd.int .u64) 57 w' w.heap.size (fun k_ => (w.heap.size ≤ k_)) v1_ r2 ∧ Kd.V (Kd.int .u64) 57 w' w.heap.size (fun k_ => (w.heap.size ≤ k_)) v2_ r3 ∧ Below w.heap.size w w' := by
 have hu28 := Tryd.underlying28
 have HR0_0 := zA hr0_0
 have HC0_0 := zA hc0_0
 clear hr0_0 hc0_0
 have HR0_1 := zA hr0_1
 have HC0_1 := zA hc0_1
 clear hr0_1 hc0_1
 have HR1_0 := zA hr1_0
 have HC1_0 := zA hc1_0
 clear hr1_0 hc1_0
 have HR1_1 := zA hr1_1
 have HC1_1 := zA hc1_1
 clear hr1_1 hc1_1
 have HB := zA (Below.refl w.heap.size w)
 have H : ((zbg.f k l0_0 l1_1).bind fun t696 => ((zbg.f k l1_0 l0_1).bind fun t699 => ((zbg.f k l0_1 l1_1).bind fun t702 => (some (t696, t699, t702))))) = some (r1, r2, r3) := h
 clear h
 replace H := zO H
 obtain ⟨t696, A30, H⟩ := H
 try dsimp only at H
 have A3 := zA A30
 clear A30
 replace H := zO H
 obtain ⟨t699, A40, H⟩ := H
 try dsimp only at H
 have A4 := zA A40
 clear A40
 replace H := zO H
 obtain ⟨t702, A50, H⟩ := H
 try dsimp only at H
 have A5 := zA A50
 clear A50
 simp only [Option.some.injEq, Prod.mk.injEq] at H
 obtain ⟨rfl, rfl, rfl⟩ := H
 go_enter Tryd.func62, Tryd.ntmps62
 try go_wp2_with (first | ((with_reducible refine zbe (N := 2) rfl ?_); refine zbk ?hg (N := 2) ?hd (cs := #[.slice A0_0 l0_0.length c0_0, .slice A0_1 l0_1.length c0_1]) (t := 28) ?hr ?_; (case hd => rfl); (case hg => rfl); (case hr => first | (go_simp; done) | (go_simp; rfl)); intro gb694 hg w6 hbox hb; have n0_ := zA (zaa (zB HB) hb); have n1_ := zA (hbox); have n2_ := zA ((by rw [hg]; exact (za (zB HB)) : w.heap.size ≤ gb694)); have n3_ := zA ((by rw [hg]; exact (za (zB HB)) : w.heap.size ≤ gb694)); clear HB; have HB := n0_; have BK694 := n1_; have GW694 := n2_; have GE694 := n3_; clear n0_ n1_ n2_ n3_ hb hbox hg) | ((with_reducible refine zbe (N := 3) rfl ?_); refine zbk ?hg (N := 3) ?hd (cs := #[.slice A1_0 l1_0.length c1_0, .slice A1_1 l1_1.length c1_1]) (t := 28) ?hr ?_; (case hd => rfl); (case hg => rfl); (case hr => first | (go_simp; done) | (go_simp; rfl)); intro gb695 hg w7 hbox hb; have n0_ := zA (zac (g := gb694) (o := .cells #[.slice A0_0 l0_0.length c0_0, .slice A0_1 l0_1.length c0_1] 28 (0, 0)) (zK BK694) hb); have n1_ := zA (zaa (zB HB) hb); have n2_ := zA (hbox); have n3_ := zA ((by rw [hg]; exact (za (zB HB)) : w.heap.size ≤ gb695)); have n4_ := zA ((by rw [hg]; exact (za (zB HB)) : w.heap.size ≤ gb695)); have n5_ := zA ((by rw [hg]; exact Nat.ne_of_lt (zay (g := gb694) (o := .cells #[.slice A0_0 l0_0.length c0_0, .slice A0_1 l0_1.length c0_1] 28 (0, 0)) (zK BK694)) : gb694 ≠ gb695)); have n6_ := zA ((by rw [hg]; exact Nat.ne_of_gt (zay (g := gb694) (o := .cells #[.slice A0_0 l0_0.length c0_0, .slice A0_1 l0_1.length c0_1] 28 (0, 0)) (zK BK694)) : gb695 ≠ gb694)); clear BK694 HB; have BK694 := n0_; have HB := n1_; have BK695 := n2_; have GW695 := n3_; have GE695 := n4_; have NB694_695 := n5_; have NB695_694 := n6_; clear n0_ n1_ n2_ n3_ n4_ n5_ n6_ hb hbox hg))
 have n0_ := zA (zat BK694.out)
 have n1_ := zA (zat BK695.out)
 have n2_ := zA (zbu HB.out)
 clear BK694 BK695 HB
 have BK694 := n0_
 have BK695 := n1_
 have HB := n2_
 clear n0_ n1_ n2_
 refine start_ (n := 18) (S := fun w' => w'.cell? ⟨gb694, 0, none⟩ = some (.slice A0_0 l0_0.length c0_0) ∧ w'.cell? ⟨gb694, 1, none⟩ = some (.slice A0_1 l0_1.length c0_1) ∧ w'.cell? ⟨gb695, 0, none⟩ = some (.slice A1_0 l1_0.length c1_0) ∧ w'.cell? ⟨gb695, 1, none⟩ = some (.slice A1_1 l1_1.length c1_1)) (ds := []) #[false, false, false, false, false, false, false, false, false, false, false, false, false, false, false, false, false, false] (by kernel_rfl) rfl rfl ⟨(zab BK694.out 0).trans rfl, (zab BK694.out 1).trans rfl, (zab BK695.out 0).trans rfl, (zab BK695.out 1).trans rfl⟩ (fun hHeld => ?_); refine zcq zbd.tab1 zbd.bits1 (fun HT_ HW_ => ?_)
 generalize w7.drew = w8 at BK694 BK695 HB hHeld ⊢
 refine pure_ (i := 0) (N := some 7) (v := ?_) (a' := ?_) #[true, false, false, false, false, false, false, false, false, false, false, false, false, false, false, false, false, false] rfl rfl (za0 HT_.out (by kernel_rfl)) (fun _ _ _ h => h) (Or.inl ⟨by rfl, ?_⟩) ?_ ?_
 rotate_left
 ·
  intro w'
  go_simp
  with_reducible rfl
 rotate_left
 ·
  simp only [Act.put, zs1, zs2, zs3, i64_w, i32_w]
  rfl
 refine pure_ (i := 2) (N := some 9) (v := ?_) (a' := ?_) #[true, false, true, false, false, false, false, false, false, false, false, false, false, false, false, false, false, false] rfl rfl (za0 HT_.out (by kernel_rfl)) (fun _ _ _ h => h) (Or.inl ⟨by rfl, ?_⟩) ?_ ?_
 rotate_left
 ·
  intro w'
  go_simp
  with_reducible rfl
 rotate_left
 ·
  simp only [Act.put, zs1, zs2, zs3, i64_w, i32_w]
  rfl
 refine pure_ (i := 5) (N := some 12) (v := ?_) (a' := ?_) #[true, false, true, false, false, true, false, false, false, false, false, false, false, false, false, false, false, false] rfl rfl (za0 HT_.out (by kernel_rfl)) (fun _ _ _ h => h) (Or.inl ⟨by rfl, ?_⟩) ?_ ?_
 rotate_left
 ·
  intro w'
  go_simp
  with_reducible rfl
 rotate_left
 ·
  simp only [Act.put, zs1, zs2, zs3, i64_w, i32_w]
  rfl
 refine pure_ (i := 7) (N := some 14) (v := ?_) (a' := ?_) #[true, false, true, false, false, true, false, true, false, false, false, false, false, false, false, false, false, false] rfl rfl (za0 HT_.out (by kernel_rfl)) (fun _ _ _ h => h) (Or.inl ⟨by rfl, ?_⟩) ?_ ?_
 rotate_left
 ·
  intro w'
  go_simp
  with_reducible rfl
 rotate_left
 ·
  simp only [Act.put, zs1, zs2, zs3, i64_w, i32_w]
  rfl
 refine pure_ (i := 10) (N := some 17) (v := ?_) (a' := ?_) #[true, false, true, false, false, true, false, true, false, false, true, false, false, false, false, false, false, false] rfl rfl (za0 HT_.out (by kernel_rfl)) (fun _ _ _ h => h) (Or.inl ⟨by rfl, ?_⟩) ?_ ?_
 rotate_left
 ·
  intro w'
  go_simp
  with_reducible rfl
 rotate_left
 ·
  simp only [Act.put, zs1, zs2, zs3, i64_w, i32_w]
  rfl
 refine pure_ (i := 12) (N := some 19) (v := ?_) (a' := ?_) #[true, false, true, false, false, true, false, true, false, false, true, false, true, false, false, false, false, false] rfl rfl (za0 HT_.out (by kernel_rfl)) (fun _ _ _ h => h) (Or.inl ⟨by rfl, ?_⟩) ?_ ?_
 rotate_left
 ·
  intro w'
  go_simp
  with_reducible rfl
 rotate_left
 ·
  simp only [Act.put, zs1, zs2, zs3, i64_w, i32_w]
  rfl
 refine take_ (i := 1) (N := some 8) (v := ?_) (a' := ?_) #[true, true, true, false, false, true, false, true, false, false, true, false, true, false, false, false, false, false] rfl rfl (zbm HT_.out HW_.out (by kernel_rfl)) (fun _ _ _ h => h) (Or.inl ⟨by rfl, ?_⟩) hHeld ?_ ?_
 rotate_left
 ·
  rintro w' ⟨s0, s1, s2, s3⟩
  go_simp
  with_reducible rfl
 rotate_left
 ·
  simp only [Act.put, zs1, zs2, zs3, i64_w, i32_w]
  rfl
 refine take_ (i := 3) (N := some 10) (v := ?_) (a' := ?_) #[true, true, true, true, false, true, false, true, false, false, true, false, true, false, false, false, false, false] rfl rfl (zbm HT_.out HW_.out (by kernel_rfl)) (fun _ _ _ h => h) (Or.inl ⟨by rfl, ?_⟩) hHeld ?_ ?_
 rotate_left
 ·
  rintro w' ⟨s0, s1, s2, s3⟩
  go_simp
  with_reducible rfl
 rotate_left
 ·
  simp only [Act.put, zs1, zs2, zs3, i64_w, i32_w]
  rfl
 refine take_ (i := 6) (N := some 13) (v := ?_) (a' := ?_) #[true, true, true, true, false, true, true, true, false, false, true, false, true, false, false, false, false, false] rfl rfl (zbm HT_.out HW_.out (by kernel_rfl)) (fun _ _ _ h => h) (Or.inl ⟨by rfl, ?_⟩) hHeld ?_ ?_
 rotate_left
 ·
  rintro w' ⟨s0, s1, s2, s3⟩
  go_simp
  with_reducible rfl
 rotate_left
 ·
  simp only [Act.put, zs1, zs2, zs3, i64_w, i32_w]
  rfl
 refine take_ (i := 8) (N := some 15) (v := ?_) (a' := ?_) #[true, true, true, true, false, true, true, true, true, false, true, false, true, false, false, false, false, false] rfl rfl (zbm HT_.out HW_.out (by kernel_rfl)) (fun _ _ _ h => h) (Or.inl ⟨by rfl, ?_⟩) hHeld ?_ ?_
 rotate_left
 ·
  rintro w' ⟨s0, s1, s2, s3⟩
  go_simp
  with_reducible rfl
 rotate_left
 ·
  simp only [Act.put, zs1, zs2, zs3, i64_w, i32_w]
  rfl
 refine take_ (i := 11) (N := some 18) (v := ?_) (a' := ?_) #[true, true, true, true, false, true, true, true, true, false, true, true, true, false, false, false, false, false] rfl rfl (zbm HT_.out HW_.out (by kernel_rfl)) (fun _ _ _ h => h) (Or.inl ⟨by rfl, ?_⟩) hHeld ?_ ?_
 rotate_left
 ·
  rintro w' ⟨s0, s1, s2, s3⟩
  go_simp
  with_reducible rfl
 rotate_left
 ·
  simp only [Act.put, zs1, zs2, zs3, i64_w, i32_w]
  rfl
 refine take_ (i := 13) (N := some 20) (v := ?_) (a' := ?_) #[true, true, true, true, false, true, true, true, true, false, true, true, true, true, false, false, false, false] rfl rfl (zbm HT_.out HW_.out (by kernel_rfl)) (fun _ _ _ h => h) (Or.inl ⟨by rfl, ?_⟩) hHeld ?_ ?_
 rotate_left
 ·
  rintro w' ⟨s0, s1, s2, s3⟩
  go_simp
  with_reducible rfl
 rotate_left
 ·
  simp only [Act.put, zs1, zs2, zs3, i64_w, i32_w]
  rfl
 refine one_ (i := 4) (N := some 11) #[true, true, true, true, true, true, true, true, true, false, true, true, true, true, false, false, false, false] rfl rfl (zb4 HT_.out (by kernel_rfl)) (by decide) (fun K hK => ?_)
 refine goes_ Tryd.func61 (by kernel_rfl) rfl #[.slice A0_0 l0_0.length c0_0, .slice A1_1 l1_1.length c1_1] (by rfl) rfl rfl (zE) ?_
 with_reducible refine (zbg.calls k _ _ l0_0 _ _ l1_1 t696 _ ?side1 ?side2 ?side3 ?side4 A3.out).mono ?_
 (case side1 => exact zJ (Kd.za3 HR0_0.out HB.out))
 (case side2 => exact HC0_0.out)
 (case side3 => exact zJ (Kd.za3 HR1_1.out HB.out))
 (case side4 => exact HC1_1.out)
 rintro e w9 ⟨v697, rfl, ho0, hb⟩
 refine ⟨_, rfl, ?_⟩
 have n0_ := zA (Kd.za6 (Kd.zan (ok' := fun k_ => (w.heap.size ≤ k_) ∧ k_ ≠ gb694 ∧ k_ ≠ gb695) ho0 (fun k_ hk_ => ⟨(Nat.le_trans (za (zB HB)) hk_), (Kd.freshB (g := gb694) (o := .cells #[.slice A0_0 l0_0.length c0_0, .slice A0_1 l0_1.length c0_1] 28 (0, 0)) (zK BK694) k_ hk_), (Kd.freshB (g := gb695) (o := .cells #[.slice A1_0 l1_0.length c1_0, .slice A1_1 l1_1.length c1_1] 28 (0, 0)) (zK BK695) k_ hk_)⟩)) (za (zB HB)))
 have n1_ := zA (zac (g := gb694) (o := .cells #[.slice A0_0 l0_0.length c0_0, .slice A0_1 l0_1.length c0_1] 28 (0, 0)) (zK BK694) hb)
 have n2_ := zA (zac (g := gb695) (o := .cells #[.slice A1_0 l1_0.length c1_0, .slice A1_1 l1_1.length c1_1] 28 (0, 0)) (zK BK695) hb)
 have n3_ := zA (zaa (zB HB) hb)
 clear BK694 BK695 HB
 have HO698 := n0_
 have BK694 := n1_
 have BK695 := n2_
 have HB := n3_
 clear n0_ n1_ n2_ n3_
 (try clear hb)
 (try clear hb2)
 (try clear hk)
 (try clear hi)
 (try clear ho0)
 refine hK.out _ _ ⟨(zab BK694.out 0).trans rfl, (zab BK694.out 1).trans rfl, (zab BK695.out 0).trans rfl, (zab BK695.out 1).trans rfl⟩ (fun hHeld => ?_)
 clear hK K
 refine norm_ (a' := ?_) ?_ ?_
 rotate_left
 ·
  show Act.put _ (some 11) _ = _
  simp only [Act.put, zs1, zs2, zs3, i64_w, i32_w]
  rfl
 refine one_ (i := 9) (N := some 16) #[true, true, true, true, true, true, true, true, true, true, true, true, true, true, false, false, false, false] rfl rfl (zb4 HT_.out (by kernel_rfl)) (by decide) (fun K hK => ?_)
 refine goes_ Tryd.func61 (by kernel_rfl) rfl #[.slice A1_0 l1_0.length c1_0, .slice A0_1 l0_1.length c0_1] (by rfl) rfl rfl (zE) ?_
 with_reducible refine (zbg.calls k _ _ l1_0 _ _ l0_1 t699 _ ?side1 ?side2 ?side3 ?side4 A4.out).mono ?_
 (case side1 => exact zJ (Kd.za3 HR1_0.out HB.out))
 (case side2 => exact HC1_0.out)
 (case side3 => exact zJ (Kd.za3 HR0_1.out HB.out))
 (case side4 => exact HC0_1.out)
 rintro e w10 ⟨v700, rfl, ho0, hb⟩
 refine ⟨_, rfl, ?_⟩
 have n0_ := zA (Kd.zaw (zV HO698) hb)
 have n1_ := zA (Kd.za6 (Kd.zan (ok' := fun k_ => (w.heap.size ≤ k_) ∧ k_ ≠ gb694 ∧ k_ ≠ gb695) ho0 (fun k_ hk_ => ⟨(Nat.le_trans (za (zB HB)) hk_), (Kd.freshB (g := gb694) (o := .cells #[.slice A0_0 l0_0.length c0_0, .slice A0_1 l0_1.length c0_1] 28 (0, 0)) (zK BK694) k_ hk_), (Kd.freshB (g := gb695) (o := .cells #[.slice A1_0 l1_0.length c1_0, .slice A1_1 l1_1.length c1_1] 28 (0, 0)) (zK BK695) k_ hk_)⟩)) (za (zB HB)))
 have n2_ := zA (zac (g := gb694) (o := .cells #[.slice A0_0 l0_0.length c0_0, .slice A0_1 l0_1.length c0_1] 28 (0, 0)) (zK BK694) hb)
 have n3_ := zA (zac (g := gb695) (o := .cells #[.slice A1_0 l1_0.length c1_0, .slice A1_1 l1_1.length c1_1] 28 (0, 0)) (zK BK695) hb)
 have n4_ := zA (zaa (zB HB) hb)
 clear HO698 BK694 BK695 HB
 have HO698 := n0_
 have HO701 := n1_
 have BK694 := n2_
 have BK695 := n3_
 have HB := n4_
 clear n0_ n1_ n2_ n3_ n4_
 (try clear hb)
 (try clear hb2)
 (try clear hk)
 (try clear hi)
 (try clear ho0)
 refine hK.out _ _ ⟨(zab BK694.out 0).trans rfl, (zab BK694.out 1).trans rfl, (zab BK695.out 0).trans rfl, (zab BK695.out 1).trans rfl⟩ (fun hHeld => ?_)
 clear hK K
 refine norm_ (a' := ?_) ?_ ?_
 rotate_left
 ·
  show Act.put _ (some 16) _ = _
  simp only [Act.put, zs1, zs2, zs3, i64_w, i32_w]
  rfl
 refine one_ (i := 14) (N := some 21) #[true, true, true, true, true, true, true, true, true, true, true, true, true, true, true, false, false, false] rfl rfl (zb4 HT_.out (by kernel_rfl)) (by decide) (fun K hK => ?_)
 refine goes_ Tryd.func61 (by kernel_rfl) rfl #[.slice A0_1 l0_1.length c0_1, .slice A1_1 l1_1.length c1_1] (by rfl) rfl rfl (zE) ?_
 with_reducible refine (zbg.calls k _ _ l0_1 _ _ l1_1 t702 _ ?side1 ?side2 ?side3 ?side4 A5.out).mono ?_
 (case side1 => exact zJ (Kd.za3 HR0_1.out HB.out))
 (case side2 => exact HC0_1.out)
 (case side3 => exact zJ (Kd.za3 HR1_1.out HB.out))
 (case side4 => exact HC1_1.out)
 rintro e w11 ⟨v703, rfl, ho0, hb⟩
 refine ⟨_, rfl, ?_⟩
 have n0_ := zA (Kd.zaw (zV HO698) hb)
 have n1_ := zA (Kd.zaw (zV HO701) hb)
 have n2_ := zA (Kd.za6 (Kd.zan (ok' := fun k_ => (w.heap.size ≤ k_) ∧ k_ ≠ gb694 ∧ k_ ≠ gb695) ho0 (fun k_ hk_ => ⟨(Nat.le_trans (za (zB HB)) hk_), (Kd.freshB (g := gb694) (o := .cells #[.slice A0_0 l0_0.length c0_0, .slice A0_1 l0_1.length c0_1] 28 (0, 0)) (zK BK694) k_ hk_), (Kd.freshB (g := gb695) (o := .cells #[.slice A1_0 l1_0.length c1_0, .slice A1_1 l1_1.length c1_1] 28 (0, 0)) (zK BK695) k_ hk_)⟩)) (za (zB HB)))
 have n3_ := zA (zac (g := gb694) (o := .cells #[.slice A0_0 l0_0.length c0_0, .slice A0_1 l0_1.length c0_1] 28 (0, 0)) (zK BK694) hb)
 have n4_ := zA (zac (g := gb695) (o := .cells #[.slice A1_0 l1_0.length c1_0, .slice A1_1 l1_1.length c1_1] 28 (0, 0)) (zK BK695) hb)
 have n5_ := zA (zaa (zB HB) hb)
 clear HO698 HO701 BK694 BK695 HB
 have HO698 := n0_
 have HO701 := n1_
 have HO704 := n2_
 have BK694 := n3_
 have BK695 := n4_
 have HB := n5_
 clear n0_ n1_ n2_ n3_ n4_ n5_
 (try clear hb)
 (try clear hb2)
 (try clear hk)
 (try clear hi)
 (try clear ho0)
 refine hK.out _ _ ⟨(zab BK694.out 0).trans rfl, (zab BK694.out 1).trans rfl, (zab BK695.out 0).trans rfl, (zab BK695.out 1).trans rfl⟩ (fun hHeld => ?_)
 clear hK K
 refine norm_ (a' := ?_) ?_ ?_
 rotate_left
 ·
  show Act.put _ (some 21) _ = _
  simp only [Act.put, zs1, zs2, zs3, i64_w, i32_w]
  rfl
 refine pure_ (i := 15) (N := some 4) (v := ?_) (a' := ?_) #[true, true, true, true, true, true, true, true, true, true, true, true, true, true, true, true, false, false] rfl rfl (za0 HT_.out (by kernel_rfl)) (fun _ _ _ h => h) (Or.inl ⟨by rfl, ?_⟩) ?_ ?_
 rotate_left
 ·
  intro w'
  go_simp
  with_reducible rfl
 rotate_left
 ·
  simp only [Act.put, zs1, zs2, zs3, i64_w, i32_w]
  rfl
 refine pure_ (i := 16) (N := some 5) (v := ?_) (a' := ?_) #[true, true, true, true, true, true, true, true, true, true, true, true, true, true, true, true, true, false] rfl rfl (za0 HT_.out (by kernel_rfl)) (fun _ _ _ h => h) (Or.inl ⟨by rfl, ?_⟩) ?_ ?_
 rotate_left
 ·
  intro w'
  go_simp
  with_reducible rfl
 rotate_left
 ·
  simp only [Act.put, zs1, zs2, zs3, i64_w, i32_w]
  rfl
 refine pure_ (i := 17) (N := some 6) (v := ?_) (a' := ?_) #[true, true, true, true, true, true, true, true, true, true, true, true, true, true, true, true, true, true] rfl rfl (za0 HT_.out (by kernel_rfl)) (fun _ _ _ h => h) (Or.inl ⟨by rfl, ?_⟩) ?_ ?_
 rotate_left
 ·
  intro w'
  go_simp
  with_reducible rfl
 rotate_left
 ·
  simp only [Act.put, zs1, zs2, zs3, i64_w, i32_w]
  rfl
 refine done_ (done_of HT_.out (by kernel_rfl)) ?_
 try go_wp2
 go_ret3
 exact ⟨_, _, _, zW, by (with_reducible repeat (first | apply Kd.zbv | apply Kd.zbw | apply Kd.zb3)); exact Kd.zan HO698.out (fun _ hk => hk.1), by (with_reducible repeat (first | apply Kd.zbv | apply Kd.zbw | apply Kd.zb3)); exact Kd.zan HO701.out (fun _ hk => hk.1), by (with_reducible repeat (first | apply Kd.zbv | apply Kd.zbw | apply Kd.zb3)); exact Kd.zan HO704.out (fun _ hk => hk.1), zB HB⟩
def zcs.l0 : Nat → List Int → List Int → List Int → Int → Int → Int → Option (List Int)
 | 0, _, _, _, _, _, _ => none
 | k + 1, x0, x1, x5, x6, x13, x14 => if x14 < x13 then ((zcx.f x0 x14).bind fun t731 => ((zcx.f x1 x14).bind fun t732 => ((bits_Add64.f t731 t732 x6).bind fun bt733 => (if x5.length < 17592186044416 then (zcs.l0 k x0 x1 (x5 ++ [bt733.1]) bt733.2 x13 (wrap64 (x14 + 1))) else (none))))) else (if x5.length < 17592186044416 then ((zaz.f k (x5 ++ [x6])).bind fun t741 => (some t741)) else (none))
def zcs.f (k : Nat) (l0 : List Int) (l1 : List Int) : Option (List Int) := zcs.l0 k l0 l1 ([] : List Int) 0 (mx (l0.length : Int) (l1.length : Int)) 0
theorem zcs.calls (k : Nat) (A0 : Option Addr) (c0 : Nat) (l0 : List Int) (A1 : Option Addr) (c1 : Nat) (l1 : List Int) (r : List Int) (w : World) (hr0 : Kd.C (Kd.int .u64) w A0 l0.length l0) (hc0 : l0.length ≤ c0) (hr1 : Kd.C (Kd.int .u64) w A1 l1.length l1) (hc1 : l1.length ≤ c1) (h : zcs.f k l0 l1 = some r) :
  Calls Tryd.prog 64 #[.slice A0 l0.length c0, .slice A1 l1.length c1] w fun e w' => ∃ v0_ : Value, e = .returned (v0_) ∧ Kd.V (Kd.int .u64) 57 w' w.heap.size (fun k_ => (w.heap.size ≤ k_)) v0_ r ∧ Below w.heap.size w w' := by
 have HR0 := zA hr0
 have HC0 := zA hc0
 clear hr0 hc0
 have HR1 := zA hr1
 have HC1 := zA hc1
 clear hr1 hc1
 have HB := zA (Below.refl w.heap.size w)
 have H : (zcs.l0 k l0 l1 ([] : List Int) 0 (mx (l0.length : Int) (l1.length : Int)) 0) = some r := h
 clear h
 obtain ⟨ji3, hji3⟩ : ∃ j_ : Int, (mx (l0.length : Int) (l1.length : Int)) = j_ := ⟨_, rfl⟩
 replace H : (zcs.l0 k l0 l1 ([] : List Int) 0 ji3 0) = some r := by first | (rw [hji3] at H; exact H) | (simp only [hji3] at H ⊢; exact H)
 (try (have hji3l : 0 ≤ ji3 := by (rw [← hji3]; unfold mx; (repeat' split) <;> omega)))
 (try (have hji3m : 0 ≤ ji3 := by omega))
 have hji3_ : (if (l0.length : Int) < (l1.length : Int) then (l1.length : Int) else (l0.length : Int)) = ji3 := hji3
 (try (have hji3n_ := hji3_; simp only [Int.ofNat_lt] at hji3n_))
 have H' := zA H
 clear H
 go_enter Tryd.func64, Tryd.ntmps64
 go_wp2
 go_loopg [5, 6, 14] k (fun kq v5 v6 v14 w' => ∃ (x5_1 : List Int) (x6_1 : Int) (x14_1 : Int), v6 = .int .u64 x6_1 ∧ v14 = .int .i64 x14_1 ∧ Aside0 (zcs.l0 kq l0 l1 x5_1 x6_1 ji3 x14_1 = some r) ∧ Aside0 (kq ≤ k) ∧ Aside0 (Kd.R (Kd.int .u64) 57 w' w.heap.size (fun k_ => (w.heap.size ≤ k_)) v5 x5_1) ∧ Aside0 (Below w.heap.size w w'))
 case atStart => exact ⟨(([] : List Int)), (0), (0), (zF), (zF), H', ⟨Nat.le_refl _⟩, ⟨by first | exact Kd.R_nil _ _ _ _ _ | exact Kd.N_nil _ _ _ _ _ | exact Kd.V_nil _ _ _ _ _ | exact Kd.Q_nil _ _ _ _ _ | exact Kd.S_nil _ _ _ _ _⟩, ⟨zB HB⟩⟩
 case round =>
  clear H'
  try clear c1
  try clear p2
  obtain ⟨x5_1, x6_1, x14_1, rfl, rfl, HA, HK1, HO_5, HB⟩ := hrel
  cases gk with
  | zero => exact absurd HA.out (by simp [zcs.l0])
  | succ k1 =>
   have H := HA.out
   clear HA
   simp only [zcs.l0] at H
   by_cases c4 : x14_1 < ji3
   ·
    rw [if_pos c4] at H
    have c4b0 : decide (x14_1 < ji3) = true := decide_eq_true c4
    clear c4
    replace H := zO H
    obtain ⟨t731, A50, H⟩ := H
    try dsimp only at H
    have A5 := zA A50
    clear A50
    replace H := zO H
    obtain ⟨t732, A60, H⟩ := H
    try dsimp only at H
    have A6 := zA A60
    clear A60
    replace H := zO H
    obtain ⟨⟨t733, t734⟩, A70, H⟩ := H
    try dsimp only at H
    have A7 := fun W_ => bits_Add64.run (W := W_) A70
    clear A70
    by_cases c8 : x5_1.length < 17592186044416
    ·
     rw [if_pos c8] at H
     have LMc8 := zA c8
     clear c8
     obtain ⟨y735, hy735⟩ : ∃ y_ : List Int, y_ = (x5_1 ++ [t733]) := ⟨_, rfl⟩
     replace H : (zcs.l0 k1 l0 l1 y735 t734 ji3 (wrap64 (x14_1 + 1))) = some r := by first | (rw [hy735]; with_reducible exact H) | (have H2_ := (Option.bind_some _ _).symm.trans H; rw [hy735]; with_reducible exact H2_) | (have H2_ := (Option.bind_some _ _).symm.trans H; with_reducible exact H2_) | with_reducible exact H | (rw [hy735]; exact H) | exact H
     have Ny735 := zA hy735
     clear hy735
     have H' := zA H
     clear H
     go_wp2_with (first | ((with_reducible refine zae (f := 89) rfl ?_); refine za5 (some 20) rfl rfl Tryd.func89 (by kernel_rfl) rfl #[.slice A0 l0.length c0, .int .i64 x14_1] rfl (zE) ?_; (with_reducible refine (zcx.calls _ _ l0 x14_1 t731 _ ?side1 ?side2 A5.out).mono ?_); (case side1 => exact zJ (Kd.za3 HR0.out HB.out)); (case side2 => exact HC0.out); rintro e w' ⟨rfl, ⟨nd, rfl⟩⟩; refine ⟨_, rfl, ?_⟩) | ((with_reducible refine zae (f := 89) rfl ?_); refine za5 (some 23) rfl rfl Tryd.func89 (by kernel_rfl) rfl #[.slice A1 l1.length c1, .int .i64 x14_1] rfl (zE) ?_; (with_reducible refine (zcx.calls _ _ l1 x14_1 t732 _ ?side1 ?side2 A6.out).mono ?_); (case side1 => exact zJ (Kd.za3 HR1.out (zB HB))); (case side2 => exact HC1.out); rintro e w' ⟨rfl, ⟨nd, rfl⟩⟩; refine ⟨_, rfl, ?_⟩) | ((with_reducible refine zb2 (b := .append) (xs := #[.tmp 28, .tmp 30]) rfl ?_); at_builtin; refine Kd.zcz (Kd.int .u64) (w0 := w) w.heap.size rfl (.tmp 28) (.tmp 30) 26 57 (.int .u64 0) 8 rfl Tryd.underlying26 info57 rfl (by decide) (by omega) u5 x5_1 t733 [.int .u64 t733] (fun k_ => (w.heap.size ≤ k_)) (fun _ => False) rfl rfl ?aP (fun _ hk => hk.elim) ?aF ?aO ?aB ?aS ?aL ?_; (case aP => exact rfl); (case aB => exact (zB HB)); (case aF => exact (fun k_ hk => (Nat.le_trans (za (zB HB)) hk))); (case aO => exact (zR HO_5)); (case aS => exact (za (zB HB))); (case aL => have := LMc8.out; omega); intro v736 w9 ho hb hg hat; rw [← Ny735.out] at ho; have n0_ := zA (hb); have n1_ := zA (ho); clear HB HO_5; have HB := n0_; have HO737 := n1_; clear n0_ n1_ ho hb hg hat))
     go_roundg k1
     case measure => have := HK1.out; omega
     case rel => exact ⟨(y735), (t734), (wrap64 (x14_1 + 1)), (zF), (zF), H', ⟨by have := HK1.out; omega⟩, ⟨zR HO737⟩, ⟨zB HB⟩⟩
    ·
     rw [if_neg c8] at H
     exact absurd H (by simp)
   ·
    rw [if_neg c4] at H
    have c4b0 : decide (x14_1 < ji3) = false := decide_eq_false c4
    clear c4
    by_cases c10 : x5_1.length < 17592186044416
    ·
     rw [if_pos c10] at H
     have LMc10 := zA c10
     clear c10
     obtain ⟨y738, hy738⟩ : ∃ y_ : List Int, y_ = (x5_1 ++ [x6_1]) := ⟨_, rfl⟩
     replace H : ((zaz.f k1 y738).bind fun t741 => (some t741)) = some r := by first | (rw [hy738]; with_reducible exact H) | (have H2_ := (Option.bind_some _ _).symm.trans H; rw [hy738]; with_reducible exact H2_) | (have H2_ := (Option.bind_some _ _).symm.trans H; with_reducible exact H2_) | with_reducible exact H | (rw [hy738]; exact H) | exact H
     have Ny738 := zA hy738
     clear hy738
     replace H := zO H
     obtain ⟨t741, A110, H⟩ := H
     try dsimp only at H
     have A11 := zA A110
     clear A110
     obtain rfl := Option.some.inj H
     go_wp2_with (first | ((with_reducible refine zb2 (b := .append) (xs := #[.tmp 33, .tmp 35]) rfl ?_); at_builtin; refine Kd.zcz (Kd.int .u64) (w0 := w) w.heap.size rfl (.tmp 33) (.tmp 35) 26 57 (.int .u64 0) 8 rfl Tryd.underlying26 info57 rfl (by decide) (by omega) u5 x5_1 x6_1 [.int .u64 x6_1] (fun k_ => (w.heap.size ≤ k_)) (fun _ => False) rfl rfl ?aP (fun _ hk => hk.elim) ?aF ?aO ?aB ?aS ?aL ?_; (case aP => exact rfl); (case aB => exact (zB HB)); (case aF => exact (fun k_ hk => (Nat.le_trans (za (zB HB)) hk))); (case aO => exact (zR HO_5)); (case aS => exact (za (zB HB))); (case aL => have := LMc10.out; omega); intro v739 w12 ho hb hg hat; rw [← Ny738.out] at ho; have n0_ := zA (hb); have n1_ := zA (ho); clear HB HO_5; have HB := n0_; have HO740 := n1_; clear n0_ n1_ ho hb hg hat; obtain ⟨Ao13, co13, eo13⟩ := Kd.zbn HO740.out; subst eo13) | ((with_reducible refine zae (f := 65) rfl ?_); refine za5 (some 37) rfl rfl Tryd.func65 (by kernel_rfl) rfl #[.slice Ao13 y738.length co13] rfl (zE) ?_; (with_reducible refine (zaz.calls k1 (fun k_ => some k_ = (.slice Ao13 y738.length co13 : Value).ownBlock) _ _ y738 t741 _ ?side1 A11.out).mono ?_); (case side1 => exact Kd.R_V (Kd.zc4 rfl (HO740.out))); rintro e w14 ⟨v742, rfl, ho0, hb⟩; refine ⟨_, rfl, ?_⟩; have n0_ := zA (Kd.zbs (zR HO740) hb); have n1_ := zA (Kd.za6 (Kd.zan (ok' := fun k_ => (w.heap.size ≤ k_)) ho0 (fun k_ hk_ => Or.elim hk_ (fun hs_ => ((HO740.out).1 k_ hs_.symm)) (fun hn_ => (Nat.le_trans (za (zB HB)) hn_)))) (za (zB HB))); have n2_ := zA (zaa (zB HB) hb); clear HO740 HB; have HO740 := n0_; have HO743 := n1_; have HB := n2_; clear n0_ n1_ n2_; (try clear hb); (try clear hb2); (try clear hk); (try clear hi); (try clear ho0)))
     go_ret
     exact ⟨_, by first | rfl | (simp [zb7, zb6] <;> rfl) | (simp only [← hji3]; first | rfl | (simp [zb7, zb6] <;> rfl)) | (simp [*, zb7, zb6] <;> rfl), zV HO743, zB HB⟩
    ·
     rw [if_neg c10] at H
     exact absurd H (by simp)
def ratio_Add.f (k : Nat) (l0_0 : List Int) (l0_1 : List Int) (l1_0 : List Int) (l1_1 : List Int) : Option (List Int × List Int) := (zbd.f k l0_0 l0_1 l1_0 l1_1).bind fun bt747 => ((zcs.f k bt747.1 bt747.2.1).bind fun t756 => ((zbh.f k t756 bt747.2.2).bind fun bt759 => (some (bt759.1, bt759.2))))
theorem ratio_Add.calls (k : Nat) (A0_0 : Option Addr) (c0_0 : Nat) (l0_0 : List Int) (A0_1 : Option Addr) (c0_1 : Nat) (l0_1 : List Int) (A1_0 : Option Addr) (c1_0 : Nat) (l1_0 : List Int) (A1_1 : Option Addr) (c1_1 : Nat) (l1_1 : List Int) (r1 : List Int) (r2 : List Int) (w : World) (hr0_0 : Kd.C (Kd.int .u64) w A0_0 l0_0.length l0_0) (hc0_0 : l0_0.length ≤ c0_0) (hr0_1 : Kd.C (Kd.int .u64) w A0_1 l0_1.length l0_1) (hc0_1 : l0_1.length ≤ c0_1) (hr1_0 : Kd.C (Kd.int .u64) w A1_0 l1_0.length l1_0) (hc1_0 : l1_0.length ≤ c1_0) (hr1_1 : Kd.C (Kd.int .u64) w A1_1 l1_1.length l1_1) (hc1_1 : l1_1.length ≤ c1_1) (h : ratio_Add.f k l0_0 l0_1 l1_0 l1_1 = some (r1, r2)) :
  Calls Tryd.prog 34 #[.agg #[.slice A0_0 l0_0.length c0_0, .slice A0_1 l0_1.length c0_1], .agg #[.slice A1_0 l1_0.length c1_0, .slice A1_1 l1_1.length c1_1]] w fun e w' => ∃ v0_ v1_ : Value, e = .returned (.agg #[v0_, v1_]) ∧ Kd.V (Kd.int .u64) 57 w' w.heap.size (fun k_ => (w.heap.size ≤ k_)) v0_ r1 ∧ Kd.V (Kd.int .u64) 57 w' w.heap.size (fun k_ => (w.heap.size ≤ k_)) v1_ r2 ∧ Below w.heap.size w w' := by
 have hu28 := Tryd.underlying28
 have HR0_0 := zA hr0_0
 have HC0_0 := zA hc0_0
 clear hr0_0 hc0_0
 have HR0_1 := zA hr0_1
 have HC0_1 := zA hc0_1
 clear hr0_1 hc0_1
 have HR1_0 := zA hr1_0
 have HC1_0 := zA hc1_0
 clear hr1_0 hc1_0
 have HR1_1 := zA hr1_1
 have HC1_1 := zA hc1_1
 clear hr1_1 hc1_1
 have HB := zA (Below.refl w.heap.size w)
 have H : ((zbd.f k l0_0 l0_1 l1_0 l1_1).bind fun bt747 => ((zcs.f k bt747.1 bt747.2.1).bind fun t756 => ((zbh.f k t756 bt747.2.2).bind fun bt759 => (some (bt759.1, bt759.2))))) = some (r1, r2) := h
 clear h
 replace H := zO H
 obtain ⟨⟨t747, t750, t753⟩, A30, H⟩ := H
 try dsimp only at H
 have A3 := zA A30
 clear A30
 replace H := zO H
 obtain ⟨t756, A40, H⟩ := H
 try dsimp only at H
 have A4 := zA A40
 clear A40
 replace H := zO H
 obtain ⟨⟨t759, t762⟩, A50, H⟩ := H
 try dsimp only at H
 have A5 := zA A50
 clear A50
 simp only [Option.some.injEq, Prod.mk.injEq] at H
 obtain ⟨rfl, rfl⟩ := H
 go_enter Tryd.func34, Tryd.ntmps34
 go_wp2_with (first | ((with_reducible refine zbe (N := 2) rfl ?_); refine zbk ?hg (N := 2) ?hd (cs := #[.slice A0_0 l0_0.length c0_0, .slice A0_1 l0_1.length c0_1]) (t := 28) ?hr ?_; (case hd => rfl); (case hg => rfl); (case hr => first | (go_simp; done) | (go_simp; rfl)); intro gb744 hg w6 hbox hb; have n0_ := zA (zaa (zB HB) hb); have n1_ := zA (hbox); have n2_ := zA ((by rw [hg]; exact (za (zB HB)) : w.heap.size ≤ gb744)); have n3_ := zA ((by rw [hg]; exact (za (zB HB)) : w.heap.size ≤ gb744)); clear HB; have HB := n0_; have BK744 := n1_; have GW744 := n2_; have GE744 := n3_; clear n0_ n1_ n2_ n3_ hb hbox hg) | ((with_reducible refine zbe (N := 3) rfl ?_); refine zbk ?hg (N := 3) ?hd (cs := #[.slice A1_0 l1_0.length c1_0, .slice A1_1 l1_1.length c1_1]) (t := 28) ?hr ?_; (case hd => rfl); (case hg => rfl); (case hr => first | (go_simp; done) | (go_simp; rfl)); intro gb745 hg w7 hbox hb; have n0_ := zA (zac (g := gb744) (o := .cells #[.slice A0_0 l0_0.length c0_0, .slice A0_1 l0_1.length c0_1] 28 (0, 0)) (zK BK744) hb); have n1_ := zA (zaa (zB HB) hb); have n2_ := zA (hbox); have n3_ := zA ((by rw [hg]; exact (za (zB HB)) : w.heap.size ≤ gb745)); have n4_ := zA ((by rw [hg]; exact (za (zB HB)) : w.heap.size ≤ gb745)); have n5_ := zA ((by rw [hg]; exact Nat.ne_of_lt (zay (g := gb744) (o := .cells #[.slice A0_0 l0_0.length c0_0, .slice A0_1 l0_1.length c0_1] 28 (0, 0)) (zK BK744)) : gb744 ≠ gb745)); have n6_ := zA ((by rw [hg]; exact Nat.ne_of_gt (zay (g := gb744) (o := .cells #[.slice A0_0 l0_0.length c0_0, .slice A0_1 l0_1.length c0_1] 28 (0, 0)) (zK BK744)) : gb745 ≠ gb744)); clear BK744 HB; have BK744 := n0_; have HB := n1_; have BK745 := n2_; have GW745 := n3_; have GE745 := n4_; have NB744_745 := n5_; have NB745_744 := n6_; clear n0_ n1_ n2_ n3_ n4_ n5_ n6_ hb hbox hg) | ((with_reducible refine zbe (N := 4) rfl ?_); refine zbk ?hg (N := 4) ?hd (cs := #[.slice none 0 0, .slice none 0 0]) (t := 28) ?hr ?_; (case hd => rfl); (case hg => rfl); (case hr => first | (go_simp; done) | (go_simp; rfl)); intro gb746 hg w8 hbox hb; have n0_ := zA (zac (g := gb744) (o := .cells #[.slice A0_0 l0_0.length c0_0, .slice A0_1 l0_1.length c0_1] 28 (0, 0)) (zK BK744) hb); have n1_ := zA (zac (g := gb745) (o := .cells #[.slice A1_0 l1_0.length c1_0, .slice A1_1 l1_1.length c1_1] 28 (0, 0)) (zK BK745) hb); have n2_ := zA (zaa (zB HB) hb); have n3_ := zA (hbox); have n4_ := zA ((by rw [hg]; exact (za (zB HB)) : w.heap.size ≤ gb746)); have n5_ := zA ((by rw [hg]; exact (za (zB HB)) : w.heap.size ≤ gb746)); have n6_ := zA ((by rw [hg]; exact Nat.ne_of_lt (zay (g := gb744) (o := .cells #[.slice A0_0 l0_0.length c0_0, .slice A0_1 l0_1.length c0_1] 28 (0, 0)) (zK BK744)) : gb744 ≠ gb746)); have n7_ := zA ((by rw [hg]; exact Nat.ne_of_gt (zay (g := gb744) (o := .cells #[.slice A0_0 l0_0.length c0_0, .slice A0_1 l0_1.length c0_1] 28 (0, 0)) (zK BK744)) : gb746 ≠ gb744)); have n8_ := zA ((by rw [hg]; exact Nat.ne_of_lt (zay (g := gb745) (o := .cells #[.slice A1_0 l1_0.length c1_0, .slice A1_1 l1_1.length c1_1] 28 (0, 0)) (zK BK745)) : gb745 ≠ gb746)); have n9_ := zA ((by rw [hg]; exact Nat.ne_of_gt (zay (g := gb745) (o := .cells #[.slice A1_0 l1_0.length c1_0, .slice A1_1 l1_1.length c1_1] 28 (0, 0)) (zK BK745)) : gb746 ≠ gb745)); clear BK744 BK745 HB; have BK744 := n0_; have BK745 := n1_; have HB := n2_; have BK746 := n3_; have GW746 := n4_; have GE746 := n5_; have NB744_746 := n6_; have NB746_744 := n7_; have NB745_746 := n8_; have NB746_745 := n9_; clear n0_ n1_ n2_ n3_ n4_ n5_ n6_ n7_ n8_ n9_ hb hbox hg; have hnb9 := NB744_745.out; have hnc9 := NB745_744.out; have hnb10 := NB744_746.out; have hnc10 := NB746_744.out; have hcz11_0 : w8.cell? ⟨gb744, 0, none⟩ = some (.slice A0_0 l0_0.length c0_0) := (zab BK744.out 0).trans rfl; have hcz11_1 : w8.cell? ⟨gb744, 1, none⟩ = some (.slice A0_1 l0_1.length c0_1) := (zab BK744.out 1).trans rfl; have hfz11_0 := zal BK744.out 0; have hfz11_1 := zal BK744.out 1; have hnb12 := NB745_746.out; have hnc12 := NB746_745.out; have hcz13_0 : w8.cell? ⟨gb745, 0, none⟩ = some (.slice A1_0 l1_0.length c1_0) := (zab BK745.out 0).trans rfl; have hcz13_1 : w8.cell? ⟨gb745, 1, none⟩ = some (.slice A1_1 l1_1.length c1_1) := (zab BK745.out 1).trans rfl; have hfz13_0 := zal BK745.out 0; have hfz13_1 := zal BK745.out 1) | ((with_reducible refine zae (f := 62) rfl ?_); refine za5 (some 11) rfl rfl Tryd.func62 (by kernel_rfl) rfl #[.agg #[.slice A0_0 l0_0.length c0_0, .slice A0_1 l0_1.length c0_1], .agg #[.slice A1_0 l1_0.length c1_0, .slice A1_1 l1_1.length c1_1]] rfl (zE) ?_; (with_reducible refine (zbd.calls k _ _ l0_0 _ _ l0_1 _ _ l1_0 _ _ l1_1 t747 t750 t753 _ ?side1 ?side2 ?side3 ?side4 ?side5 ?side6 ?side7 ?side8 A3.out).mono ?_); (case side1 => exact zJ (Kd.za3 HR0_0.out HB.out)); (case side2 => exact HC0_0.out); (case side3 => exact zJ (Kd.za3 HR0_1.out HB.out)); (case side4 => exact HC0_1.out); (case side5 => exact zJ (Kd.za3 HR1_0.out HB.out)); (case side6 => exact HC1_0.out); (case side7 => exact zJ (Kd.za3 HR1_1.out HB.out)); (case side8 => exact HC1_1.out); rintro e w14 ⟨v748, v751, v754, rfl, ho0, ho1, ho2, hb⟩; refine ⟨_, rfl, ?_⟩; have n0_ := zA (Kd.za6 (Kd.zan (ok' := fun k_ => (w.heap.size ≤ k_) ∧ k_ ≠ gb744 ∧ k_ ≠ gb745 ∧ k_ ≠ gb746) ho0 (fun k_ hk_ => ⟨(Nat.le_trans (za (zB HB)) hk_), (Kd.freshB (g := gb744) (o := .cells #[.slice A0_0 l0_0.length c0_0, .slice A0_1 l0_1.length c0_1] 28 (0, 0)) (zK BK744) k_ hk_), (Kd.freshB (g := gb745) (o := .cells #[.slice A1_0 l1_0.length c1_0, .slice A1_1 l1_1.length c1_1] 28 (0, 0)) (zK BK745) k_ hk_), (Kd.freshB (g := gb746) (o := .cells #[.slice none 0 0, .slice none 0 0] 28 (0, 0)) (zK BK746) k_ hk_)⟩)) (za (zB HB))); have n1_ := zA (Kd.za6 (Kd.zan (ok' := fun k_ => (w.heap.size ≤ k_) ∧ k_ ≠ gb744 ∧ k_ ≠ gb745 ∧ k_ ≠ gb746) ho1 (fun k_ hk_ => ⟨(Nat.le_trans (za (zB HB)) hk_), (Kd.freshB (g := gb744) (o := .cells #[.slice A0_0 l0_0.length c0_0, .slice A0_1 l0_1.length c0_1] 28 (0, 0)) (zK BK744) k_ hk_), (Kd.freshB (g := gb745) (o := .cells #[.slice A1_0 l1_0.length c1_0, .slice A1_1 l1_1.length c1_1] 28 (0, 0)) (zK BK745) k_ hk_), (Kd.freshB (g := gb746) (o := .cells #[.slice none 0 0, .slice none 0 0] 28 (0, 0)) (zK BK746) k_ hk_)⟩)) (za (zB HB))); have n2_ := zA (Kd.za6 (Kd.zan (ok' := fun k_ => (w.heap.size ≤ k_) ∧ k_ ≠ gb744 ∧ k_ ≠ gb745 ∧ k_ ≠ gb746) ho2 (fun k_ hk_ => ⟨(Nat.le_trans (za (zB HB)) hk_), (Kd.freshB (g := gb744) (o := .cells #[.slice A0_0 l0_0.length c0_0, .slice A0_1 l0_1.length c0_1] 28 (0, 0)) (zK BK744) k_ hk_), (Kd.freshB (g := gb745) (o := .cells #[.slice A1_0 l1_0.length c1_0, .slice A1_1 l1_1.length c1_1] 28 (0, 0)) (zK BK745) k_ hk_), (Kd.freshB (g := gb746) (o := .cells #[.slice none 0 0, .slice none 0 0] 28 (0, 0)) (zK BK746) k_ hk_)⟩)) (za (zB HB))); have n3_ := zA (zac (g := gb744) (o := .cells #[.slice A0_0 l0_0.length c0_0, .slice A0_1 l0_1.length c0_1] 28 (0, 0)) (zK BK744) hb); have n4_ := zA (zac (g := gb745) (o := .cells #[.slice A1_0 l1_0.length c1_0, .slice A1_1 l1_1.length c1_1] 28 (0, 0)) (zK BK745) hb); have n5_ := zA (zac (g := gb746) (o := .cells #[.slice none 0 0, .slice none 0 0] 28 (0, 0)) (zK BK746) hb); have n6_ := zA (zaa (zB HB) hb); clear BK744 BK745 BK746 HB; have HO749 := n0_; have HO752 := n1_; have HO755 := n2_; have BK744 := n3_; have BK745 := n4_; have BK746 := n5_; have HB := n6_; clear n0_ n1_ n2_ n3_ n4_ n5_ n6_; (try clear hb); (try clear hb2); (try clear hk); (try clear hi); (try clear ho0); (try clear ho1); (try clear ho2); obtain ⟨Ao15, co15, eo15⟩ := Kd.za7 HO749.out; subst eo15; obtain ⟨Ao16, co16, eo16⟩ := Kd.za7 HO752.out; subst eo16) | ((with_reducible refine zae (f := 64) rfl ?_); refine za5 (some 17) rfl rfl Tryd.func64 (by kernel_rfl) rfl #[.slice Ao15 t747.length co15, .slice Ao16 t750.length co16] rfl (zE) ?_; (with_reducible refine (zcs.calls k _ _ t747 _ _ t750 t756 _ ?side1 ?side2 ?side3 ?side4 A4.out).mono ?_); (case side1 => exact zJ (Kd.zaq HO749.out).2.2); (case side2 => exact (Kd.zaq HO749.out).2.1); (case side3 => exact zJ (Kd.zaq HO752.out).2.2); (case side4 => exact (Kd.zaq HO752.out).2.1); rintro e w17 ⟨v757, rfl, ho0, hb⟩; refine ⟨_, rfl, ?_⟩; have n0_ := zA (Kd.zaw (zV HO749) hb); have n1_ := zA (Kd.zaw (zV HO752) hb); have n2_ := zA (Kd.zaw (zV HO755) hb); have n3_ := zA (Kd.za6 (Kd.zan (ok' := fun k_ => (w.heap.size ≤ k_) ∧ k_ ≠ gb744 ∧ k_ ≠ gb745 ∧ k_ ≠ gb746) ho0 (fun k_ hk_ => ⟨(Nat.le_trans (za (zB HB)) hk_), (Kd.freshB (g := gb744) (o := .cells #[.slice A0_0 l0_0.length c0_0, .slice A0_1 l0_1.length c0_1] 28 (0, 0)) (zK BK744) k_ hk_), (Kd.freshB (g := gb745) (o := .cells #[.slice A1_0 l1_0.length c1_0, .slice A1_1 l1_1.length c1_1] 28 (0, 0)) (zK BK745) k_ hk_), (Kd.freshB (g := gb746) (o := .cells #[.slice none 0 0, .slice none 0 0] 28 (0, 0)) (zK BK746) k_ hk_)⟩)) (za (zB HB))); have n4_ := zA (zac (g := gb744) (o := .cells #[.slice A0_0 l0_0.length c0_0, .slice A0_1 l0_1.length c0_1] 28 (0, 0)) (zK BK744) hb); have n5_ := zA (zac (g := gb745) (o := .cells #[.slice A1_0 l1_0.length c1_0, .slice A1_1 l1_1.length c1_1] 28 (0, 0)) (zK BK745) hb); have n6_ := zA (zac (g := gb746) (o := .cells #[.slice none 0 0, .slice none 0 0] 28 (0, 0)) (zK BK746) hb); have n7_ := zA (zaa (zB HB) hb); clear HO749 HO752 HO755 BK744 BK745 BK746 HB; have HO749 := n0_; have HO752 := n1_; have HO755 := n2_; have HO758 := n3_; have BK744 := n4_; have BK745 := n5_; have BK746 := n6_; have HB := n7_; clear n0_ n1_ n2_ n3_ n4_ n5_ n6_ n7_; (try clear hb); (try clear hb2); (try clear hk); (try clear hi); (try clear ho0); obtain ⟨Ao18, co18, eo18⟩ := Kd.za7 HO758.out; subst eo18; obtain ⟨Ao19, co19, eo19⟩ := Kd.za7 HO755.out; subst eo19) | ((with_reducible refine zae (f := 58) rfl ?_); refine za5 (some 19) rfl rfl Tryd.func58 (by kernel_rfl) rfl #[.slice Ao18 t756.length co18, .slice Ao19 t753.length co19] rfl (zE) ?_; (with_reducible refine (zbh.calls k _ _ t756 _ _ t753 t759 t762 _ ?side1 ?side2 ?side3 ?side4 A5.out).mono ?_); (case side1 => exact zJ (Kd.zaq HO758.out).2.2); (case side2 => exact (Kd.zaq HO758.out).2.1); (case side3 => exact zJ (Kd.zaq HO755.out).2.2); (case side4 => exact (Kd.zaq HO755.out).2.1); rintro e w20 ⟨v760, v763, rfl, ho0, ho1, hb⟩; refine ⟨_, rfl, ?_⟩; have n0_ := zA (Kd.zaw (zV HO749) hb); have n1_ := zA (Kd.zaw (zV HO752) hb); have n2_ := zA (Kd.zaw (zV HO755) hb); have n3_ := zA (Kd.zaw (zV HO758) hb); have n4_ := zA (Kd.za6 (Kd.zan (ok' := fun k_ => (w.heap.size ≤ k_) ∧ k_ ≠ gb744 ∧ k_ ≠ gb745 ∧ k_ ≠ gb746) ho0 (fun k_ hk_ => ⟨(Nat.le_trans (za (zB HB)) hk_), (Kd.freshB (g := gb744) (o := .cells #[.slice A0_0 l0_0.length c0_0, .slice A0_1 l0_1.length c0_1] 28 (0, 0)) (zK BK744) k_ hk_), (Kd.freshB (g := gb745) (o := .cells #[.slice A1_0 l1_0.length c1_0, .slice A1_1 l1_1.length c1_1] 28 (0, 0)) (zK BK745) k_ hk_), (Kd.freshB (g := gb746) (o := .cells #[.slice none 0 0, .slice none 0 0] 28 (0, 0)) (zK BK746) k_ hk_)⟩)) (za (zB HB))); have n5_ := zA (Kd.za6 (Kd.zan (ok' := fun k_ => (w.heap.size ≤ k_) ∧ k_ ≠ gb744 ∧ k_ ≠ gb745 ∧ k_ ≠ gb746) ho1 (fun k_ hk_ => ⟨(Nat.le_trans (za (zB HB)) hk_), (Kd.freshB (g := gb744) (o := .cells #[.slice A0_0 l0_0.length c0_0, .slice A0_1 l0_1.length c0_1] 28 (0, 0)) (zK BK744) k_ hk_), (Kd.freshB (g := gb745) (o := .cells #[.slice A1_0 l1_0.length c1_0, .slice A1_1 l1_1.length c1_1] 28 (0, 0)) (zK BK745) k_ hk_), (Kd.freshB (g := gb746) (o := .cells #[.slice none 0 0, .slice none 0 0] 28 (0, 0)) (zK BK746) k_ hk_)⟩)) (za (zB HB))); have n6_ := zA (zac (g := gb744) (o := .cells #[.slice A0_0 l0_0.length c0_0, .slice A0_1 l0_1.length c0_1] 28 (0, 0)) (zK BK744) hb); have n7_ := zA (zac (g := gb745) (o := .cells #[.slice A1_0 l1_0.length c1_0, .slice A1_1 l1_1.length c1_1] 28 (0, 0)) (zK BK745) hb); have n8_ := zA (zac (g := gb746) (o := .cells #[.slice none 0 0, .slice none 0 0] 28 (0, 0)) (zK BK746) hb); have n9_ := zA (zaa (zB HB) hb); clear HO749 HO752 HO755 HO758 BK744 BK745 BK746 HB; have HO749 := n0_; have HO752 := n1_; have HO755 := n2_; have HO758 := n3_; have HO761 := n4_; have HO764 := n5_; have BK744 := n6_; have BK745 := n7_; have BK746 := n8_; have HB := n9_; clear n0_ n1_ n2_ n3_ n4_ n5_ n6_ n7_ n8_ n9_; (try clear hb); (try clear hb2); (try clear hk); (try clear hi); (try clear ho0); (try clear ho1); obtain ⟨Ao21, co21, eo21⟩ := Kd.za7 HO761.out; subst eo21; have hcz22_0 : w20.cell? ⟨gb746, 0, none⟩ = some (.slice none 0 0) := (zab BK746.out 0).trans rfl; have hcz22_1 : w20.cell? ⟨gb746, 1, none⟩ = some (.slice none 0 0) := (zab BK746.out 1).trans rfl; have hfz22_0 := zal BK746.out 0; have hfz22_1 := zal BK746.out 1; obtain ⟨Ao23, co23, eo23⟩ := Kd.za7 HO764.out; subst eo23))
 refine bodyPost_ret (results_cell_row rfl _ _ gb746 28 #[.slice Ao21 t759.length co21, .slice Ao23 t762.length co23] (0, 0) _ rfl (by (with_reducible repeat (first | refine zau ?_ _ | refine zat ?_ | refine zar ?_ _)); refine zb1 (cs := #[.slice Ao21 t759.length co21, .slice none 0 0]) ?_ 1 _ rfl; (with_reducible repeat (first | refine zau ?_ _ | refine zat ?_ | refine zar ?_ _)); refine zb1 (cs := #[.slice none 0 0, .slice none 0 0]) ?_ 0 _ rfl; (with_reducible repeat (first | refine zau ?_ _ | refine zat ?_ | refine zar ?_ _)); exact BK746.out) Tryd.underlying28 rfl (by kernel_rfl)) rfl ?_
 exact ⟨_, _, zW, by (with_reducible repeat (first | apply Kd.zbv | apply Kd.zbw | apply Kd.zb3)); exact Kd.zan (Kd.V_far (p := ⟨gb746, 1, none⟩) (Kd.V_far (p := ⟨gb746, 0, none⟩) (Kd.zan HO761.out (fun k_ hk => (⟨hk, hk.2.2.2⟩ : _ ∧ k_ ≠ gb746))) (fun _ hk => hk.2) (.slice Ao21 t759.length co21)) (fun _ hk => hk.2) (.slice Ao23 t762.length co23)) (fun _ hk => hk.1.1), by (with_reducible repeat (first | apply Kd.zbv | apply Kd.zbw | apply Kd.zb3)); exact Kd.zan (Kd.V_far (p := ⟨gb746, 1, none⟩) (Kd.V_far (p := ⟨gb746, 0, none⟩) (Kd.zan HO764.out (fun k_ hk => (⟨hk, hk.2.2.2⟩ : _ ∧ k_ ≠ gb746))) (fun _ hk => hk.2) (.slice Ao21 t759.length co21)) (fun _ hk => hk.2) (.slice Ao23 t762.length co23)) (fun _ hk => hk.1.1), zB HB⟩
def ratio_Cmp.f (k : Nat) (l0_0 : List Int) (l0_1 : List Int) (l1_0 : List Int) (l1_1 : List Int) : Option (Int) := (zbd.f k l0_0 l0_1 l1_0 l1_1).bind fun bt767 => ((zcj.f bt767.1 bt767.2.1).bind fun t776 => (some t776))
theorem ratio_Cmp.calls (k : Nat) (A0_0 : Option Addr) (c0_0 : Nat) (l0_0 : List Int) (A0_1 : Option Addr) (c0_1 : Nat) (l0_1 : List Int) (A1_0 : Option Addr) (c1_0 : Nat) (l1_0 : List Int) (A1_1 : Option Addr) (c1_1 : Nat) (l1_1 : List Int) (r : Int) (w : World) (hr0_0 : Kd.C (Kd.int .u64) w A0_0 l0_0.length l0_0) (hc0_0 : l0_0.length ≤ c0_0) (hr0_1 : Kd.C (Kd.int .u64) w A0_1 l0_1.length l0_1) (hc0_1 : l0_1.length ≤ c0_1) (hr1_0 : Kd.C (Kd.int .u64) w A1_0 l1_0.length l1_0) (hc1_0 : l1_0.length ≤ c1_0) (hr1_1 : Kd.C (Kd.int .u64) w A1_1 l1_1.length l1_1) (hc1_1 : l1_1.length ≤ c1_1) (h : ratio_Cmp.f k l0_0 l0_1 l1_0 l1_1 = some r) :
  Calls Tryd.prog 35 #[.agg #[.slice A0_0 l0_0.length c0_0, .slice A0_1 l0_1.length c0_1], .agg #[.slice A1_0 l1_0.length c1_0, .slice A1_1 l1_1.length c1_1]] w fun e w' => e = .returned (.int .i64 r) ∧ Below w.heap.size w w' := by
 have hu28 := Tryd.underlying28
 have HR0_0 := zA hr0_0
 have HC0_0 := zA hc0_0
 clear hr0_0 hc0_0
 have HR0_1 := zA hr0_1
 have HC0_1 := zA hc0_1
 clear hr0_1 hc0_1
 have HR1_0 := zA hr1_0
 have HC1_0 := zA hc1_0
 clear hr1_0 hc1_0
 have HR1_1 := zA hr1_1
 have HC1_1 := zA hc1_1
 clear hr1_1 hc1_1
 have HB := zA (Below.refl w.heap.size w)
 have H : ((zbd.f k l0_0 l0_1 l1_0 l1_1).bind fun bt767 => ((zcj.f bt767.1 bt767.2.1).bind fun t776 => (some t776))) = some r := h
 clear h
 replace H := zO H
 obtain ⟨⟨t767, t770, t773⟩, A30, H⟩ := H
 try dsimp only at H
 have A3 := zA A30
 clear A30
 replace H := zO H
 obtain ⟨t776, A40, H⟩ := H
 try dsimp only at H
 have A4 := zA A40
 clear A40
 obtain rfl := Option.some.inj H
 go_enter Tryd.func35, Tryd.ntmps35
 go_wp2_with (first | ((with_reducible refine zbe (N := 2) rfl ?_); refine zbk ?hg (N := 2) ?hd (cs := #[.slice A0_0 l0_0.length c0_0, .slice A0_1 l0_1.length c0_1]) (t := 28) ?hr ?_; (case hd => rfl); (case hg => rfl); (case hr => first | (go_simp; done) | (go_simp; rfl)); intro gb765 hg w5 hbox hb; have n0_ := zA (zaa (zB HB) hb); have n1_ := zA (hbox); have n2_ := zA ((by rw [hg]; exact (za (zB HB)) : w.heap.size ≤ gb765)); have n3_ := zA ((by rw [hg]; exact (za (zB HB)) : w.heap.size ≤ gb765)); clear HB; have HB := n0_; have BK765 := n1_; have GW765 := n2_; have GE765 := n3_; clear n0_ n1_ n2_ n3_ hb hbox hg) | ((with_reducible refine zbe (N := 3) rfl ?_); refine zbk ?hg (N := 3) ?hd (cs := #[.slice A1_0 l1_0.length c1_0, .slice A1_1 l1_1.length c1_1]) (t := 28) ?hr ?_; (case hd => rfl); (case hg => rfl); (case hr => first | (go_simp; done) | (go_simp; rfl)); intro gb766 hg w6 hbox hb; have n0_ := zA (zac (g := gb765) (o := .cells #[.slice A0_0 l0_0.length c0_0, .slice A0_1 l0_1.length c0_1] 28 (0, 0)) (zK BK765) hb); have n1_ := zA (zaa (zB HB) hb); have n2_ := zA (hbox); have n3_ := zA ((by rw [hg]; exact (za (zB HB)) : w.heap.size ≤ gb766)); have n4_ := zA ((by rw [hg]; exact (za (zB HB)) : w.heap.size ≤ gb766)); have n5_ := zA ((by rw [hg]; exact Nat.ne_of_lt (zay (g := gb765) (o := .cells #[.slice A0_0 l0_0.length c0_0, .slice A0_1 l0_1.length c0_1] 28 (0, 0)) (zK BK765)) : gb765 ≠ gb766)); have n6_ := zA ((by rw [hg]; exact Nat.ne_of_gt (zay (g := gb765) (o := .cells #[.slice A0_0 l0_0.length c0_0, .slice A0_1 l0_1.length c0_1] 28 (0, 0)) (zK BK765)) : gb766 ≠ gb765)); clear BK765 HB; have BK765 := n0_; have HB := n1_; have BK766 := n2_; have GW766 := n3_; have GE766 := n4_; have NB765_766 := n5_; have NB766_765 := n6_; clear n0_ n1_ n2_ n3_ n4_ n5_ n6_ hb hbox hg; have hnb7 := NB765_766.out; have hnc7 := NB766_765.out; have hcz8_0 : w6.cell? ⟨gb765, 0, none⟩ = some (.slice A0_0 l0_0.length c0_0) := (zab BK765.out 0).trans rfl; have hcz8_1 : w6.cell? ⟨gb765, 1, none⟩ = some (.slice A0_1 l0_1.length c0_1) := (zab BK765.out 1).trans rfl; have hfz8_0 := zal BK765.out 0; have hfz8_1 := zal BK765.out 1; have hcz9_0 : w6.cell? ⟨gb766, 0, none⟩ = some (.slice A1_0 l1_0.length c1_0) := (zab BK766.out 0).trans rfl; have hcz9_1 : w6.cell? ⟨gb766, 1, none⟩ = some (.slice A1_1 l1_1.length c1_1) := (zab BK766.out 1).trans rfl; have hfz9_0 := zal BK766.out 0; have hfz9_1 := zal BK766.out 1) | ((with_reducible refine zae (f := 62) rfl ?_); refine za5 (some 11) rfl rfl Tryd.func62 (by kernel_rfl) rfl #[.agg #[.slice A0_0 l0_0.length c0_0, .slice A0_1 l0_1.length c0_1], .agg #[.slice A1_0 l1_0.length c1_0, .slice A1_1 l1_1.length c1_1]] rfl (zE) ?_; (with_reducible refine (zbd.calls k _ _ l0_0 _ _ l0_1 _ _ l1_0 _ _ l1_1 t767 t770 t773 _ ?side1 ?side2 ?side3 ?side4 ?side5 ?side6 ?side7 ?side8 A3.out).mono ?_); (case side1 => exact zJ (Kd.za3 HR0_0.out HB.out)); (case side2 => exact HC0_0.out); (case side3 => exact zJ (Kd.za3 HR0_1.out HB.out)); (case side4 => exact HC0_1.out); (case side5 => exact zJ (Kd.za3 HR1_0.out HB.out)); (case side6 => exact HC1_0.out); (case side7 => exact zJ (Kd.za3 HR1_1.out HB.out)); (case side8 => exact HC1_1.out); rintro e w10 ⟨v768, v771, v774, rfl, ho0, ho1, ho2, hb⟩; refine ⟨_, rfl, ?_⟩; have n0_ := zA (Kd.za6 (Kd.zan (ok' := fun k_ => k_ ≠ gb765 ∧ k_ ≠ gb766) ho0 (fun k_ hk_ => ⟨(Kd.freshB (g := gb765) (o := .cells #[.slice A0_0 l0_0.length c0_0, .slice A0_1 l0_1.length c0_1] 28 (0, 0)) (zK BK765) k_ hk_), (Kd.freshB (g := gb766) (o := .cells #[.slice A1_0 l1_0.length c1_0, .slice A1_1 l1_1.length c1_1] 28 (0, 0)) (zK BK766) k_ hk_)⟩)) (za (zB HB))); have n1_ := zA (Kd.za6 (Kd.zan (ok' := fun k_ => k_ ≠ gb765 ∧ k_ ≠ gb766) ho1 (fun k_ hk_ => ⟨(Kd.freshB (g := gb765) (o := .cells #[.slice A0_0 l0_0.length c0_0, .slice A0_1 l0_1.length c0_1] 28 (0, 0)) (zK BK765) k_ hk_), (Kd.freshB (g := gb766) (o := .cells #[.slice A1_0 l1_0.length c1_0, .slice A1_1 l1_1.length c1_1] 28 (0, 0)) (zK BK766) k_ hk_)⟩)) (za (zB HB))); have n2_ := zA (Kd.za6 (Kd.zan (ok' := fun k_ => k_ ≠ gb765 ∧ k_ ≠ gb766) ho2 (fun k_ hk_ => ⟨(Kd.freshB (g := gb765) (o := .cells #[.slice A0_0 l0_0.length c0_0, .slice A0_1 l0_1.length c0_1] 28 (0, 0)) (zK BK765) k_ hk_), (Kd.freshB (g := gb766) (o := .cells #[.slice A1_0 l1_0.length c1_0, .slice A1_1 l1_1.length c1_1] 28 (0, 0)) (zK BK766) k_ hk_)⟩)) (za (zB HB))); have n3_ := zA (zac (g := gb765) (o := .cells #[.slice A0_0 l0_0.length c0_0, .slice A0_1 l0_1.length c0_1] 28 (0, 0)) (zK BK765) hb); have n4_ := zA (zac (g := gb766) (o := .cells #[.slice A1_0 l1_0.length c1_0, .slice A1_1 l1_1.length c1_1] 28 (0, 0)) (zK BK766) hb); have n5_ := zA (zaa (zB HB) hb); clear BK765 BK766 HB; have HO769 := n0_; have HO772 := n1_; have HO775 := n2_; have BK765 := n3_; have BK766 := n4_; have HB := n5_; clear n0_ n1_ n2_ n3_ n4_ n5_; (try clear hb); (try clear hb2); (try clear hk); (try clear hi); (try clear ho0); (try clear ho1); (try clear ho2); obtain ⟨Ao11, co11, eo11⟩ := Kd.za7 HO769.out; subst eo11; obtain ⟨Ao12, co12, eo12⟩ := Kd.za7 HO772.out; subst eo12) | ((with_reducible refine zae (f := 52) rfl ?_); refine za5 (some 17) rfl rfl Tryd.func52 (by kernel_rfl) rfl #[.slice Ao11 t767.length co11, .slice Ao12 t770.length co12] rfl (zE) ?_; (with_reducible refine (zcj.calls _ _ t767 _ _ t770 t776 _ ?side1 ?side2 ?side3 ?side4 A4.out).mono ?_); (case side1 => exact zJ (Kd.zaq HO769.out).2.2); (case side2 => exact (Kd.zaq HO769.out).2.1); (case side3 => exact zJ (Kd.zaq HO772.out).2.2); (case side4 => exact (Kd.zaq HO772.out).2.1); rintro e w13 ⟨rfl, hb⟩; refine ⟨_, rfl, ?_⟩; have n0_ := zA (Kd.zaw (zV HO769) hb); have n1_ := zA (Kd.zaw (zV HO772) hb); have n2_ := zA (Kd.zaw (zV HO775) hb); have n3_ := zA (zac (g := gb765) (o := .cells #[.slice A0_0 l0_0.length c0_0, .slice A0_1 l0_1.length c0_1] 28 (0, 0)) (zK BK765) hb); have n4_ := zA (zac (g := gb766) (o := .cells #[.slice A1_0 l1_0.length c1_0, .slice A1_1 l1_1.length c1_1] 28 (0, 0)) (zK BK766) hb); have n5_ := zA (zaa (zB HB) hb); clear HO769 HO772 HO775 BK765 BK766 HB; have HO769 := n0_; have HO772 := n1_; have HO775 := n2_; have BK765 := n3_; have BK766 := n4_; have HB := n5_; clear n0_ n1_ n2_ n3_ n4_ n5_; (try clear hb); (try clear hb2); (try clear hk); (try clear hi)))
 go_ret
 exact ⟨zW, zB HB⟩
def nat_Sub.f (k : Nat) (l0 : List Int) (l1 : List Int) : Option (List Int × Int) := (zcj.f l0 l1).bind fun t705 => (if t705 < 0 then (some (([] : List Int), 14)) else ((zbb.f k l0 l1).bind fun t706 => (some (t706, 0))))
theorem nat_Sub.calls (k : Nat) (A0 : Option Addr) (c0 : Nat) (l0 : List Int) (A1 : Option Addr) (c1 : Nat) (l1 : List Int) (r1 : List Int) (r2 : Int) (w : World) (hr0 : Kd.C (Kd.int .u64) w A0 l0.length l0) (hc0 : l0.length ≤ c0) (hr1 : Kd.C (Kd.int .u64) w A1 l1.length l1) (hc1 : l1.length ≤ c1) (h : nat_Sub.f k l0 l1 = some (r1, r2)) :
  Calls Tryd.prog 63 #[.slice A0 l0.length c0, .slice A1 l1.length c1] w fun e w' => ∃ v0_ : Value, e = .returned (.tuple #[v0_, .int .i64 r2]) ∧ Kd.V (Kd.int .u64) 57 w' w.heap.size (fun k_ => (w.heap.size ≤ k_)) v0_ r1 ∧ Below w.heap.size w w' := by
 have HR0 := zA hr0
 have HC0 := zA hc0
 clear hr0 hc0
 have HR1 := zA hr1
 have HC1 := zA hc1
 clear hr1 hc1
 have HB := zA (Below.refl w.heap.size w)
 have H : ((zcj.f l0 l1).bind fun t705 => (if t705 < 0 then (some (([] : List Int), 14)) else ((zbb.f k l0 l1).bind fun t706 => (some (t706, 0))))) = some (r1, r2) := h
 clear h
 replace H := zO H
 obtain ⟨t705, A30, H⟩ := H
 try dsimp only at H
 have A3 := zA A30
 clear A30
 by_cases c4 : t705 < 0
 ·
  rw [if_pos c4] at H
  have c4b0 : decide (t705 < 0) = true := decide_eq_true c4
  clear c4
  simp only [Option.some.injEq, Prod.mk.injEq] at H
  obtain ⟨rfl, rfl⟩ := H
  go_enter Tryd.func63, Tryd.ntmps63
  go_wp2_with (first | ((with_reducible refine zae (f := 52) rfl ?_); refine za5 (some 8) rfl rfl Tryd.func52 (by kernel_rfl) rfl #[.slice A0 l0.length c0, .slice A1 l1.length c1] rfl (zE) ?_; (with_reducible refine (zcj.calls _ _ l0 _ _ l1 t705 _ ?side1 ?side2 ?side3 ?side4 A3.out).mono ?_); (case side1 => repeat (first | exact HR0.out | (with_reducible refine Kd.C_alloc ?_ _) | (with_reducible refine Kd.C_drewN ?_ _) | (with_reducible refine Kd.C_drew ?_))); (case side2 => exact HC0.out); (case side3 => repeat (first | exact HR1.out | (with_reducible refine Kd.C_alloc ?_ _) | (with_reducible refine Kd.C_drewN ?_ _) | (with_reducible refine Kd.C_drew ?_))); (case side4 => exact HC1.out); rintro e w5 ⟨rfl, hb⟩; refine ⟨_, rfl, ?_⟩; have n0_ := zA (zaa (zB HB) hb); clear HB; have HB := n0_; clear n0_; (try clear hb); (try clear hb2); (try clear hk); (try clear hi)))
  go_ret2
  exact ⟨_, zW, Kd.V_nil _ _ _ _ _, zB HB⟩
 ·
  rw [if_neg c4] at H
  have c4b0 : decide (t705 < 0) = false := decide_eq_false c4
  clear c4
  replace H := zO H
  obtain ⟨t706, A60, H⟩ := H
  try dsimp only at H
  have A6 := zA A60
  clear A60
  simp only [Option.some.injEq, Prod.mk.injEq] at H
  obtain ⟨rfl, rfl⟩ := H
  go_enter Tryd.func63, Tryd.ntmps63
  go_wp2_with (first | ((with_reducible refine zae (f := 52) rfl ?_); refine za5 (some 8) rfl rfl Tryd.func52 (by kernel_rfl) rfl #[.slice A0 l0.length c0, .slice A1 l1.length c1] rfl (zE) ?_; (with_reducible refine (zcj.calls _ _ l0 _ _ l1 t705 _ ?side1 ?side2 ?side3 ?side4 A3.out).mono ?_); (case side1 => repeat (first | exact HR0.out | (with_reducible refine Kd.C_alloc ?_ _) | (with_reducible refine Kd.C_drewN ?_ _) | (with_reducible refine Kd.C_drew ?_))); (case side2 => exact HC0.out); (case side3 => repeat (first | exact HR1.out | (with_reducible refine Kd.C_alloc ?_ _) | (with_reducible refine Kd.C_drewN ?_ _) | (with_reducible refine Kd.C_drew ?_))); (case side4 => exact HC1.out); rintro e w7 ⟨rfl, hb⟩; refine ⟨_, rfl, ?_⟩; have n0_ := zA (zaa (zB HB) hb); clear HB; have HB := n0_; clear n0_; (try clear hb); (try clear hb2); (try clear hk); (try clear hi)) | ((with_reducible refine zae (f := 86) rfl ?_); refine za5 (some 12) rfl rfl Tryd.func86 (by kernel_rfl) rfl #[.slice A0 l0.length c0, .slice A1 l1.length c1] rfl (zE) ?_; (with_reducible refine (zbb.calls k _ _ l0 _ _ l1 t706 _ ?side1 ?side2 ?side3 ?side4 A6.out).mono ?_); (case side1 => exact zJ (Kd.za3 HR0.out HB.out)); (case side2 => exact HC0.out); (case side3 => exact zJ (Kd.za3 HR1.out HB.out)); (case side4 => exact HC1.out); rintro e w8 ⟨v707, rfl, ho0, hb⟩; refine ⟨_, rfl, ?_⟩; have n0_ := zA (Kd.za6 (Kd.zan (ok' := fun k_ => (w.heap.size ≤ k_)) ho0 (fun k_ hk_ => (Nat.le_trans (za (zB HB)) hk_))) (za (zB HB))); have n1_ := zA (zaa (zB HB) hb); clear HB; have HO708 := n0_; have HB := n1_; clear n0_ n1_; (try clear hb); (try clear hb2); (try clear hk); (try clear hi); (try clear ho0)))
  go_ret2
  exact ⟨_, zW, zV HO708, zB HB⟩
def ratio_Sub.f (k : Nat) (l0_0 : List Int) (l0_1 : List Int) (l1_0 : List Int) (l1_1 : List Int) : Option (List Int × List Int × Int) := (zbd.f k l0_0 l0_1 l1_0 l1_1).bind fun bt712 => ((nat_Sub.f k bt712.1 bt712.2.1).bind fun bt721 => (if bt721.2 = 0 then ((zbh.f k bt721.1 bt712.2.2).bind fun bt725 => (some (bt725.1, bt725.2, 0))) else (some (([] : List Int), ([] : List Int), bt721.2))))
theorem ratio_Sub.calls (k : Nat) (A0_0 : Option Addr) (c0_0 : Nat) (l0_0 : List Int) (A0_1 : Option Addr) (c0_1 : Nat) (l0_1 : List Int) (A1_0 : Option Addr) (c1_0 : Nat) (l1_0 : List Int) (A1_1 : Option Addr) (c1_1 : Nat) (l1_1 : List Int) (r1 : List Int) (r2 : List Int) (r3 : Int) (w : World) (hr0_0 : Kd.C (Kd.int .u64) w A0_0 l0_0.length l0_0) (hc0_0 : l0_0.length ≤ c0_0) (hr0_1 : Kd.C (Kd.int .u64) w A0_1 l0_1.length l0_1) (hc0_1 : l0_1.length ≤ c0_1) (hr1_0 : Kd.C (Kd.int .u64) w A1_0 l1_0.length l1_0) (hc1_0 : l1_0.length ≤ c1_0) (hr1_1 : Kd.C (Kd.int .u64) w A1_1 l1_1.length l1_1) (hc1_1 : l1_1.length ≤ c1_1) (h : ratio_Sub.f k l0_0 l0_1 l1_0 l1_1 = some (r1, r2, r3)) :
  Calls Tryd.prog 33 #[.agg #[.slice A0_0 l0_0.length c0_0, .slice A0_1 l0_1.length c0_1], .agg #[.slice A1_0 l1_0.length c1_0, .slice A1_1 l1_1.length c1_1]] w fun e w' => ∃ v0_ v1_ : Value, e = .returned (.tuple #[.agg #[v0_, v1_], .int .i64 r3]) ∧ Kd.V (Kd.int .u64) 57 w' w.heap.size (fun k_ => (w.heap.size ≤ k_)) v0_ r1 ∧ Kd.V (Kd.int .u64) 57 w' w.heap.size (fun k_ => (w.heap.size ≤ k_)) v1_ r2 ∧ Below w.heap.size w w' := by
 have hu28 := Tryd.underlying28
 have HR0_0 := zA hr0_0
 have HC0_0 := zA hc0_0
 clear hr0_0 hc0_0
 have HR0_1 := zA hr0_1
 have HC0_1 := zA hc0_1
 clear hr0_1 hc0_1
 have HR1_0 := zA hr1_0
 have HC1_0 := zA hc1_0
 clear hr1_0 hc1_0
 have HR1_1 := zA hr1_1
 have HC1_1 := zA hc1_1
 clear hr1_1 hc1_1
 have HB := zA (Below.refl w.heap.size w)
 have H : ((zbd.f k l0_0 l0_1 l1_0 l1_1).bind fun bt712 => ((nat_Sub.f k bt712.1 bt712.2.1).bind fun bt721 => (if bt721.2 = 0 then ((zbh.f k bt721.1 bt712.2.2).bind fun bt725 => (some (bt725.1, bt725.2, 0))) else (some (([] : List Int), ([] : List Int), bt721.2))))) = some (r1, r2, r3) := h
 clear h
 replace H := zO H
 obtain ⟨⟨t712, t715, t718⟩, A30, H⟩ := H
 try dsimp only at H
 have A3 := zA A30
 clear A30
 replace H := zO H
 obtain ⟨⟨t721, t724⟩, A40, H⟩ := H
 try dsimp only at H
 have A4 := zA A40
 clear A40
 by_cases c5 : t724 = 0
 ·
  rw [if_pos c5] at H
  have c5b0 : (t724 == 0) = true := beq_iff_eq.mpr c5
  have c5b1 : (t724 != 0) = false := bne_eq_false_iff_eq.mpr c5
  clear c5
  replace H := zO H
  obtain ⟨⟨t725, t728⟩, A60, H⟩ := H
  try dsimp only at H
  have A6 := zA A60
  clear A60
  simp only [Option.some.injEq, Prod.mk.injEq] at H
  obtain ⟨rfl, rfl, rfl⟩ := H
  go_enter Tryd.func33, Tryd.ntmps33
  go_wp2_with (first | ((with_reducible refine zbe (N := 2) rfl ?_); refine zbk ?hg (N := 2) ?hd (cs := #[.slice A0_0 l0_0.length c0_0, .slice A0_1 l0_1.length c0_1]) (t := 28) ?hr ?_; (case hd => rfl); (case hg => rfl); (case hr => first | (go_simp; done) | (go_simp; rfl)); intro gb709 hg w7 hbox hb; have n0_ := zA (zaa (zB HB) hb); have n1_ := zA (hbox); have n2_ := zA ((by rw [hg]; exact (za (zB HB)) : w.heap.size ≤ gb709)); have n3_ := zA ((by rw [hg]; exact (za (zB HB)) : w.heap.size ≤ gb709)); clear HB; have HB := n0_; have BK709 := n1_; have GW709 := n2_; have GE709 := n3_; clear n0_ n1_ n2_ n3_ hb hbox hg) | ((with_reducible refine zbe (N := 3) rfl ?_); refine zbk ?hg (N := 3) ?hd (cs := #[.slice A1_0 l1_0.length c1_0, .slice A1_1 l1_1.length c1_1]) (t := 28) ?hr ?_; (case hd => rfl); (case hg => rfl); (case hr => first | (go_simp; done) | (go_simp; rfl)); intro gb710 hg w8 hbox hb; have n0_ := zA (zac (g := gb709) (o := .cells #[.slice A0_0 l0_0.length c0_0, .slice A0_1 l0_1.length c0_1] 28 (0, 0)) (zK BK709) hb); have n1_ := zA (zaa (zB HB) hb); have n2_ := zA (hbox); have n3_ := zA ((by rw [hg]; exact (za (zB HB)) : w.heap.size ≤ gb710)); have n4_ := zA ((by rw [hg]; exact (za (zB HB)) : w.heap.size ≤ gb710)); have n5_ := zA ((by rw [hg]; exact Nat.ne_of_lt (zay (g := gb709) (o := .cells #[.slice A0_0 l0_0.length c0_0, .slice A0_1 l0_1.length c0_1] 28 (0, 0)) (zK BK709)) : gb709 ≠ gb710)); have n6_ := zA ((by rw [hg]; exact Nat.ne_of_gt (zay (g := gb709) (o := .cells #[.slice A0_0 l0_0.length c0_0, .slice A0_1 l0_1.length c0_1] 28 (0, 0)) (zK BK709)) : gb710 ≠ gb709)); clear BK709 HB; have BK709 := n0_; have HB := n1_; have BK710 := n2_; have GW710 := n3_; have GE710 := n4_; have NB709_710 := n5_; have NB710_709 := n6_; clear n0_ n1_ n2_ n3_ n4_ n5_ n6_ hb hbox hg) | ((with_reducible refine zbe (N := 4) rfl ?_); refine zbk ?hg (N := 4) ?hd (cs := #[.slice none 0 0, .slice none 0 0]) (t := 28) ?hr ?_; (case hd => rfl); (case hg => rfl); (case hr => first | (go_simp; done) | (go_simp; rfl)); intro gb711 hg w9 hbox hb; have n0_ := zA (zac (g := gb709) (o := .cells #[.slice A0_0 l0_0.length c0_0, .slice A0_1 l0_1.length c0_1] 28 (0, 0)) (zK BK709) hb); have n1_ := zA (zac (g := gb710) (o := .cells #[.slice A1_0 l1_0.length c1_0, .slice A1_1 l1_1.length c1_1] 28 (0, 0)) (zK BK710) hb); have n2_ := zA (zaa (zB HB) hb); have n3_ := zA (hbox); have n4_ := zA ((by rw [hg]; exact (za (zB HB)) : w.heap.size ≤ gb711)); have n5_ := zA ((by rw [hg]; exact (za (zB HB)) : w.heap.size ≤ gb711)); have n6_ := zA ((by rw [hg]; exact Nat.ne_of_lt (zay (g := gb709) (o := .cells #[.slice A0_0 l0_0.length c0_0, .slice A0_1 l0_1.length c0_1] 28 (0, 0)) (zK BK709)) : gb709 ≠ gb711)); have n7_ := zA ((by rw [hg]; exact Nat.ne_of_gt (zay (g := gb709) (o := .cells #[.slice A0_0 l0_0.length c0_0, .slice A0_1 l0_1.length c0_1] 28 (0, 0)) (zK BK709)) : gb711 ≠ gb709)); have n8_ := zA ((by rw [hg]; exact Nat.ne_of_lt (zay (g := gb710) (o := .cells #[.slice A1_0 l1_0.length c1_0, .slice A1_1 l1_1.length c1_1] 28 (0, 0)) (zK BK710)) : gb710 ≠ gb711)); have n9_ := zA ((by rw [hg]; exact Nat.ne_of_gt (zay (g := gb710) (o := .cells #[.slice A1_0 l1_0.length c1_0, .slice A1_1 l1_1.length c1_1] 28 (0, 0)) (zK BK710)) : gb711 ≠ gb710)); clear BK709 BK710 HB; have BK709 := n0_; have BK710 := n1_; have HB := n2_; have BK711 := n3_; have GW711 := n4_; have GE711 := n5_; have NB709_711 := n6_; have NB711_709 := n7_; have NB710_711 := n8_; have NB711_710 := n9_; clear n0_ n1_ n2_ n3_ n4_ n5_ n6_ n7_ n8_ n9_ hb hbox hg; have hnb10 := NB709_710.out; have hnc10 := NB710_709.out; have hnb11 := NB709_711.out; have hnc11 := NB711_709.out; have hcz12_0 : w9.cell? ⟨gb709, 0, none⟩ = some (.slice A0_0 l0_0.length c0_0) := (zab BK709.out 0).trans rfl; have hcz12_1 : w9.cell? ⟨gb709, 1, none⟩ = some (.slice A0_1 l0_1.length c0_1) := (zab BK709.out 1).trans rfl; have hfz12_0 := zal BK709.out 0; have hfz12_1 := zal BK709.out 1; have hnb13 := NB710_711.out; have hnc13 := NB711_710.out; have hcz14_0 : w9.cell? ⟨gb710, 0, none⟩ = some (.slice A1_0 l1_0.length c1_0) := (zab BK710.out 0).trans rfl; have hcz14_1 : w9.cell? ⟨gb710, 1, none⟩ = some (.slice A1_1 l1_1.length c1_1) := (zab BK710.out 1).trans rfl; have hfz14_0 := zal BK710.out 0; have hfz14_1 := zal BK710.out 1) | ((with_reducible refine zae (f := 62) rfl ?_); refine za5 (some 14) rfl rfl Tryd.func62 (by kernel_rfl) rfl #[.agg #[.slice A0_0 l0_0.length c0_0, .slice A0_1 l0_1.length c0_1], .agg #[.slice A1_0 l1_0.length c1_0, .slice A1_1 l1_1.length c1_1]] rfl (zE) ?_; (with_reducible refine (zbd.calls k _ _ l0_0 _ _ l0_1 _ _ l1_0 _ _ l1_1 t712 t715 t718 _ ?side1 ?side2 ?side3 ?side4 ?side5 ?side6 ?side7 ?side8 A3.out).mono ?_); (case side1 => exact zJ (Kd.za3 HR0_0.out HB.out)); (case side2 => exact HC0_0.out); (case side3 => exact zJ (Kd.za3 HR0_1.out HB.out)); (case side4 => exact HC0_1.out); (case side5 => exact zJ (Kd.za3 HR1_0.out HB.out)); (case side6 => exact HC1_0.out); (case side7 => exact zJ (Kd.za3 HR1_1.out HB.out)); (case side8 => exact HC1_1.out); rintro e w15 ⟨v713, v716, v719, rfl, ho0, ho1, ho2, hb⟩; refine ⟨_, rfl, ?_⟩; have n0_ := zA (Kd.za6 (Kd.zan (ok' := fun k_ => (w.heap.size ≤ k_) ∧ k_ ≠ gb709 ∧ k_ ≠ gb710 ∧ k_ ≠ gb711) ho0 (fun k_ hk_ => ⟨(Nat.le_trans (za (zB HB)) hk_), (Kd.freshB (g := gb709) (o := .cells #[.slice A0_0 l0_0.length c0_0, .slice A0_1 l0_1.length c0_1] 28 (0, 0)) (zK BK709) k_ hk_), (Kd.freshB (g := gb710) (o := .cells #[.slice A1_0 l1_0.length c1_0, .slice A1_1 l1_1.length c1_1] 28 (0, 0)) (zK BK710) k_ hk_), (Kd.freshB (g := gb711) (o := .cells #[.slice none 0 0, .slice none 0 0] 28 (0, 0)) (zK BK711) k_ hk_)⟩)) (za (zB HB))); have n1_ := zA (Kd.za6 (Kd.zan (ok' := fun k_ => (w.heap.size ≤ k_) ∧ k_ ≠ gb709 ∧ k_ ≠ gb710 ∧ k_ ≠ gb711) ho1 (fun k_ hk_ => ⟨(Nat.le_trans (za (zB HB)) hk_), (Kd.freshB (g := gb709) (o := .cells #[.slice A0_0 l0_0.length c0_0, .slice A0_1 l0_1.length c0_1] 28 (0, 0)) (zK BK709) k_ hk_), (Kd.freshB (g := gb710) (o := .cells #[.slice A1_0 l1_0.length c1_0, .slice A1_1 l1_1.length c1_1] 28 (0, 0)) (zK BK710) k_ hk_), (Kd.freshB (g := gb711) (o := .cells #[.slice none 0 0, .slice none 0 0] 28 (0, 0)) (zK BK711) k_ hk_)⟩)) (za (zB HB))); have n2_ := zA (Kd.za6 (Kd.zan (ok' := fun k_ => (w.heap.size ≤ k_) ∧ k_ ≠ gb709 ∧ k_ ≠ gb710 ∧ k_ ≠ gb711) ho2 (fun k_ hk_ => ⟨(Nat.le_trans (za (zB HB)) hk_), (Kd.freshB (g := gb709) (o := .cells #[.slice A0_0 l0_0.length c0_0, .slice A0_1 l0_1.length c0_1] 28 (0, 0)) (zK BK709) k_ hk_), (Kd.freshB (g := gb710) (o := .cells #[.slice A1_0 l1_0.length c1_0, .slice A1_1 l1_1.length c1_1] 28 (0, 0)) (zK BK710) k_ hk_), (Kd.freshB (g := gb711) (o := .cells #[.slice none 0 0, .slice none 0 0] 28 (0, 0)) (zK BK711) k_ hk_)⟩)) (za (zB HB))); have n3_ := zA (zac (g := gb709) (o := .cells #[.slice A0_0 l0_0.length c0_0, .slice A0_1 l0_1.length c0_1] 28 (0, 0)) (zK BK709) hb); have n4_ := zA (zac (g := gb710) (o := .cells #[.slice A1_0 l1_0.length c1_0, .slice A1_1 l1_1.length c1_1] 28 (0, 0)) (zK BK710) hb); have n5_ := zA (zac (g := gb711) (o := .cells #[.slice none 0 0, .slice none 0 0] 28 (0, 0)) (zK BK711) hb); have n6_ := zA (zaa (zB HB) hb); clear BK709 BK710 BK711 HB; have HO714 := n0_; have HO717 := n1_; have HO720 := n2_; have BK709 := n3_; have BK710 := n4_; have BK711 := n5_; have HB := n6_; clear n0_ n1_ n2_ n3_ n4_ n5_ n6_; (try clear hb); (try clear hb2); (try clear hk); (try clear hi); (try clear ho0); (try clear ho1); (try clear ho2); obtain ⟨Ao16, co16, eo16⟩ := Kd.za7 HO714.out; subst eo16; obtain ⟨Ao17, co17, eo17⟩ := Kd.za7 HO717.out; subst eo17) | ((with_reducible refine zae (f := 63) rfl ?_); refine za5 (some 21) rfl rfl Tryd.func63 (by kernel_rfl) rfl #[.slice Ao16 t712.length co16, .slice Ao17 t715.length co17] rfl (zE) ?_; (with_reducible refine (nat_Sub.calls k _ _ t712 _ _ t715 t721 t724 _ ?side1 ?side2 ?side3 ?side4 A4.out).mono ?_); (case side1 => exact zJ (Kd.zaq HO714.out).2.2); (case side2 => exact (Kd.zaq HO714.out).2.1); (case side3 => exact zJ (Kd.zaq HO717.out).2.2); (case side4 => exact (Kd.zaq HO717.out).2.1); rintro e w18 ⟨v722, rfl, ho0, hb⟩; refine ⟨_, rfl, ?_⟩; have n0_ := zA (Kd.zaw (zV HO714) hb); have n1_ := zA (Kd.zaw (zV HO717) hb); have n2_ := zA (Kd.zaw (zV HO720) hb); have n3_ := zA (Kd.za6 (Kd.zan (ok' := fun k_ => (w.heap.size ≤ k_) ∧ k_ ≠ gb709 ∧ k_ ≠ gb710 ∧ k_ ≠ gb711) ho0 (fun k_ hk_ => ⟨(Nat.le_trans (za (zB HB)) hk_), (Kd.freshB (g := gb709) (o := .cells #[.slice A0_0 l0_0.length c0_0, .slice A0_1 l0_1.length c0_1] 28 (0, 0)) (zK BK709) k_ hk_), (Kd.freshB (g := gb710) (o := .cells #[.slice A1_0 l1_0.length c1_0, .slice A1_1 l1_1.length c1_1] 28 (0, 0)) (zK BK710) k_ hk_), (Kd.freshB (g := gb711) (o := .cells #[.slice none 0 0, .slice none 0 0] 28 (0, 0)) (zK BK711) k_ hk_)⟩)) (za (zB HB))); have n4_ := zA (zac (g := gb709) (o := .cells #[.slice A0_0 l0_0.length c0_0, .slice A0_1 l0_1.length c0_1] 28 (0, 0)) (zK BK709) hb); have n5_ := zA (zac (g := gb710) (o := .cells #[.slice A1_0 l1_0.length c1_0, .slice A1_1 l1_1.length c1_1] 28 (0, 0)) (zK BK710) hb); have n6_ := zA (zac (g := gb711) (o := .cells #[.slice none 0 0, .slice none 0 0] 28 (0, 0)) (zK BK711) hb); have n7_ := zA (zaa (zB HB) hb); clear HO714 HO717 HO720 BK709 BK710 BK711 HB; have HO714 := n0_; have HO717 := n1_; have HO720 := n2_; have HO723 := n3_; have BK709 := n4_; have BK710 := n5_; have BK711 := n6_; have HB := n7_; clear n0_ n1_ n2_ n3_ n4_ n5_ n6_ n7_; (try clear hb); (try clear hb2); (try clear hk); (try clear hi); (try clear ho0); obtain ⟨Ao19, co19, eo19⟩ := Kd.za7 HO723.out; subst eo19; obtain ⟨Ao20, co20, eo20⟩ := Kd.za7 HO720.out; subst eo20) | ((with_reducible refine zae (f := 58) rfl ?_); refine za5 (some 30) rfl rfl Tryd.func58 (by kernel_rfl) rfl #[.slice Ao19 t721.length co19, .slice Ao20 t718.length co20] rfl (zE) ?_; (with_reducible refine (zbh.calls k _ _ t721 _ _ t718 t725 t728 _ ?side1 ?side2 ?side3 ?side4 A6.out).mono ?_); (case side1 => exact zJ (Kd.zaq HO723.out).2.2); (case side2 => exact (Kd.zaq HO723.out).2.1); (case side3 => exact zJ (Kd.zaq HO720.out).2.2); (case side4 => exact (Kd.zaq HO720.out).2.1); rintro e w21 ⟨v726, v729, rfl, ho0, ho1, hb⟩; refine ⟨_, rfl, ?_⟩; have n0_ := zA (Kd.zaw (zV HO714) hb); have n1_ := zA (Kd.zaw (zV HO717) hb); have n2_ := zA (Kd.zaw (zV HO720) hb); have n3_ := zA (Kd.zaw (zV HO723) hb); have n4_ := zA (Kd.za6 (Kd.zan (ok' := fun k_ => (w.heap.size ≤ k_) ∧ k_ ≠ gb709 ∧ k_ ≠ gb710 ∧ k_ ≠ gb711) ho0 (fun k_ hk_ => ⟨(Nat.le_trans (za (zB HB)) hk_), (Kd.freshB (g := gb709) (o := .cells #[.slice A0_0 l0_0.length c0_0, .slice A0_1 l0_1.length c0_1] 28 (0, 0)) (zK BK709) k_ hk_), (Kd.freshB (g := gb710) (o := .cells #[.slice A1_0 l1_0.length c1_0, .slice A1_1 l1_1.length c1_1] 28 (0, 0)) (zK BK710) k_ hk_), (Kd.freshB (g := gb711) (o := .cells #[.slice none 0 0, .slice none 0 0] 28 (0, 0)) (zK BK711) k_ hk_)⟩)) (za (zB HB))); have n5_ := zA (Kd.za6 (Kd.zan (ok' := fun k_ => (w.heap.size ≤ k_) ∧ k_ ≠ gb709 ∧ k_ ≠ gb710 ∧ k_ ≠ gb711) ho1 (fun k_ hk_ => ⟨(Nat.le_trans (za (zB HB)) hk_), (Kd.freshB (g := gb709) (o := .cells #[.slice A0_0 l0_0.length c0_0, .slice A0_1 l0_1.length c0_1] 28 (0, 0)) (zK BK709) k_ hk_), (Kd.freshB (g := gb710) (o := .cells #[.slice A1_0 l1_0.length c1_0, .slice A1_1 l1_1.length c1_1] 28 (0, 0)) (zK BK710) k_ hk_), (Kd.freshB (g := gb711) (o := .cells #[.slice none 0 0, .slice none 0 0] 28 (0, 0)) (zK BK711) k_ hk_)⟩)) (za (zB HB))); have n6_ := zA (zac (g := gb709) (o := .cells #[.slice A0_0 l0_0.length c0_0, .slice A0_1 l0_1.length c0_1] 28 (0, 0)) (zK BK709) hb); have n7_ := zA (zac (g := gb710) (o := .cells #[.slice A1_0 l1_0.length c1_0, .slice A1_1 l1_1.length c1_1] 28 (0, 0)) (zK BK710) hb); have n8_ := zA (zac (g := gb711) (o := .cells #[.slice none 0 0, .slice none 0 0] 28 (0, 0)) (zK BK711) hb); have n9_ := zA (zaa (zB HB) hb); clear HO714 HO717 HO720 HO723 BK709 BK710 BK711 HB; have HO714 := n0_; have HO717 := n1_; have HO720 := n2_; have HO723 := n3_; have HO727 := n4_; have HO730 := n5_; have BK709 := n6_; have BK710 := n7_; have BK711 := n8_; have HB := n9_; clear n0_ n1_ n2_ n3_ n4_ n5_ n6_ n7_ n8_ n9_; (try clear hb); (try clear hb2); (try clear hk); (try clear hi); (try clear ho0); (try clear ho1); obtain ⟨Ao22, co22, eo22⟩ := Kd.za7 HO727.out; subst eo22; have hcz23_0 : w21.cell? ⟨gb711, 0, none⟩ = some (.slice none 0 0) := (zab BK711.out 0).trans rfl; have hcz23_1 : w21.cell? ⟨gb711, 1, none⟩ = some (.slice none 0 0) := (zab BK711.out 1).trans rfl; have hfz23_0 := zal BK711.out 0; have hfz23_1 := zal BK711.out 1; obtain ⟨Ao24, co24, eo24⟩ := Kd.za7 HO730.out; subst eo24))
  refine bodyPost_ret (results_ct rfl _ _ gb711 28 #[.slice Ao22 t725.length co22, .slice Ao24 t728.length co24] (0, 0) _ rfl (by (with_reducible repeat (first | refine zau ?_ _ | refine zat ?_ | refine zar ?_ _)); refine zb1 (cs := #[.slice Ao22 t725.length co22, .slice none 0 0]) ?_ 1 _ rfl; (with_reducible repeat (first | refine zau ?_ _ | refine zat ?_ | refine zar ?_ _)); refine zb1 (cs := #[.slice none 0 0, .slice none 0 0]) ?_ 0 _ rfl; (with_reducible repeat (first | refine zau ?_ _ | refine zat ?_ | refine zar ?_ _)); exact BK711.out) Tryd.underlying28 rfl (by kernel_rfl)) rfl ?_
  exact ⟨_, _, zW, by (with_reducible repeat (first | apply Kd.zbv | apply Kd.zbw | apply Kd.zb3)); exact Kd.zan (Kd.V_far (p := ⟨gb711, 1, none⟩) (Kd.V_far (p := ⟨gb711, 0, none⟩) (Kd.zan HO727.out (fun k_ hk => (⟨hk, hk.2.2.2⟩ : _ ∧ k_ ≠ gb711))) (fun _ hk => hk.2) (.slice Ao22 t725.length co22)) (fun _ hk => hk.2) (.slice Ao24 t728.length co24)) (fun _ hk => hk.1.1), by (with_reducible repeat (first | apply Kd.zbv | apply Kd.zbw | apply Kd.zb3)); exact Kd.zan (Kd.V_far (p := ⟨gb711, 1, none⟩) (Kd.V_far (p := ⟨gb711, 0, none⟩) (Kd.zan HO730.out (fun k_ hk => (⟨hk, hk.2.2.2⟩ : _ ∧ k_ ≠ gb711))) (fun _ hk => hk.2) (.slice Ao22 t725.length co22)) (fun _ hk => hk.2) (.slice Ao24 t728.length co24)) (fun _ hk => hk.1.1), zB HB⟩
 ·
  rw [if_neg c5] at H
  have c5b0 : (t724 == 0) = false := beq_eq_false_iff_ne.mpr c5
  have c5b1 : (t724 != 0) = true := bne_iff_ne.mpr c5
  simp only [Option.some.injEq, Prod.mk.injEq] at H
  obtain ⟨rfl, rfl, rfl⟩ := H
  go_enter Tryd.func33, Tryd.ntmps33
  go_wp2_with (first | ((with_reducible refine zbe (N := 2) rfl ?_); refine zbk ?hg (N := 2) ?hd (cs := #[.slice A0_0 l0_0.length c0_0, .slice A0_1 l0_1.length c0_1]) (t := 28) ?hr ?_; (case hd => rfl); (case hg => rfl); (case hr => first | (go_simp; done) | (go_simp; rfl)); intro gb709 hg w25 hbox hb; have n0_ := zA (zaa (zB HB) hb); have n1_ := zA (hbox); have n2_ := zA ((by rw [hg]; exact (za (zB HB)) : w.heap.size ≤ gb709)); have n3_ := zA ((by rw [hg]; exact (za (zB HB)) : w.heap.size ≤ gb709)); clear HB; have HB := n0_; have BK709 := n1_; have GW709 := n2_; have GE709 := n3_; clear n0_ n1_ n2_ n3_ hb hbox hg) | ((with_reducible refine zbe (N := 3) rfl ?_); refine zbk ?hg (N := 3) ?hd (cs := #[.slice A1_0 l1_0.length c1_0, .slice A1_1 l1_1.length c1_1]) (t := 28) ?hr ?_; (case hd => rfl); (case hg => rfl); (case hr => first | (go_simp; done) | (go_simp; rfl)); intro gb710 hg w26 hbox hb; have n0_ := zA (zac (g := gb709) (o := .cells #[.slice A0_0 l0_0.length c0_0, .slice A0_1 l0_1.length c0_1] 28 (0, 0)) (zK BK709) hb); have n1_ := zA (zaa (zB HB) hb); have n2_ := zA (hbox); have n3_ := zA ((by rw [hg]; exact (za (zB HB)) : w.heap.size ≤ gb710)); have n4_ := zA ((by rw [hg]; exact (za (zB HB)) : w.heap.size ≤ gb710)); have n5_ := zA ((by rw [hg]; exact Nat.ne_of_lt (zay (g := gb709) (o := .cells #[.slice A0_0 l0_0.length c0_0, .slice A0_1 l0_1.length c0_1] 28 (0, 0)) (zK BK709)) : gb709 ≠ gb710)); have n6_ := zA ((by rw [hg]; exact Nat.ne_of_gt (zay (g := gb709) (o := .cells #[.slice A0_0 l0_0.length c0_0, .slice A0_1 l0_1.length c0_1] 28 (0, 0)) (zK BK709)) : gb710 ≠ gb709)); clear BK709 HB; have BK709 := n0_; have HB := n1_; have BK710 := n2_; have GW710 := n3_; have GE710 := n4_; have NB709_710 := n5_; have NB710_709 := n6_; clear n0_ n1_ n2_ n3_ n4_ n5_ n6_ hb hbox hg) | ((with_reducible refine zbe (N := 4) rfl ?_); refine zbk ?hg (N := 4) ?hd (cs := #[.slice none 0 0, .slice none 0 0]) (t := 28) ?hr ?_; (case hd => rfl); (case hg => rfl); (case hr => first | (go_simp; done) | (go_simp; rfl)); intro gb711 hg w27 hbox hb; have n0_ := zA (zac (g := gb709) (o := .cells #[.slice A0_0 l0_0.length c0_0, .slice A0_1 l0_1.length c0_1] 28 (0, 0)) (zK BK709) hb); have n1_ := zA (zac (g := gb710) (o := .cells #[.slice A1_0 l1_0.length c1_0, .slice A1_1 l1_1.length c1_1] 28 (0, 0)) (zK BK710) hb); have n2_ := zA (zaa (zB HB) hb); have n3_ := zA (hbox); have n4_ := zA ((by rw [hg]; exact (za (zB HB)) : w.heap.size ≤ gb711)); have n5_ := zA ((by rw [hg]; exact (za (zB HB)) : w.heap.size ≤ gb711)); have n6_ := zA ((by rw [hg]; exact Nat.ne_of_lt (zay (g := gb709) (o := .cells #[.slice A0_0 l0_0.length c0_0, .slice A0_1 l0_1.length c0_1] 28 (0, 0)) (zK BK709)) : gb709 ≠ gb711)); have n7_ := zA ((by rw [hg]; exact Nat.ne_of_gt (zay (g := gb709) (o := .cells #[.slice A0_0 l0_0.length c0_0, .slice A0_1 l0_1.length c0_1] 28 (0, 0)) (zK BK709)) : gb711 ≠ gb709)); have n8_ := zA ((by rw [hg]; exact Nat.ne_of_lt (zay (g := gb710) (o := .cells #[.slice A1_0 l1_0.length c1_0, .slice A1_1 l1_1.length c1_1] 28 (0, 0)) (zK BK710)) : gb710 ≠ gb711)); have n9_ := zA ((by rw [hg]; exact Nat.ne_of_gt (zay (g := gb710) (o := .cells #[.slice A1_0 l1_0.length c1_0, .slice A1_1 l1_1.length c1_1] 28 (0, 0)) (zK BK710)) : gb711 ≠ gb710)); clear BK709 BK710 HB; have BK709 := n0_; have BK710 := n1_; have HB := n2_; have BK711 := n3_; have GW711 := n4_; have GE711 := n5_; have NB709_711 := n6_; have NB711_709 := n7_; have NB710_711 := n8_; have NB711_710 := n9_; clear n0_ n1_ n2_ n3_ n4_ n5_ n6_ n7_ n8_ n9_ hb hbox hg; have hnb28 := NB709_710.out; have hnc28 := NB710_709.out; have hnb29 := NB709_711.out; have hnc29 := NB711_709.out; have hcz30_0 : w27.cell? ⟨gb709, 0, none⟩ = some (.slice A0_0 l0_0.length c0_0) := (zab BK709.out 0).trans rfl; have hcz30_1 : w27.cell? ⟨gb709, 1, none⟩ = some (.slice A0_1 l0_1.length c0_1) := (zab BK709.out 1).trans rfl; have hfz30_0 := zal BK709.out 0; have hfz30_1 := zal BK709.out 1; have hnb31 := NB710_711.out; have hnc31 := NB711_710.out; have hcz32_0 : w27.cell? ⟨gb710, 0, none⟩ = some (.slice A1_0 l1_0.length c1_0) := (zab BK710.out 0).trans rfl; have hcz32_1 : w27.cell? ⟨gb710, 1, none⟩ = some (.slice A1_1 l1_1.length c1_1) := (zab BK710.out 1).trans rfl; have hfz32_0 := zal BK710.out 0; have hfz32_1 := zal BK710.out 1) | ((with_reducible refine zae (f := 62) rfl ?_); refine za5 (some 14) rfl rfl Tryd.func62 (by kernel_rfl) rfl #[.agg #[.slice A0_0 l0_0.length c0_0, .slice A0_1 l0_1.length c0_1], .agg #[.slice A1_0 l1_0.length c1_0, .slice A1_1 l1_1.length c1_1]] rfl (zE) ?_; (with_reducible refine (zbd.calls k _ _ l0_0 _ _ l0_1 _ _ l1_0 _ _ l1_1 t712 t715 t718 _ ?side1 ?side2 ?side3 ?side4 ?side5 ?side6 ?side7 ?side8 A3.out).mono ?_); (case side1 => exact zJ (Kd.za3 HR0_0.out HB.out)); (case side2 => exact HC0_0.out); (case side3 => exact zJ (Kd.za3 HR0_1.out HB.out)); (case side4 => exact HC0_1.out); (case side5 => exact zJ (Kd.za3 HR1_0.out HB.out)); (case side6 => exact HC1_0.out); (case side7 => exact zJ (Kd.za3 HR1_1.out HB.out)); (case side8 => exact HC1_1.out); rintro e w33 ⟨v713, v716, v719, rfl, ho0, ho1, ho2, hb⟩; refine ⟨_, rfl, ?_⟩; have n0_ := zA (Kd.za6 (Kd.zan (ok' := fun k_ => (w.heap.size ≤ k_) ∧ k_ ≠ gb709 ∧ k_ ≠ gb710 ∧ k_ ≠ gb711) ho0 (fun k_ hk_ => ⟨(Nat.le_trans (za (zB HB)) hk_), (Kd.freshB (g := gb709) (o := .cells #[.slice A0_0 l0_0.length c0_0, .slice A0_1 l0_1.length c0_1] 28 (0, 0)) (zK BK709) k_ hk_), (Kd.freshB (g := gb710) (o := .cells #[.slice A1_0 l1_0.length c1_0, .slice A1_1 l1_1.length c1_1] 28 (0, 0)) (zK BK710) k_ hk_), (Kd.freshB (g := gb711) (o := .cells #[.slice none 0 0, .slice none 0 0] 28 (0, 0)) (zK BK711) k_ hk_)⟩)) (za (zB HB))); have n1_ := zA (Kd.za6 (Kd.zan (ok' := fun k_ => (w.heap.size ≤ k_) ∧ k_ ≠ gb709 ∧ k_ ≠ gb710 ∧ k_ ≠ gb711) ho1 (fun k_ hk_ => ⟨(Nat.le_trans (za (zB HB)) hk_), (Kd.freshB (g := gb709) (o := .cells #[.slice A0_0 l0_0.length c0_0, .slice A0_1 l0_1.length c0_1] 28 (0, 0)) (zK BK709) k_ hk_), (Kd.freshB (g := gb710) (o := .cells #[.slice A1_0 l1_0.length c1_0, .slice A1_1 l1_1.length c1_1] 28 (0, 0)) (zK BK710) k_ hk_), (Kd.freshB (g := gb711) (o := .cells #[.slice none 0 0, .slice none 0 0] 28 (0, 0)) (zK BK711) k_ hk_)⟩)) (za (zB HB))); have n2_ := zA (Kd.za6 (Kd.zan (ok' := fun k_ => (w.heap.size ≤ k_) ∧ k_ ≠ gb709 ∧ k_ ≠ gb710 ∧ k_ ≠ gb711) ho2 (fun k_ hk_ => ⟨(Nat.le_trans (za (zB HB)) hk_), (Kd.freshB (g := gb709) (o := .cells #[.slice A0_0 l0_0.length c0_0, .slice A0_1 l0_1.length c0_1] 28 (0, 0)) (zK BK709) k_ hk_), (Kd.freshB (g := gb710) (o := .cells #[.slice A1_0 l1_0.length c1_0, .slice A1_1 l1_1.length c1_1] 28 (0, 0)) (zK BK710) k_ hk_), (Kd.freshB (g := gb711) (o := .cells #[.slice none 0 0, .slice none 0 0] 28 (0, 0)) (zK BK711) k_ hk_)⟩)) (za (zB HB))); have n3_ := zA (zac (g := gb709) (o := .cells #[.slice A0_0 l0_0.length c0_0, .slice A0_1 l0_1.length c0_1] 28 (0, 0)) (zK BK709) hb); have n4_ := zA (zac (g := gb710) (o := .cells #[.slice A1_0 l1_0.length c1_0, .slice A1_1 l1_1.length c1_1] 28 (0, 0)) (zK BK710) hb); have n5_ := zA (zac (g := gb711) (o := .cells #[.slice none 0 0, .slice none 0 0] 28 (0, 0)) (zK BK711) hb); have n6_ := zA (zaa (zB HB) hb); clear BK709 BK710 BK711 HB; have HO714 := n0_; have HO717 := n1_; have HO720 := n2_; have BK709 := n3_; have BK710 := n4_; have BK711 := n5_; have HB := n6_; clear n0_ n1_ n2_ n3_ n4_ n5_ n6_; (try clear hb); (try clear hb2); (try clear hk); (try clear hi); (try clear ho0); (try clear ho1); (try clear ho2); obtain ⟨Ao34, co34, eo34⟩ := Kd.za7 HO714.out; subst eo34; obtain ⟨Ao35, co35, eo35⟩ := Kd.za7 HO717.out; subst eo35) | ((with_reducible refine zae (f := 63) rfl ?_); refine za5 (some 21) rfl rfl Tryd.func63 (by kernel_rfl) rfl #[.slice Ao34 t712.length co34, .slice Ao35 t715.length co35] rfl (zE) ?_; (with_reducible refine (nat_Sub.calls k _ _ t712 _ _ t715 t721 t724 _ ?side1 ?side2 ?side3 ?side4 A4.out).mono ?_); (case side1 => exact zJ (Kd.zaq HO714.out).2.2); (case side2 => exact (Kd.zaq HO714.out).2.1); (case side3 => exact zJ (Kd.zaq HO717.out).2.2); (case side4 => exact (Kd.zaq HO717.out).2.1); rintro e w36 ⟨v722, rfl, ho0, hb⟩; refine ⟨_, rfl, ?_⟩; have n0_ := zA (Kd.zaw (zV HO714) hb); have n1_ := zA (Kd.zaw (zV HO717) hb); have n2_ := zA (Kd.zaw (zV HO720) hb); have n3_ := zA (Kd.za6 (Kd.zan (ok' := fun k_ => (w.heap.size ≤ k_) ∧ k_ ≠ gb709 ∧ k_ ≠ gb710 ∧ k_ ≠ gb711) ho0 (fun k_ hk_ => ⟨(Nat.le_trans (za (zB HB)) hk_), (Kd.freshB (g := gb709) (o := .cells #[.slice A0_0 l0_0.length c0_0, .slice A0_1 l0_1.length c0_1] 28 (0, 0)) (zK BK709) k_ hk_), (Kd.freshB (g := gb710) (o := .cells #[.slice A1_0 l1_0.length c1_0, .slice A1_1 l1_1.length c1_1] 28 (0, 0)) (zK BK710) k_ hk_), (Kd.freshB (g := gb711) (o := .cells #[.slice none 0 0, .slice none 0 0] 28 (0, 0)) (zK BK711) k_ hk_)⟩)) (za (zB HB))); have n4_ := zA (zac (g := gb709) (o := .cells #[.slice A0_0 l0_0.length c0_0, .slice A0_1 l0_1.length c0_1] 28 (0, 0)) (zK BK709) hb); have n5_ := zA (zac (g := gb710) (o := .cells #[.slice A1_0 l1_0.length c1_0, .slice A1_1 l1_1.length c1_1] 28 (0, 0)) (zK BK710) hb); have n6_ := zA (zac (g := gb711) (o := .cells #[.slice none 0 0, .slice none 0 0] 28 (0, 0)) (zK BK711) hb); have n7_ := zA (zaa (zB HB) hb); clear HO714 HO717 HO720 BK709 BK710 BK711 HB; have HO714 := n0_; have HO717 := n1_; have HO720 := n2_; have HO723 := n3_; have BK709 := n4_; have BK710 := n5_; have BK711 := n6_; have HB := n7_; clear n0_ n1_ n2_ n3_ n4_ n5_ n6_ n7_; (try clear hb); (try clear hb2); (try clear hk); (try clear hi); (try clear ho0); have hcz37_0 : w36.cell? ⟨gb711, 0, none⟩ = some (.slice none 0 0) := (zab BK711.out 0).trans rfl; have hcz37_1 : w36.cell? ⟨gb711, 1, none⟩ = some (.slice none 0 0) := (zab BK711.out 1).trans rfl; have hfz37_0 := zal BK711.out 0; have hfz37_1 := zal BK711.out 1))
  refine bodyPost_ret (results_ct rfl _ _ gb711 28 #[.slice none 0 0, .slice none 0 0] (0, 0) _ rfl (by (with_reducible repeat (first | refine zau ?_ _ | refine zat ?_ | refine zar ?_ _)); refine zb1 (cs := #[.slice none 0 0, .slice none 0 0]) ?_ 1 _ rfl; (with_reducible repeat (first | refine zau ?_ _ | refine zat ?_ | refine zar ?_ _)); refine zb1 (cs := #[.slice none 0 0, .slice none 0 0]) ?_ 0 _ rfl; (with_reducible repeat (first | refine zau ?_ _ | refine zat ?_ | refine zar ?_ _)); exact BK711.out) Tryd.underlying28 rfl (by kernel_rfl)) rfl ?_
  exact ⟨_, _, zW, Kd.V_nil _ _ _ _ _, Kd.V_nil _ _ _ _ _, zB HB⟩
def zam.l0 : Nat → List Int → Int → Option (List Int)
 | 0, _, _ => none
 | k + 1, x0, x3 => if x3 > 0 then (if 0 ≤ (wrap64 (x3 - 1)) then (if (wrap64 (x3 - 1)) < (x0.length : Int) then (if (rd x0 (wrap64 (x3 - 1))) = 0 then (zam.l0 k x0 (wrap64 (x3 - 1))) else (if 0 ≤ x3 then (if x3 ≤ (x0.length : Int) then (some (x0.take (x3 : Int).toNat)) else (none)) else (none))) else (none)) else (none)) else (if 0 ≤ x3 then (if x3 ≤ (x0.length : Int) then (some (x0.take (x3 : Int).toNat)) else (none)) else (none))
def zam.f (k : Nat) (l0 : List Int) : Option (List Int) := zam.l0 k l0 (l0.length : Int)
theorem zam.calls (k : Nat) (P0_ : Nat → Prop) (u9000_ : Value) (l0 : List Int) (r : List Int) (w0 w : World) (hB : Below w0.heap.size w0 w) (ho0 : Kd.R (Kd.int .i64) 3 w w0.heap.size P0_ u9000_ l0) (h : zam.f k l0 = some r) :
  Calls Tryd.prog 83 #[u9000_] w fun e w' => ∃ v0_ : Value, e = .returned (v0_) ∧ Kd.R (Kd.int .i64) 3 w' w0.heap.size (fun k_ => (P0_ k_ ∨ w.heap.size ≤ k_)) v0_ r ∧ Below w0.heap.size w0 w' ∧ Kept w w' (fun k_ => P0_ k_) := by
 have HO0 := zA (show Kd.R (Kd.int .i64) 3 w w0.heap.size (fun k_ => (P0_ k_ ∨ w.heap.size ≤ k_)) u9000_ l0 from Kd.zbl ho0 (fun k_ hk => (.inl hk)))
 have HK := zA (Kept.refl w (fun k_ => P0_ k_))
 have HW0 := zA hB.size
 have HB := zA hB
 clear hB
 have H : (zam.l0 k l0 (l0.length : Int)) = some r := h
 clear h
 have H' := zA H
 clear H
 obtain ⟨Ao2, co2, eo2⟩ := Kd.zbn HO0.out
 subst eo2
 go_enter Tryd.func83, Tryd.ntmps83
 go_wp2
 go_loopg [3] k (fun kq v3 w' => ∃ (x3_1 : Int), v3 = .int .i64 x3_1 ∧ Aside0 (zam.l0 kq l0 x3_1 = some r) ∧ Aside0 (kq ≤ k) ∧ Aside0 (Kd.R (Kd.int .i64) 3 w' w0.heap.size (fun k_ => (P0_ k_ ∨ w.heap.size ≤ k_)) (.slice Ao2 l0.length co2) l0) ∧ Aside0 (Kept w w' (fun k_ => P0_ k_)) ∧ Aside0 (Below w0.heap.size w0 w'))
 case atStart => exact ⟨((l0.length : Int)), (zF), H', ⟨Nat.le_refl _⟩, ⟨zR HO0⟩, ⟨by repeat (first | (with_reducible first | exact HK.out | apply Kept.alloc | apply Kept.drewN | apply Kept.drew) | exact HK.out)⟩, ⟨zB HB⟩⟩
 case round =>
  clear H'
  try clear p2
  obtain ⟨x3_1, rfl, HA, HK1, HO_0, HK, HB⟩ := hrel
  cases gk with
  | zero => exact absurd HA.out (by simp [zam.l0])
  | succ k1 =>
   have H := HA.out
   clear HA
   simp only [zam.l0] at H
   by_cases c3 : x3_1 > 0
   ·
    rw [if_pos c3] at H
    have c3b0 : decide (0 < x3_1) = true := decide_eq_true c3
    clear c3
    obtain ⟨ji4, hji4⟩ : ∃ j_ : Int, (wrap64 (x3_1 - 1)) = j_ := ⟨_, rfl⟩
    replace H : (if 0 ≤ (ji4) then (if (ji4) < (l0.length : Int) then (if (rd l0 (ji4)) = 0 then (zam.l0 k1 l0 ji4) else (if 0 ≤ x3_1 then (if x3_1 ≤ (l0.length : Int) then (some (l0.take (x3_1 : Int).toNat)) else (none)) else (none))) else (none)) else (none)) = some r := by first | (rw [hji4] at H; exact H) | (simp only [hji4] at H ⊢; exact H)
    have hji4w : (IntKind.i64.wrap (x3_1 - 1)) = ji4 := (i64_w _).trans hji4
    by_cases c5 : 0 ≤ (ji4)
    ·
     rw [if_pos c5] at H
     have c5b0 : decide (0 ≤ (ji4)) = true := decide_eq_true c5
     clear c5
     by_cases c6 : (ji4) < (l0.length : Int)
     ·
      rw [if_pos c6] at H
      have c6b0 : decide ((ji4) < (l0.length : Int)) = true := decide_eq_true c6
      clear c6
      by_cases c7 : (rd l0 (ji4)) = 0
      ·
       rw [if_pos c7] at H
       have c7b0 : ((rd l0 (ji4)) == 0) = true := beq_iff_eq.mpr c7
       have c7b1 : ((rd l0 (ji4)) != 0) = false := bne_eq_false_iff_eq.mpr c7
       clear c7
       have H' := zA H
       clear H
       have p281 : 0 ≤ ((ji4) : Int) := of_decide_eq_true (by first | (with_reducible assumption) | assumption)
       have q281 : (ji4) < (l0.length : Int) := of_decide_eq_true (by first | (with_reducible assumption) | assumption)
       obtain ⟨ad281, e281, hx281_0⟩ := Kd.at_int (Kd.za2 HO_0.out).2.2 (ji4) p281 q281
       cases e281
       replace p281 := eq_true p281
       replace q281 := eq_true q281
       go_wp2
       go_roundg k1
       case measure => have := HK1.out; omega
       case rel => exact ⟨(ji4), (by first | rfl | (simp; done) | (simp only [← hji4] <;> (first | rfl | simp)) | (simp [*]; done)), H', ⟨by have := HK1.out; omega⟩, ⟨zR HO_0⟩, ⟨by repeat (first | (with_reducible first | exact HK.out | apply Kept.alloc | apply Kept.drewN | apply Kept.drew) | exact HK.out)⟩, ⟨zB HB⟩⟩
      ·
       rw [if_neg c7] at H
       have c7b0 : ((rd l0 (ji4)) == 0) = false := beq_eq_false_iff_ne.mpr c7
       have c7b1 : ((rd l0 (ji4)) != 0) = true := bne_iff_ne.mpr c7
       by_cases c8 : 0 ≤ x3_1
       ·
        rw [if_pos c8] at H
        have c8b0 := eq_true c8
        have c8b1 : decide (0 ≤ x3_1) = true := decide_eq_true c8
        clear c8
        by_cases c9 : x3_1 ≤ (l0.length : Int)
        ·
         rw [if_pos c9] at H
         have c9b0 := eq_true c9
         have c9b1 : decide (x3_1 ≤ (l0.length : Int)) = true := decide_eq_true c9
         clear c9
         obtain ⟨y282, hy282⟩ : ∃ y_ : List Int, y_ = (l0.take (x3_1 : Int).toNat) := ⟨_, rfl⟩
         replace H : (some y282) = some r := by first | (rw [hy282]; with_reducible exact H) | (have H2_ := (Option.bind_some _ _).symm.trans H; rw [hy282]; with_reducible exact H2_) | (have H2_ := (Option.bind_some _ _).symm.trans H; with_reducible exact H2_) | with_reducible exact H | (rw [hy282]; exact H) | exact H
         have Ny282 := zA hy282
         clear hy282
         obtain rfl := Option.some.inj H
         have p281 : 0 ≤ ((ji4) : Int) := of_decide_eq_true (by first | (with_reducible assumption) | assumption)
         have q281 : (ji4) < (l0.length : Int) := of_decide_eq_true (by first | (with_reducible assumption) | assumption)
         obtain ⟨ad281, e281, hx281_0⟩ := Kd.at_int (Kd.za2 HO_0.out).2.2 (ji4) p281 q281
         cases e281
         replace p281 := eq_true p281
         replace q281 := eq_true q281
         have q10 : (x3_1 : Int) ≤ ((l0.length : Int) : Int) := of_decide_eq_true (by first | (with_reducible assumption) | assumption)
         obtain ⟨i010, hi010, _, hsz10, _⟩ := info_parts info3
         have hcut10 := cut_to (P := Tryd.prog) 31 3 .i64 Tryd.underlying31 hi010 (some ad281) l0.length co2 x3_1 (of_decide_eq_true (by first | (with_reducible assumption) | assumption)) q10 (Kd.za2 HO_0.out).2.1
         have hr10 := Kd.R_take (m := (x3_1 : Int).toNat) HO_0.out (by omega)
         have hy10 : y282.length = (x3_1 : Int).toNat := (by rw [Ny282.out, List.length_take]; omega)
         rw [← Ny282.out] at hr10
         rw [← hy10] at hr10 hcut10
         clear hy10 hi010 hsz10 HO_0
         have HO284 := zA hr10
         clear hr10
         replace q10 := eq_true q10
         go_wp2
         go_ret
         exact ⟨_, by first | rfl | (simp [zb7, zb6] <;> rfl) | (simp only [← hji4]; first | rfl | (simp [zb7, zb6] <;> rfl)) | (simp [*, zb7, zb6] <;> rfl), zR HO284, zB HB, by repeat (first | (with_reducible first | exact HK.out | apply Kept.alloc | apply Kept.drewN | apply Kept.drew) | exact HK.out)⟩
        ·
         rw [if_neg c9] at H
         exact absurd H (by simp)
       ·
        rw [if_neg c8] at H
        exact absurd H (by simp)
     ·
      rw [if_neg c6] at H
      exact absurd H (by simp)
    ·
     rw [if_neg c5] at H
     exact absurd H (by simp)
   ·
    rw [if_neg c3] at H
    have c3b0 : decide (0 < x3_1) = false := decide_eq_false c3
    clear c3
    by_cases c11 : 0 ≤ x3_1
    ·
     rw [if_pos c11] at H
     have c11b0 := eq_true c11
     have c11b1 : decide (0 ≤ x3_1) = true := decide_eq_true c11
     clear c11
     by_cases c12 : x3_1 ≤ (l0.length : Int)
     ·
      rw [if_pos c12] at H
      have c12b0 := eq_true c12
      have c12b1 : decide (x3_1 ≤ (l0.length : Int)) = true := decide_eq_true c12
      clear c12
      obtain ⟨y285, hy285⟩ : ∃ y_ : List Int, y_ = (l0.take (x3_1 : Int).toNat) := ⟨_, rfl⟩
      replace H : (some y285) = some r := by first | (rw [hy285]; with_reducible exact H) | (have H2_ := (Option.bind_some _ _).symm.trans H; rw [hy285]; with_reducible exact H2_) | (have H2_ := (Option.bind_some _ _).symm.trans H; with_reducible exact H2_) | with_reducible exact H | (rw [hy285]; exact H) | exact H
      have Ny285 := zA hy285
      clear hy285
      obtain rfl := Option.some.inj H
      have q13 : (x3_1 : Int) ≤ ((l0.length : Int) : Int) := of_decide_eq_true (by first | (with_reducible assumption) | assumption)
      obtain ⟨i013, hi013, _, hsz13, _⟩ := info_parts info3
      have hcut13 := cut_to (P := Tryd.prog) 31 3 .i64 Tryd.underlying31 hi013 Ao2 l0.length co2 x3_1 (of_decide_eq_true (by first | (with_reducible assumption) | assumption)) q13 (Kd.za2 HO_0.out).2.1
      have hr13 := Kd.R_take (m := (x3_1 : Int).toNat) HO_0.out (by omega)
      have hy13 : y285.length = (x3_1 : Int).toNat := (by rw [Ny285.out, List.length_take]; omega)
      rw [← Ny285.out] at hr13
      rw [← hy13] at hr13 hcut13
      clear hy13 hi013 hsz13 HO_0
      have HO287 := zA hr13
      clear hr13
      replace q13 := eq_true q13
      go_wp2
      go_ret
      exact ⟨_, zW, zR HO287, zB HB, by repeat (first | (with_reducible first | exact HK.out | apply Kept.alloc | apply Kept.drewN | apply Kept.drew) | exact HK.out)⟩
     ·
      rw [if_neg c12] at H
      exact absurd H (by simp)
    ·
     rw [if_neg c11] at H
     exact absurd H (by simp)
mutual
def zaj.l0 : Nat → List Int → List Int → List Int → Int → Int → Option (List Int)
 | 0, _, _, _, _, _ => none
 | k + 1, x0, x1, x5, x17, x18 => if x18 < x17 then (zaj.l1 k x0 x1 x5 x18 0 x17 x18 (x1.length : Int) 0) else ((zam.f k x5).bind fun t291 => (some t291))
def zaj.l1 : Nat → List Int → List Int → List Int → Int → Int → Int → Int → Int → Int → Option (List Int)
 | 0, _, _, _, _, _, _, _, _, _ => none
 | k + 1, x0, x1, x5, x6, x7, x17, x18, x22, x23 => if x23 < x22 then (if 0 ≤ (wrap64 (x6 + x23)) then (if (wrap64 (x6 + x23)) < (x5.length : Int) then (if 0 ≤ x6 then (if x6 < (x0.length : Int) then (if 0 ≤ x23 then (if x23 < (x1.length : Int) then (zaj.l1 k x0 x1 (x5.set ((wrap64 (x6 + x23)) : Int).toNat (Int.tmod (wrap64 ((wrap64 ((rd x5 (wrap64 (x6 + x23))) + (wrap64 ((rd x0 x6) * (rd x1 x23))))) + x7)) 10000)) x6 (wrap64 (Int.tdiv (wrap64 ((wrap64 ((rd x5 (wrap64 (x6 + x23))) + (wrap64 ((rd x0 x6) * (rd x1 x23))))) + x7)) 10000)) x17 x18 x22 (wrap64 (x23 + 1))) else (none)) else (none)) else (none)) else (none)) else (none)) else (none)) else (if 0 ≤ (wrap64 (x6 + (x1.length : Int))) then (if (wrap64 (x6 + (x1.length : Int))) < (x5.length : Int) then (zaj.l0 k x0 x1 (x5.set ((wrap64 (x6 + (x1.length : Int))) : Int).toNat (wrap64 ((rd x5 (wrap64 (x6 + (x1.length : Int)))) + x7))) x17 (wrap64 (x18 + 1))) else (none)) else (none))
end
def zaj.f (k : Nat) (l0 : List Int) (l1 : List Int) : Option (List Int) := if 0 ≤ (wrap64 ((l0.length : Int) + (l1.length : Int))) then (if (wrap64 ((l0.length : Int) + (l1.length : Int)) : Int).toNat ≤ 35184372088832 then (zaj.l0 k l0 l1 (List.replicate (wrap64 ((l0.length : Int) + (l1.length : Int)) : Int).toNat 0) (l0.length : Int) 0) else (none)) else (none)
theorem zaj.calls (k : Nat) (A0 : Option Addr) (c0 : Nat) (l0 : List Int) (A1 : Option Addr) (c1 : Nat) (l1 : List Int) (r : List Int) (w : World) (hr0 : Kd.C (Kd.int .i64) w A0 l0.length l0) (hc0 : l0.length ≤ c0) (hr1 : Kd.C (Kd.int .i64) w A1 l1.length l1) (hc1 : l1.length ≤ c1) (h : zaj.f k l0 l1 = some r) :
  Calls Tryd.prog 56 #[.slice A0 l0.length c0, .slice A1 l1.length c1] w fun e w' => ∃ v0_ : Value, e = .returned (v0_) ∧ Kd.R (Kd.int .i64) 3 w' w.heap.size (fun _ => True) v0_ r ∧ Below w.heap.size w w' := by
 have HR0 := zA hr0
 have HC0 := zA hc0
 clear hr0 hc0
 have HR1 := zA hr1
 have HC1 := zA hc1
 clear hr1 hc1
 have HB := zA (Below.refl w.heap.size w)
 have H : (if 0 ≤ (wrap64 ((l0.length : Int) + (l1.length : Int))) then (if (wrap64 ((l0.length : Int) + (l1.length : Int)) : Int).toNat ≤ 35184372088832 then (zaj.l0 k l0 l1 (List.replicate (wrap64 ((l0.length : Int) + (l1.length : Int)) : Int).toNat 0) (l0.length : Int) 0) else (none)) else (none)) = some r := h
 clear h
 obtain ⟨ji3, hji3⟩ : ∃ j_ : Int, (wrap64 ((l0.length : Int) + (l1.length : Int))) = j_ := ⟨_, rfl⟩
 replace H : (if 0 ≤ (ji3) then (if (ji3 : Int).toNat ≤ 35184372088832 then (zaj.l0 k l0 l1 (List.replicate (ji3 : Int).toNat 0) (l0.length : Int) 0) else (none)) else (none)) = some r := by first | (rw [hji3] at H; exact H) | (simp only [hji3] at H ⊢; exact H)
 have hji3w : (IntKind.i64.wrap ((l0.length : Int) + (l1.length : Int))) = ji3 := (i64_w _).trans hji3
 by_cases c4 : 0 ≤ (ji3)
 ·
  rw [if_pos c4] at H
  have c4b0 := eq_true c4
  have c4b1 : decide (0 ≤ (ji3)) = true := decide_eq_true c4
  clear c4
  by_cases c5 : (ji3 : Int).toNat ≤ 35184372088832
  ·
   rw [if_pos c5] at H
   have c5b0 := eq_true c5
   have c5b1 : decide ((ji3 : Int).toNat ≤ 35184372088832) = true := decide_eq_true c5
   clear c5
   obtain ⟨y288, hy288⟩ : ∃ y_ : List Int, y_ = (List.replicate (ji3 : Int).toNat 0) := ⟨_, rfl⟩
   replace H : (zaj.l0 k l0 l1 y288 (l0.length : Int) 0) = some r := by first | (rw [hy288]; with_reducible exact H) | (have H2_ := (Option.bind_some _ _).symm.trans H; rw [hy288]; with_reducible exact H2_) | (have H2_ := (Option.bind_some _ _).symm.trans H; with_reducible exact H2_) | with_reducible exact H | (rw [hy288]; exact H) | exact H
   have Ny288 := zA hy288
   clear hy288
   have H' := zA H
   clear H
   go_enter Tryd.func56, Tryd.ntmps56
   go_wp2_with (first | ((with_reducible refine zbe (N := 15) rfl ?_); refine Kd.R_make (Kd.int .i64) _ 3 rfl (N := 15) rfl 31 _ _ rfl ji3 rfl rfl Tryd.underlying31 (.int .i64 0) 8 info3 rfl (by decide) (by omega) 0 (ok := fun _ => True) (okp := fun _ => True) rfl (fun _ hk => hk) trivial (of_decide_eq_true (by first | (with_reducible assumption) | assumption)) (Nat.le_trans (Nat.mul_le_mul_right _ (of_decide_eq_true (by first | (with_reducible assumption) | assumption) : ji3.toNat ≤ 35184372088832)) (by omega)) (Below.refl _ _) (Nat.le_refl _) ?_; intro v289 w6 ho7 hb hg_ hnew_; clear hg_ hnew_; (first | rw [← Ny288.out] at ho7 | (simp only [Int.reduceToNat] at ho7; rw [← Ny288.out] at ho7)); have n0_ := zA (Kd.zbr ho7 (za (zB HB))); have n1_ := zA (zaa (zB HB) hb); clear HB; have HO290 := n0_; have HB := n1_; clear n0_ n1_ hb ho7))
   repeat (go_quiet (first | ((with_reducible refine zbe (N := 15) rfl ?_); refine Kd.R_make (Kd.int .i64) _ 3 rfl (N := 15) rfl 31 _ _ rfl ji3 rfl rfl Tryd.underlying31 (.int .i64 0) 8 info3 rfl (by decide) (by omega) 0 (ok := fun _ => True) (okp := fun _ => True) rfl (fun _ hk => hk) trivial (of_decide_eq_true (by first | (with_reducible assumption) | assumption)) (Nat.le_trans (Nat.mul_le_mul_right _ (of_decide_eq_true (by first | (with_reducible assumption) | assumption) : ji3.toNat ≤ 35184372088832)) (by omega)) (Below.refl _ _) (Nat.le_refl _) ?_; intro v289 w6 ho7 hb hg_ hnew_; clear hg_ hnew_; (first | rw [← Ny288.out] at ho7 | (simp only [Int.reduceToNat] at ho7; rw [← Ny288.out] at ho7)); have n0_ := zA (Kd.zbr ho7 (za (zB HB))); have n1_ := zA (zaa (zB HB) hb); clear HB; have HO290 := n0_; have HB := n1_; clear n0_ n1_ hb ho7)); try go_wp2_with (first | ((with_reducible refine zbe (N := 15) rfl ?_); refine Kd.R_make (Kd.int .i64) _ 3 rfl (N := 15) rfl 31 _ _ rfl ji3 rfl rfl Tryd.underlying31 (.int .i64 0) 8 info3 rfl (by decide) (by omega) 0 (ok := fun _ => True) (okp := fun _ => True) rfl (fun _ hk => hk) trivial (of_decide_eq_true (by first | (with_reducible assumption) | assumption)) (Nat.le_trans (Nat.mul_le_mul_right _ (of_decide_eq_true (by first | (with_reducible assumption) | assumption) : ji3.toNat ≤ 35184372088832)) (by omega)) (Below.refl _ _) (Nat.le_refl _) ?_; intro v289 w6 ho7 hb hg_ hnew_; clear hg_ hnew_; (first | rw [← Ny288.out] at ho7 | (simp only [Int.reduceToNat] at ho7; rw [← Ny288.out] at ho7)); have n0_ := zA (Kd.zbr ho7 (za (zB HB))); have n1_ := zA (zaa (zB HB) hb); clear HB; have HO290 := n0_; have HB := n1_; clear n0_ n1_ hb ho7)))
   go_loopg [18] k (fun kq v18 w' => ∃ (x5_1 : List Int) (x18_1 : Int), v18 = .int .i64 x18_1 ∧ Aside0 (zaj.l0 kq l0 l1 x5_1 (l0.length : Int) x18_1 = some r) ∧ Aside0 (kq ≤ k) ∧ Aside0 (Kd.R (Kd.int .i64) 3 w' w.heap.size (fun _ => True) v289 x5_1) ∧ Aside0 (Below w.heap.size w w'))
   case atStart => exact ⟨(y288), (0), (zF), H', ⟨Nat.le_refl _⟩, ⟨zR HO290⟩, ⟨zB HB⟩⟩
   case round =>
    clear H'
    try clear c1
    try clear p2
    try clear c4
    try clear c4b0
    try clear c4b1
    try clear c5
    try clear c5b0
    try clear c5b1
    try clear p6
    obtain ⟨x5_1, x18_1, rfl, HA, HK1, HO_5, HB⟩ := hrel
    cases gk with
    | zero => exact absurd HA.out (by simp [zaj.l0])
    | succ k1 =>
     have H := HA.out
     clear HA
     simp only [zaj.l0] at H
     by_cases c8 : x18_1 < (l0.length : Int)
     ·
      rw [if_pos c8] at H
      have c8b0 : decide (x18_1 < (l0.length : Int)) = true := decide_eq_true c8
      clear c8
      have H' := zA H
      clear H
      go_wp2
      repeat (go_quiet (fail); try go_wp2)
      go_loopg [7, 23] k1 (fun kq v7 v23 w' => ∃ (x5_2 : List Int) (x7_2 : Int) (x23_2 : Int), v7 = .int .i64 x7_2 ∧ v23 = .int .i64 x23_2 ∧ Aside0 (zaj.l1 kq l0 l1 x5_2 x18_1 x7_2 (l0.length : Int) x18_1 (l1.length : Int) x23_2 = some r) ∧ Aside0 (kq ≤ k1) ∧ Aside0 (Kd.R (Kd.int .i64) 3 w' w.heap.size (fun _ => True) v289 x5_2) ∧ Aside0 (Below w.heap.size w w'))
      case atStart => exact ⟨(x5_1), (0), (0), (zF), (zF), H', ⟨Nat.le_refl _⟩, ⟨zR HO_5⟩, ⟨zB HB⟩⟩
      case round =>
       clear H'
       try clear c1
       try clear p2
       try clear c4
       try clear c4b0
       try clear c4b1
       try clear c5
       try clear c5b0
       try clear c5b1
       try clear p6
       try clear c8
       try clear c8b0
       try clear p2
       try clear p6
       obtain ⟨x5_2, x7_2, x23_2, rfl, rfl, HA, HK2, HO_5, HB⟩ := hrel
       cases gk with
       | zero => exact absurd HA.out (by simp [zaj.l1])
       | succ k2 =>
        have H := HA.out
        clear HA
        simp only [zaj.l1] at H
        by_cases c9 : x23_2 < (l1.length : Int)
        ·
         rw [if_pos c9] at H
         have c9b0 : decide (x23_2 < (l1.length : Int)) = true := decide_eq_true c9
         clear c9
         obtain ⟨ji10, hji10⟩ : ∃ j_ : Int, (wrap64 (x18_1 + x23_2)) = j_ := ⟨_, rfl⟩
         replace H : (if 0 ≤ (ji10) then (if (ji10) < (x5_2.length : Int) then (if 0 ≤ x18_1 then (if x18_1 < (l0.length : Int) then (if 0 ≤ x23_2 then (if x23_2 < (l1.length : Int) then (zaj.l1 k2 l0 l1 (x5_2.set ((ji10) : Int).toNat (Int.tmod (wrap64 ((wrap64 ((rd x5_2 (ji10)) + (wrap64 ((rd l0 x18_1) * (rd l1 x23_2))))) + x7_2)) 10000)) x18_1 (wrap64 (Int.tdiv (wrap64 ((wrap64 ((rd x5_2 (ji10)) + (wrap64 ((rd l0 x18_1) * (rd l1 x23_2))))) + x7_2)) 10000)) (l0.length : Int) x18_1 (l1.length : Int) (wrap64 (x23_2 + 1))) else (none)) else (none)) else (none)) else (none)) else (none)) else (none)) = some r := by first | (rw [hji10] at H; exact H) | (simp only [hji10] at H ⊢; exact H)
         have hji10w : (IntKind.i64.wrap (x18_1 + x23_2)) = ji10 := (i64_w _).trans hji10
         by_cases c11 : 0 ≤ (ji10)
         ·
          rw [if_pos c11] at H
          have c11b0 : decide (0 ≤ (ji10)) = true := decide_eq_true c11
          clear c11
          by_cases c12 : (ji10) < (x5_2.length : Int)
          ·
           rw [if_pos c12] at H
           have c12b0 : decide ((ji10) < (x5_2.length : Int)) = true := decide_eq_true c12
           clear c12
           by_cases c13 : 0 ≤ x18_1
           ·
            rw [if_pos c13] at H
            have c13b0 : decide (0 ≤ x18_1) = true := decide_eq_true c13
            clear c13
            by_cases c14 : x18_1 < (l0.length : Int)
            ·
             rw [if_pos c14] at H
             have c14b0 : decide (x18_1 < (l0.length : Int)) = true := decide_eq_true c14
             clear c14
             by_cases c15 : 0 ≤ x23_2
             ·
              rw [if_pos c15] at H
              have c15b0 : decide (0 ≤ x23_2) = true := decide_eq_true c15
              clear c15
              by_cases c16 : x23_2 < (l1.length : Int)
              ·
               rw [if_pos c16] at H
               have c16b0 : decide (x23_2 < (l1.length : Int)) = true := decide_eq_true c16
               clear c16
               obtain ⟨y297, hy297⟩ : ∃ y_ : List Int, y_ = (x5_2.set ((ji10) : Int).toNat (Int.tmod (wrap64 ((wrap64 ((rd x5_2 (ji10)) + (wrap64 ((rd l0 x18_1) * (rd l1 x23_2))))) + x7_2)) 10000)) := ⟨_, rfl⟩
               replace H : (zaj.l1 k2 l0 l1 y297 x18_1 (wrap64 (Int.tdiv (wrap64 ((wrap64 ((rd x5_2 (ji10)) + (wrap64 ((rd l0 x18_1) * (rd l1 x23_2))))) + x7_2)) 10000)) (l0.length : Int) x18_1 (l1.length : Int) (wrap64 (x23_2 + 1))) = some r := by first | (rw [hy297]; with_reducible exact H) | (have H2_ := (Option.bind_some _ _).symm.trans H; rw [hy297]; with_reducible exact H2_) | (have H2_ := (Option.bind_some _ _).symm.trans H; with_reducible exact H2_) | with_reducible exact H | (rw [hy297]; exact H) | exact H
               have Ny297 := zA hy297
               clear hy297
               have H' := zA H
               clear H
               obtain ⟨Ao18, co18, eo18⟩ := Kd.zbn HO_5.out
               subst eo18
               have p294 : 0 ≤ ((ji10) : Int) := of_decide_eq_true (by first | (with_reducible assumption) | assumption)
               have q294 : (ji10) < (x5_2.length : Int) := of_decide_eq_true (by first | (with_reducible assumption) | assumption)
               obtain ⟨ad294, e294, hx294_0⟩ := Kd.at_int (Kd.za2 HO_5.out).2.2 (ji10) p294 q294
               cases e294
               replace p294 := eq_true p294
               replace q294 := eq_true q294
               have p295 : 0 ≤ (x18_1 : Int) := of_decide_eq_true (by first | (with_reducible assumption) | assumption)
               have q295 : x18_1 < (l0.length : Int) := of_decide_eq_true (by first | (with_reducible assumption) | assumption)
               obtain ⟨ad295, e295, hx295_0⟩ := Kd.at_int HR0.out x18_1 p295 q295
               cases e295
               replace hx295_0 := (HB.out.cell (World.block_lt_of_cell? w _ hx295_0)).trans hx295_0
               replace p295 := eq_true p295
               replace q295 := eq_true q295
               have p296 : 0 ≤ (x23_2 : Int) := of_decide_eq_true (by first | (with_reducible assumption) | assumption)
               have q296 : x23_2 < (l1.length : Int) := of_decide_eq_true (by first | (with_reducible assumption) | assumption)
               obtain ⟨ad296, e296, hx296_0⟩ := Kd.at_int HR1.out x23_2 p296 q296
               cases e296
               replace hx296_0 := (HB.out.cell (World.block_lt_of_cell? w _ hx296_0)).trans hx296_0
               replace p296 := eq_true p296
               replace q296 := eq_true q296
               have p17 : 0 ≤ ((ji10) : Int) := of_decide_eq_true (by first | (with_reducible assumption) | assumption)
               have q17 : ((ji10) : Int) < ((x5_2.length : Int) : Int) := of_decide_eq_true (by first | (with_reducible assumption) | assumption)
               obtain ⟨go17, co17, eo17, gb17, gl17, cl17, HG17⟩ := Kd.R_form HO_5.out (by omega)
               (first | cases eo17 | (injection eo17 with ea_ en_ ec_; (first | subst ea_ | (injection ea_ with ea_; subst ea_)); subst ec_; clear en_))
               have GB17 := zA gb17
               have GG17 := zA HG17
               clear gb17 gl17 HG17
               (first | simp only [add_plain] at hx294_0 | skip)
               obtain ⟨hx17_0, hf17_0⟩ := Kd.zc2 0 HO_5.out ((ji10) : Int) p17 q17
               replace p17 := eq_true p17
               replace q17 := eq_true q17
               have HP19 := Kd.R_putg HO_5.out ((ji10) : Int) (Int.tmod (wrap64 ((wrap64 ((rd x5_2 (ji10)) + (wrap64 ((rd l0 x18_1) * (rd l1 x23_2))))) + x7_2)) 10000)
               go_wp2_with (first | ((with_reducible refine zc3 (t := 3) (p := 50) rfl ?_); (try (rw [drewN_self wr]; generalize hq_ : World.drewN wr _ = wr; have n0_ := zA (Kd.R_at hq_ HO_5.out); have n1_ := zA (below_at hq_ HB.out); clear hq_ HO_5 HB; have HO_5 := n0_; have HB := n1_; clear n0_ n1_; (try (have HP19 := Kd.R_putg HO_5.out ((ji10) : Int) (Int.tmod (wrap64 ((wrap64 ((rd x5_2 (ji10)) + (wrap64 ((rd l0 x18_1) * (rd l1 x23_2))))) + x7_2)) 10000))); (try (obtain ⟨hx17_0, hf17_0⟩ := Kd.zc2 0 HO_5.out ((ji10) : Int) (of_eq_true p17) (of_eq_true q17))))); refine zcr (t := 3) (p := 50) (v := ?vo_w20) (w1 := (wr.setCell ⟨go17, ((ji10) : Int).toNat, none⟩ (.int .i64 (Int.tmod (wrap64 ((wrap64 ((rd x5_2 (ji10)) + (wrap64 ((rd l0 x18_1) * (rd l1 x23_2))))) + x7_2)) 10000)))) ?hg ?ho ?hn ?hr ?_; (case ho => rfl); (case hg => rfl); (case hn => rfl); (case hr => first | (go_simp; done) | (go_simp; rfl)); intro w20 hw; have hg : wr.grownBy w20 (some go17) := (by rw [hw]; exact HP19.2); have hp_ : Kd.R (Kd.int .i64) 3 w20 w.heap.size (fun _ => True) (.slice (some ⟨go17, 0, none⟩) x5_2.length co18) y297 := (by rw [hw, Ny297.out]; exact HP19.1); clear HP19; have n0_ := zA (hp_); have n1_ := zA ((by rw [hw]; exact zc5 (HB.out) GB17.out : Below w.heap.size w w20)); clear HO_5 HB; have HO_5 := n0_; have HB := n1_; clear n0_ n1_ hg hw hp_))
               repeat (go_quiet (first | ((with_reducible refine zc3 (t := 3) (p := 50) rfl ?_); (try (rw [drewN_self wr]; generalize hq_ : World.drewN wr _ = wr; have n0_ := zA (Kd.R_at hq_ HO_5.out); have n1_ := zA (below_at hq_ HB.out); clear hq_ HO_5 HB; have HO_5 := n0_; have HB := n1_; clear n0_ n1_; (try (have HP19 := Kd.R_putg HO_5.out ((ji10) : Int) (Int.tmod (wrap64 ((wrap64 ((rd x5_2 (ji10)) + (wrap64 ((rd l0 x18_1) * (rd l1 x23_2))))) + x7_2)) 10000))); (try (obtain ⟨hx17_0, hf17_0⟩ := Kd.zc2 0 HO_5.out ((ji10) : Int) (of_eq_true p17) (of_eq_true q17))))); refine zcr (t := 3) (p := 50) (v := ?vo_w20) (w1 := (wr.setCell ⟨go17, ((ji10) : Int).toNat, none⟩ (.int .i64 (Int.tmod (wrap64 ((wrap64 ((rd x5_2 (ji10)) + (wrap64 ((rd l0 x18_1) * (rd l1 x23_2))))) + x7_2)) 10000)))) ?hg ?ho ?hn ?hr ?_; (case ho => rfl); (case hg => rfl); (case hn => rfl); (case hr => first | (go_simp; done) | (go_simp; rfl)); intro w20 hw; have hg : wr.grownBy w20 (some go17) := (by rw [hw]; exact HP19.2); have hp_ : Kd.R (Kd.int .i64) 3 w20 w.heap.size (fun _ => True) (.slice (some ⟨go17, 0, none⟩) x5_2.length co18) y297 := (by rw [hw, Ny297.out]; exact HP19.1); clear HP19; have n0_ := zA (hp_); have n1_ := zA ((by rw [hw]; exact zc5 (HB.out) GB17.out : Below w.heap.size w w20)); clear HO_5 HB; have HO_5 := n0_; have HB := n1_; clear n0_ n1_ hg hw hp_)); try go_wp2_with (first | ((with_reducible refine zc3 (t := 3) (p := 50) rfl ?_); (try (rw [drewN_self wr]; generalize hq_ : World.drewN wr _ = wr; have n0_ := zA (Kd.R_at hq_ HO_5.out); have n1_ := zA (below_at hq_ HB.out); clear hq_ HO_5 HB; have HO_5 := n0_; have HB := n1_; clear n0_ n1_; (try (have HP19 := Kd.R_putg HO_5.out ((ji10) : Int) (Int.tmod (wrap64 ((wrap64 ((rd x5_2 (ji10)) + (wrap64 ((rd l0 x18_1) * (rd l1 x23_2))))) + x7_2)) 10000))); (try (obtain ⟨hx17_0, hf17_0⟩ := Kd.zc2 0 HO_5.out ((ji10) : Int) (of_eq_true p17) (of_eq_true q17))))); refine zcr (t := 3) (p := 50) (v := ?vo_w20) (w1 := (wr.setCell ⟨go17, ((ji10) : Int).toNat, none⟩ (.int .i64 (Int.tmod (wrap64 ((wrap64 ((rd x5_2 (ji10)) + (wrap64 ((rd l0 x18_1) * (rd l1 x23_2))))) + x7_2)) 10000)))) ?hg ?ho ?hn ?hr ?_; (case ho => rfl); (case hg => rfl); (case hn => rfl); (case hr => first | (go_simp; done) | (go_simp; rfl)); intro w20 hw; have hg : wr.grownBy w20 (some go17) := (by rw [hw]; exact HP19.2); have hp_ : Kd.R (Kd.int .i64) 3 w20 w.heap.size (fun _ => True) (.slice (some ⟨go17, 0, none⟩) x5_2.length co18) y297 := (by rw [hw, Ny297.out]; exact HP19.1); clear HP19; have n0_ := zA (hp_); have n1_ := zA ((by rw [hw]; exact zc5 (HB.out) GB17.out : Below w.heap.size w w20)); clear HO_5 HB; have HO_5 := n0_; have HB := n1_; clear n0_ n1_ hg hw hp_)))
               go_roundg k2
               case measure => have := HK1.out; have := HK2.out; omega
               case rel => exact ⟨(y297), (wrap64 (Int.tdiv (wrap64 ((wrap64 ((rd x5_2 (ji10)) + (wrap64 ((rd l0 x18_1) * (rd l1 x23_2))))) + x7_2)) 10000)), (wrap64 (x23_2 + 1)), (by first | rfl | (simp; done) | (simp only [← hji10] <;> (first | rfl | simp)) | (simp [*]; done)), (zF), H', ⟨by have := HK1.out; have := HK2.out; omega⟩, ⟨zR HO_5⟩, ⟨zB HB⟩⟩
              ·
               rw [if_neg c16] at H
               exact absurd H (by simp)
             ·
              rw [if_neg c15] at H
              exact absurd H (by simp)
            ·
             rw [if_neg c14] at H
             exact absurd H (by simp)
           ·
            rw [if_neg c13] at H
            exact absurd H (by simp)
          ·
           rw [if_neg c12] at H
           exact absurd H (by simp)
         ·
          rw [if_neg c11] at H
          exact absurd H (by simp)
        ·
         rw [if_neg c9] at H
         have c9b0 : decide (x23_2 < (l1.length : Int)) = false := decide_eq_false c9
         clear c9
         obtain ⟨ji21, hji21⟩ : ∃ j_ : Int, (wrap64 (x18_1 + (l1.length : Int))) = j_ := ⟨_, rfl⟩
         replace H : (if 0 ≤ (ji21) then (if (ji21) < (x5_2.length : Int) then (zaj.l0 k2 l0 l1 (x5_2.set ((ji21) : Int).toNat (wrap64 ((rd x5_2 (ji21)) + x7_2))) (l0.length : Int) (wrap64 (x18_1 + 1))) else (none)) else (none)) = some r := by first | (rw [hji21] at H; exact H) | (simp only [hji21] at H ⊢; exact H)
         have hji21w : (IntKind.i64.wrap (x18_1 + (l1.length : Int))) = ji21 := (i64_w _).trans hji21
         by_cases c22 : 0 ≤ (ji21)
         ·
          rw [if_pos c22] at H
          have c22b0 : decide (0 ≤ (ji21)) = true := decide_eq_true c22
          clear c22
          by_cases c23 : (ji21) < (x5_2.length : Int)
          ·
           rw [if_pos c23] at H
           have c23b0 : decide ((ji21) < (x5_2.length : Int)) = true := decide_eq_true c23
           clear c23
           obtain ⟨y299, hy299⟩ : ∃ y_ : List Int, y_ = (x5_2.set ((ji21) : Int).toNat (wrap64 ((rd x5_2 (ji21)) + x7_2))) := ⟨_, rfl⟩
           replace H : (zaj.l0 k2 l0 l1 y299 (l0.length : Int) (wrap64 (x18_1 + 1))) = some r := by first | (rw [hy299]; with_reducible exact H) | (have H2_ := (Option.bind_some _ _).symm.trans H; rw [hy299]; with_reducible exact H2_) | (have H2_ := (Option.bind_some _ _).symm.trans H; with_reducible exact H2_) | with_reducible exact H | (rw [hy299]; exact H) | exact H
           have Ny299 := zA hy299
           clear hy299
           have H' := zA H
           clear H
           obtain ⟨Ao25, co25, eo25⟩ := Kd.zbn HO_5.out
           subst eo25
           have p298 : 0 ≤ ((ji21) : Int) := of_decide_eq_true (by first | (with_reducible assumption) | assumption)
           have q298 : (ji21) < (x5_2.length : Int) := of_decide_eq_true (by first | (with_reducible assumption) | assumption)
           obtain ⟨ad298, e298, hx298_0⟩ := Kd.at_int (Kd.za2 HO_5.out).2.2 (ji21) p298 q298
           cases e298
           replace p298 := eq_true p298
           replace q298 := eq_true q298
           have p24 : 0 ≤ ((ji21) : Int) := of_decide_eq_true (by first | (with_reducible assumption) | assumption)
           have q24 : ((ji21) : Int) < ((x5_2.length : Int) : Int) := of_decide_eq_true (by first | (with_reducible assumption) | assumption)
           obtain ⟨go24, co24, eo24, gb24, gl24, cl24, HG24⟩ := Kd.R_form HO_5.out (by omega)
           (first | cases eo24 | (injection eo24 with ea_ en_ ec_; (first | subst ea_ | (injection ea_ with ea_; subst ea_)); subst ec_; clear en_))
           have GB24 := zA gb24
           have GG24 := zA HG24
           clear gb24 gl24 HG24
           (first | simp only [add_plain] at hx298_0 | skip)
           obtain ⟨hx24_0, hf24_0⟩ := Kd.zc2 0 HO_5.out ((ji21) : Int) p24 q24
           replace p24 := eq_true p24
           replace q24 := eq_true q24
           have HP26 := Kd.R_putg HO_5.out ((ji21) : Int) (wrap64 ((rd x5_2 (ji21)) + x7_2))
           go_wp2_with (first | ((with_reducible refine zc3 (t := 3) (p := 68) rfl ?_); (try (rw [drewN_self wr]; generalize hq_ : World.drewN wr _ = wr; have n0_ := zA (Kd.R_at hq_ HO_5.out); have n1_ := zA (below_at hq_ HB.out); clear hq_ HO_5 HB; have HO_5 := n0_; have HB := n1_; clear n0_ n1_; (try (have HP26 := Kd.R_putg HO_5.out ((ji21) : Int) (wrap64 ((rd x5_2 (ji21)) + x7_2)))); (try (obtain ⟨hx24_0, hf24_0⟩ := Kd.zc2 0 HO_5.out ((ji21) : Int) (of_eq_true p24) (of_eq_true q24))))); refine zcr (t := 3) (p := 68) (v := ?vo_w27) (w1 := (wr.setCell ⟨go24, ((ji21) : Int).toNat, none⟩ (.int .i64 (wrap64 ((rd x5_2 (ji21)) + x7_2))))) ?hg ?ho ?hn ?hr ?_; (case ho => rfl); (case hg => rfl); (case hn => rfl); (case hr => first | (go_simp; done) | (go_simp; rfl)); intro w27 hw; have hg : wr.grownBy w27 (some go24) := (by rw [hw]; exact HP26.2); have hp_ : Kd.R (Kd.int .i64) 3 w27 w.heap.size (fun _ => True) (.slice (some ⟨go24, 0, none⟩) x5_2.length co25) y299 := (by rw [hw, Ny299.out]; exact HP26.1); clear HP26; have n0_ := zA (hp_); have n1_ := zA ((by rw [hw]; exact zc5 (HB.out) GB24.out : Below w.heap.size w w27)); clear HO_5 HB; have HO_5 := n0_; have HB := n1_; clear n0_ n1_ hg hw hp_))
           repeat (go_quiet (first | ((with_reducible refine zc3 (t := 3) (p := 68) rfl ?_); (try (rw [drewN_self wr]; generalize hq_ : World.drewN wr _ = wr; have n0_ := zA (Kd.R_at hq_ HO_5.out); have n1_ := zA (below_at hq_ HB.out); clear hq_ HO_5 HB; have HO_5 := n0_; have HB := n1_; clear n0_ n1_; (try (have HP26 := Kd.R_putg HO_5.out ((ji21) : Int) (wrap64 ((rd x5_2 (ji21)) + x7_2)))); (try (obtain ⟨hx24_0, hf24_0⟩ := Kd.zc2 0 HO_5.out ((ji21) : Int) (of_eq_true p24) (of_eq_true q24))))); refine zcr (t := 3) (p := 68) (v := ?vo_w27) (w1 := (wr.setCell ⟨go24, ((ji21) : Int).toNat, none⟩ (.int .i64 (wrap64 ((rd x5_2 (ji21)) + x7_2))))) ?hg ?ho ?hn ?hr ?_; (case ho => rfl); (case hg => rfl); (case hn => rfl); (case hr => first | (go_simp; done) | (go_simp; rfl)); intro w27 hw; have hg : wr.grownBy w27 (some go24) := (by rw [hw]; exact HP26.2); have hp_ : Kd.R (Kd.int .i64) 3 w27 w.heap.size (fun _ => True) (.slice (some ⟨go24, 0, none⟩) x5_2.length co25) y299 := (by rw [hw, Ny299.out]; exact HP26.1); clear HP26; have n0_ := zA (hp_); have n1_ := zA ((by rw [hw]; exact zc5 (HB.out) GB24.out : Below w.heap.size w w27)); clear HO_5 HB; have HO_5 := n0_; have HB := n1_; clear n0_ n1_ hg hw hp_)); try go_wp2_with (first | ((with_reducible refine zc3 (t := 3) (p := 68) rfl ?_); (try (rw [drewN_self wr]; generalize hq_ : World.drewN wr _ = wr; have n0_ := zA (Kd.R_at hq_ HO_5.out); have n1_ := zA (below_at hq_ HB.out); clear hq_ HO_5 HB; have HO_5 := n0_; have HB := n1_; clear n0_ n1_; (try (have HP26 := Kd.R_putg HO_5.out ((ji21) : Int) (wrap64 ((rd x5_2 (ji21)) + x7_2)))); (try (obtain ⟨hx24_0, hf24_0⟩ := Kd.zc2 0 HO_5.out ((ji21) : Int) (of_eq_true p24) (of_eq_true q24))))); refine zcr (t := 3) (p := 68) (v := ?vo_w27) (w1 := (wr.setCell ⟨go24, ((ji21) : Int).toNat, none⟩ (.int .i64 (wrap64 ((rd x5_2 (ji21)) + x7_2))))) ?hg ?ho ?hn ?hr ?_; (case ho => rfl); (case hg => rfl); (case hn => rfl); (case hr => first | (go_simp; done) | (go_simp; rfl)); intro w27 hw; have hg : wr.grownBy w27 (some go24) := (by rw [hw]; exact HP26.2); have hp_ : Kd.R (Kd.int .i64) 3 w27 w.heap.size (fun _ => True) (.slice (some ⟨go24, 0, none⟩) x5_2.length co25) y299 := (by rw [hw, Ny299.out]; exact HP26.1); clear HP26; have n0_ := zA (hp_); have n1_ := zA ((by rw [hw]; exact zc5 (HB.out) GB24.out : Below w.heap.size w w27)); clear HO_5 HB; have HO_5 := n0_; have HB := n1_; clear n0_ n1_ hg hw hp_)))
           go_roundg k2
           case measure => have := HK1.out; have := HK2.out; omega
           case rel => exact ⟨(y299), (wrap64 (x18_1 + 1)), (zF), H', ⟨by have := HK1.out; have := HK2.out; omega⟩, ⟨zR HO_5⟩, ⟨zB HB⟩⟩
          ·
           rw [if_neg c23] at H
           exact absurd H (by simp)
         ·
          rw [if_neg c22] at H
          exact absurd H (by simp)
     ·
      rw [if_neg c8] at H
      have c8b0 : decide (x18_1 < (l0.length : Int)) = false := decide_eq_false c8
      clear c8
      replace H := zO H
      obtain ⟨t291, A280, H⟩ := H
      try dsimp only at H
      have A28 := zA A280
      clear A280
      obtain rfl := Option.some.inj H
      obtain ⟨Ao29, co29, eo29⟩ := Kd.zbn HO_5.out
      subst eo29
      go_wp2_with (first | (go_at_call 83; (with_reducible refine (zam.calls k1 (fun k_ => some k_ = (.slice Ao29 x5_1.length co29 : Value).ownBlock) (.slice Ao29 x5_1.length co29) x5_1 t291 w _ ?side1 ?side2 A28.out).mono ?_); (case side1 => repeat (first | (with_reducible first | exact HB.out | apply za1 | apply zbf | apply zbu) | exact HB.out)); (case side2 => exact Kd.zc4 rfl HO_5.out); rintro e w30 ⟨v292, rfl, ho0, hb, hkp⟩; have n0_ := zA (Kd.zbl (ok' := fun k_ => True) ho0 (fun k_ hk_ => trivial)); have n1_ := zA (hb); clear HB HO_5; have HO293 := n0_; have HB := n1_; clear n0_ n1_; (try clear hb); (try clear hkp); (try clear ho0)))
      repeat (go_quiet (first | (go_at_call 83; (with_reducible refine (zam.calls k1 (fun k_ => some k_ = (.slice Ao29 x5_1.length co29 : Value).ownBlock) (.slice Ao29 x5_1.length co29) x5_1 t291 w _ ?side1 ?side2 A28.out).mono ?_); (case side1 => repeat (first | (with_reducible first | exact HB.out | apply za1 | apply zbf | apply zbu) | exact HB.out)); (case side2 => exact Kd.zc4 rfl HO_5.out); rintro e w30 ⟨v292, rfl, ho0, hb, hkp⟩; have n0_ := zA (Kd.zbl (ok' := fun k_ => True) ho0 (fun k_ hk_ => trivial)); have n1_ := zA (hb); clear HB HO_5; have HO293 := n0_; have HB := n1_; clear n0_ n1_; (try clear hb); (try clear hkp); (try clear ho0))); try go_wp2_with (first | (go_at_call 83; (with_reducible refine (zam.calls k1 (fun k_ => some k_ = (.slice Ao29 x5_1.length co29 : Value).ownBlock) (.slice Ao29 x5_1.length co29) x5_1 t291 w _ ?side1 ?side2 A28.out).mono ?_); (case side1 => repeat (first | (with_reducible first | exact HB.out | apply za1 | apply zbf | apply zbu) | exact HB.out)); (case side2 => exact Kd.zc4 rfl HO_5.out); rintro e w30 ⟨v292, rfl, ho0, hb, hkp⟩; have n0_ := zA (Kd.zbl (ok' := fun k_ => True) ho0 (fun k_ hk_ => trivial)); have n1_ := zA (hb); clear HB HO_5; have HO293 := n0_; have HB := n1_; clear n0_ n1_; (try clear hb); (try clear hkp); (try clear ho0))))
      go_ret
      exact ⟨_, by first | rfl | (simp [zb7, zb6] <;> rfl) | (simp only [← hji3]; first | rfl | (simp [zb7, zb6] <;> rfl)) | (simp [*, zb7, zb6] <;> rfl), zR HO293, zB HB⟩
  ·
   rw [if_neg c5] at H
   exact absurd H (by simp)
 ·
  rw [if_neg c4] at H
  exact absurd H (by simp)
def zax.l0 : Nat → Int → List Int → Option (List Int)
 | 0, _, _ => none
 | k + 1, x0, x3 => if x0 > 0 then (if x3.length < 17592186044416 then (zax.l0 k (wrap64 (Int.tdiv x0 10000)) (x3 ++ [Int.tmod x0 10000])) else (none)) else (some x3)
def zax.f (k : Nat) (a0 : Int) : Option (List Int) := zax.l0 k a0 ([] : List Int)
theorem zax.calls (k : Nat) (a0 : Int) (r : List Int) (w : World) (h : zax.f k a0 = some r) :
  Calls Tryd.prog 20 #[.int .i64 a0] w fun e w' => ∃ v0_ : Value, e = .returned (v0_) ∧ Kd.R (Kd.int .i64) 3 w' w.heap.size (fun _ => True) v0_ r ∧ Below w.heap.size w w' := by
 have HB := zA (Below.refl w.heap.size w)
 have H : (zax.l0 k a0 ([] : List Int)) = some r := h
 clear h
 have H' := zA H
 clear H
 go_enter Tryd.func20, Tryd.ntmps20
 go_wp2
 go_loopg [0, 3] k (fun kq v0 v3 w' => ∃ (x0_1 : Int) (x3_1 : List Int), v0 = .int .i64 x0_1 ∧ Aside0 (zax.l0 kq x0_1 x3_1 = some r) ∧ Aside0 (kq ≤ k) ∧ Aside0 (Kd.R (Kd.int .i64) 3 w' w.heap.size (fun _ => True) v3 x3_1) ∧ Aside0 (Below w.heap.size w w'))
 case atStart => exact ⟨(a0), (([] : List Int)), (zF), H', ⟨Nat.le_refl _⟩, ⟨by first | exact Kd.R_nil _ _ _ _ _ | exact Kd.N_nil _ _ _ _ _ | exact Kd.V_nil _ _ _ _ _ | exact Kd.Q_nil _ _ _ _ _ | exact Kd.S_nil _ _ _ _ _⟩, ⟨zB HB⟩⟩
 case round =>
  clear H'
  obtain ⟨x0_1, x3_1, rfl, HA, HK1, HO_3, HB⟩ := hrel
  cases gk with
  | zero => exact absurd HA.out (by simp [zax.l0])
  | succ k1 =>
   have H := HA.out
   clear HA
   simp only [zax.l0] at H
   by_cases c2 : x0_1 > 0
   ·
    rw [if_pos c2] at H
    have c2b0 : decide (0 < x0_1) = true := decide_eq_true c2
    clear c2
    by_cases c3 : x3_1.length < 17592186044416
    ·
     rw [if_pos c3] at H
     have LMc3 := zA c3
     clear c3
     obtain ⟨y272, hy272⟩ : ∃ y_ : List Int, y_ = (x3_1 ++ [Int.tmod x0_1 10000]) := ⟨_, rfl⟩
     replace H : (zax.l0 k1 (wrap64 (Int.tdiv x0_1 10000)) y272) = some r := by first | (rw [hy272]; with_reducible exact H) | (have H2_ := (Option.bind_some _ _).symm.trans H; rw [hy272]; with_reducible exact H2_) | (have H2_ := (Option.bind_some _ _).symm.trans H; with_reducible exact H2_) | with_reducible exact H | (rw [hy272]; exact H) | exact H
     have Ny272 := zA hy272
     clear hy272
     have H' := zA H
     clear H
     go_wp2_with (first | ((with_reducible refine zb2 (b := .append) (xs := #[.tmp 6, .tmp 9]) rfl ?_); at_builtin; refine Kd.zcz (Kd.int .i64) (w0 := w) w.heap.size rfl (.tmp 6) (.tmp 9) 31 3 (.int .i64 0) 8 rfl Tryd.underlying31 info3 rfl (by decide) (by omega) u3 x3_1 (Int.tmod x0_1 10000) [.int .i64 (Int.tmod x0_1 10000)] (fun _ => True) (fun _ => False) rfl rfl ?aP (fun _ hk => hk.elim) ?aF ?aO ?aB ?aS ?aL ?_; (case aP => exact rfl); (case aB => exact (zB HB)); (case aF => exact (fun _ _ => trivial)); (case aO => exact (zR HO_3)); (case aS => exact (za (zB HB))); (case aL => have := LMc3.out; omega); intro v273 w4 ho hb hg hat; rw [← Ny272.out] at ho; have n0_ := zA (hb); have n1_ := zA (ho); clear HB HO_3; have HB := n0_; have HO274 := n1_; clear n0_ n1_ ho hb hg hat))
     go_roundg k1
     case measure => have := HK1.out; omega
     case rel => exact ⟨(wrap64 (Int.tdiv x0_1 10000)), (y272), (zF), H', ⟨by have := HK1.out; omega⟩, ⟨zR HO274⟩, ⟨zB HB⟩⟩
    ·
     rw [if_neg c3] at H
     exact absurd H (by simp)
   ·
    rw [if_neg c2] at H
    have c2b0 : decide (0 < x0_1) = false := decide_eq_false c2
    clear c2
    obtain rfl := Option.some.inj H
    go_wp2
    go_ret
    exact ⟨_, zW, zR HO_3, zB HB⟩
def za4.l0 : Nat → List Int → List Int → Int → Option (Int)
 | 0, _, _, _ => none
 | k + 1, x0, x1, x5 => if x5 ≥ 0 then (if 0 ≤ x5 then (if x5 < (x0.length : Int) then (if x5 < (x1.length : Int) then (if (rd x0 x5) < (rd x1 x5) then (some (-1)) else (if (rd x0 x5) > (rd x1 x5) then (some 1) else (za4.l0 k x0 x1 (wrap64 (x5 - 1))))) else (none)) else (none)) else (none)) else (some 0)
def za4.f (k : Nat) (l0 : List Int) (l1 : List Int) : Option (Int) := if (l0.length : Int) = (l1.length : Int) then (za4.l0 k l0 l1 (wrap64 ((l0.length : Int) - 1))) else (if (l0.length : Int) < (l1.length : Int) then (some (-1)) else (some 1))
theorem za4.calls (k : Nat) (A0 : Option Addr) (c0 : Nat) (l0 : List Int) (A1 : Option Addr) (c1 : Nat) (l1 : List Int) (r : Int) (w : World) (hr0 : Kd.C (Kd.int .i64) w A0 l0.length l0) (hc0 : l0.length ≤ c0) (hr1 : Kd.C (Kd.int .i64) w A1 l1.length l1) (hc1 : l1.length ≤ c1) (h : za4.f k l0 l1 = some r) :
  Calls Tryd.prog 18 #[.slice A0 l0.length c0, .slice A1 l1.length c1] w fun e w' => e = .returned (.int .i64 r) ∧ Drawn0 w w' := by
 have HR0 := zA hr0
 have HC0 := zA hc0
 clear hr0 hc0
 have HR1 := zA hr1
 have HC1 := zA hc1
 clear hr1 hc1
 have H : (if (l0.length : Int) = (l1.length : Int) then (za4.l0 k l0 l1 (wrap64 ((l0.length : Int) - 1))) else (if (l0.length : Int) < (l1.length : Int) then (some (-1)) else (some 1))) = some r := h
 clear h
 by_cases c3 : (l0.length : Int) = (l1.length : Int)
 ·
  rw [if_pos c3] at H
  have c3b0 : ((l0.length : Int) == (l1.length : Int)) = true := beq_iff_eq.mpr c3
  have c3b1 : ((l0.length : Int) != (l1.length : Int)) = false := bne_eq_false_iff_eq.mpr c3
  have c3b2 : (l0.length == l1.length) = true := by first | simpa using c3 | (simp at c3 ⊢; omega)
  clear c3
  have H' := zA H
  clear H
  go_enter Tryd.func18, Tryd.ntmps18
  go_wp2
  repeat (go_quiet (fail); try go_wp2)
  go_loopg [5] k (fun kq v5 w' => ∃ (x5_1 : Int), v5 = .int .i64 x5_1 ∧ Aside0 (za4.l0 kq l0 l1 x5_1 = some r) ∧ Aside0 (kq ≤ k) ∧ Drawn0 w w')
  case atStart => exact ⟨(wrap64 ((l0.length : Int) - 1)), (zF), H', ⟨Nat.le_refl _⟩, by repeat (first | exact Drawn0.refl _ | apply Drawn0.step)⟩
  case round =>
   clear H'
   try clear c1
   try clear p2
   try clear c3
   try clear c3b0
   try clear c3b1
   try clear c3b2
   obtain ⟨x5_1, rfl, HA, HK1, ⟨m1, rfl⟩⟩ := hrel
   cases gk with
   | zero => exact absurd HA.out (by simp [za4.l0])
   | succ k1 =>
    have H := HA.out
    clear HA
    simp only [za4.l0] at H
    by_cases c4 : x5_1 ≥ 0
    ·
     rw [if_pos c4] at H
     have c4b0 : decide (0 ≤ x5_1) = true := decide_eq_true c4
     clear c4
     by_cases c5 : 0 ≤ x5_1
     ·
      rw [if_pos c5] at H
      have c5b0 : decide (0 ≤ x5_1) = true := decide_eq_true c5
      clear c5
      by_cases c6 : x5_1 < (l0.length : Int)
      ·
       rw [if_pos c6] at H
       have c6b0 : decide (x5_1 < (l0.length : Int)) = true := decide_eq_true c6
       clear c6
       by_cases c7 : x5_1 < (l1.length : Int)
       ·
        rw [if_pos c7] at H
        have c7b0 : decide (x5_1 < (l1.length : Int)) = true := decide_eq_true c7
        clear c7
        by_cases c8 : (rd l0 x5_1) < (rd l1 x5_1)
        ·
         rw [if_pos c8] at H
         have c8b0 : decide ((rd l0 x5_1) < (rd l1 x5_1)) = true := decide_eq_true c8
         clear c8
         obtain rfl := Option.some.inj H
         have p313 : 0 ≤ (x5_1 : Int) := of_decide_eq_true (by first | (with_reducible assumption) | assumption)
         have q313 : x5_1 < (l0.length : Int) := of_decide_eq_true (by first | (with_reducible assumption) | assumption)
         obtain ⟨ad313, e313, hx313_0⟩ := Kd.at_int HR0.out x5_1 p313 q313
         cases e313
         replace p313 := eq_true p313
         replace q313 := eq_true q313
         have p314 : 0 ≤ (x5_1 : Int) := of_decide_eq_true (by first | (with_reducible assumption) | assumption)
         have q314 : x5_1 < (l1.length : Int) := of_decide_eq_true (by first | (with_reducible assumption) | assumption)
         obtain ⟨ad314, e314, hx314_0⟩ := Kd.at_int HR1.out x5_1 p314 q314
         cases e314
         replace p314 := eq_true p314
         replace q314 := eq_true q314
         go_wp2
         repeat (go_quiet (fail); try go_wp2)
         go_ret
         exact ⟨zF, by repeat (first | exact Drawn0.refl _ | apply Drawn0.step)⟩
        ·
         rw [if_neg c8] at H
         have c8b0 : decide ((rd l0 x5_1) < (rd l1 x5_1)) = false := decide_eq_false c8
         clear c8
         by_cases c9 : (rd l0 x5_1) > (rd l1 x5_1)
         ·
          rw [if_pos c9] at H
          have c9b0 : decide ((rd l1 x5_1) < (rd l0 x5_1)) = true := decide_eq_true c9
          clear c9
          obtain rfl := Option.some.inj H
          have p313 : 0 ≤ (x5_1 : Int) := of_decide_eq_true (by first | (with_reducible assumption) | assumption)
          have q313 : x5_1 < (l0.length : Int) := of_decide_eq_true (by first | (with_reducible assumption) | assumption)
          obtain ⟨ad313, e313, hx313_0⟩ := Kd.at_int HR0.out x5_1 p313 q313
          cases e313
          replace p313 := eq_true p313
          replace q313 := eq_true q313
          have p314 : 0 ≤ (x5_1 : Int) := of_decide_eq_true (by first | (with_reducible assumption) | assumption)
          have q314 : x5_1 < (l1.length : Int) := of_decide_eq_true (by first | (with_reducible assumption) | assumption)
          obtain ⟨ad314, e314, hx314_0⟩ := Kd.at_int HR1.out x5_1 p314 q314
          cases e314
          replace p314 := eq_true p314
          replace q314 := eq_true q314
          have p315 : 0 ≤ (x5_1 : Int) := of_decide_eq_true (by first | (with_reducible assumption) | assumption)
          have q315 : x5_1 < (l0.length : Int) := of_decide_eq_true (by first | (with_reducible assumption) | assumption)
          obtain ⟨ad315, e315, hx315_0⟩ := Kd.at_int HR0.out x5_1 p315 q315
          obtain rfl : ad313 = ad315 := (by injection e315)
          replace p315 := eq_true p315
          replace q315 := eq_true q315
          have p316 : 0 ≤ (x5_1 : Int) := of_decide_eq_true (by first | (with_reducible assumption) | assumption)
          have q316 : x5_1 < (l1.length : Int) := of_decide_eq_true (by first | (with_reducible assumption) | assumption)
          obtain ⟨ad316, e316, hx316_0⟩ := Kd.at_int HR1.out x5_1 p316 q316
          obtain rfl : ad314 = ad316 := (by injection e316)
          replace p316 := eq_true p316
          replace q316 := eq_true q316
          go_wp2
          repeat (go_quiet (fail); try go_wp2)
          go_ret
          exact ⟨zF, by repeat (first | exact Drawn0.refl _ | apply Drawn0.step)⟩
         ·
          rw [if_neg c9] at H
          have c9b0 : decide ((rd l1 x5_1) < (rd l0 x5_1)) = false := decide_eq_false c9
          clear c9
          have H' := zA H
          clear H
          have p313 : 0 ≤ (x5_1 : Int) := of_decide_eq_true (by first | (with_reducible assumption) | assumption)
          have q313 : x5_1 < (l0.length : Int) := of_decide_eq_true (by first | (with_reducible assumption) | assumption)
          obtain ⟨ad313, e313, hx313_0⟩ := Kd.at_int HR0.out x5_1 p313 q313
          cases e313
          replace p313 := eq_true p313
          replace q313 := eq_true q313
          have p314 : 0 ≤ (x5_1 : Int) := of_decide_eq_true (by first | (with_reducible assumption) | assumption)
          have q314 : x5_1 < (l1.length : Int) := of_decide_eq_true (by first | (with_reducible assumption) | assumption)
          obtain ⟨ad314, e314, hx314_0⟩ := Kd.at_int HR1.out x5_1 p314 q314
          cases e314
          replace p314 := eq_true p314
          replace q314 := eq_true q314
          have p315 : 0 ≤ (x5_1 : Int) := of_decide_eq_true (by first | (with_reducible assumption) | assumption)
          have q315 : x5_1 < (l0.length : Int) := of_decide_eq_true (by first | (with_reducible assumption) | assumption)
          obtain ⟨ad315, e315, hx315_0⟩ := Kd.at_int HR0.out x5_1 p315 q315
          obtain rfl : ad313 = ad315 := (by injection e315)
          replace p315 := eq_true p315
          replace q315 := eq_true q315
          have p316 : 0 ≤ (x5_1 : Int) := of_decide_eq_true (by first | (with_reducible assumption) | assumption)
          have q316 : x5_1 < (l1.length : Int) := of_decide_eq_true (by first | (with_reducible assumption) | assumption)
          obtain ⟨ad316, e316, hx316_0⟩ := Kd.at_int HR1.out x5_1 p316 q316
          obtain rfl : ad314 = ad316 := (by injection e316)
          replace p316 := eq_true p316
          replace q316 := eq_true q316
          go_wp2
          repeat (go_quiet (fail); try go_wp2)
          go_roundg k1
          case measure => have := HK1.out; omega
          case rel => exact ⟨(wrap64 (x5_1 - 1)), (zF), H', ⟨by have := HK1.out; omega⟩, by repeat (first | exact Drawn0.refl _ | apply Drawn0.step)⟩
       ·
        rw [if_neg c7] at H
        exact absurd H (by simp)
      ·
       rw [if_neg c6] at H
       exact absurd H (by simp)
     ·
      rw [if_neg c5] at H
      exact absurd H (by simp)
    ·
     rw [if_neg c4] at H
     have c4b0 : decide (0 ≤ x5_1) = false := decide_eq_false c4
     clear c4
     obtain rfl := Option.some.inj H
     go_wp2
     repeat (go_quiet (fail); try go_wp2)
     go_ret
     exact ⟨zF, by repeat (first | exact Drawn0.refl _ | apply Drawn0.step)⟩
 ·
  rw [if_neg c3] at H
  have c3b0 : ((l0.length : Int) == (l1.length : Int)) = false := beq_eq_false_iff_ne.mpr c3
  have c3b1 : ((l0.length : Int) != (l1.length : Int)) = true := bne_iff_ne.mpr c3
  have c3b2 : (l0.length == l1.length) = false := by first | simpa using c3 | (simp at c3 ⊢; omega)
  by_cases c10 : (l0.length : Int) < (l1.length : Int)
  ·
   rw [if_pos c10] at H
   have c10b0 : decide ((l0.length : Int) < (l1.length : Int)) = true := decide_eq_true c10
   have c10b1 : decide (l0.length < l1.length) = true := decide_eq_true (Int.ofNat_lt.mp c10)
   clear c10
   obtain rfl := Option.some.inj H
   go_enter Tryd.func18, Tryd.ntmps18
   go_wp2
   repeat (go_quiet (fail); try go_wp2)
   go_ret
   exact ⟨zF, by repeat (first | exact Drawn0.refl _ | apply Drawn0.step)⟩
  ·
   rw [if_neg c10] at H
   have c10b0 : decide ((l0.length : Int) < (l1.length : Int)) = false := decide_eq_false c10
   have c10b1 : decide (l0.length < l1.length) = false := decide_eq_false (fun h => c10 (Int.ofNat_lt.mpr h))
   clear c10
   obtain rfl := Option.some.inj H
   go_enter Tryd.func18, Tryd.ntmps18
   go_wp2
   repeat (go_quiet (fail); try go_wp2)
   go_ret
   exact ⟨zF, by repeat (first | exact Drawn0.refl _ | apply Drawn0.step)⟩
def zbp.f (l0 : List Int) (a1 : Int) : Option (Int) := if a1 < (l0.length : Int) then (if 0 ≤ a1 then (some (rd l0 a1)) else (none)) else (some 0)
theorem zbp.calls (A0 : Option Addr) (c0 : Nat) (l0 : List Int) (a1 : Int) (r : Int) (w : World) (hr0 : Kd.C (Kd.int .i64) w A0 l0.length l0) (hc0 : l0.length ≤ c0) (h : zbp.f l0 a1 = some r) :
  Calls Tryd.prog 82 #[.slice A0 l0.length c0, .int .i64 a1] w fun e w' => e = .returned (.int .i64 r) ∧ Drawn0 w w' := by
 have HR0 := zA hr0
 have HC0 := zA hc0
 clear hr0 hc0
 have H : (if a1 < (l0.length : Int) then (if 0 ≤ a1 then (some (rd l0 a1)) else (none)) else (some 0)) = some r := h
 clear h
 by_cases c3 : a1 < (l0.length : Int)
 ·
  rw [if_pos c3] at H
  have c3b0 : decide (a1 < (l0.length : Int)) = true := decide_eq_true c3
  clear c3
  by_cases c4 : 0 ≤ a1
  ·
   rw [if_pos c4] at H
   have c4b0 : decide (0 ≤ a1) = true := decide_eq_true c4
   clear c4
   obtain rfl := Option.some.inj H
   have p275 : 0 ≤ (a1 : Int) := of_decide_eq_true (by first | (with_reducible assumption) | assumption)
   have q275 : a1 < (l0.length : Int) := of_decide_eq_true (by first | (with_reducible assumption) | assumption)
   obtain ⟨ad275, e275, hx275_0⟩ := Kd.at_int HR0.out a1 p275 q275
   cases e275
   replace p275 := eq_true p275
   replace q275 := eq_true q275
   go_enter Tryd.func82, Tryd.ntmps82
   go_wp2
   go_ret
   exact ⟨zF, by repeat (first | exact Drawn0.refl _ | apply Drawn0.step)⟩
  ·
   rw [if_neg c4] at H
   exact absurd H (by simp)
 ·
  rw [if_neg c3] at H
  have c3b0 : decide (a1 < (l0.length : Int)) = false := decide_eq_false c3
  clear c3
  obtain rfl := Option.some.inj H
  go_enter Tryd.func82, Tryd.ntmps82
  go_wp2
  go_ret
  exact ⟨zF, by repeat (first | exact Drawn0.refl _ | apply Drawn0.step)⟩
end Go.Proofs.YtfjkamhcabckeaaDoor.P
end
