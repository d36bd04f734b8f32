-- Written by a program of this session (wip/tools/shake.py) out of its own texts and of the kit's printed ones; not trusted: Lean checks it.
import Derived.Test.YtfjkamhcabckeaaDoorZSliceOf4
set_option maxHeartbeats 8000000
set_option maxRecDepth 100000
set_option linter.unusedVariables false
set_option linter.unusedSimpArgs false
section
namespace Go.Proofs.YtfjkamhcabckeaaDoor.P
open Go.RowKit Go.Proofs.YtfjkamhcabckeaaDoorW.PrintWords Go.Proofs.YtfjkamhcabckeaaDoorW.PrintLast Go.Proofs.YtfjkamhcabckeaaDoorW.PrintMore
attribute [local go_sem] max2_int min2_int max_two min_two zc9 zdb max_four min_four
def zbh.f (k : Nat) (l0_0 : List Int) (l0_1 : List Int) (l1_0 : List Int) (l1_1 : List Int) : Option (List Int × List Int × List Int) := (za5.f k l0_0 l1_1).bind fun t696 => ((za5.f k l1_0 l0_1).bind fun t699 => ((za5.f k l0_1 l1_1).bind fun t702 => (some (t696, t699, t702))))
theorem zbh.mono : ∀ a0 a1 a2 a3 k, LeO (zbh.f k a0 a1 a2 a3) (zbh.f (k + 1) a0 a1 a2 a3) := by
 intro a0 a1 a2 a3 k
 unfold zbh.f
 repeat' first
   | (with_reducible exact za5.mono _ _ _)
   | (with_reducible exact LeO.refl _)
   | (with_reducible exact LeO.none _)
   | (with_reducible refine LeO.ite ?_ ?_)
   | (with_reducible refine LeO.bind ?_ (fun _ => ?_))
   | exact za5.mono _ _ _
   | exact LeO.none _
   | refine LeO.ite ?_ ?_
   | refine LeO.bind ?_ (fun _ => ?_)
def zbh.T1 : Bool × List (List Nat × List Nat) := (true, [([], []), ([0], [0]), ([], []), ([2], [2]), ([1, 3], [1, 3]), ([], []), ([5], [5]), ([], []), ([7], [7]), ([6, 8, 4], [6, 8]), ([], []), ([10], [10]), ([], []), ([12], [12]), ([11, 13, 9], [11, 13]), ([4, 14, 0, 1, 2, 3, 4], [4]), ([9, 15, 0, 1, 2, 3, 4, 5, 6, 7, 8, 9, 15], [9]), ([14, 16, 0, 1, 2, 3, 4, 5, 6, 7, 8, 9, 10, 11, 12, 13, 14, 15, 16], [14])])
def zbh.B1 : List Nat := [0, 1, 0, 4, 15, 0, 32, 0, 128, 511, 0, 1024, 0, 4096, 16383, 32767, 65535, 131071]
theorem zbh.tab1 : rtab .any (opsOf Tryd.f62 1) = zbh.T1 := by kernel_rfl
theorem zbh.bits1 : waitsOk zbh.T1.2 zbh.B1 = true := by kernel_rfl
theorem zbh.calls (k : Nat) (A0_0 : Option Addr) (c0_0 : Nat) (l0_0 : List Int) (A0_1 : Option Addr) (c0_1 : Nat) (l0_1 : List Int) (A1_0 : Option Addr) (c1_0 : Nat) (l1_0 : List Int) (A1_1 : Option Addr) (c1_1 : Nat) (l1_1 : List Int) (r1 : List Int) (r2 : List Int) (r3 : List Int) (w : World) (hr0_0 : Kd.C (Kd.int .u64) w A0_0 l0_0.length l0_0) (hc0_0 : l0_0.length ≤ c0_0) (hr0_1 : Kd.C (Kd.int .u64) w A0_1 l0_1.length l0_1) (hc0_1 : l0_1.length ≤ c0_1) (hr1_0 : Kd.C (Kd.int .u64) w A1_0 l1_0.length l1_0) (hc1_0 : l1_0.length ≤ c1_0) (hr1_1 : Kd.C (Kd.int .u64) w A1_1 l1_1.length l1_1) (hc1_1 : l1_1.length ≤ c1_1) (h : zbh.f k l0_0 l0_1 l1_0 l1_1 = some (r1, r2, r3)) :
  Calls Tryd.prog 62 #[.agg #[.slice A0_0 l0_0.length c0_0, .slice A0_1 l0_1.length c0_1], .agg #[.slice A1_0 l1_0.length c1_0, .slice A1_1 l1_1.length c1_1]] w fun e w' => ∃ v0_ v1_ v2_ : Value, e = .returned (.tuple #[v0_, v1_, v2_]) ∧ Kd.V (Kd.int .u64) 57 w' w.heap.size (fun k_ => (w.heap.size ≤ k_)) v0_ r1 ∧ Kd.V (Kd.int .u64) 57 w' w.heap.size (fun k_ => (w.heap.size ≤ k_)) v1_ r2 ∧ Kd.V (Kd.int .u64) 57 w' w.heap.size (fun k_ => (w.heap.size ≤ k_)) v2_ r3 ∧ Below w.heap.size w w' := by
 have hu28 := Tryd.underlying28
 have HR0_0 := zA hr0_0
 have HC0_0 := zA hc0_0
 clear hr0_0 hc0_0
 have HR0_1 := zA hr0_1
 have HC0_1 := zA hc0_1
 clear hr0_1 hc0_1
 have HR1_0 := zA hr1_0
 have HC1_0 := zA hc1_0
 clear hr1_0 hc1_0
 have HR1_1 := zA hr1_1
 have HC1_1 := zA hc1_1
 clear hr1_1 hc1_1
 have HB := zA (Below.refl w.heap.size w)
 have H : ((za5.f k l0_0 l1_1).bind fun t696 => ((za5.f k l1_0 l0_1).bind fun t699 => ((za5.f k l0_1 l1_1).bind fun t702 => (some (t696, t699, t702))))) = some (r1, r2, r3) := h
 clear h
 replace H := zO H
 obtain ⟨t696, A30, H⟩ := H
 try dsimp only at H
 have A3 := zA A30
 clear A30
 replace H := zO H
 obtain ⟨t699, A40, H⟩ := H
 try dsimp only at H
 have A4 := zA A40
 clear A40
 replace H := zO H
 obtain ⟨t702, A50, H⟩ := H
 try dsimp only at H
 have A5 := zA A50
 clear A50
 simp only [Option.some.injEq, Prod.mk.injEq] at H
 obtain ⟨rfl, rfl, rfl⟩ := H
 go_enter Tryd.func62, Tryd.ntmps62
 try go_wp2_with (first | ((with_reducible refine zbe (N := 2) rfl ?_); refine zbj ?hg (N := 2) ?hd (cs := #[.slice A0_0 l0_0.length c0_0, .slice A0_1 l0_1.length c0_1]) (t := 28) ?hr ?_; (case hd => rfl); (case hg => rfl); (case hr => first | (go_simp; done) | (go_simp; rfl)); intro gb694 hg w6 hbox hb; have n0_ := zA (zaa (zB HB) hb); have n1_ := zA (hbox); have n2_ := zA ((by rw [hg]; exact (za (zB HB)) : w.heap.size ≤ gb694)); have n3_ := zA ((by rw [hg]; exact (za (zB HB)) : w.heap.size ≤ gb694)); clear HB; have HB := n0_; have BK694 := n1_; have GW694 := n2_; have GE694 := n3_; clear n0_ n1_ n2_ n3_ hb hbox hg) | ((with_reducible refine zbe (N := 3) rfl ?_); refine zbj ?hg (N := 3) ?hd (cs := #[.slice A1_0 l1_0.length c1_0, .slice A1_1 l1_1.length c1_1]) (t := 28) ?hr ?_; (case hd => rfl); (case hg => rfl); (case hr => first | (go_simp; done) | (go_simp; rfl)); intro gb695 hg w7 hbox hb; have n0_ := zA (zae (g := gb694) (o := .cells #[.slice A0_0 l0_0.length c0_0, .slice A0_1 l0_1.length c0_1] 28 (0, 0)) (zK BK694) hb); have n1_ := zA (zaa (zB HB) hb); have n2_ := zA (hbox); have n3_ := zA ((by rw [hg]; exact (za (zB HB)) : w.heap.size ≤ gb695)); have n4_ := zA ((by rw [hg]; exact (za (zB HB)) : w.heap.size ≤ gb695)); have n5_ := zA ((by rw [hg]; exact Nat.ne_of_lt (zcl (g := gb694) (o := .cells #[.slice A0_0 l0_0.length c0_0, .slice A0_1 l0_1.length c0_1] 28 (0, 0)) (zK BK694)) : gb694 ≠ gb695)); have n6_ := zA ((by rw [hg]; exact Nat.ne_of_gt (zcl (g := gb694) (o := .cells #[.slice A0_0 l0_0.length c0_0, .slice A0_1 l0_1.length c0_1] 28 (0, 0)) (zK BK694)) : gb695 ≠ gb694)); clear BK694 HB; have BK694 := n0_; have HB := n1_; have BK695 := n2_; have GW695 := n3_; have GE695 := n4_; have NB694_695 := n5_; have NB695_694 := n6_; clear n0_ n1_ n2_ n3_ n4_ n5_ n6_ hb hbox hg))
 have n0_ := zA (zak BK694.out)
 have n1_ := zA (zak BK695.out)
 have n2_ := zA (zbl HB.out)
 clear BK694 BK695 HB
 have BK694 := n0_
 have BK695 := n1_
 have HB := n2_
 clear n0_ n1_ n2_
 refine start_ (n := 18) (S := fun w' => w'.cell? ⟨gb694, 0, none⟩ = some (.slice A0_0 l0_0.length c0_0) ∧ w'.cell? ⟨gb694, 1, none⟩ = some (.slice A0_1 l0_1.length c0_1) ∧ w'.cell? ⟨gb695, 0, none⟩ = some (.slice A1_0 l1_0.length c1_0) ∧ w'.cell? ⟨gb695, 1, none⟩ = some (.slice A1_1 l1_1.length c1_1)) (ds := []) #[false, false, false, false, false, false, false, false, false, false, false, false, false, false, false, false, false, false] (by kernel_rfl) rfl rfl ⟨(zac BK694.out 0).trans rfl, (zac BK694.out 1).trans rfl, (zac BK695.out 0).trans rfl, (zac BK695.out 1).trans rfl⟩ (fun hHeld => ?_); refine zcz zbh.tab1 zbh.bits1 (fun HT_ HW_ => ?_)
 generalize w7.drew = w8 at BK694 BK695 HB hHeld ⊢
 refine pure_ (i := 0) (N := some 7) (v := ?_) (a' := ?_) #[true, false, false, false, false, false, false, false, false, false, false, false, false, false, false, false, false, false] rfl rfl (za3 HT_.out (by kernel_rfl)) (fun _ _ _ h => h) (Or.inl ⟨by rfl, ?_⟩) ?_ ?_
 rotate_left
 ·
  intro w'
  go_simp
  with_reducible rfl
 rotate_left
 ·
  simp only [Act.put, zs1, zs2, zs3, i64_w, i32_w]
  rfl
 refine pure_ (i := 2) (N := some 9) (v := ?_) (a' := ?_) #[true, false, true, false, false, false, false, false, false, false, false, false, false, false, false, false, false, false] rfl rfl (za3 HT_.out (by kernel_rfl)) (fun _ _ _ h => h) (Or.inl ⟨by rfl, ?_⟩) ?_ ?_
 rotate_left
 ·
  intro w'
  go_simp
  with_reducible rfl
 rotate_left
 ·
  simp only [Act.put, zs1, zs2, zs3, i64_w, i32_w]
  rfl
 refine pure_ (i := 5) (N := some 12) (v := ?_) (a' := ?_) #[true, false, true, false, false, true, false, false, false, false, false, false, false, false, false, false, false, false] rfl rfl (za3 HT_.out (by kernel_rfl)) (fun _ _ _ h => h) (Or.inl ⟨by rfl, ?_⟩) ?_ ?_
 rotate_left
 ·
  intro w'
  go_simp
  with_reducible rfl
 rotate_left
 ·
  simp only [Act.put, zs1, zs2, zs3, i64_w, i32_w]
  rfl
 refine pure_ (i := 7) (N := some 14) (v := ?_) (a' := ?_) #[true, false, true, false, false, true, false, true, false, false, false, false, false, false, false, false, false, false] rfl rfl (za3 HT_.out (by kernel_rfl)) (fun _ _ _ h => h) (Or.inl ⟨by rfl, ?_⟩) ?_ ?_
 rotate_left
 ·
  intro w'
  go_simp
  with_reducible rfl
 rotate_left
 ·
  simp only [Act.put, zs1, zs2, zs3, i64_w, i32_w]
  rfl
 refine pure_ (i := 10) (N := some 17) (v := ?_) (a' := ?_) #[true, false, true, false, false, true, false, true, false, false, true, false, false, false, false, false, false, false] rfl rfl (za3 HT_.out (by kernel_rfl)) (fun _ _ _ h => h) (Or.inl ⟨by rfl, ?_⟩) ?_ ?_
 rotate_left
 ·
  intro w'
  go_simp
  with_reducible rfl
 rotate_left
 ·
  simp only [Act.put, zs1, zs2, zs3, i64_w, i32_w]
  rfl
 refine pure_ (i := 12) (N := some 19) (v := ?_) (a' := ?_) #[true, false, true, false, false, true, false, true, false, false, true, false, true, false, false, false, false, false] rfl rfl (za3 HT_.out (by kernel_rfl)) (fun _ _ _ h => h) (Or.inl ⟨by rfl, ?_⟩) ?_ ?_
 rotate_left
 ·
  intro w'
  go_simp
  with_reducible rfl
 rotate_left
 ·
  simp only [Act.put, zs1, zs2, zs3, i64_w, i32_w]
  rfl
 refine take_ (i := 1) (N := some 8) (v := ?_) (a' := ?_) #[true, true, true, false, false, true, false, true, false, false, true, false, true, false, false, false, false, false] rfl rfl (zch HT_.out HW_.out (by kernel_rfl)) (fun _ _ _ h => h) (Or.inl ⟨by rfl, ?_⟩) hHeld ?_ ?_
 rotate_left
 ·
  rintro w' ⟨s0, s1, s2, s3⟩
  go_simp
  with_reducible rfl
 rotate_left
 ·
  simp only [Act.put, zs1, zs2, zs3, i64_w, i32_w]
  rfl
 refine take_ (i := 3) (N := some 10) (v := ?_) (a' := ?_) #[true, true, true, true, false, true, false, true, false, false, true, false, true, false, false, false, false, false] rfl rfl (zch HT_.out HW_.out (by kernel_rfl)) (fun _ _ _ h => h) (Or.inl ⟨by rfl, ?_⟩) hHeld ?_ ?_
 rotate_left
 ·
  rintro w' ⟨s0, s1, s2, s3⟩
  go_simp
  with_reducible rfl
 rotate_left
 ·
  simp only [Act.put, zs1, zs2, zs3, i64_w, i32_w]
  rfl
 refine take_ (i := 6) (N := some 13) (v := ?_) (a' := ?_) #[true, true, true, true, false, true, true, true, false, false, true, false, true, false, false, false, false, false] rfl rfl (zch HT_.out HW_.out (by kernel_rfl)) (fun _ _ _ h => h) (Or.inl ⟨by rfl, ?_⟩) hHeld ?_ ?_
 rotate_left
 ·
  rintro w' ⟨s0, s1, s2, s3⟩
  go_simp
  with_reducible rfl
 rotate_left
 ·
  simp only [Act.put, zs1, zs2, zs3, i64_w, i32_w]
  rfl
 refine take_ (i := 8) (N := some 15) (v := ?_) (a' := ?_) #[true, true, true, true, false, true, true, true, true, false, true, false, true, false, false, false, false, false] rfl rfl (zch HT_.out HW_.out (by kernel_rfl)) (fun _ _ _ h => h) (Or.inl ⟨by rfl, ?_⟩) hHeld ?_ ?_
 rotate_left
 ·
  rintro w' ⟨s0, s1, s2, s3⟩
  go_simp
  with_reducible rfl
 rotate_left
 ·
  simp only [Act.put, zs1, zs2, zs3, i64_w, i32_w]
  rfl
 refine take_ (i := 11) (N := some 18) (v := ?_) (a' := ?_) #[true, true, true, true, false, true, true, true, true, false, true, true, true, false, false, false, false, false] rfl rfl (zch HT_.out HW_.out (by kernel_rfl)) (fun _ _ _ h => h) (Or.inl ⟨by rfl, ?_⟩) hHeld ?_ ?_
 rotate_left
 ·
  rintro w' ⟨s0, s1, s2, s3⟩
  go_simp
  with_reducible rfl
 rotate_left
 ·
  simp only [Act.put, zs1, zs2, zs3, i64_w, i32_w]
  rfl
 refine take_ (i := 13) (N := some 20) (v := ?_) (a' := ?_) #[true, true, true, true, false, true, true, true, true, false, true, true, true, true, false, false, false, false] rfl rfl (zch HT_.out HW_.out (by kernel_rfl)) (fun _ _ _ h => h) (Or.inl ⟨by rfl, ?_⟩) hHeld ?_ ?_
 rotate_left
 ·
  rintro w' ⟨s0, s1, s2, s3⟩
  go_simp
  with_reducible rfl
 rotate_left
 ·
  simp only [Act.put, zs1, zs2, zs3, i64_w, i32_w]
  rfl
 refine one_ (i := 4) (N := some 11) #[true, true, true, true, true, true, true, true, true, false, true, true, true, true, false, false, false, false] rfl rfl (zck HT_.out (by kernel_rfl)) (by decide) (fun K hK => ?_)
 refine goes_ Tryd.func61 (by kernel_rfl) rfl #[.slice A0_0 l0_0.length c0_0, .slice A1_1 l1_1.length c1_1] (by rfl) rfl rfl (zE) ?_
 with_reducible refine (za5.calls k _ _ l0_0 _ _ l1_1 t696 _ ?side1 ?side2 ?side3 ?side4 A3.out).mono ?_
 (case side1 => exact zJ (Kd.za4 HR0_0.out HB.out))
 (case side2 => exact HC0_0.out)
 (case side3 => exact zJ (Kd.za4 HR1_1.out HB.out))
 (case side4 => exact HC1_1.out)
 rintro e w9 ⟨v697, rfl, ho0, hb⟩
 refine ⟨_, rfl, ?_⟩
 have n0_ := zA (Kd.zba (Kd.zao (ok' := fun k_ => (w.heap.size ≤ k_) ∧ k_ ≠ gb694 ∧ k_ ≠ gb695) ho0 (fun k_ hk_ => ⟨(Nat.le_trans (za (zB HB)) hk_), (Kd.freshB (g := gb694) (o := .cells #[.slice A0_0 l0_0.length c0_0, .slice A0_1 l0_1.length c0_1] 28 (0, 0)) (zK BK694) k_ hk_), (Kd.freshB (g := gb695) (o := .cells #[.slice A1_0 l1_0.length c1_0, .slice A1_1 l1_1.length c1_1] 28 (0, 0)) (zK BK695) k_ hk_)⟩)) (za (zB HB)))
 have n1_ := zA (zae (g := gb694) (o := .cells #[.slice A0_0 l0_0.length c0_0, .slice A0_1 l0_1.length c0_1] 28 (0, 0)) (zK BK694) hb)
 have n2_ := zA (zae (g := gb695) (o := .cells #[.slice A1_0 l1_0.length c1_0, .slice A1_1 l1_1.length c1_1] 28 (0, 0)) (zK BK695) hb)
 have n3_ := zA (zaa (zB HB) hb)
 clear BK694 BK695 HB
 have HO698 := n0_
 have BK694 := n1_
 have BK695 := n2_
 have HB := n3_
 clear n0_ n1_ n2_ n3_
 (try clear hb)
 (try clear hb2)
 (try clear hk)
 (try clear hi)
 (try clear ho0)
 refine hK.out _ _ ⟨(zac BK694.out 0).trans rfl, (zac BK694.out 1).trans rfl, (zac BK695.out 0).trans rfl, (zac BK695.out 1).trans rfl⟩ (fun hHeld => ?_)
 clear hK K
 refine norm_ (a' := ?_) ?_ ?_
 rotate_left
 ·
  show Act.put _ (some 11) _ = _
  simp only [Act.put, zs1, zs2, zs3, i64_w, i32_w]
  rfl
 refine one_ (i := 9) (N := some 16) #[true, true, true, true, true, true, true, true, true, true, true, true, true, true, false, false, false, false] rfl rfl (zck HT_.out (by kernel_rfl)) (by decide) (fun K hK => ?_)
 refine goes_ Tryd.func61 (by kernel_rfl) rfl #[.slice A1_0 l1_0.length c1_0, .slice A0_1 l0_1.length c0_1] (by rfl) rfl rfl (zE) ?_
 with_reducible refine (za5.calls k _ _ l1_0 _ _ l0_1 t699 _ ?side1 ?side2 ?side3 ?side4 A4.out).mono ?_
 (case side1 => exact zJ (Kd.za4 HR1_0.out HB.out))
 (case side2 => exact HC1_0.out)
 (case side3 => exact zJ (Kd.za4 HR0_1.out HB.out))
 (case side4 => exact HC0_1.out)
 rintro e w10 ⟨v700, rfl, ho0, hb⟩
 refine ⟨_, rfl, ?_⟩
 have n0_ := zA (Kd.zav (zV HO698) hb)
 have n1_ := zA (Kd.zba (Kd.zao (ok' := fun k_ => (w.heap.size ≤ k_) ∧ k_ ≠ gb694 ∧ k_ ≠ gb695) ho0 (fun k_ hk_ => ⟨(Nat.le_trans (za (zB HB)) hk_), (Kd.freshB (g := gb694) (o := .cells #[.slice A0_0 l0_0.length c0_0, .slice A0_1 l0_1.length c0_1] 28 (0, 0)) (zK BK694) k_ hk_), (Kd.freshB (g := gb695) (o := .cells #[.slice A1_0 l1_0.length c1_0, .slice A1_1 l1_1.length c1_1] 28 (0, 0)) (zK BK695) k_ hk_)⟩)) (za (zB HB)))
 have n2_ := zA (zae (g := gb694) (o := .cells #[.slice A0_0 l0_0.length c0_0, .slice A0_1 l0_1.length c0_1] 28 (0, 0)) (zK BK694) hb)
 have n3_ := zA (zae (g := gb695) (o := .cells #[.slice A1_0 l1_0.length c1_0, .slice A1_1 l1_1.length c1_1] 28 (0, 0)) (zK BK695) hb)
 have n4_ := zA (zaa (zB HB) hb)
 clear HO698 BK694 BK695 HB
 have HO698 := n0_
 have HO701 := n1_
 have BK694 := n2_
 have BK695 := n3_
 have HB := n4_
 clear n0_ n1_ n2_ n3_ n4_
 (try clear hb)
 (try clear hb2)
 (try clear hk)
 (try clear hi)
 (try clear ho0)
 refine hK.out _ _ ⟨(zac BK694.out 0).trans rfl, (zac BK694.out 1).trans rfl, (zac BK695.out 0).trans rfl, (zac BK695.out 1).trans rfl⟩ (fun hHeld => ?_)
 clear hK K
 refine norm_ (a' := ?_) ?_ ?_
 rotate_left
 ·
  show Act.put _ (some 16) _ = _
  simp only [Act.put, zs1, zs2, zs3, i64_w, i32_w]
  rfl
 refine one_ (i := 14) (N := some 21) #[true, true, true, true, true, true, true, true, true, true, true, true, true, true, true, false, false, false] rfl rfl (zck HT_.out (by kernel_rfl)) (by decide) (fun K hK => ?_)
 refine goes_ Tryd.func61 (by kernel_rfl) rfl #[.slice A0_1 l0_1.length c0_1, .slice A1_1 l1_1.length c1_1] (by rfl) rfl rfl (zE) ?_
 with_reducible refine (za5.calls k _ _ l0_1 _ _ l1_1 t702 _ ?side1 ?side2 ?side3 ?side4 A5.out).mono ?_
 (case side1 => exact zJ (Kd.za4 HR0_1.out HB.out))
 (case side2 => exact HC0_1.out)
 (case side3 => exact zJ (Kd.za4 HR1_1.out HB.out))
 (case side4 => exact HC1_1.out)
 rintro e w11 ⟨v703, rfl, ho0, hb⟩
 refine ⟨_, rfl, ?_⟩
 have n0_ := zA (Kd.zav (zV HO698) hb)
 have n1_ := zA (Kd.zav (zV HO701) hb)
 have n2_ := zA (Kd.zba (Kd.zao (ok' := fun k_ => (w.heap.size ≤ k_) ∧ k_ ≠ gb694 ∧ k_ ≠ gb695) ho0 (fun k_ hk_ => ⟨(Nat.le_trans (za (zB HB)) hk_), (Kd.freshB (g := gb694) (o := .cells #[.slice A0_0 l0_0.length c0_0, .slice A0_1 l0_1.length c0_1] 28 (0, 0)) (zK BK694) k_ hk_), (Kd.freshB (g := gb695) (o := .cells #[.slice A1_0 l1_0.length c1_0, .slice A1_1 l1_1.length c1_1] 28 (0, 0)) (zK BK695) k_ hk_)⟩)) (za (zB HB)))
 have n3_ := zA (zae (g := gb694) (o := .cells #[.slice A0_0 l0_0.length c0_0, .slice A0_1 l0_1.length c0_1] 28 (0, 0)) (zK BK694) hb)
 have n4_ := zA (zae (g := gb695) (o := .cells #[.slice A1_0 l1_0.length c1_0, .slice A1_1 l1_1.length c1_1] 28 (0, 0)) (zK BK695) hb)
 have n5_ := zA (zaa (zB HB) hb)
 clear HO698 HO701 BK694 BK695 HB
 have HO698 := n0_
 have HO701 := n1_
 have HO704 := n2_
 have BK694 := n3_
 have BK695 := n4_
 have HB := n5_
 clear n0_ n1_ n2_ n3_ n4_ n5_
 (try clear hb)
 (try clear hb2)
 (try clear hk)
 (try clear hi)
 (try clear ho0)
 refine hK.out _ _ ⟨(zac BK694.out 0).trans rfl, (zac BK694.out 1).trans rfl, (zac BK695.out 0).trans rfl, (zac BK695.out 1).trans rfl⟩ (fun hHeld => ?_)
 clear hK K
 refine norm_ (a' := ?_) ?_ ?_
 rotate_left
 ·
  show Act.put _ (some 21) _ = _
  simp only [Act.put, zs1, zs2, zs3, i64_w, i32_w]
  rfl
 refine pure_ (i := 15) (N := some 4) (v := ?_) (a' := ?_) #[true, true, true, true, true, true, true, true, true, true, true, true, true, true, true, true, false, false] rfl rfl (za3 HT_.out (by kernel_rfl)) (fun _ _ _ h => h) (Or.inl ⟨by rfl, ?_⟩) ?_ ?_
 rotate_left
 ·
  intro w'
  go_simp
  with_reducible rfl
 rotate_left
 ·
  simp only [Act.put, zs1, zs2, zs3, i64_w, i32_w]
  rfl
 refine pure_ (i := 16) (N := some 5) (v := ?_) (a' := ?_) #[true, true, true, true, true, true, true, true, true, true, true, true, true, true, true, true, true, false] rfl rfl (za3 HT_.out (by kernel_rfl)) (fun _ _ _ h => h) (Or.inl ⟨by rfl, ?_⟩) ?_ ?_
 rotate_left
 ·
  intro w'
  go_simp
  with_reducible rfl
 rotate_left
 ·
  simp only [Act.put, zs1, zs2, zs3, i64_w, i32_w]
  rfl
 refine pure_ (i := 17) (N := some 6) (v := ?_) (a' := ?_) #[true, true, true, true, true, true, true, true, true, true, true, true, true, true, true, true, true, true] rfl rfl (za3 HT_.out (by kernel_rfl)) (fun _ _ _ h => h) (Or.inl ⟨by rfl, ?_⟩) ?_ ?_
 rotate_left
 ·
  intro w'
  go_simp
  with_reducible rfl
 rotate_left
 ·
  simp only [Act.put, zs1, zs2, zs3, i64_w, i32_w]
  rfl
 refine done_ (done_of HT_.out (by kernel_rfl)) ?_
 try go_wp2
 go_ret3
 exact ⟨_, _, _, zW, by (with_reducible repeat (first | apply Kd.zbr | apply Kd.zbq | apply Kd.zbx)); exact Kd.zao HO698.out (fun _ hk => hk.1), by (with_reducible repeat (first | apply Kd.zbr | apply Kd.zbq | apply Kd.zbx)); exact Kd.zao HO701.out (fun _ hk => hk.1), by (with_reducible repeat (first | apply Kd.zbr | apply Kd.zbq | apply Kd.zbx)); exact Kd.zao HO704.out (fun _ hk => hk.1), zB HB⟩
def zcv.f (k : Nat) (l0_0 : List Int) (l0_1 : List Int) (l1_0 : List Int) (l1_1 : List Int) : Option (Int) := (zbh.f k l0_0 l0_1 l1_0 l1_1).bind fun bt767 => ((zcr.f bt767.1 bt767.2.1).bind fun t776 => (some t776))
theorem zcv.mono : ∀ a0 a1 a2 a3 k, LeO (zcv.f k a0 a1 a2 a3) (zcv.f (k + 1) a0 a1 a2 a3) := by
 intro a0 a1 a2 a3 k
 unfold zcv.f
 repeat' first
   | (with_reducible exact zbh.mono _ _ _ _ _)
   | (with_reducible exact LeO.refl _)
   | (with_reducible exact LeO.none _)
   | (with_reducible refine LeO.ite ?_ ?_)
   | (with_reducible refine LeO.bind ?_ (fun _ => ?_))
   | exact zbh.mono _ _ _ _ _
   | exact LeO.none _
   | refine LeO.ite ?_ ?_
   | refine LeO.bind ?_ (fun _ => ?_)
theorem zcv.calls (k : Nat) (A0_0 : Option Addr) (c0_0 : Nat) (l0_0 : List Int) (A0_1 : Option Addr) (c0_1 : Nat) (l0_1 : List Int) (A1_0 : Option Addr) (c1_0 : Nat) (l1_0 : List Int) (A1_1 : Option Addr) (c1_1 : Nat) (l1_1 : List Int) (r : Int) (w : World) (hr0_0 : Kd.C (Kd.int .u64) w A0_0 l0_0.length l0_0) (hc0_0 : l0_0.length ≤ c0_0) (hr0_1 : Kd.C (Kd.int .u64) w A0_1 l0_1.length l0_1) (hc0_1 : l0_1.length ≤ c0_1) (hr1_0 : Kd.C (Kd.int .u64) w A1_0 l1_0.length l1_0) (hc1_0 : l1_0.length ≤ c1_0) (hr1_1 : Kd.C (Kd.int .u64) w A1_1 l1_1.length l1_1) (hc1_1 : l1_1.length ≤ c1_1) (h : zcv.f k l0_0 l0_1 l1_0 l1_1 = some r) :
  Calls Tryd.prog 35 #[.agg #[.slice A0_0 l0_0.length c0_0, .slice A0_1 l0_1.length c0_1], .agg #[.slice A1_0 l1_0.length c1_0, .slice A1_1 l1_1.length c1_1]] w fun e w' => e = .returned (.int .i64 r) ∧ Below w.heap.size w w' := by
 have hu28 := Tryd.underlying28
 have HR0_0 := zA hr0_0
 have HC0_0 := zA hc0_0
 clear hr0_0 hc0_0
 have HR0_1 := zA hr0_1
 have HC0_1 := zA hc0_1
 clear hr0_1 hc0_1
 have HR1_0 := zA hr1_0
 have HC1_0 := zA hc1_0
 clear hr1_0 hc1_0
 have HR1_1 := zA hr1_1
 have HC1_1 := zA hc1_1
 clear hr1_1 hc1_1
 have HB := zA (Below.refl w.heap.size w)
 have H : ((zbh.f k l0_0 l0_1 l1_0 l1_1).bind fun bt767 => ((zcr.f bt767.1 bt767.2.1).bind fun t776 => (some t776))) = some r := h
 clear h
 replace H := zO H
 obtain ⟨⟨t767, t770, t773⟩, A30, H⟩ := H
 try dsimp only at H
 have A3 := zA A30
 clear A30
 replace H := zO H
 obtain ⟨t776, A40, H⟩ := H
 try dsimp only at H
 have A4 := zA A40
 clear A40
 obtain rfl := Option.some.inj H
 go_enter Tryd.func35, Tryd.ntmps35
 go_wp2_with (first | ((with_reducible refine zbe (N := 2) rfl ?_); refine zbj ?hg (N := 2) ?hd (cs := #[.slice A0_0 l0_0.length c0_0, .slice A0_1 l0_1.length c0_1]) (t := 28) ?hr ?_; (case hd => rfl); (case hg => rfl); (case hr => first | (go_simp; done) | (go_simp; rfl)); intro gb765 hg w5 hbox hb; have n0_ := zA (zaa (zB HB) hb); have n1_ := zA (hbox); have n2_ := zA ((by rw [hg]; exact (za (zB HB)) : w.heap.size ≤ gb765)); have n3_ := zA ((by rw [hg]; exact (za (zB HB)) : w.heap.size ≤ gb765)); clear HB; have HB := n0_; have BK765 := n1_; have GW765 := n2_; have GE765 := n3_; clear n0_ n1_ n2_ n3_ hb hbox hg) | ((with_reducible refine zbe (N := 3) rfl ?_); refine zbj ?hg (N := 3) ?hd (cs := #[.slice A1_0 l1_0.length c1_0, .slice A1_1 l1_1.length c1_1]) (t := 28) ?hr ?_; (case hd => rfl); (case hg => rfl); (case hr => first | (go_simp; done) | (go_simp; rfl)); intro gb766 hg w6 hbox hb; have n0_ := zA (zae (g := gb765) (o := .cells #[.slice A0_0 l0_0.length c0_0, .slice A0_1 l0_1.length c0_1] 28 (0, 0)) (zK BK765) hb); have n1_ := zA (zaa (zB HB) hb); have n2_ := zA (hbox); have n3_ := zA ((by rw [hg]; exact (za (zB HB)) : w.heap.size ≤ gb766)); have n4_ := zA ((by rw [hg]; exact (za (zB HB)) : w.heap.size ≤ gb766)); have n5_ := zA ((by rw [hg]; exact Nat.ne_of_lt (zcl (g := gb765) (o := .cells #[.slice A0_0 l0_0.length c0_0, .slice A0_1 l0_1.length c0_1] 28 (0, 0)) (zK BK765)) : gb765 ≠ gb766)); have n6_ := zA ((by rw [hg]; exact Nat.ne_of_gt (zcl (g := gb765) (o := .cells #[.slice A0_0 l0_0.length c0_0, .slice A0_1 l0_1.length c0_1] 28 (0, 0)) (zK BK765)) : gb766 ≠ gb765)); clear BK765 HB; have BK765 := n0_; have HB := n1_; have BK766 := n2_; have GW766 := n3_; have GE766 := n4_; have NB765_766 := n5_; have NB766_765 := n6_; clear n0_ n1_ n2_ n3_ n4_ n5_ n6_ hb hbox hg; have hnb7 := NB765_766.out; have hnc7 := NB766_765.out; have hcz8_0 : w6.cell? ⟨gb765, 0, none⟩ = some (.slice A0_0 l0_0.length c0_0) := (zac BK765.out 0).trans rfl; have hcz8_1 : w6.cell? ⟨gb765, 1, none⟩ = some (.slice A0_1 l0_1.length c0_1) := (zac BK765.out 1).trans rfl; have hfz8_0 := zan BK765.out 0; have hfz8_1 := zan BK765.out 1; have hcz9_0 : w6.cell? ⟨gb766, 0, none⟩ = some (.slice A1_0 l1_0.length c1_0) := (zac BK766.out 0).trans rfl; have hcz9_1 : w6.cell? ⟨gb766, 1, none⟩ = some (.slice A1_1 l1_1.length c1_1) := (zac BK766.out 1).trans rfl; have hfz9_0 := zan BK766.out 0; have hfz9_1 := zan BK766.out 1) | ((with_reducible refine zad (f := 62) rfl ?_); refine za0 (some 11) rfl rfl Tryd.func62 (by kernel_rfl) rfl #[.agg #[.slice A0_0 l0_0.length c0_0, .slice A0_1 l0_1.length c0_1], .agg #[.slice A1_0 l1_0.length c1_0, .slice A1_1 l1_1.length c1_1]] rfl (zE) ?_; (with_reducible refine (zbh.calls k _ _ l0_0 _ _ l0_1 _ _ l1_0 _ _ l1_1 t767 t770 t773 _ ?side1 ?side2 ?side3 ?side4 ?side5 ?side6 ?side7 ?side8 A3.out).mono ?_); (case side1 => exact zJ (Kd.za4 HR0_0.out HB.out)); (case side2 => exact HC0_0.out); (case side3 => exact zJ (Kd.za4 HR0_1.out HB.out)); (case side4 => exact HC0_1.out); (case side5 => exact zJ (Kd.za4 HR1_0.out HB.out)); (case side6 => exact HC1_0.out); (case side7 => exact zJ (Kd.za4 HR1_1.out HB.out)); (case side8 => exact HC1_1.out); rintro e w10 ⟨v768, v771, v774, rfl, ho0, ho1, ho2, hb⟩; refine ⟨_, rfl, ?_⟩; have n0_ := zA (Kd.zba (Kd.zao (ok' := fun k_ => k_ ≠ gb765 ∧ k_ ≠ gb766) ho0 (fun k_ hk_ => ⟨(Kd.freshB (g := gb765) (o := .cells #[.slice A0_0 l0_0.length c0_0, .slice A0_1 l0_1.length c0_1] 28 (0, 0)) (zK BK765) k_ hk_), (Kd.freshB (g := gb766) (o := .cells #[.slice A1_0 l1_0.length c1_0, .slice A1_1 l1_1.length c1_1] 28 (0, 0)) (zK BK766) k_ hk_)⟩)) (za (zB HB))); have n1_ := zA (Kd.zba (Kd.zao (ok' := fun k_ => k_ ≠ gb765 ∧ k_ ≠ gb766) ho1 (fun k_ hk_ => ⟨(Kd.freshB (g := gb765) (o := .cells #[.slice A0_0 l0_0.length c0_0, .slice A0_1 l0_1.length c0_1] 28 (0, 0)) (zK BK765) k_ hk_), (Kd.freshB (g := gb766) (o := .cells #[.slice A1_0 l1_0.length c1_0, .slice A1_1 l1_1.length c1_1] 28 (0, 0)) (zK BK766) k_ hk_)⟩)) (za (zB HB))); have n2_ := zA (Kd.zba (Kd.zao (ok' := fun k_ => k_ ≠ gb765 ∧ k_ ≠ gb766) ho2 (fun k_ hk_ => ⟨(Kd.freshB (g := gb765) (o := .cells #[.slice A0_0 l0_0.length c0_0, .slice A0_1 l0_1.length c0_1] 28 (0, 0)) (zK BK765) k_ hk_), (Kd.freshB (g := gb766) (o := .cells #[.slice A1_0 l1_0.length c1_0, .slice A1_1 l1_1.length c1_1] 28 (0, 0)) (zK BK766) k_ hk_)⟩)) (za (zB HB))); have n3_ := zA (zae (g := gb765) (o := .cells #[.slice A0_0 l0_0.length c0_0, .slice A0_1 l0_1.length c0_1] 28 (0, 0)) (zK BK765) hb); have n4_ := zA (zae (g := gb766) (o := .cells #[.slice A1_0 l1_0.length c1_0, .slice A1_1 l1_1.length c1_1] 28 (0, 0)) (zK BK766) hb); have n5_ := zA (zaa (zB HB) hb); clear BK765 BK766 HB; have HO769 := n0_; have HO772 := n1_; have HO775 := n2_; have BK765 := n3_; have BK766 := n4_; have HB := n5_; clear n0_ n1_ n2_ n3_ n4_ n5_; (try clear hb); (try clear hb2); (try clear hk); (try clear hi); (try clear ho0); (try clear ho1); (try clear ho2); obtain ⟨Ao11, co11, eo11⟩ := Kd.za9 HO769.out; subst eo11; obtain ⟨Ao12, co12, eo12⟩ := Kd.za9 HO772.out; subst eo12) | ((with_reducible refine zad (f := 52) rfl ?_); refine za0 (some 17) rfl rfl Tryd.func52 (by kernel_rfl) rfl #[.slice Ao11 t767.length co11, .slice Ao12 t770.length co12] rfl (zE) ?_; (with_reducible refine (zcr.calls _ _ t767 _ _ t770 t776 _ ?side1 ?side2 ?side3 ?side4 A4.out).mono ?_); (case side1 => exact zJ (Kd.zam HO769.out).2.2); (case side2 => exact (Kd.zam HO769.out).2.1); (case side3 => exact zJ (Kd.zam HO772.out).2.2); (case side4 => exact (Kd.zam HO772.out).2.1); rintro e w13 ⟨rfl, hb⟩; refine ⟨_, rfl, ?_⟩; have n0_ := zA (Kd.zav (zV HO769) hb); have n1_ := zA (Kd.zav (zV HO772) hb); have n2_ := zA (Kd.zav (zV HO775) hb); have n3_ := zA (zae (g := gb765) (o := .cells #[.slice A0_0 l0_0.length c0_0, .slice A0_1 l0_1.length c0_1] 28 (0, 0)) (zK BK765) hb); have n4_ := zA (zae (g := gb766) (o := .cells #[.slice A1_0 l1_0.length c1_0, .slice A1_1 l1_1.length c1_1] 28 (0, 0)) (zK BK766) hb); have n5_ := zA (zaa (zB HB) hb); clear HO769 HO772 HO775 BK765 BK766 HB; have HO769 := n0_; have HO772 := n1_; have HO775 := n2_; have BK765 := n3_; have BK766 := n4_; have HB := n5_; clear n0_ n1_ n2_ n3_ n4_ n5_; (try clear hb); (try clear hb2); (try clear hk); (try clear hi)))
 go_ret
 exact ⟨zW, zB HB⟩
def zb4.f (k : Nat) (a0 : Int) (l1_0 : List Int) (l1_1 : List Int) : Option (Int × Int) := (zb8.f a0).bind fun t1134 => (if t1134 = true then ((zbk.f k l1_0 l1_1).bind fun t1135 => (if t1135 = true then ((zce.f k 1).bind fun bt1136 => ((zcv.f k l1_0 l1_1 bt1136.1 bt1136.2).bind fun t1142 => (if t1142 > 0 then (some (0, 14)) else ((zce.f k a0).bind fun bt1143 => ((zcc.f k l1_0 l1_1 bt1143.1 bt1143.2).bind fun bt1149 => ((zbu.f k bt1149.1 bt1149.2).bind fun t1155 => ((nat_Small.f t1155).bind fun bt1158 => (some (mx 1 bt1158.1, 0))))))))) else (some (0, 17)))) else (some (0, 14)))
theorem zb4.mono : ∀ a0 a1 a2 k, LeO (zb4.f k a0 a1 a2) (zb4.f (k + 1) a0 a1 a2) := by
 intro a0 a1 a2 k
 unfold zb4.f
 repeat' first
   | (with_reducible exact zcv.mono _ _ _ _ _)
   | (with_reducible exact zce.mono _ _)
   | (with_reducible exact zcc.mono _ _ _ _ _)
   | (with_reducible exact zbu.mono _ _ _)
   | (with_reducible exact zbk.mono _ _ _)
   | (with_reducible exact LeO.refl _)
   | (with_reducible exact LeO.none _)
   | (with_reducible refine LeO.ite ?_ ?_)
   | (with_reducible refine LeO.bind ?_ (fun _ => ?_))
   | exact zcv.mono _ _ _ _ _
   | exact zce.mono _ _
   | exact zcc.mono _ _ _ _ _
   | exact zbu.mono _ _ _
   | exact zbk.mono _ _ _
   | exact LeO.none _
   | refine LeO.ite ?_ ?_
   | refine LeO.bind ?_ (fun _ => ?_)
def zb4.T7 : Bool × List (List Nat × List Nat) := (true, [([], []), ([], []), ([1], [1]), ([0, 2, 2], [0, 2]), ([3, 3], [3]), ([4, 4], [4]), ([5], [5]), ([6], [6]), ([6], [6]), ([7, 5, 0, 1, 2, 3, 4, 5, 6, 7], [7]), ([8, 9, 0, 1, 2, 3, 4, 5, 6, 7, 8, 9], [8])])
def zb4.B7 : List Nat := [0, 0, 2, 7, 15, 31, 63, 127, 127, 255, 1023]
theorem zb4.tab7 : rtab .any (opsOf Tryd.f46 7) = zb4.T7 := by kernel_rfl
theorem zb4.bits7 : waitsOk zb4.T7.2 zb4.B7 = true := by kernel_rfl
theorem zb4.calls (k : Nat) (a0 : Int) (A1_0 : Option Addr) (c1_0 : Nat) (l1_0 : List Int) (A1_1 : Option Addr) (c1_1 : Nat) (l1_1 : List Int) (r1 : Int) (r2 : Int) (w : World) (hr1_0 : Kd.C (Kd.int .u64) w A1_0 l1_0.length l1_0) (hc1_0 : l1_0.length ≤ c1_0) (hr1_1 : Kd.C (Kd.int .u64) w A1_1 l1_1.length l1_1) (hc1_1 : l1_1.length ≤ c1_1) (h : zb4.f k a0 l1_0 l1_1 = some (r1, r2)) :
  Calls Tryd.prog 46 #[.int .i64 a0, .agg #[.slice A1_0 l1_0.length c1_0, .slice A1_1 l1_1.length c1_1]] w fun e w' => e = .returned (.tuple #[.int .i64 r1, .int .i64 r2]) ∧ Below w.heap.size w w' := by
 have hu28 := Tryd.underlying28
 have HR1_0 := zA hr1_0
 have HC1_0 := zA hc1_0
 clear hr1_0 hc1_0
 have HR1_1 := zA hr1_1
 have HC1_1 := zA hc1_1
 clear hr1_1 hc1_1
 have HB := zA (Below.refl w.heap.size w)
 have H : ((zb8.f a0).bind fun t1134 => (if t1134 = true then ((zbk.f k l1_0 l1_1).bind fun t1135 => (if t1135 = true then ((zce.f k 1).bind fun bt1136 => ((zcv.f k l1_0 l1_1 bt1136.1 bt1136.2).bind fun t1142 => (if t1142 > 0 then (some (0, 14)) else ((zce.f k a0).bind fun bt1143 => ((zcc.f k l1_0 l1_1 bt1143.1 bt1143.2).bind fun bt1149 => ((zbu.f k bt1149.1 bt1149.2).bind fun t1155 => ((nat_Small.f t1155).bind fun bt1158 => (some (mx 1 bt1158.1, 0))))))))) else (some (0, 17)))) else (some (0, 14)))) = some (r1, r2) := h
 clear h
 replace H := zO H
 obtain ⟨t1134, A30, H⟩ := H
 try dsimp only at H
 have A3 := zA A30
 clear A30
 by_cases c4 : t1134 = true
 ·
  subst c4
  rw [if_pos rfl] at H
  replace H := zO H
  obtain ⟨t1135, A50, H⟩ := H
  try dsimp only at H
  have A5 := zA A50
  clear A50
  by_cases c6 : t1135 = true
  ·
   subst c6
   rw [if_pos rfl] at H
   replace H := zO H
   obtain ⟨⟨t1136, t1139⟩, A70, H⟩ := H
   try dsimp only at H
   have A7 := zA A70
   clear A70
   replace H := zO H
   obtain ⟨t1142, A80, H⟩ := H
   try dsimp only at H
   have A8 := zA A80
   clear A80
   by_cases c9 : t1142 > 0
   ·
    rw [if_pos c9] at H
    have c9b0 : decide (0 < t1142) = true := decide_eq_true c9
    clear c9
    simp only [Option.some.injEq, Prod.mk.injEq] at H
    obtain ⟨rfl, rfl⟩ := H
    go_enter Tryd.func46, Tryd.ntmps46
    try go_wp2_with (first | ((with_reducible refine zbe (N := 3) rfl ?_); refine zbj ?hg (N := 3) ?hd (cs := #[.slice A1_0 l1_0.length c1_0, .slice A1_1 l1_1.length c1_1]) (t := 28) ?hr ?_; (case hd => rfl); (case hg => rfl); (case hr => first | (go_simp; done) | (go_simp; rfl)); intro gb1133 hg w10 hbox hb; have n0_ := zA (zaa (zB HB) hb); have n1_ := zA (hbox); have n2_ := zA ((by rw [hg]; exact (za (zB HB)) : w.heap.size ≤ gb1133)); have n3_ := zA ((by rw [hg]; exact (za (zB HB)) : w.heap.size ≤ gb1133)); clear HB; have HB := n0_; have BK1133 := n1_; have GW1133 := n2_; have GE1133 := n3_; clear n0_ n1_ n2_ n3_ hb hbox hg) | ((with_reducible refine zad (f := 71) rfl ?_); refine za0 (some 10) rfl rfl Tryd.func71 (by kernel_rfl) rfl #[.int .i64 a0] rfl (zE) ?_; (with_reducible refine (zb8.calls a0 true _ A3.out).mono ?_); rintro e w' ⟨rfl, ⟨nd, rfl⟩⟩; refine ⟨_, rfl, ?_⟩; have hcz11_0 : w10.cell? ⟨gb1133, 0, none⟩ = some (.slice A1_0 l1_0.length c1_0) := (zac BK1133.out 0).trans rfl; have hcz11_1 : w10.cell? ⟨gb1133, 1, none⟩ = some (.slice A1_1 l1_1.length c1_1) := (zac BK1133.out 1).trans rfl; have hfz11_0 := zan BK1133.out 0; have hfz11_1 := zan BK1133.out 1) | ((with_reducible refine zad (f := 16) rfl ?_); refine za0 (some 14) rfl rfl Tryd.func16 (by kernel_rfl) rfl #[.agg #[.slice A1_0 l1_0.length c1_0, .slice A1_1 l1_1.length c1_1]] rfl (zE) ?_; (with_reducible refine (zbk.calls k _ _ l1_0 _ _ l1_1 true _ ?side1 ?side2 ?side3 ?side4 A5.out).mono ?_); (case side1 => exact zJ (Kd.za4 HR1_0.out (zB HB))); (case side2 => exact HC1_0.out); (case side3 => exact zJ (Kd.za4 HR1_1.out (zB HB))); (case side4 => exact HC1_1.out); rintro e w12 ⟨rfl, hb⟩; refine ⟨_, rfl, ?_⟩; have n0_ := zA (zae (g := gb1133) (o := .cells #[.slice A1_0 l1_0.length c1_0, .slice A1_1 l1_1.length c1_1] 28 (0, 0)) (zK BK1133) hb); have n1_ := zA (zaa (zB HB) hb); clear BK1133 HB; have BK1133 := n0_; have HB := n1_; clear n0_ n1_; (try clear hb); (try clear hb2); (try clear hk); (try clear hi)))
    have n0_ := zA (zak BK1133.out)
    have n1_ := zA (zbl HB.out)
    clear BK1133 HB
    have BK1133 := n0_
    have HB := n1_
    clear n0_ n1_
    refine start_ (n := 5) (S := fun w' => w'.cell? ⟨gb1133, 0, none⟩ = some (.slice A1_0 l1_0.length c1_0) ∧ w'.cell? ⟨gb1133, 1, none⟩ = some (.slice A1_1 l1_1.length c1_1)) (ds := []) #[false, false, false, false, false] (by kernel_rfl) rfl rfl ⟨(zac BK1133.out 0).trans rfl, (zac BK1133.out 1).trans rfl⟩ (fun hHeld => ?_)
    generalize w12.drew = w13 at BK1133 HB hHeld ⊢
    refine take_ (i := 0) (N := some 17) (v := ?_) (a' := ?_) #[true, false, false, false, false] rfl rfl (by kernel_rfl) (fun _ _ _ h => h) (Or.inl ⟨by rfl, ?_⟩) hHeld ?_ ?_
    rotate_left
    ·
     rintro w' ⟨s0, s1⟩
     go_simp
     with_reducible rfl
    rotate_left
    ·
     simp only [Act.put, zs1, zs2, zs3, i64_w, i32_w]
     rfl
    refine one_ (i := 1) (N := some 18) #[true, true, false, false, false] rfl rfl (by kernel_rfl) (by decide) (fun K hK => ?_)
    refine goes_ Tryd.func22 (by kernel_rfl) rfl #[.int .i64 1] (by rfl) rfl rfl (zE) ?_
    with_reducible refine (zce.calls k 1 t1136 t1139 _ A7.out).mono ?_
    rintro e w14 ⟨v1137, v1140, rfl, ho0, ho1, hb⟩
    refine ⟨_, rfl, ?_⟩
    have n0_ := zA (Kd.zba (Kd.zao (ok' := fun k_ => k_ ≠ gb1133) ho0 (fun k_ hk_ => (Kd.freshB (g := gb1133) (o := .cells #[.slice A1_0 l1_0.length c1_0, .slice A1_1 l1_1.length c1_1] 28 (0, 0)) (zK BK1133) k_ hk_))) (za (zB HB)))
    have n1_ := zA (Kd.zba (Kd.zao (ok' := fun k_ => k_ ≠ gb1133) ho1 (fun k_ hk_ => (Kd.freshB (g := gb1133) (o := .cells #[.slice A1_0 l1_0.length c1_0, .slice A1_1 l1_1.length c1_1] 28 (0, 0)) (zK BK1133) k_ hk_))) (za (zB HB)))
    have n2_ := zA (zae (g := gb1133) (o := .cells #[.slice A1_0 l1_0.length c1_0, .slice A1_1 l1_1.length c1_1] 28 (0, 0)) (zK BK1133) hb)
    have n3_ := zA (zaa (zB HB) hb)
    clear BK1133 HB
    have HO1138 := n0_
    have HO1141 := n1_
    have BK1133 := n2_
    have HB := n3_
    clear n0_ n1_ n2_ n3_
    (try clear hb)
    (try clear hb2)
    (try clear hk)
    (try clear hi)
    (try clear ho0)
    (try clear ho1)
    obtain ⟨Ao15, co15, eo15⟩ := Kd.za9 HO1138.out
    (first | subst eo15 | (injection eo15 with f1_ f2_ f3_; have f4_ := f1_.symm; have f5_ := f3_.symm; clear f1_ f2_ f3_; subst f4_; subst f5_))
    obtain ⟨Ao16, co16, eo16⟩ := Kd.za9 HO1141.out
    (first | subst eo16 | (injection eo16 with f1_ f2_ f3_; have f4_ := f1_.symm; have f5_ := f3_.symm; clear f1_ f2_ f3_; subst f4_; subst f5_))
    refine hK.out _ _ ⟨(zac BK1133.out 0).trans rfl, (zac BK1133.out 1).trans rfl⟩ (fun hHeld => ?_)
    clear hK K
    refine norm_ (a' := ?_) ?_ ?_
    rotate_left
    ·
     show Act.put _ (some 18) _ = _
     simp only [Act.put, zs1, zs2, zs3, i64_w, i32_w]
     rfl
    refine one_ (i := 2) (N := some 19) #[true, true, true, false, false] rfl rfl (by kernel_rfl) (by decide) (fun K hK => ?_)
    refine goes_ Tryd.func35 (by kernel_rfl) rfl #[.agg #[.slice A1_0 l1_0.length c1_0, .slice A1_1 l1_1.length c1_1], .agg #[.slice Ao15 t1136.length co15, .slice Ao16 t1139.length co16]] (by rfl) rfl rfl (zE) ?_
    with_reducible refine (zcv.calls k _ _ l1_0 _ _ l1_1 _ _ t1136 _ _ t1139 t1142 _ ?side1 ?side2 ?side3 ?side4 ?side5 ?side6 ?side7 ?side8 A8.out).mono ?_
    (case side1 => exact zJ (Kd.za4 HR1_0.out HB.out))
    (case side2 => exact HC1_0.out)
    (case side3 => exact zJ (Kd.za4 HR1_1.out HB.out))
    (case side4 => exact HC1_1.out)
    (case side5 => exact zJ (Kd.zam HO1138.out).2.2)
    (case side6 => exact (Kd.zam HO1138.out).2.1)
    (case side7 => exact zJ (Kd.zam HO1141.out).2.2)
    (case side8 => exact (Kd.zam HO1141.out).2.1)
    rintro e w17 ⟨rfl, hb⟩
    refine ⟨_, rfl, ?_⟩
    have n0_ := zA (Kd.zav (zV HO1138) hb)
    have n1_ := zA (Kd.zav (zV HO1141) hb)
    have n2_ := zA (zae (g := gb1133) (o := .cells #[.slice A1_0 l1_0.length c1_0, .slice A1_1 l1_1.length c1_1] 28 (0, 0)) (zK BK1133) hb)
    have n3_ := zA (zaa (zB HB) hb)
    clear HO1138 HO1141 BK1133 HB
    have HO1138 := n0_
    have HO1141 := n1_
    have BK1133 := n2_
    have HB := n3_
    clear n0_ n1_ n2_ n3_
    (try clear hb)
    (try clear hb2)
    (try clear hk)
    (try clear hi)
    refine hK.out _ _ ⟨(zac BK1133.out 0).trans rfl, (zac BK1133.out 1).trans rfl⟩ (fun hHeld => ?_)
    clear hK K
    refine norm_ (a' := ?_) ?_ ?_
    rotate_left
    ·
     show Act.put _ (some 19) _ = _
     simp only [Act.put, zs1, zs2, zs3, i64_w, i32_w]
     rfl
    refine pure_ (i := 3) (N := some 20) (v := ?_) (a' := ?_) #[true, true, true, true, false] rfl rfl (by kernel_rfl) (fun _ _ _ h => h) (Or.inl ⟨by rfl, ?_⟩) ?_ ?_
    rotate_left
    ·
     intro w'
     go_simp
     with_reducible rfl
    rotate_left
    ·
     simp only [Act.put, zs1, zs2, zs3, i64_w, i32_w]
     rfl
    refine pure_ (i := 4) (N := some 16) (v := ?_) (a' := ?_) #[true, true, true, true, true] rfl rfl (by kernel_rfl) (fun _ _ _ h => h) (Or.inl ⟨by rfl, ?_⟩) ?_ ?_
    rotate_left
    ·
     intro w'
     go_simp
     with_reducible rfl
    rotate_left
    ·
     simp only [Act.put, zs1, zs2, zs3, i64_w, i32_w]
     rfl
    refine done_ (by kernel_rfl) ?_
    try go_wp2
    go_ret2
    exact ⟨zW, zB HB⟩
   ·
    rw [if_neg c9] at H
    have c9b0 : decide (0 < t1142) = false := decide_eq_false c9
    clear c9
    replace H := zO H
    obtain ⟨⟨t1143, t1146⟩, A180, H⟩ := H
    try dsimp only at H
    have A18 := zA A180
    clear A180
    replace H := zO H
    obtain ⟨⟨t1149, t1152⟩, A190, H⟩ := H
    try dsimp only at H
    have A19 := zA A190
    clear A190
    replace H := zO H
    obtain ⟨t1155, A200, H⟩ := H
    try dsimp only at H
    have A20 := zA A200
    clear A200
    replace H := zO H
    obtain ⟨⟨t1158, t1159⟩, A210, H⟩ := H
    try dsimp only at H
    have A21 := zA A210
    clear A210
    obtain ⟨ji22, hji22⟩ : ∃ j_ : Int, (mx 1 t1158) = j_ := ⟨_, rfl⟩
    replace H : (some (ji22, 0)) = some (r1, r2) := by first | (rw [hji22] at H; exact H) | (simp only [hji22] at H ⊢; exact H)
    (try rw [hji22] at A3)
    (try rw [hji22] at A5)
    (try rw [hji22] at A7)
    (try rw [hji22] at A8)
    (try rw [hji22] at A18)
    (try rw [hji22] at A19)
    (try rw [hji22] at A20)
    (try rw [hji22] at A21)
    (try (have hji22l : 1 ≤ ji22 := by (rw [← hji22]; unfold mx; (repeat' split) <;> omega)))
    (try (have hji22m : 0 ≤ ji22 := by omega))
    have hji22_ : (if 1 < t1158 then t1158 else 1) = ji22 := hji22
    (try (have hji22n_ := hji22_; simp only [Int.ofNat_lt] at hji22n_))
    simp only [Option.some.injEq, Prod.mk.injEq] at H
    obtain ⟨rfl, rfl⟩ := H
    go_enter Tryd.func46, Tryd.ntmps46
    try go_wp2_with (first | ((with_reducible refine zbe (N := 3) rfl ?_); refine zbj ?hg (N := 3) ?hd (cs := #[.slice A1_0 l1_0.length c1_0, .slice A1_1 l1_1.length c1_1]) (t := 28) ?hr ?_; (case hd => rfl); (case hg => rfl); (case hr => first | (go_simp; done) | (go_simp; rfl)); intro gb1133 hg w23 hbox hb; have n0_ := zA (zaa (zB HB) hb); have n1_ := zA (hbox); have n2_ := zA ((by rw [hg]; exact (za (zB HB)) : w.heap.size ≤ gb1133)); have n3_ := zA ((by rw [hg]; exact (za (zB HB)) : w.heap.size ≤ gb1133)); clear HB; have HB := n0_; have BK1133 := n1_; have GW1133 := n2_; have GE1133 := n3_; clear n0_ n1_ n2_ n3_ hb hbox hg) | ((with_reducible refine zad (f := 71) rfl ?_); refine za0 (some 10) rfl rfl Tryd.func71 (by kernel_rfl) rfl #[.int .i64 a0] rfl (zE) ?_; (with_reducible refine (zb8.calls a0 true _ A3.out).mono ?_); rintro e w' ⟨rfl, ⟨nd, rfl⟩⟩; refine ⟨_, rfl, ?_⟩; have hcz24_0 : w23.cell? ⟨gb1133, 0, none⟩ = some (.slice A1_0 l1_0.length c1_0) := (zac BK1133.out 0).trans rfl; have hcz24_1 : w23.cell? ⟨gb1133, 1, none⟩ = some (.slice A1_1 l1_1.length c1_1) := (zac BK1133.out 1).trans rfl; have hfz24_0 := zan BK1133.out 0; have hfz24_1 := zan BK1133.out 1) | ((with_reducible refine zad (f := 16) rfl ?_); refine za0 (some 14) rfl rfl Tryd.func16 (by kernel_rfl) rfl #[.agg #[.slice A1_0 l1_0.length c1_0, .slice A1_1 l1_1.length c1_1]] rfl (zE) ?_; (with_reducible refine (zbk.calls k _ _ l1_0 _ _ l1_1 true _ ?side1 ?side2 ?side3 ?side4 A5.out).mono ?_); (case side1 => exact zJ (Kd.za4 HR1_0.out (zB HB))); (case side2 => exact HC1_0.out); (case side3 => exact zJ (Kd.za4 HR1_1.out (zB HB))); (case side4 => exact HC1_1.out); rintro e w25 ⟨rfl, hb⟩; refine ⟨_, rfl, ?_⟩; have n0_ := zA (zae (g := gb1133) (o := .cells #[.slice A1_0 l1_0.length c1_0, .slice A1_1 l1_1.length c1_1] 28 (0, 0)) (zK BK1133) hb); have n1_ := zA (zaa (zB HB) hb); clear BK1133 HB; have BK1133 := n0_; have HB := n1_; clear n0_ n1_; (try clear hb); (try clear hb2); (try clear hk); (try clear hi)))
    have n0_ := zA (zak BK1133.out)
    have n1_ := zA (zbl HB.out)
    clear BK1133 HB
    have BK1133 := n0_
    have HB := n1_
    clear n0_ n1_
    refine start_ (n := 5) (S := fun w' => w'.cell? ⟨gb1133, 0, none⟩ = some (.slice A1_0 l1_0.length c1_0) ∧ w'.cell? ⟨gb1133, 1, none⟩ = some (.slice A1_1 l1_1.length c1_1)) (ds := []) #[false, false, false, false, false] (by kernel_rfl) rfl rfl ⟨(zac BK1133.out 0).trans rfl, (zac BK1133.out 1).trans rfl⟩ (fun hHeld => ?_)
    generalize w25.drew = w26 at BK1133 HB hHeld ⊢
    refine take_ (i := 0) (N := some 17) (v := ?_) (a' := ?_) #[true, false, false, false, false] rfl rfl (by kernel_rfl) (fun _ _ _ h => h) (Or.inl ⟨by rfl, ?_⟩) hHeld ?_ ?_
    rotate_left
    ·
     rintro w' ⟨s0, s1⟩
     go_simp
     with_reducible rfl
    rotate_left
    ·
     simp only [Act.put, zs1, zs2, zs3, i64_w, i32_w]
     rfl
    refine one_ (i := 1) (N := some 18) #[true, true, false, false, false] rfl rfl (by kernel_rfl) (by decide) (fun K hK => ?_)
    refine goes_ Tryd.func22 (by kernel_rfl) rfl #[.int .i64 1] (by rfl) rfl rfl (zE) ?_
    with_reducible refine (zce.calls k 1 t1136 t1139 _ A7.out).mono ?_
    rintro e w27 ⟨v1137, v1140, rfl, ho0, ho1, hb⟩
    refine ⟨_, rfl, ?_⟩
    have n0_ := zA (Kd.zba (Kd.zao (ok' := fun k_ => k_ ≠ gb1133) ho0 (fun k_ hk_ => (Kd.freshB (g := gb1133) (o := .cells #[.slice A1_0 l1_0.length c1_0, .slice A1_1 l1_1.length c1_1] 28 (0, 0)) (zK BK1133) k_ hk_))) (za (zB HB)))
    have n1_ := zA (Kd.zba (Kd.zao (ok' := fun k_ => k_ ≠ gb1133) ho1 (fun k_ hk_ => (Kd.freshB (g := gb1133) (o := .cells #[.slice A1_0 l1_0.length c1_0, .slice A1_1 l1_1.length c1_1] 28 (0, 0)) (zK BK1133) k_ hk_))) (za (zB HB)))
    have n2_ := zA (zae (g := gb1133) (o := .cells #[.slice A1_0 l1_0.length c1_0, .slice A1_1 l1_1.length c1_1] 28 (0, 0)) (zK BK1133) hb)
    have n3_ := zA (zaa (zB HB) hb)
    clear BK1133 HB
    have HO1138 := n0_
    have HO1141 := n1_
    have BK1133 := n2_
    have HB := n3_
    clear n0_ n1_ n2_ n3_
    (try clear hb)
    (try clear hb2)
    (try clear hk)
    (try clear hi)
    (try clear ho0)
    (try clear ho1)
    obtain ⟨Ao28, co28, eo28⟩ := Kd.za9 HO1138.out
    (first | subst eo28 | (injection eo28 with f1_ f2_ f3_; have f4_ := f1_.symm; have f5_ := f3_.symm; clear f1_ f2_ f3_; subst f4_; subst f5_))
    obtain ⟨Ao29, co29, eo29⟩ := Kd.za9 HO1141.out
    (first | subst eo29 | (injection eo29 with f1_ f2_ f3_; have f4_ := f1_.symm; have f5_ := f3_.symm; clear f1_ f2_ f3_; subst f4_; subst f5_))
    refine hK.out _ _ ⟨(zac BK1133.out 0).trans rfl, (zac BK1133.out 1).trans rfl⟩ (fun hHeld => ?_)
    clear hK K
    refine norm_ (a' := ?_) ?_ ?_
    rotate_left
    ·
     show Act.put _ (some 18) _ = _
     simp only [Act.put, zs1, zs2, zs3, i64_w, i32_w]
     rfl
    refine one_ (i := 2) (N := some 19) #[true, true, true, false, false] rfl rfl (by kernel_rfl) (by decide) (fun K hK => ?_)
    refine goes_ Tryd.func35 (by kernel_rfl) rfl #[.agg #[.slice A1_0 l1_0.length c1_0, .slice A1_1 l1_1.length c1_1], .agg #[.slice Ao28 t1136.length co28, .slice Ao29 t1139.length co29]] (by rfl) rfl rfl (zE) ?_
    with_reducible refine (zcv.calls k _ _ l1_0 _ _ l1_1 _ _ t1136 _ _ t1139 t1142 _ ?side1 ?side2 ?side3 ?side4 ?side5 ?side6 ?side7 ?side8 A8.out).mono ?_
    (case side1 => exact zJ (Kd.za4 HR1_0.out HB.out))
    (case side2 => exact HC1_0.out)
    (case side3 => exact zJ (Kd.za4 HR1_1.out HB.out))
    (case side4 => exact HC1_1.out)
    (case side5 => exact zJ (Kd.zam HO1138.out).2.2)
    (case side6 => exact (Kd.zam HO1138.out).2.1)
    (case side7 => exact zJ (Kd.zam HO1141.out).2.2)
    (case side8 => exact (Kd.zam HO1141.out).2.1)
    rintro e w30 ⟨rfl, hb⟩
    refine ⟨_, rfl, ?_⟩
    have n0_ := zA (Kd.zav (zV HO1138) hb)
    have n1_ := zA (Kd.zav (zV HO1141) hb)
    have n2_ := zA (zae (g := gb1133) (o := .cells #[.slice A1_0 l1_0.length c1_0, .slice A1_1 l1_1.length c1_1] 28 (0, 0)) (zK BK1133) hb)
    have n3_ := zA (zaa (zB HB) hb)
    clear HO1138 HO1141 BK1133 HB
    have HO1138 := n0_
    have HO1141 := n1_
    have BK1133 := n2_
    have HB := n3_
    clear n0_ n1_ n2_ n3_
    (try clear hb)
    (try clear hb2)
    (try clear hk)
    (try clear hi)
    refine hK.out _ _ ⟨(zac BK1133.out 0).trans rfl, (zac BK1133.out 1).trans rfl⟩ (fun hHeld => ?_)
    clear hK K
    refine norm_ (a' := ?_) ?_ ?_
    rotate_left
    ·
     show Act.put _ (some 19) _ = _
     simp only [Act.put, zs1, zs2, zs3, i64_w, i32_w]
     rfl
    refine pure_ (i := 3) (N := some 20) (v := ?_) (a' := ?_) #[true, true, true, true, false] rfl rfl (by kernel_rfl) (fun _ _ _ h => h) (Or.inl ⟨by rfl, ?_⟩) ?_ ?_
    rotate_left
    ·
     intro w'
     go_simp
     with_reducible rfl
    rotate_left
    ·
     simp only [Act.put, zs1, zs2, zs3, i64_w, i32_w]
     rfl
    refine pure_ (i := 4) (N := some 16) (v := ?_) (a' := ?_) #[true, true, true, true, true] rfl rfl (by kernel_rfl) (fun _ _ _ h => h) (Or.inl ⟨by rfl, ?_⟩) ?_ ?_
    rotate_left
    ·
     intro w'
     go_simp
     with_reducible rfl
    rotate_left
    ·
     simp only [Act.put, zs1, zs2, zs3, i64_w, i32_w]
     rfl
    refine done_ (by kernel_rfl) ?_
    try go_wp2
    have n0_ := zA (Kd.zbx HO1138.out)
    have n1_ := zA (Kd.zbx HO1141.out)
    have n2_ := zA (zak BK1133.out)
    have n3_ := zA (zbl HB.out)
    clear HO1138 HO1141 BK1133 HB
    have HO1138 := n0_
    have HO1141 := n1_
    have BK1133 := n2_
    have HB := n3_
    clear n0_ n1_ n2_ n3_
    refine start_ (n := 11) (S := fun w' => w'.cell? ⟨gb1133, 0, none⟩ = some (.slice A1_0 l1_0.length c1_0) ∧ w'.cell? ⟨gb1133, 1, none⟩ = some (.slice A1_1 l1_1.length c1_1)) (ds := []) #[false, false, false, false, false, false, false, false, false, false, false] (by kernel_rfl) rfl rfl ⟨(zac BK1133.out 0).trans rfl, (zac BK1133.out 1).trans rfl⟩ (fun hHeld => ?_); refine zcz zb4.tab7 zb4.bits7 (fun HT_ HW_ => ?_)
    generalize w30.drew = w31 at HO1138 HO1141 BK1133 HB hHeld ⊢
    refine pure_ (i := 1) (N := some 23) (v := ?_) (a' := ?_) #[false, true, false, false, false, false, false, false, false, false, false] rfl rfl (za3 HT_.out (by kernel_rfl)) (fun _ _ _ h => h) (Or.inl ⟨by rfl, ?_⟩) ?_ ?_
    rotate_left
    ·
     intro w'
     go_simp
     with_reducible rfl
    rotate_left
    ·
     simp only [Act.put, zs1, zs2, zs3, i64_w, i32_w]
     rfl
    refine take_ (i := 0) (N := some 22) (v := ?_) (a' := ?_) #[true, true, false, false, false, false, false, false, false, false, false] rfl rfl (zch HT_.out HW_.out (by kernel_rfl)) (fun _ _ _ h => h) (Or.inl ⟨by rfl, ?_⟩) hHeld ?_ ?_
    rotate_left
    ·
     rintro w' ⟨s0, s1⟩
     go_simp
     with_reducible rfl
    rotate_left
    ·
     simp only [Act.put, zs1, zs2, zs3, i64_w, i32_w]
     rfl
    refine one_ (i := 2) (N := some 24) #[true, true, true, false, false, false, false, false, false, false, false] rfl rfl (zck HT_.out (by kernel_rfl)) (by decide) (fun K hK => ?_)
    refine goes_ Tryd.func22 (by kernel_rfl) rfl #[.int .i64 a0] (by rfl) rfl rfl (zE) ?_
    with_reducible refine (zce.calls k a0 t1143 t1146 _ A18.out).mono ?_
    rintro e w32 ⟨v1144, v1147, rfl, ho0, ho1, hb⟩
    refine ⟨_, rfl, ?_⟩
    have n0_ := zA (Kd.zav (zV HO1138) hb)
    have n1_ := zA (Kd.zav (zV HO1141) hb)
    have n2_ := zA (Kd.zba (Kd.zao (ok' := fun k_ => k_ ≠ gb1133) ho0 (fun k_ hk_ => (Kd.freshB (g := gb1133) (o := .cells #[.slice A1_0 l1_0.length c1_0, .slice A1_1 l1_1.length c1_1] 28 (0, 0)) (zK BK1133) k_ hk_))) (za (zB HB)))
    have n3_ := zA (Kd.zba (Kd.zao (ok' := fun k_ => k_ ≠ gb1133) ho1 (fun k_ hk_ => (Kd.freshB (g := gb1133) (o := .cells #[.slice A1_0 l1_0.length c1_0, .slice A1_1 l1_1.length c1_1] 28 (0, 0)) (zK BK1133) k_ hk_))) (za (zB HB)))
    have n4_ := zA (zae (g := gb1133) (o := .cells #[.slice A1_0 l1_0.length c1_0, .slice A1_1 l1_1.length c1_1] 28 (0, 0)) (zK BK1133) hb)
    have n5_ := zA (zaa (zB HB) hb)
    clear HO1138 HO1141 BK1133 HB
    have HO1138 := n0_
    have HO1141 := n1_
    have HO1145 := n2_
    have HO1148 := n3_
    have BK1133 := n4_
    have HB := n5_
    clear n0_ n1_ n2_ n3_ n4_ n5_
    (try clear hb)
    (try clear hb2)
    (try clear hk)
    (try clear hi)
    (try clear ho0)
    (try clear ho1)
    obtain ⟨Ao33, co33, eo33⟩ := Kd.za9 HO1145.out
    (first | subst eo33 | (injection eo33 with f1_ f2_ f3_; have f4_ := f1_.symm; have f5_ := f3_.symm; clear f1_ f2_ f3_; subst f4_; subst f5_))
    obtain ⟨Ao34, co34, eo34⟩ := Kd.za9 HO1148.out
    (first | subst eo34 | (injection eo34 with f1_ f2_ f3_; have f4_ := f1_.symm; have f5_ := f3_.symm; clear f1_ f2_ f3_; subst f4_; subst f5_))
    refine hK.out _ _ ⟨(zac BK1133.out 0).trans rfl, (zac BK1133.out 1).trans rfl⟩ (fun hHeld => ?_)
    clear hK K
    refine norm_ (a' := ?_) ?_ ?_
    rotate_left
    ·
     show Act.put _ (some 24) _ = _
     simp only [Act.put, zs1, zs2, zs3, i64_w, i32_w]
     rfl
    refine one_ (i := 3) (N := some 25) #[true, true, true, true, false, false, false, false, false, false, false] rfl rfl (zck HT_.out (by kernel_rfl)) (by decide) (fun K hK => ?_)
    refine goes_ Tryd.func29 (by kernel_rfl) rfl #[.agg #[.slice A1_0 l1_0.length c1_0, .slice A1_1 l1_1.length c1_1], .agg #[.slice Ao33 t1143.length co33, .slice Ao34 t1146.length co34]] (by rfl) rfl rfl (zE) ?_
    with_reducible refine (zcc.calls k _ _ l1_0 _ _ l1_1 _ _ t1143 _ _ t1146 t1149 t1152 _ ?side1 ?side2 ?side3 ?side4 ?side5 ?side6 ?side7 ?side8 A19.out).mono ?_
    (case side1 => exact zJ (Kd.za4 HR1_0.out HB.out))
    (case side2 => exact HC1_0.out)
    (case side3 => exact zJ (Kd.za4 HR1_1.out HB.out))
    (case side4 => exact HC1_1.out)
    (case side5 => exact zJ (Kd.zam HO1145.out).2.2)
    (case side6 => exact (Kd.zam HO1145.out).2.1)
    (case side7 => exact zJ (Kd.zam HO1148.out).2.2)
    (case side8 => exact (Kd.zam HO1148.out).2.1)
    rintro e w35 ⟨v1150, v1153, rfl, ho0, ho1, hb⟩
    refine ⟨_, rfl, ?_⟩
    have n0_ := zA (Kd.zav (zV HO1138) hb)
    have n1_ := zA (Kd.zav (zV HO1141) hb)
    have n2_ := zA (Kd.zav (zV HO1145) hb)
    have n3_ := zA (Kd.zav (zV HO1148) hb)
    have n4_ := zA (Kd.zba (Kd.zao (ok' := fun k_ => k_ ≠ gb1133) ho0 (fun k_ hk_ => (Kd.freshB (g := gb1133) (o := .cells #[.slice A1_0 l1_0.length c1_0, .slice A1_1 l1_1.length c1_1] 28 (0, 0)) (zK BK1133) k_ hk_))) (za (zB HB)))
    have n5_ := zA (Kd.zba (Kd.zao (ok' := fun k_ => k_ ≠ gb1133) ho1 (fun k_ hk_ => (Kd.freshB (g := gb1133) (o := .cells #[.slice A1_0 l1_0.length c1_0, .slice A1_1 l1_1.length c1_1] 28 (0, 0)) (zK BK1133) k_ hk_))) (za (zB HB)))
    have n6_ := zA (zae (g := gb1133) (o := .cells #[.slice A1_0 l1_0.length c1_0, .slice A1_1 l1_1.length c1_1] 28 (0, 0)) (zK BK1133) hb)
    have n7_ := zA (zaa (zB HB) hb)
    clear HO1138 HO1141 HO1145 HO1148 BK1133 HB
    have HO1138 := n0_
    have HO1141 := n1_
    have HO1145 := n2_
    have HO1148 := n3_
    have HO1151 := n4_
    have HO1154 := n5_
    have BK1133 := n6_
    have HB := n7_
    clear n0_ n1_ n2_ n3_ n4_ n5_ n6_ n7_
    (try clear hb)
    (try clear hb2)
    (try clear hk)
    (try clear hi)
    (try clear ho0)
    (try clear ho1)
    obtain ⟨Ao36, co36, eo36⟩ := Kd.za9 HO1151.out
    (first | subst eo36 | (injection eo36 with f1_ f2_ f3_; have f4_ := f1_.symm; have f5_ := f3_.symm; clear f1_ f2_ f3_; subst f4_; subst f5_))
    obtain ⟨Ao37, co37, eo37⟩ := Kd.za9 HO1154.out
    (first | subst eo37 | (injection eo37 with f1_ f2_ f3_; have f4_ := f1_.symm; have f5_ := f3_.symm; clear f1_ f2_ f3_; subst f4_; subst f5_))
    refine hK.out _ _ ⟨(zac BK1133.out 0).trans rfl, (zac BK1133.out 1).trans rfl⟩ (fun hHeld => ?_)
    clear hK K
    refine norm_ (a' := ?_) ?_ ?_
    rotate_left
    ·
     show Act.put _ (some 25) _ = _
     simp only [Act.put, zs1, zs2, zs3, i64_w, i32_w]
     rfl
    refine one_ (i := 4) (N := some 26) #[true, true, true, true, true, false, false, false, false, false, false] rfl rfl (zck HT_.out (by kernel_rfl)) (by decide) (fun K hK => ?_)
    refine goes_ Tryd.func27 (by kernel_rfl) rfl #[.agg #[.slice Ao36 t1149.length co36, .slice Ao37 t1152.length co37]] (by rfl) rfl rfl (zE) ?_
    with_reducible refine (zbu.calls k _ _ t1149 _ _ t1152 t1155 _ ?side1 ?side2 ?side3 ?side4 A20.out).mono ?_
    (case side1 => exact zJ (Kd.zam HO1151.out).2.2)
    (case side2 => exact (Kd.zam HO1151.out).2.1)
    (case side3 => exact zJ (Kd.zam HO1154.out).2.2)
    (case side4 => exact (Kd.zam HO1154.out).2.1)
    rintro e w38 ⟨v1156, rfl, ho0, hb⟩
    refine ⟨_, rfl, ?_⟩
    have n0_ := zA (Kd.zav (zV HO1138) hb)
    have n1_ := zA (Kd.zav (zV HO1141) hb)
    have n2_ := zA (Kd.zav (zV HO1145) hb)
    have n3_ := zA (Kd.zav (zV HO1148) hb)
    have n4_ := zA (Kd.zav (zV HO1151) hb)
    have n5_ := zA (Kd.zav (zV HO1154) hb)
    have n6_ := zA (Kd.zba (Kd.zao (ok' := fun k_ => k_ ≠ gb1133) ho0 (fun k_ hk_ => (Kd.freshB (g := gb1133) (o := .cells #[.slice A1_0 l1_0.length c1_0, .slice A1_1 l1_1.length c1_1] 28 (0, 0)) (zK BK1133) k_ hk_))) (za (zB HB)))
    have n7_ := zA (zae (g := gb1133) (o := .cells #[.slice A1_0 l1_0.length c1_0, .slice A1_1 l1_1.length c1_1] 28 (0, 0)) (zK BK1133) hb)
    have n8_ := zA (zaa (zB HB) hb)
    clear HO1138 HO1141 HO1145 HO1148 HO1151 HO1154 BK1133 HB
    have HO1138 := n0_
    have HO1141 := n1_
    have HO1145 := n2_
    have HO1148 := n3_
    have HO1151 := n4_
    have HO1154 := n5_
    have HO1157 := n6_
    have BK1133 := n7_
    have HB := n8_
    clear n0_ n1_ n2_ n3_ n4_ n5_ n6_ n7_ n8_
    (try clear hb)
    (try clear hb2)
    (try clear hk)
    (try clear hi)
    (try clear ho0)
    obtain ⟨Ao39, co39, eo39⟩ := Kd.za9 HO1157.out
    (first | subst eo39 | (injection eo39 with f1_ f2_ f3_; have f4_ := f1_.symm; have f5_ := f3_.symm; clear f1_ f2_ f3_; subst f4_; subst f5_))
    refine hK.out _ _ ⟨(zac BK1133.out 0).trans rfl, (zac BK1133.out 1).trans rfl⟩ (fun hHeld => ?_)
    clear hK K
    refine norm_ (a' := ?_) ?_ ?_
    rotate_left
    ·
     show Act.put _ (some 26) _ = _
     simp only [Act.put, zs1, zs2, zs3, i64_w, i32_w]
     rfl
    refine one_ (i := 5) (N := some 27) #[true, true, true, true, true, true, false, false, false, false, false] rfl rfl (zck HT_.out (by kernel_rfl)) (by decide) (fun K hK => ?_)
    refine goes_ Tryd.func72 (by kernel_rfl) rfl #[.slice Ao39 t1155.length co39] (by rfl) rfl rfl (zE) ?_
    with_reducible refine (nat_Small.calls _ _ t1155 t1158 t1159 _ ?side1 ?side2 A21.out).mono ?_
    (case side1 => exact zJ (Kd.zam HO1157.out).2.2)
    (case side2 => exact (Kd.zam HO1157.out).2.1)
    rintro e w' ⟨rfl, ⟨nd, rfl⟩⟩
    refine ⟨_, rfl, ?_⟩
    refine hK.out _ _ ⟨(zac BK1133.out 0).trans rfl, (zac BK1133.out 1).trans rfl⟩ (fun hHeld => ?_)
    clear hK K
    refine norm_ (a' := ?_) ?_ ?_
    rotate_left
    ·
     show Act.put _ (some 27) _ = _
     simp only [Act.put, zs1, zs2, zs3, i64_w, i32_w]
     rfl
    refine pure_ (i := 6) (N := some 21) (v := ?_) (a' := ?_) #[true, true, true, true, true, true, true, false, false, false, false] rfl rfl (za3 HT_.out (by kernel_rfl)) (fun _ _ _ h => h) (Or.inl ⟨by rfl, ?_⟩) ?_ ?_
    rotate_left
    ·
     intro w'
     go_simp
     with_reducible rfl
    rotate_left
    ·
     simp only [Act.put, zs1, zs2, zs3, i64_w, i32_w]
     rfl
    refine pure_ (i := 7) (N := some 28) (v := ?_) (a' := ?_) #[true, true, true, true, true, true, true, true, false, false, false] rfl rfl (za3 HT_.out (by kernel_rfl)) (fun _ _ _ h => h) (Or.inl ⟨by rfl, ?_⟩) ?_ ?_
    rotate_left
    ·
     intro w'
     go_simp
     with_reducible rfl
    rotate_left
    ·
     simp only [Act.put, zs1, zs2, zs3, i64_w, i32_w]
     rfl
    refine pure_ (i := 8) (N := some 29) (v := ?_) (a' := ?_) #[true, true, true, true, true, true, true, true, true, false, false] rfl rfl (za3 HT_.out (by kernel_rfl)) (fun _ _ _ h => h) (Or.inl ⟨by rfl, ?_⟩) ?_ ?_
    rotate_left
    ·
     intro w'
     go_simp
     with_reducible rfl
    rotate_left
    ·
     simp only [Act.put, zs1, zs2, zs3, i64_w, i32_w]
     rfl
    refine pure_ (i := 9) (N := some 6) (v := ?_) (a' := ?_) #[true, true, true, true, true, true, true, true, true, true, false] rfl rfl (za3 HT_.out (by kernel_rfl)) (fun _ _ _ h => h) (Or.inl ⟨by rfl, ?_⟩) ?_ ?_
    rotate_left
    ·
     intro w'
     go_simp
     with_reducible rfl
    rotate_left
    ·
     simp only [Act.put, zs1, zs2, zs3, i64_w, i32_w]
     rfl
    refine pure_ (i := 10) (N := some 7) (v := ?_) (a' := ?_) #[true, true, true, true, true, true, true, true, true, true, true] rfl rfl (za3 HT_.out (by kernel_rfl)) (fun _ _ _ h => h) (Or.inl ⟨by rfl, ?_⟩) ?_ ?_
    rotate_left
    ·
     intro w'
     go_simp
     with_reducible rfl
    rotate_left
    ·
     simp only [Act.put, zs1, zs2, zs3, i64_w, i32_w]
     rfl
    refine done_ (done_of HT_.out (by kernel_rfl)) ?_
    try go_wp2
    go_ret2
    exact ⟨by first | rfl | (simp [zb0, zb1] <;> rfl) | (simp only [← hji22]; first | rfl | (simp [zb0, zb1] <;> rfl)) | (simp [*, zb0, zb1] <;> rfl), zB HB⟩
  ·
   replace c6 := Bool.eq_false_iff.mpr c6
   subst c6
   rw [if_neg (show ¬ (false = true) by decide)] at H
   simp only [Option.some.injEq, Prod.mk.injEq] at H
   obtain ⟨rfl, rfl⟩ := H
   go_enter Tryd.func46, Tryd.ntmps46
   go_wp2_with (first | ((with_reducible refine zbe (N := 3) rfl ?_); refine zbj ?hg (N := 3) ?hd (cs := #[.slice A1_0 l1_0.length c1_0, .slice A1_1 l1_1.length c1_1]) (t := 28) ?hr ?_; (case hd => rfl); (case hg => rfl); (case hr => first | (go_simp; done) | (go_simp; rfl)); intro gb1133 hg w40 hbox hb; have n0_ := zA (zaa (zB HB) hb); have n1_ := zA (hbox); have n2_ := zA ((by rw [hg]; exact (za (zB HB)) : w.heap.size ≤ gb1133)); have n3_ := zA ((by rw [hg]; exact (za (zB HB)) : w.heap.size ≤ gb1133)); clear HB; have HB := n0_; have BK1133 := n1_; have GW1133 := n2_; have GE1133 := n3_; clear n0_ n1_ n2_ n3_ hb hbox hg) | ((with_reducible refine zad (f := 71) rfl ?_); refine za0 (some 10) rfl rfl Tryd.func71 (by kernel_rfl) rfl #[.int .i64 a0] rfl (zE) ?_; (with_reducible refine (zb8.calls a0 true _ A3.out).mono ?_); rintro e w' ⟨rfl, ⟨nd, rfl⟩⟩; refine ⟨_, rfl, ?_⟩; have hcz41_0 : w40.cell? ⟨gb1133, 0, none⟩ = some (.slice A1_0 l1_0.length c1_0) := (zac BK1133.out 0).trans rfl; have hcz41_1 : w40.cell? ⟨gb1133, 1, none⟩ = some (.slice A1_1 l1_1.length c1_1) := (zac BK1133.out 1).trans rfl; have hfz41_0 := zan BK1133.out 0; have hfz41_1 := zan BK1133.out 1) | ((with_reducible refine zad (f := 16) rfl ?_); refine za0 (some 14) rfl rfl Tryd.func16 (by kernel_rfl) rfl #[.agg #[.slice A1_0 l1_0.length c1_0, .slice A1_1 l1_1.length c1_1]] rfl (zE) ?_; (with_reducible refine (zbk.calls k _ _ l1_0 _ _ l1_1 false _ ?side1 ?side2 ?side3 ?side4 A5.out).mono ?_); (case side1 => exact zJ (Kd.za4 HR1_0.out (zB HB))); (case side2 => exact HC1_0.out); (case side3 => exact zJ (Kd.za4 HR1_1.out (zB HB))); (case side4 => exact HC1_1.out); rintro e w42 ⟨rfl, hb⟩; refine ⟨_, rfl, ?_⟩; have n0_ := zA (zae (g := gb1133) (o := .cells #[.slice A1_0 l1_0.length c1_0, .slice A1_1 l1_1.length c1_1] 28 (0, 0)) (zK BK1133) hb); have n1_ := zA (zaa (zB HB) hb); clear BK1133 HB; have BK1133 := n0_; have HB := n1_; clear n0_ n1_; (try clear hb); (try clear hb2); (try clear hk); (try clear hi)))
   go_ret2
   exact ⟨zW, zB HB⟩
 ·
  replace c4 := Bool.eq_false_iff.mpr c4
  subst c4
  rw [if_neg (show ¬ (false = true) by decide)] at H
  simp only [Option.some.injEq, Prod.mk.injEq] at H
  obtain ⟨rfl, rfl⟩ := H
  go_enter Tryd.func46, Tryd.ntmps46
  go_wp2_with (first | ((with_reducible refine zbe (N := 3) rfl ?_); refine zbj ?hg (N := 3) ?hd (cs := #[.slice A1_0 l1_0.length c1_0, .slice A1_1 l1_1.length c1_1]) (t := 28) ?hr ?_; (case hd => rfl); (case hg => rfl); (case hr => first | (go_simp; done) | (go_simp; rfl)); intro gb1133 hg w43 hbox hb; have n0_ := zA (zaa (zB HB) hb); have n1_ := zA (hbox); have n2_ := zA ((by rw [hg]; exact (za (zB HB)) : w.heap.size ≤ gb1133)); have n3_ := zA ((by rw [hg]; exact (za (zB HB)) : w.heap.size ≤ gb1133)); clear HB; have HB := n0_; have BK1133 := n1_; have GW1133 := n2_; have GE1133 := n3_; clear n0_ n1_ n2_ n3_ hb hbox hg) | ((with_reducible refine zad (f := 71) rfl ?_); refine za0 (some 10) rfl rfl Tryd.func71 (by kernel_rfl) rfl #[.int .i64 a0] rfl (zE) ?_; (with_reducible refine (zb8.calls a0 false _ A3.out).mono ?_); rintro e w' ⟨rfl, ⟨nd, rfl⟩⟩; refine ⟨_, rfl, ?_⟩))
  go_ret2
  exact ⟨zW, zB HB⟩
def zb3.l0 : Nat → Int → List Int → List (S28) → Int → Int → Option (List Int × Int)
 | 0, _, _, _, _, _ => none
 | k + 1, x0, x6, x14, x15, x16 => if x16 < x15 then (if 0 ≤ x16 then (if x16 < (x14.length : Int) then ((zb4.f k x0 ((rd_T28 x14 x16).f0) ((rd_T28 x14 x16).f1)).bind fun bt1163 => (if bt1163.2 = 0 then (if x6.length < 17592186044416 then (zb3.l0 k x0 (x6 ++ [bt1163.1]) x14 x15 (wrap64 (x16 + 1))) else (none)) else (some (([] : List Int), bt1163.2)))) else (none)) else (none)) else (some (x6, 0))
def zb3.f (k : Nat) (a0 : Int) (l1 : List (S28)) : Option (List Int × Int) := (zb8.f a0).bind fun t1160 => (if t1160 = true then (zb3.l0 k a0 ([] : List Int) l1 (l1.length : Int) 0) else (some (([] : List Int), 14)))
theorem zb3.zco : ∀ k, (∀ y0 y1 y2 y3 y4, LeO (zb3.l0 k y0 y1 y2 y3 y4) (zb3.l0 (k + 1) y0 y1 y2 y3 y4))
 | 0 => fun _ _ _ _ _ r h => by simp [zb3.l0] at h
 | k + 1 => by
  have ih0 := zb3.zco k
  ·
   intro y0 y1 y2 y3 y4
   unfold zb3.l0
   repeat' first
   | (with_reducible exact ih0 _ _ _ _ _)
   | (with_reducible exact zb4.mono _ _ _ _)
   | (with_reducible exact LeO.refl _)
   | (with_reducible exact LeO.none _)
   | (with_reducible refine LeO.ite ?_ ?_)
   | (with_reducible refine LeO.bind ?_ (fun _ => ?_))
   | exact ih0 _ _ _ _ _
   | exact zb4.mono _ _ _ _
   | exact LeO.none _
   | refine LeO.ite ?_ ?_
   | refine LeO.bind ?_ (fun _ => ?_)
theorem zb3.mono : ∀ a0 a1 k, LeO (zb3.f k a0 a1) (zb3.f (k + 1) a0 a1) := by
 intro a0 a1 k
 have ih0 := zb3.zco k
 unfold zb3.f
 repeat' first
   | (with_reducible exact ih0 _ _ _ _ _)
   | (with_reducible exact zb4.mono _ _ _ _)
   | (with_reducible exact LeO.refl _)
   | (with_reducible exact LeO.none _)
   | (with_reducible refine LeO.ite ?_ ?_)
   | (with_reducible refine LeO.bind ?_ (fun _ => ?_))
   | exact ih0 _ _ _ _ _
   | exact zb4.mono _ _ _ _
   | exact LeO.none _
   | refine LeO.ite ?_ ?_
   | refine LeO.bind ?_ (fun _ => ?_)
theorem zb3.calls (k : Nat) (a0 : Int) (A1 : Option Addr) (c1 : Nat) (l1 : List (S28)) (r1 : List Int) (r2 : Int) (w : World) (hr1 : Kd.C k28 w A1 l1.length l1) (hc1 : l1.length ≤ c1) (h : zb3.f k a0 l1 = some (r1, r2)) :
  Calls Tryd.prog 48 #[.int .i64 a0, .slice A1 l1.length c1] w fun e w' => ∃ v0_ : Value, e = .returned (.tuple #[v0_, .int .i64 r2]) ∧ Kd.R (Kd.int .i64) 3 w' w.heap.size (fun _ => True) v0_ r1 ∧ Below w.heap.size w w' := by
 have hu28 := Tryd.underlying28
 have HR1 := zA hr1
 have HC1 := zA hc1
 clear hr1 hc1
 have HB := zA (Below.refl w.heap.size w)
 have H : ((zb8.f a0).bind fun t1160 => (if t1160 = true then (zb3.l0 k a0 ([] : List Int) l1 (l1.length : Int) 0) else (some (([] : List Int), 14)))) = some (r1, r2) := h
 clear h
 replace H := zO H
 obtain ⟨t1160, A30, H⟩ := H
 try dsimp only at H
 have A3 := zA A30
 clear A30
 by_cases c4 : t1160 = true
 ·
  subst c4
  rw [if_pos rfl] at H
  have H' := zA H
  clear H
  go_enter Tryd.func48, Tryd.ntmps48
  go_wp2_with (first | ((with_reducible refine zad (f := 71) rfl ?_); refine za0 (some 12) rfl rfl Tryd.func71 (by kernel_rfl) rfl #[.int .i64 a0] rfl (zE) ?_; (with_reducible refine (zb8.calls a0 true _ A3.out).mono ?_); rintro e w' ⟨rfl, ⟨nd, rfl⟩⟩; refine ⟨_, rfl, ?_⟩))
  go_loopg [6, 16] k (fun kq v6 v16 w' => ∃ (x6_1 : List Int) (x16_1 : Int), v16 = .int .i64 x16_1 ∧ Aside0 (zb3.l0 kq a0 x6_1 l1 (l1.length : Int) x16_1 = some (r1, r2)) ∧ Aside0 (kq ≤ k) ∧ Aside0 (Kd.R (Kd.int .i64) 3 w' w.heap.size (fun _ => True) v6 x6_1) ∧ Aside0 (Below w.heap.size w w'))
  case atStart => exact ⟨(([] : List Int)), (0), (zF), H', ⟨Nat.le_refl _⟩, ⟨by first | exact Kd.R_nil _ _ _ _ _ | exact Kd.N_nil _ _ _ _ _ | exact Kd.V_nil _ _ _ _ _ | exact Kd.Q_nil _ _ _ _ _ | exact Kd.S_nil _ _ _ _ _⟩, ⟨zB HB⟩⟩
  case round =>
   clear H'
   try clear c1
   try clear p2
   try clear c4
   obtain ⟨x6_1, x16_1, rfl, HA, HK1, HO_6, HB⟩ := hrel
   cases gk with
   | zero => exact absurd HA.out (by simp [zb3.l0])
   | succ k1 =>
    have H := HA.out
    clear HA
    simp only [zb3.l0] at H
    by_cases c5 : x16_1 < (l1.length : Int)
    ·
     rw [if_pos c5] at H
     have c5b0 : decide (x16_1 < (l1.length : Int)) = true := decide_eq_true c5
     clear c5
     by_cases c6 : 0 ≤ x16_1
     ·
      rw [if_pos c6] at H
      have c6b0 : decide (0 ≤ x16_1) = true := decide_eq_true c6
      clear c6
      by_cases c7 : x16_1 < (l1.length : Int)
      ·
       rw [if_pos c7] at H
       have c7b0 : decide (x16_1 < (l1.length : Int)) = true := decide_eq_true c7
       clear c7
       replace H := zO H
       obtain ⟨⟨t1163, t1164⟩, A80, H⟩ := H
       try dsimp only at H
       have A8 := zA A80
       clear A80
       by_cases c9 : t1164 = 0
       ·
        rw [if_pos c9] at H
        have c9b0 : (t1164 == 0) = true := beq_iff_eq.mpr c9
        have c9b1 : (t1164 != 0) = false := bne_eq_false_iff_eq.mpr c9
        clear c9
        by_cases c10 : x6_1.length < 17592186044416
        ·
         rw [if_pos c10] at H
         have LMc10 := zA c10
         clear c10
         obtain ⟨y1165, hy1165⟩ : ∃ y_ : List Int, y_ = (x6_1 ++ [t1163]) := ⟨_, rfl⟩
         replace H : (zb3.l0 k1 a0 y1165 l1 (l1.length : Int) (wrap64 (x16_1 + 1))) = some (r1, r2) := by first | (rw [hy1165]; with_reducible exact H) | (have H2_ := (Option.bind_some _ _).symm.trans H; rw [hy1165]; with_reducible exact H2_) | (have H2_ := (Option.bind_some _ _).symm.trans H; with_reducible exact H2_) | with_reducible exact H | (rw [hy1165]; exact H) | exact H
         have Ny1165 := zA hy1165
         clear hy1165
         have H' := zA H
         clear H
         have p1161 : 0 ≤ (x16_1 : Int) := of_decide_eq_true (by first | (with_reducible assumption) | assumption)
         have q1161 : x16_1 < (l1.length : Int) := of_decide_eq_true (by first | (with_reducible assumption) | assumption)
         obtain ⟨ad1161, A1161_0, c1161_0, A1161_1, c1161_1, e1161, hx1161_0, hx1161_1, hl1161_0, hi1161_0, hl1161_1, hi1161_1⟩ := at_T28 HR1.out x16_1 p1161 q1161
         cases e1161
         replace hx1161_0 := (HB.out.cell (World.block_lt_of_cell? w _ hx1161_0)).trans hx1161_0
         replace hx1161_1 := (HB.out.cell (World.block_lt_of_cell? w _ hx1161_1)).trans hx1161_1
         have HR1161_0 := zA hi1161_0
         have HC1161_0 := zA hl1161_0
         clear hi1161_0 hl1161_0
         have HR1161_1 := zA hi1161_1
         have HC1161_1 := zA hl1161_1
         clear hi1161_1 hl1161_1
         replace p1161 := eq_true p1161
         replace q1161 := eq_true q1161
         go_wp2_with (first | ((with_reducible refine zbe (N := 8) rfl ?_); refine zbj ?hg (N := 8) ?hd (cs := #[.slice none 0 0, .slice none 0 0]) (t := 28) ?hr ?_; (case hd => rfl); (case hg => rfl); (case hr => first | (go_simp; done) | (go_simp; rfl)); intro gb1162 hg w11 hbox hb; have n0_ := zA (Kd.zbo (zR HO_6) hb); have n1_ := zA (zaa (zB HB) hb); have n2_ := zA (hbox); have n3_ := zA ((by rw [hg]; exact (za (zB HB)) : w.heap.size ≤ gb1162)); have n4_ := zA ((by rw [hg]; exact (za (zB HB)) : w.heap.size ≤ gb1162)); clear HO_6 HB; have HO_6 := n0_; have HB := n1_; have BK1162 := n2_; have GW1162 := n3_; have GE1162 := n4_; clear n0_ n1_ n2_ n3_ n4_ hb hbox hg; have hcz12_0 : w11.cell? ⟨gb1162, 0, none⟩ = some (.slice none 0 0) := (zac BK1162.out 0).trans rfl; have hcz12_1 : w11.cell? ⟨gb1162, 1, none⟩ = some (.slice none 0 0) := (zac BK1162.out 1).trans rfl; have hfz12_0 := zan BK1162.out 0; have hfz12_1 := zan BK1162.out 1) | ((with_reducible refine zad (f := 46) rfl ?_); refine za0 (some 23) rfl rfl Tryd.func46 (by kernel_rfl) rfl #[.int .i64 a0, .agg #[.slice A1161_0 ((rd_T28 l1 x16_1).f0).length c1161_0, .slice A1161_1 ((rd_T28 l1 x16_1).f1).length c1161_1]] rfl (zE) ?_; (with_reducible refine (zb4.calls k1 a0 _ _ ((rd_T28 l1 x16_1).f0) _ _ ((rd_T28 l1 x16_1).f1) t1163 t1164 _ ?side1 ?side2 ?side3 ?side4 A8.out).mono ?_); (case side1 => exact Kd.za4 HR1161_0.out (zB HB)); (case side2 => exact HC1161_0.out); (case side3 => exact Kd.za4 HR1161_1.out (zB HB)); (case side4 => exact HC1161_1.out); rintro e w13 ⟨rfl, hb⟩; refine ⟨_, rfl, ?_⟩; have n0_ := zA (Kd.zbo (by (with_reducible repeat (first | apply Kd.zb7 | apply Kd.zb9 | apply Kd.zci)); exact (Kd.zbn (Kd.R_far (p := ⟨gb1162, 1, none⟩) (Kd.R_far (p := ⟨gb1162, 0, none⟩) (Kd.zc6 HO_6.out BK1162.out (by decide)) (fun _ hk => hk.2) (.slice A1161_0 ((rd_T28 l1 x16_1).f0).length c1161_0)) (fun _ hk => hk.2) (.slice A1161_1 ((rd_T28 l1 x16_1).f1).length c1161_1)) (fun _ h_ => h_.1))) hb); have n1_ := zA (zae (g := gb1162) (o := .cells #[.slice A1161_0 ((rd_T28 l1 x16_1).f0).length c1161_0, .slice A1161_1 ((rd_T28 l1 x16_1).f1).length c1161_1] 28 (0, 0)) (by (with_reducible repeat (first | refine zai ?_ _ | refine zak ?_ | refine zah ?_ _)); refine zbv (cs := #[.slice A1161_0 ((rd_T28 l1 x16_1).f0).length c1161_0, .slice none 0 0]) ?_ 1 _ rfl; (with_reducible repeat (first | refine zai ?_ _ | refine zak ?_ | refine zah ?_ _)); refine zbv (cs := #[.slice none 0 0, .slice none 0 0]) ?_ 0 _ rfl; (with_reducible repeat (first | refine zai ?_ _ | refine zak ?_ | refine zah ?_ _)); exact BK1162.out) hb); have n2_ := zA (zaa (zB HB) hb); clear HO_6 BK1162 HB; have HO_6 := n0_; have BK1162 := n1_; have HB := n2_; clear n0_ n1_ n2_; (try clear hb); (try clear hb2); (try clear hk); (try clear hi)) | ((with_reducible refine zb2 (b := .append) (xs := #[.tmp 29, .tmp 31]) rfl ?_); at_builtin; refine Kd.zcy (Kd.int .i64) (w0 := w) w.heap.size rfl (.tmp 29) (.tmp 31) 30 3 (.int .i64 0) 8 rfl Tryd.underlying30 info3 rfl (by decide) (by omega) u6 x6_1 t1163 [.int .i64 t1163] (fun _ => True) (fun _ => False) rfl rfl ?aP (fun _ hk => hk.elim) ?aF ?aO ?aB ?aS ?aL ?_; (case aP => exact rfl); (case aB => exact (zB HB)); (case aF => exact (fun _ _ => trivial)); (case aO => exact (zR HO_6)); (case aS => exact (za (zB HB))); (case aL => have := LMc10.out; omega); intro v1166 w14 ho hb hg hat; rw [← Ny1165.out] at ho; have n0_ := zA (blk_grown (g := gb1162) (o := .cells #[.slice A1161_0 ((rd_T28 l1 x16_1).f0).length c1161_0, .slice A1161_1 ((rd_T28 l1 x16_1).f1).length c1161_1] 28 (0, 0)) (zK BK1162) hg (Kd.R_ne HO_6.out BK1162.out (by decide))); have n1_ := zA (hb); have n2_ := zA (ho); clear BK1162 HB HO_6; have BK1162 := n0_; have HB := n1_; have HO1167 := n2_; clear n0_ n1_ n2_ ho hb hg hat))
         go_roundg k1
         case measure => have := HK1.out; omega
         case rel => exact ⟨(y1165), (wrap64 (x16_1 + 1)), (zF), H', ⟨by have := HK1.out; omega⟩, ⟨zR HO1167⟩, ⟨zB HB⟩⟩
        ·
         rw [if_neg c10] at H
         exact absurd H (by simp)
       ·
        rw [if_neg c9] at H
        have c9b0 : (t1164 == 0) = false := beq_eq_false_iff_ne.mpr c9
        have c9b1 : (t1164 != 0) = true := bne_iff_ne.mpr c9
        simp only [Option.some.injEq, Prod.mk.injEq] at H
        obtain ⟨rfl, rfl⟩ := H
        have p1161 : 0 ≤ (x16_1 : Int) := of_decide_eq_true (by first | (with_reducible assumption) | assumption)
        have q1161 : x16_1 < (l1.length : Int) := of_decide_eq_true (by first | (with_reducible assumption) | assumption)
        obtain ⟨ad1161, A1161_0, c1161_0, A1161_1, c1161_1, e1161, hx1161_0, hx1161_1, hl1161_0, hi1161_0, hl1161_1, hi1161_1⟩ := at_T28 HR1.out x16_1 p1161 q1161
        cases e1161
        replace hx1161_0 := (HB.out.cell (World.block_lt_of_cell? w _ hx1161_0)).trans hx1161_0
        replace hx1161_1 := (HB.out.cell (World.block_lt_of_cell? w _ hx1161_1)).trans hx1161_1
        have HR1161_0 := zA hi1161_0
        have HC1161_0 := zA hl1161_0
        clear hi1161_0 hl1161_0
        have HR1161_1 := zA hi1161_1
        have HC1161_1 := zA hl1161_1
        clear hi1161_1 hl1161_1
        replace p1161 := eq_true p1161
        replace q1161 := eq_true q1161
        go_wp2_with (first | ((with_reducible refine zbe (N := 8) rfl ?_); refine zbj ?hg (N := 8) ?hd (cs := #[.slice none 0 0, .slice none 0 0]) (t := 28) ?hr ?_; (case hd => rfl); (case hg => rfl); (case hr => first | (go_simp; done) | (go_simp; rfl)); intro gb1162 hg w15 hbox hb; have n0_ := zA (Kd.zbo (zR HO_6) hb); have n1_ := zA (zaa (zB HB) hb); have n2_ := zA (hbox); have n3_ := zA ((by rw [hg]; exact (za (zB HB)) : w.heap.size ≤ gb1162)); have n4_ := zA ((by rw [hg]; exact (za (zB HB)) : w.heap.size ≤ gb1162)); clear HO_6 HB; have HO_6 := n0_; have HB := n1_; have BK1162 := n2_; have GW1162 := n3_; have GE1162 := n4_; clear n0_ n1_ n2_ n3_ n4_ hb hbox hg; have hcz16_0 : w15.cell? ⟨gb1162, 0, none⟩ = some (.slice none 0 0) := (zac BK1162.out 0).trans rfl; have hcz16_1 : w15.cell? ⟨gb1162, 1, none⟩ = some (.slice none 0 0) := (zac BK1162.out 1).trans rfl; have hfz16_0 := zan BK1162.out 0; have hfz16_1 := zan BK1162.out 1) | ((with_reducible refine zad (f := 46) rfl ?_); refine za0 (some 23) rfl rfl Tryd.func46 (by kernel_rfl) rfl #[.int .i64 a0, .agg #[.slice A1161_0 ((rd_T28 l1 x16_1).f0).length c1161_0, .slice A1161_1 ((rd_T28 l1 x16_1).f1).length c1161_1]] rfl (zE) ?_; (with_reducible refine (zb4.calls k1 a0 _ _ ((rd_T28 l1 x16_1).f0) _ _ ((rd_T28 l1 x16_1).f1) t1163 t1164 _ ?side1 ?side2 ?side3 ?side4 A8.out).mono ?_); (case side1 => exact Kd.za4 HR1161_0.out (zB HB)); (case side2 => exact HC1161_0.out); (case side3 => exact Kd.za4 HR1161_1.out (zB HB)); (case side4 => exact HC1161_1.out); rintro e w17 ⟨rfl, hb⟩; refine ⟨_, rfl, ?_⟩; have n0_ := zA (Kd.zbo (by (with_reducible repeat (first | apply Kd.zb7 | apply Kd.zb9 | apply Kd.zci)); exact (Kd.zbn (Kd.R_far (p := ⟨gb1162, 1, none⟩) (Kd.R_far (p := ⟨gb1162, 0, none⟩) (Kd.zc6 HO_6.out BK1162.out (by decide)) (fun _ hk => hk.2) (.slice A1161_0 ((rd_T28 l1 x16_1).f0).length c1161_0)) (fun _ hk => hk.2) (.slice A1161_1 ((rd_T28 l1 x16_1).f1).length c1161_1)) (fun _ h_ => h_.1))) hb); have n1_ := zA (zae (g := gb1162) (o := .cells #[.slice A1161_0 ((rd_T28 l1 x16_1).f0).length c1161_0, .slice A1161_1 ((rd_T28 l1 x16_1).f1).length c1161_1] 28 (0, 0)) (by (with_reducible repeat (first | refine zai ?_ _ | refine zak ?_ | refine zah ?_ _)); refine zbv (cs := #[.slice A1161_0 ((rd_T28 l1 x16_1).f0).length c1161_0, .slice none 0 0]) ?_ 1 _ rfl; (with_reducible repeat (first | refine zai ?_ _ | refine zak ?_ | refine zah ?_ _)); refine zbv (cs := #[.slice none 0 0, .slice none 0 0]) ?_ 0 _ rfl; (with_reducible repeat (first | refine zai ?_ _ | refine zak ?_ | refine zah ?_ _)); exact BK1162.out) hb); have n2_ := zA (zaa (zB HB) hb); clear HO_6 BK1162 HB; have HO_6 := n0_; have BK1162 := n1_; have HB := n2_; clear n0_ n1_ n2_; (try clear hb); (try clear hb2); (try clear hk); (try clear hi)))
        go_ret2
        exact ⟨_, zW, by first | exact Kd.R_nil _ _ _ _ _ | exact Kd.N_nil _ _ _ _ _ | exact Kd.V_nil _ _ _ _ _ | exact Kd.Q_nil _ _ _ _ _ | exact Kd.S_nil _ _ _ _ _, zB HB⟩
      ·
       rw [if_neg c7] at H
       exact absurd H (by simp)
     ·
      rw [if_neg c6] at H
      exact absurd H (by simp)
    ·
     rw [if_neg c5] at H
     have c5b0 : decide (x16_1 < (l1.length : Int)) = false := decide_eq_false c5
     clear c5
     simp only [Option.some.injEq, Prod.mk.injEq] at H
     obtain ⟨rfl, rfl⟩ := H
     go_wp2
     go_ret2
     exact ⟨_, zW, zR HO_6, zB HB⟩
 ·
  replace c4 := Bool.eq_false_iff.mpr c4
  subst c4
  rw [if_neg (show ¬ (false = true) by decide)] at H
  simp only [Option.some.injEq, Prod.mk.injEq] at H
  obtain ⟨rfl, rfl⟩ := H
  go_enter Tryd.func48, Tryd.ntmps48
  go_wp2_with (first | ((with_reducible refine zad (f := 71) rfl ?_); refine za0 (some 12) rfl rfl Tryd.func71 (by kernel_rfl) rfl #[.int .i64 a0] rfl (zE) ?_; (with_reducible refine (zb8.calls a0 false _ A3.out).mono ?_); rintro e w' ⟨rfl, ⟨nd, rfl⟩⟩; refine ⟨_, rfl, ?_⟩))
  go_ret2
  exact ⟨_, zW, by first | exact Kd.R_nil _ _ _ _ _ | exact Kd.N_nil _ _ _ _ _ | exact Kd.V_nil _ _ _ _ _ | exact Kd.Q_nil _ _ _ _ _ | exact Kd.S_nil _ _ _ _ _, zB HB⟩
def zbb.f (k : Nat) : Option Bool := (za7.f k (⟨#[49, 47, 51]⟩ : ByteArray)).bind fun r => (za7.f k (⟨#[49, 47, 50, 48]⟩ : ByteArray)).bind fun s => (zb3.f k 10 [⟨r.1, r.2.1⟩, ⟨s.1, s.2.1⟩]).bind fun l => if l = ([3, 1], 0) then some true else none
theorem zbb.mono : ∀ k, LeO (zbb.f k) (zbb.f (k + 1)) := by
 intro k
 unfold zbb.f
 exact LeO.bind (za7.mono _ _) (fun r => LeO.bind (za7.mono _ _) (fun s => LeO.bind (zb3.mono _ _ _) (fun _ => LeO.refl _)))
theorem k28_row {w : World} {g : Nat} {A0 A1 A2 A3 : Option Addr} {c0 c1 c2 c3 : Nat} {l0 l1 l2 l3 : List Int} {t : Nat} (hb : w.heap[g]? = some (.cells #[.slice A0 l0.length c0, .slice A1 l1.length c1, .slice A2 l2.length c2, .slice A3 l3.length c3] t (0, 0)))
  (h0 : l0.length ≤ c0 ∧ Kd.C (Kd.int .u64) w A0 l0.length l0) (h1 : l1.length ≤ c1 ∧ Kd.C (Kd.int .u64) w A1 l1.length l1) (h2 : l2.length ≤ c2 ∧ Kd.C (Kd.int .u64) w A2 l2.length l2) (h3 : l3.length ≤ c3 ∧ Kd.C (Kd.int .u64) w A3 l3.length l3) :
  Kd.C k28 w (some ⟨g, 0, none⟩) 2 [⟨l0, l1⟩, ⟨l2, l3⟩] := by
 refine ⟨rfl, by omega, fun _ => ⟨_, rfl, fun j p hj => ?_⟩⟩
 match j, hj with
 | 0, hj =>
  simp at hj
  subst hj
  refine ⟨[.slice A0 l0.length c0, .slice A1 l1.length c1], rfl, ⟨[.slice A0 l0.length c0], [.slice A1 l1.length c1], rfl, ⟨A0, c0, rfl, h0.1, h0.2⟩, ⟨A1, c1, rfl, h1.1, h1.2⟩⟩, fun i u hu => ?_⟩
  match i, hu with
  | 0, hu => exact (zac hb 0).trans hu
  | 1, hu => exact (zac hb 1).trans hu
 | 1, hj =>
  simp at hj
  subst hj
  refine ⟨[.slice A2 l2.length c2, .slice A3 l3.length c3], rfl, ⟨[.slice A2 l2.length c2], [.slice A3 l3.length c3], rfl, ⟨A2, c2, rfl, h2.1, h2.2⟩, ⟨A3, c3, rfl, h3.1, h3.2⟩⟩, fun i u hu => ?_⟩
  match i, hu with
  | 0, hu => exact (zac hb 2).trans hu
  | 1, hu => exact (zac hb 3).trans hu
theorem zbb.calls (k : Nat) (r : Bool) (w : World) (hG : Glob w) (h : zbb.f k = some r) :
  Calls Tryd.prog 45 #[] w fun e w' => e = .returned (.bool r) ∧ Below w.heap.size w w' := by
 unfold zbb.f at h
 obtain ⟨r1, e1, h⟩ := zO h
 obtain ⟨r2, e2, h⟩ := zO h
 obtain ⟨l, e3, h⟩ := zO h
 split at h
 ·
  rename_i hl
  subst hl
  injection h with h
  subst h
  obtain ⟨p1, p2, p3⟩ := r1
  obtain ⟨q1, q2, q3⟩ := r2
  have E1 := zA e1
  have E2 := zA e2
  have E3 := zA e3
  have HG := zA hG
  clear e1 e2 e3 hG
  go_enter Tryd.func45, Tryd.ntmps45
  go_wp2_with fail
  go_at_call 40
  refine (za7.calls k _ p1 p2 p3 _ HG.out E1.out).mono ?_
  rintro e w1 ⟨v0, v1, rfl, ho0, ho1, hb⟩
  obtain ⟨A0, c0, rfl⟩ := Kd.za9 ho0
  obtain ⟨A1, c1, rfl⟩ := Kd.za9 ho1
  have HO0 := zA (Kd.zam ho0)
  have HO1 := zA (Kd.zam ho1)
  have HB := zA hb
  have HG1 := zA (Glob.below HG.out hb)
  clear ho0 ho1 hb
  go_wp2_with fail
  go_at_call 40
  refine (za7.calls k _ q1 q2 q3 _ (Glob.below HG1.out (zbt (Below.refl _ _) _)) E2.out).mono ?_
  rintro e w2 ⟨v2, v3, rfl, ho2, ho3, hb2⟩
  obtain ⟨A2, c2, rfl⟩ := Kd.za9 ho2
  obtain ⟨A3, c3, rfl⟩ := Kd.za9 ho3
  have BK1 := zA (zae (blk_new w1 (.cells #[.slice A0 p1.length c0, .slice A1 p2.length c1] 28)) hb2)
  have HO2 := zA (Kd.zam ho2)
  have HO3 := zA (Kd.zam ho3)
  have HB2 := zA (zaa (zbt HB.out (.cells #[.slice A0 p1.length c0, .slice A1 p2.length c1] 28)) hb2)
  have C0 := zA (Kd.za4 (Kd.zc5 HO0.out.2.2 (.cells #[.slice A0 p1.length c0, .slice A1 p2.length c1] 28)) hb2)
  have C1 := zA (Kd.za4 (Kd.zc5 HO1.out.2.2 (.cells #[.slice A0 p1.length c0, .slice A1 p2.length c1] 28)) hb2)
  have hs1 : w1.heap.size < w2.heap.size := zcl BK1.out
  have B0 := zA (zah BK1.out (.cells #[.slice A2 q1.length c2, .slice A3 q2.length c3] 28))
  have e0 := (zac B0.out 0).trans rfl
  have e1 := (zac B0.out 1).trans rfl
  have B1 := zA (blk_new w2 (.cells #[.slice A2 q1.length c2, .slice A3 q2.length c3] 28))
  have e2 := (zac B1.out 0).trans rfl
  have e3 := (zac B1.out 1).trans rfl
  clear ho2 ho3 hb2 hs1
  have B3 : Aside0 (((w2.alloc (.cells #[.slice A2 q1.length c2, .slice A3 q2.length c3] 28)).alloc (.cells #[.slice A0 p1.length c0, .slice A1 p2.length c1, .slice A2 q1.length c2, .slice A3 q2.length c3] 28)).heap[w2.heap.size + 1]? = some (.cells #[.slice A0 p1.length c0, .slice A1 p2.length c1, .slice A2 q1.length c2, .slice A3 q2.length c3] 28 (0, 0))) := ⟨by
   have := blk_new (w2.alloc (.cells #[.slice A2 q1.length c2, .slice A3 q2.length c3] 28)) (.cells #[.slice A0 p1.length c0, .slice A1 p2.length c1, .slice A2 q1.length c2, .slice A3 q2.length c3] 28)
   rwa [show (w2.alloc (.cells #[.slice A2 q1.length c2, .slice A3 q2.length c3] 28)).heap.size = w2.heap.size + 1 by simp] at this⟩
  go_wp2_with fail
  go_at_call 48
  refine (zb3.calls k 10 (some ⟨w2.heap.size + 1, 0, none⟩) 2 [⟨p1, p2⟩, ⟨q1, q2⟩] [3, 1] 0 _ (k28_row B3.out ⟨HO0.out.2.1, Kd.zc5 (Kd.zc5 C0.out _) _⟩ ⟨HO1.out.2.1, Kd.zc5 (Kd.zc5 C1.out _) _⟩ ⟨HO2.out.2.1, Kd.zc5 (Kd.zc5 HO2.out.2.2 _) _⟩ ⟨HO3.out.2.1, Kd.zc5 (Kd.zc5 HO3.out.2.2 _) _⟩) (Nat.le_refl _) E3.out).mono ?_
  rintro e w3 ⟨v4, rfl, ho4, hb4⟩
  have hb5 := zA (zaa (zbt (zbt HB2.out _) _) hb4)
  obtain ⟨g, cap, rfl, _, _, cells, hcells⟩ := Kd.R_form ho4 (by decide)
  have f0 := (Kd.R_cell (0 : Int) ho4 0 (by decide) (by decide)).1
  have f1 := (Kd.R_cell (0 : Int) ho4 1 (by decide) (by decide)).1
  have g0 : w3.cell? ⟨g, 0, none⟩ = some (.int .i64 3) := f0
  have g1 : w3.cell? ⟨g, 1, none⟩ = some (.int .i64 1) := f1
  clear f0 f1 hcells ho4 hb4 e0 e1 e2 e3
  go_wp2
  go_ret
  exact ⟨rfl, hb5.out⟩
 ·
  cases h
def za6.l0 : Nat → List Int → List Int → List Int → Int → Int → Int → Option (List Int)
 | 0, _, _, _, _, _, _ => none
 | k + 1, x0, x1, x5, x6, x10, x11 => if x11 < x10 then (if 0 ≤ x11 then (if x11 < (x0.length : Int) then ((zb6.f x1 x11).bind fun t318 => (if (wrap64 ((wrap64 ((rd x0 x11) - t318)) - x6)) < 0 then (if x5.length < 17592186044416 then (za6.l0 k x0 x1 (x5 ++ [wrap64 ((wrap64 ((wrap64 ((rd x0 x11) - t318)) - x6)) + 10000)]) 1 x10 (wrap64 (x11 + 1))) else (none)) else (if x5.length < 17592186044416 then (za6.l0 k x0 x1 (x5 ++ [wrap64 ((wrap64 ((rd x0 x11) - t318)) - x6)]) 0 x10 (wrap64 (x11 + 1))) else (none)))) else (none)) else (none)) else ((zaq.f k x5).bind fun t325 => (some t325))
def za6.f (k : Nat) (l0 : List Int) (l1 : List Int) : Option (List Int) := za6.l0 k l0 l1 ([] : List Int) 0 (l0.length : Int) 0
theorem za6.calls (k : Nat) (A0 : Option Addr) (c0 : Nat) (l0 : List Int) (A1 : Option Addr) (c1 : Nat) (l1 : List Int) (r : List Int) (w : World) (hr0 : Kd.C (Kd.int .i64) w A0 l0.length l0) (hc0 : l0.length ≤ c0) (hr1 : Kd.C (Kd.int .i64) w A1 l1.length l1) (hc1 : l1.length ≤ c1) (h : za6.f k l0 l1 = some r) :
  Calls Tryd.prog 66 #[.slice A0 l0.length c0, .slice A1 l1.length c1] w fun e w' => ∃ v0_ : Value, e = .returned (v0_) ∧ Kd.R (Kd.int .i64) 3 w' w.heap.size (fun _ => True) v0_ r ∧ Below w.heap.size w w' := by
 have HR0 := zA hr0
 have HC0 := zA hc0
 clear hr0 hc0
 have HR1 := zA hr1
 have HC1 := zA hc1
 clear hr1 hc1
 have HB := zA (Below.refl w.heap.size w)
 have H : (za6.l0 k l0 l1 ([] : List Int) 0 (l0.length : Int) 0) = some r := h
 clear h
 have H' := zA H
 clear H
 go_enter Tryd.func66, Tryd.ntmps66
 go_wp2
 repeat (go_quiet (fail); try go_wp2)
 go_loopg [5, 6, 11] k (fun kq v5 v6 v11 w' => ∃ (x5_1 : List Int) (x6_1 : Int) (x11_1 : Int), v6 = .int .i64 x6_1 ∧ v11 = .int .i64 x11_1 ∧ Aside0 (za6.l0 kq l0 l1 x5_1 x6_1 (l0.length : Int) x11_1 = some r) ∧ Aside0 (kq ≤ k) ∧ Aside0 (Kd.R (Kd.int .i64) 3 w' w.heap.size (fun _ => True) v5 x5_1) ∧ Aside0 (Below w.heap.size w w'))
 case atStart => exact ⟨(([] : List Int)), (0), (0), (zF), (zF), H', ⟨Nat.le_refl _⟩, ⟨by first | exact Kd.R_nil _ _ _ _ _ | exact Kd.N_nil _ _ _ _ _ | exact Kd.V_nil _ _ _ _ _ | exact Kd.Q_nil _ _ _ _ _ | exact Kd.S_nil _ _ _ _ _⟩, ⟨zB HB⟩⟩
 case round =>
  clear H'
  try clear c1
  try clear p2
  obtain ⟨x5_1, x6_1, x11_1, rfl, rfl, HA, HK1, HO_5, HB⟩ := hrel
  cases gk with
  | zero => exact absurd HA.out (by simp [za6.l0])
  | succ k1 =>
   have H := HA.out
   clear HA
   simp only [za6.l0] at H
   by_cases c3 : x11_1 < (l0.length : Int)
   ·
    rw [if_pos c3] at H
    have c3b0 : decide (x11_1 < (l0.length : Int)) = true := decide_eq_true c3
    clear c3
    by_cases c4 : 0 ≤ x11_1
    ·
     rw [if_pos c4] at H
     have c4b0 : decide (0 ≤ x11_1) = true := decide_eq_true c4
     clear c4
     by_cases c5 : x11_1 < (l0.length : Int)
     ·
      rw [if_pos c5] at H
      have c5b0 : decide (x11_1 < (l0.length : Int)) = true := decide_eq_true c5
      clear c5
      replace H := zO H
      obtain ⟨t318, A60, H⟩ := H
      try dsimp only at H
      have A6 := zA A60
      clear A60
      by_cases c7 : (wrap64 ((wrap64 ((rd l0 x11_1) - t318)) - x6_1)) < 0
      ·
       rw [if_pos c7] at H
       have c7b0 : decide ((wrap64 ((wrap64 ((rd l0 x11_1) - t318)) - x6_1)) < 0) = true := decide_eq_true c7
       clear c7
       by_cases c8 : x5_1.length < 17592186044416
       ·
        rw [if_pos c8] at H
        have LMc8 := zA c8
        clear c8
        obtain ⟨y319, hy319⟩ : ∃ y_ : List Int, y_ = (x5_1 ++ [wrap64 ((wrap64 ((wrap64 ((rd l0 x11_1) - t318)) - x6_1)) + 10000)]) := ⟨_, rfl⟩
        replace H : (za6.l0 k1 l0 l1 y319 1 (l0.length : Int) (wrap64 (x11_1 + 1))) = some r := by first | (rw [hy319]; with_reducible exact H) | (have H2_ := (Option.bind_some _ _).symm.trans H; rw [hy319]; with_reducible exact H2_) | (have H2_ := (Option.bind_some _ _).symm.trans H; with_reducible exact H2_) | with_reducible exact H | (rw [hy319]; exact H) | exact H
        have Ny319 := zA hy319
        clear hy319
        have H' := zA H
        clear H
        have p317 : 0 ≤ (x11_1 : Int) := of_decide_eq_true (by first | (with_reducible assumption) | assumption)
        have q317 : x11_1 < (l0.length : Int) := of_decide_eq_true (by first | (with_reducible assumption) | assumption)
        obtain ⟨ad317, e317, hx317_0⟩ := Kd.at_int HR0.out x11_1 p317 q317
        cases e317
        replace hx317_0 := (HB.out.cell (World.block_lt_of_cell? w _ hx317_0)).trans hx317_0
        replace p317 := eq_true p317
        replace q317 := eq_true q317
        go_wp2_with (first | (go_at_call 82; (with_reducible refine (zb6.calls _ _ l1 x11_1 t318 _ ?side1 ?side2 A6.out).mono ?_); (case side1 => exact zJ (Kd.za4 HR1.out HB.out)); (case side2 => exact HC1.out); rintro e w' ⟨rfl, ⟨nd, rfl⟩⟩; (try first | exact ⟨rfl, _, World.drewN_drewN _ _ _⟩ | exact ⟨rfl, _, Eq.trans (World.drewN_drewN _ _ _) (congrArg (World.drewN _) (Nat.add_assoc _ _ _))⟩)) | ((with_reducible refine zb2 (b := .append) (xs := #[.tmp 28, .tmp 30]) rfl ?_); at_builtin; refine Kd.zcy (Kd.int .i64) (w0 := w) w.heap.size rfl (.tmp 28) (.tmp 30) 31 3 (.int .i64 0) 8 rfl Tryd.underlying31 info3 rfl (by decide) (by omega) u5 x5_1 (wrap64 ((wrap64 ((wrap64 ((rd l0 x11_1) - t318)) - x6_1)) + 10000)) [.int .i64 (wrap64 ((wrap64 ((wrap64 ((rd l0 x11_1) - t318)) - x6_1)) + 10000))] (fun _ => True) (fun _ => False) rfl rfl ?aP (fun _ hk => hk.elim) ?aF ?aO ?aB ?aS ?aL ?_; (case aP => exact rfl); (case aB => exact (zB HB)); (case aF => exact (fun _ _ => trivial)); (case aO => exact (zR HO_5)); (case aS => exact (za (zB HB))); (case aL => have := LMc8.out; omega); intro v320 w9 ho hb hg hat; rw [← Ny319.out] at ho; have n0_ := zA (hb); have n1_ := zA (ho); clear HB HO_5; have HB := n0_; have HO321 := n1_; clear n0_ n1_ ho hb hg hat))
        repeat (go_quiet (first | (go_at_call 82; (with_reducible refine (zb6.calls _ _ l1 x11_1 t318 _ ?side1 ?side2 A6.out).mono ?_); (case side1 => exact zJ (Kd.za4 HR1.out HB.out)); (case side2 => exact HC1.out); rintro e w' ⟨rfl, ⟨nd, rfl⟩⟩; (try first | exact ⟨rfl, _, World.drewN_drewN _ _ _⟩ | exact ⟨rfl, _, Eq.trans (World.drewN_drewN _ _ _) (congrArg (World.drewN _) (Nat.add_assoc _ _ _))⟩)) | ((with_reducible refine zb2 (b := .append) (xs := #[.tmp 28, .tmp 30]) rfl ?_); at_builtin; refine Kd.zcy (Kd.int .i64) (w0 := w) w.heap.size rfl (.tmp 28) (.tmp 30) 31 3 (.int .i64 0) 8 rfl Tryd.underlying31 info3 rfl (by decide) (by omega) u5 x5_1 (wrap64 ((wrap64 ((wrap64 ((rd l0 x11_1) - t318)) - x6_1)) + 10000)) [.int .i64 (wrap64 ((wrap64 ((wrap64 ((rd l0 x11_1) - t318)) - x6_1)) + 10000))] (fun _ => True) (fun _ => False) rfl rfl ?aP (fun _ hk => hk.elim) ?aF ?aO ?aB ?aS ?aL ?_; (case aP => exact rfl); (case aB => exact (zB HB)); (case aF => exact (fun _ _ => trivial)); (case aO => exact (zR HO_5)); (case aS => exact (za (zB HB))); (case aL => have := LMc8.out; omega); intro v320 w9 ho hb hg hat; rw [← Ny319.out] at ho; have n0_ := zA (hb); have n1_ := zA (ho); clear HB HO_5; have HB := n0_; have HO321 := n1_; clear n0_ n1_ ho hb hg hat)); try go_wp2_with (first | (go_at_call 82; (with_reducible refine (zb6.calls _ _ l1 x11_1 t318 _ ?side1 ?side2 A6.out).mono ?_); (case side1 => exact zJ (Kd.za4 HR1.out HB.out)); (case side2 => exact HC1.out); rintro e w' ⟨rfl, ⟨nd, rfl⟩⟩; (try first | exact ⟨rfl, _, World.drewN_drewN _ _ _⟩ | exact ⟨rfl, _, Eq.trans (World.drewN_drewN _ _ _) (congrArg (World.drewN _) (Nat.add_assoc _ _ _))⟩)) | ((with_reducible refine zb2 (b := .append) (xs := #[.tmp 28, .tmp 30]) rfl ?_); at_builtin; refine Kd.zcy (Kd.int .i64) (w0 := w) w.heap.size rfl (.tmp 28) (.tmp 30) 31 3 (.int .i64 0) 8 rfl Tryd.underlying31 info3 rfl (by decide) (by omega) u5 x5_1 (wrap64 ((wrap64 ((wrap64 ((rd l0 x11_1) - t318)) - x6_1)) + 10000)) [.int .i64 (wrap64 ((wrap64 ((wrap64 ((rd l0 x11_1) - t318)) - x6_1)) + 10000))] (fun _ => True) (fun _ => False) rfl rfl ?aP (fun _ hk => hk.elim) ?aF ?aO ?aB ?aS ?aL ?_; (case aP => exact rfl); (case aB => exact (zB HB)); (case aF => exact (fun _ _ => trivial)); (case aO => exact (zR HO_5)); (case aS => exact (za (zB HB))); (case aL => have := LMc8.out; omega); intro v320 w9 ho hb hg hat; rw [← Ny319.out] at ho; have n0_ := zA (hb); have n1_ := zA (ho); clear HB HO_5; have HB := n0_; have HO321 := n1_; clear n0_ n1_ ho hb hg hat)))
        go_roundg k1
        case measure => have := HK1.out; omega
        case rel => exact ⟨(y319), (1), (wrap64 (x11_1 + 1)), (zF), (zF), H', ⟨by have := HK1.out; omega⟩, ⟨zR HO321⟩, ⟨zB HB⟩⟩
       ·
        rw [if_neg c8] at H
        exact absurd H (by simp)
      ·
       rw [if_neg c7] at H
       have c7b0 : decide ((wrap64 ((wrap64 ((rd l0 x11_1) - t318)) - x6_1)) < 0) = false := decide_eq_false c7
       clear c7
       by_cases c10 : x5_1.length < 17592186044416
       ·
        rw [if_pos c10] at H
        have LMc10 := zA c10
        clear c10
        obtain ⟨y322, hy322⟩ : ∃ y_ : List Int, y_ = (x5_1 ++ [wrap64 ((wrap64 ((rd l0 x11_1) - t318)) - x6_1)]) := ⟨_, rfl⟩
        replace H : (za6.l0 k1 l0 l1 y322 0 (l0.length : Int) (wrap64 (x11_1 + 1))) = some r := by first | (rw [hy322]; with_reducible exact H) | (have H2_ := (Option.bind_some _ _).symm.trans H; rw [hy322]; with_reducible exact H2_) | (have H2_ := (Option.bind_some _ _).symm.trans H; with_reducible exact H2_) | with_reducible exact H | (rw [hy322]; exact H) | exact H
        have Ny322 := zA hy322
        clear hy322
        have H' := zA H
        clear H
        have p317 : 0 ≤ (x11_1 : Int) := of_decide_eq_true (by first | (with_reducible assumption) | assumption)
        have q317 : x11_1 < (l0.length : Int) := of_decide_eq_true (by first | (with_reducible assumption) | assumption)
        obtain ⟨ad317, e317, hx317_0⟩ := Kd.at_int HR0.out x11_1 p317 q317
        cases e317
        replace hx317_0 := (HB.out.cell (World.block_lt_of_cell? w _ hx317_0)).trans hx317_0
        replace p317 := eq_true p317
        replace q317 := eq_true q317
        go_wp2_with (first | (go_at_call 82; (with_reducible refine (zb6.calls _ _ l1 x11_1 t318 _ ?side1 ?side2 A6.out).mono ?_); (case side1 => exact zJ (Kd.za4 HR1.out HB.out)); (case side2 => exact HC1.out); rintro e w' ⟨rfl, ⟨nd, rfl⟩⟩; (try first | exact ⟨rfl, _, World.drewN_drewN _ _ _⟩ | exact ⟨rfl, _, Eq.trans (World.drewN_drewN _ _ _) (congrArg (World.drewN _) (Nat.add_assoc _ _ _))⟩)) | ((with_reducible refine zb2 (b := .append) (xs := #[.tmp 28, .tmp 30]) rfl ?_); at_builtin; refine Kd.zcy (Kd.int .i64) (w0 := w) w.heap.size rfl (.tmp 28) (.tmp 30) 31 3 (.int .i64 0) 8 rfl Tryd.underlying31 info3 rfl (by decide) (by omega) u5 x5_1 (wrap64 ((wrap64 ((rd l0 x11_1) - t318)) - x6_1)) [.int .i64 (wrap64 ((wrap64 ((rd l0 x11_1) - t318)) - x6_1))] (fun _ => True) (fun _ => False) rfl rfl ?aP (fun _ hk => hk.elim) ?aF ?aO ?aB ?aS ?aL ?_; (case aP => exact rfl); (case aB => exact (zB HB)); (case aF => exact (fun _ _ => trivial)); (case aO => exact (zR HO_5)); (case aS => exact (za (zB HB))); (case aL => have := LMc10.out; omega); intro v323 w11 ho hb hg hat; rw [← Ny322.out] at ho; have n0_ := zA (hb); have n1_ := zA (ho); clear HB HO_5; have HB := n0_; have HO324 := n1_; clear n0_ n1_ ho hb hg hat))
        repeat (go_quiet (first | (go_at_call 82; (with_reducible refine (zb6.calls _ _ l1 x11_1 t318 _ ?side1 ?side2 A6.out).mono ?_); (case side1 => exact zJ (Kd.za4 HR1.out HB.out)); (case side2 => exact HC1.out); rintro e w' ⟨rfl, ⟨nd, rfl⟩⟩; (try first | exact ⟨rfl, _, World.drewN_drewN _ _ _⟩ | exact ⟨rfl, _, Eq.trans (World.drewN_drewN _ _ _) (congrArg (World.drewN _) (Nat.add_assoc _ _ _))⟩)) | ((with_reducible refine zb2 (b := .append) (xs := #[.tmp 28, .tmp 30]) rfl ?_); at_builtin; refine Kd.zcy (Kd.int .i64) (w0 := w) w.heap.size rfl (.tmp 28) (.tmp 30) 31 3 (.int .i64 0) 8 rfl Tryd.underlying31 info3 rfl (by decide) (by omega) u5 x5_1 (wrap64 ((wrap64 ((rd l0 x11_1) - t318)) - x6_1)) [.int .i64 (wrap64 ((wrap64 ((rd l0 x11_1) - t318)) - x6_1))] (fun _ => True) (fun _ => False) rfl rfl ?aP (fun _ hk => hk.elim) ?aF ?aO ?aB ?aS ?aL ?_; (case aP => exact rfl); (case aB => exact (zB HB)); (case aF => exact (fun _ _ => trivial)); (case aO => exact (zR HO_5)); (case aS => exact (za (zB HB))); (case aL => have := LMc10.out; omega); intro v323 w11 ho hb hg hat; rw [← Ny322.out] at ho; have n0_ := zA (hb); have n1_ := zA (ho); clear HB HO_5; have HB := n0_; have HO324 := n1_; clear n0_ n1_ ho hb hg hat)); try go_wp2_with (first | (go_at_call 82; (with_reducible refine (zb6.calls _ _ l1 x11_1 t318 _ ?side1 ?side2 A6.out).mono ?_); (case side1 => exact zJ (Kd.za4 HR1.out HB.out)); (case side2 => exact HC1.out); rintro e w' ⟨rfl, ⟨nd, rfl⟩⟩; (try first | exact ⟨rfl, _, World.drewN_drewN _ _ _⟩ | exact ⟨rfl, _, Eq.trans (World.drewN_drewN _ _ _) (congrArg (World.drewN _) (Nat.add_assoc _ _ _))⟩)) | ((with_reducible refine zb2 (b := .append) (xs := #[.tmp 28, .tmp 30]) rfl ?_); at_builtin; refine Kd.zcy (Kd.int .i64) (w0 := w) w.heap.size rfl (.tmp 28) (.tmp 30) 31 3 (.int .i64 0) 8 rfl Tryd.underlying31 info3 rfl (by decide) (by omega) u5 x5_1 (wrap64 ((wrap64 ((rd l0 x11_1) - t318)) - x6_1)) [.int .i64 (wrap64 ((wrap64 ((rd l0 x11_1) - t318)) - x6_1))] (fun _ => True) (fun _ => False) rfl rfl ?aP (fun _ hk => hk.elim) ?aF ?aO ?aB ?aS ?aL ?_; (case aP => exact rfl); (case aB => exact (zB HB)); (case aF => exact (fun _ _ => trivial)); (case aO => exact (zR HO_5)); (case aS => exact (za (zB HB))); (case aL => have := LMc10.out; omega); intro v323 w11 ho hb hg hat; rw [← Ny322.out] at ho; have n0_ := zA (hb); have n1_ := zA (ho); clear HB HO_5; have HB := n0_; have HO324 := n1_; clear n0_ n1_ ho hb hg hat)))
        go_roundg k1
        case measure => have := HK1.out; omega
        case rel => exact ⟨(y322), (0), (wrap64 (x11_1 + 1)), (zF), (zF), H', ⟨by have := HK1.out; omega⟩, ⟨zR HO324⟩, ⟨zB HB⟩⟩
       ·
        rw [if_neg c10] at H
        exact absurd H (by simp)
     ·
      rw [if_neg c5] at H
      exact absurd H (by simp)
    ·
     rw [if_neg c4] at H
     exact absurd H (by simp)
   ·
    rw [if_neg c3] at H
    have c3b0 : decide (x11_1 < (l0.length : Int)) = false := decide_eq_false c3
    clear c3
    replace H := zO H
    obtain ⟨t325, A120, H⟩ := H
    try dsimp only at H
    have A12 := zA A120
    clear A120
    obtain rfl := Option.some.inj H
    obtain ⟨Ao13, co13, eo13⟩ := Kd.zbp HO_5.out
    subst eo13
    go_wp2_with (first | (go_at_call 83; (with_reducible refine (zaq.calls k1 (fun k_ => some k_ = (.slice Ao13 x5_1.length co13 : Value).ownBlock) (.slice Ao13 x5_1.length co13) x5_1 t325 w _ ?side1 ?side2 A12.out).mono ?_); (case side1 => repeat (first | (with_reducible first | exact HB.out | apply zbt | apply zbg | apply zbl) | exact HB.out)); (case side2 => exact Kd.zc4 rfl HO_5.out); rintro e w14 ⟨v326, rfl, ho0, hb, hkp⟩; have n0_ := zA (Kd.zbn (ok' := fun k_ => True) ho0 (fun k_ hk_ => trivial)); have n1_ := zA (hb); clear HB HO_5; have HO327 := n0_; have HB := n1_; clear n0_ n1_; (try clear hb); (try clear hkp); (try clear ho0)))
    repeat (go_quiet (first | (go_at_call 83; (with_reducible refine (zaq.calls k1 (fun k_ => some k_ = (.slice Ao13 x5_1.length co13 : Value).ownBlock) (.slice Ao13 x5_1.length co13) x5_1 t325 w _ ?side1 ?side2 A12.out).mono ?_); (case side1 => repeat (first | (with_reducible first | exact HB.out | apply zbt | apply zbg | apply zbl) | exact HB.out)); (case side2 => exact Kd.zc4 rfl HO_5.out); rintro e w14 ⟨v326, rfl, ho0, hb, hkp⟩; have n0_ := zA (Kd.zbn (ok' := fun k_ => True) ho0 (fun k_ hk_ => trivial)); have n1_ := zA (hb); clear HB HO_5; have HO327 := n0_; have HB := n1_; clear n0_ n1_; (try clear hb); (try clear hkp); (try clear ho0))); try go_wp2_with (first | (go_at_call 83; (with_reducible refine (zaq.calls k1 (fun k_ => some k_ = (.slice Ao13 x5_1.length co13 : Value).ownBlock) (.slice Ao13 x5_1.length co13) x5_1 t325 w _ ?side1 ?side2 A12.out).mono ?_); (case side1 => repeat (first | (with_reducible first | exact HB.out | apply zbt | apply zbg | apply zbl) | exact HB.out)); (case side2 => exact Kd.zc4 rfl HO_5.out); rintro e w14 ⟨v326, rfl, ho0, hb, hkp⟩; have n0_ := zA (Kd.zbn (ok' := fun k_ => True) ho0 (fun k_ hk_ => trivial)); have n1_ := zA (hb); clear HB HO_5; have HO327 := n0_; have HB := n1_; clear n0_ n1_; (try clear hb); (try clear hkp); (try clear ho0))))
    go_ret
    exact ⟨_, zW, zR HO327, zB HB⟩
mutual
def zaj.l0 : Nat → List Int → List Int → List Int → List Int → Int → Option (List Int × List Int)
 | 0, _, _, _, _, _ => none
 | k + 1, x0, x1, x6, x7, x8 => if x8 ≥ 0 then (if 0 ≤ x8 then (if x8 < (x0.length : Int) then ((some (([rd x0 x8] : List Int) : List Int)).bind fun y335 => (if y335.length + x7.length < 17592186044416 then ((zaq.f k (y335 ++ x7)).bind fun t341 => (zaj.l1 k x0 x1 x6 t341 x8 0 9999)) else (none))) else (none)) else (none)) else ((zaq.f k x6).bind fun t331 => (some (t331, x7)))
def zaj.l1 : Nat → List Int → List Int → List Int → List Int → Int → Int → Int → Option (List Int × List Int)
 | 0, _, _, _, _, _, _, _ => none
 | k + 1, x0, x1, x6, x7, x8, x9, x10 => if x9 < x10 then ((zat.f k (wrap64 (Int.tdiv (wrap64 ((wrap64 (x9 + x10)) + 1)) 2))).bind fun t354 => ((zaf.f k x1 t354).bind fun t357 => ((zax.f k t357 x7).bind fun t360 => (if t360 ≤ 0 then (zaj.l1 k x0 x1 x6 x7 x8 (wrap64 (Int.tdiv (wrap64 ((wrap64 (x9 + x10)) + 1)) 2)) x10) else (zaj.l1 k x0 x1 x6 x7 x8 x9 (wrap64 ((wrap64 (Int.tdiv (wrap64 ((wrap64 (x9 + x10)) + 1)) 2)) - 1))))))) else (if 0 ≤ x8 then (if x8 < (x6.length : Int) then ((zat.f k x9).bind fun t345 => ((zaf.f k x1 t345).bind fun t348 => ((za6.f k x7 t348).bind fun t351 => (zaj.l0 k x0 x1 (x6.set (x8 : Int).toNat x9) t351 (wrap64 (x8 - 1)))))) else (none)) else (none))
end
def zaj.f (k : Nat) (l0 : List Int) (l1 : List Int) : Option (List Int × List Int) := if 0 ≤ (l0.length : Int) then (if ((l0.length : Int) : Int).toNat ≤ 35184372088832 then (zaj.l0 k l0 l1 (List.replicate ((l0.length : Int) : Int).toNat 0) ([] : List Int) (wrap64 ((l0.length : Int) - 1))) else (none)) else (none)
theorem zaj.calls (k : Nat) (A0 : Option Addr) (c0 : Nat) (l0 : List Int) (A1 : Option Addr) (c1 : Nat) (l1 : List Int) (r1 : List Int) (r2 : List Int) (w : World) (hr0 : Kd.C (Kd.int .i64) w A0 l0.length l0) (hc0 : l0.length ≤ c0) (hr1 : Kd.C (Kd.int .i64) w A1 l1.length l1) (hc1 : l1.length ≤ c1) (h : zaj.f k l0 l1 = some (r1, r2)) :
  Calls Tryd.prog 57 #[.slice A0 l0.length c0, .slice A1 l1.length c1] w fun e w' => ∃ v0_ v1_ : Value, e = .returned (.tuple #[v0_, v1_]) ∧ Kd.R (Kd.int .i64) 3 w' w.heap.size (fun k_ => some k_ ≠ (v1_ : Value).ownBlock) v0_ r1 ∧ Kd.R (Kd.int .i64) 3 w' w.heap.size (fun k_ => some k_ ≠ (v0_ : Value).ownBlock) v1_ r2 ∧ Below w.heap.size w w' := by
 have HR0 := zA hr0
 have HC0 := zA hc0
 clear hr0 hc0
 have HR1 := zA hr1
 have HC1 := zA hc1
 clear hr1 hc1
 have HB := zA (Below.refl w.heap.size w)
 have H : (if 0 ≤ (l0.length : Int) then (if ((l0.length : Int) : Int).toNat ≤ 35184372088832 then (zaj.l0 k l0 l1 (List.replicate ((l0.length : Int) : Int).toNat 0) ([] : List Int) (wrap64 ((l0.length : Int) - 1))) else (none)) else (none)) = some (r1, r2) := h
 clear h
 by_cases c3 : 0 ≤ (l0.length : Int)
 ·
  rw [if_pos c3] at H
  have c3b0 := eq_true c3
  have c3b1 : decide (0 ≤ (l0.length : Int)) = true := decide_eq_true c3
  clear c3
  by_cases c4 : ((l0.length : Int) : Int).toNat ≤ 35184372088832
  ·
   rw [if_pos c4] at H
   have c4b0 := eq_true c4
   have c4b1 : decide (((l0.length : Int) : Int).toNat ≤ 35184372088832) = true := decide_eq_true c4
   clear c4
   obtain ⟨y328, hy328⟩ : ∃ y_ : List Int, y_ = (List.replicate ((l0.length : Int) : Int).toNat 0) := ⟨_, rfl⟩
   replace H : (zaj.l0 k l0 l1 y328 ([] : List Int) (wrap64 ((l0.length : Int) - 1))) = some (r1, r2) := by first | (rw [hy328]; with_reducible exact H) | (have H2_ := (Option.bind_some _ _).symm.trans H; rw [hy328]; with_reducible exact H2_) | (have H2_ := (Option.bind_some _ _).symm.trans H; with_reducible exact H2_) | with_reducible exact H | (rw [hy328]; exact H) | exact H
   have Ny328 := zA hy328
   clear hy328
   have H' := zA H
   clear H
   go_enter Tryd.func57, Tryd.ntmps57
   go_wp2_with (first | ((with_reducible refine zbe (N := 14) rfl ?_); refine Kd.R_make (Kd.int .i64) _ 3 rfl (N := 14) rfl 31 _ _ rfl (l0.length : Int) rfl rfl Tryd.underlying31 (.int .i64 0) 8 info3 rfl (by decide) (by omega) 0 (ok := fun _ => True) (okp := fun _ => True) rfl (fun _ hk => hk) trivial (of_decide_eq_true (by first | (with_reducible assumption) | assumption)) (Nat.le_trans (Nat.mul_le_mul_right _ (of_decide_eq_true (by first | (with_reducible assumption) | assumption) : (l0.length : Int).toNat ≤ 35184372088832)) (by omega)) (Below.refl _ _) (Nat.le_refl _) ?_; intro v329 w5 ho6 hb hg_ hnew_; clear hg_ hnew_; (first | rw [← Ny328.out] at ho6 | (simp only [Int.reduceToNat] at ho6; rw [← Ny328.out] at ho6)); have n0_ := zA (Kd.zbw ho6 (za (zB HB))); have n1_ := zA (zaa (zB HB) hb); clear HB; have HO330 := n0_; have HB := n1_; clear n0_ n1_ hb ho6))
   go_loopg [7, 8] k (fun kq v7 v8 w' => ∃ (x6_1 : List Int) (x7_1 : List Int) (x8_1 : Int), v8 = .int .i64 x8_1 ∧ Aside0 (zaj.l0 kq l0 l1 x6_1 x7_1 x8_1 = some (r1, r2)) ∧ Aside0 (kq ≤ k) ∧ Aside0 (Kd.R (Kd.int .i64) 3 w' w.heap.size (fun k_ => some k_ ≠ (v7 : Value).ownBlock) v329 x6_1) ∧ Aside0 (Kd.R (Kd.int .i64) 3 w' w.heap.size (fun k_ => some k_ ≠ (v329 : Value).ownBlock) v7 x7_1) ∧ Aside0 (Below w.heap.size w w'))
   case atStart => exact ⟨(y328), (([] : List Int)), (wrap64 ((l0.length : Int) - 1)), (zF), H', ⟨Nat.le_refl _⟩, ⟨by (with_reducible repeat (first | apply Kd.zb7 | apply Kd.zb9 | apply Kd.zci)); exact Kd.zbn HO330.out (fun _ hk => (by simp [Value.ownBlock]))⟩, ⟨by first | exact Kd.R_nil _ _ _ _ _ | exact Kd.N_nil _ _ _ _ _ | exact Kd.V_nil _ _ _ _ _ | exact Kd.Q_nil _ _ _ _ _ | exact Kd.S_nil _ _ _ _ _⟩, ⟨zB HB⟩⟩
   case round =>
    clear H'
    try clear c1
    try clear p2
    try clear c3
    try clear c3b0
    try clear c3b1
    try clear c4
    try clear c4b0
    try clear c4b1
    try clear c5
    try clear p6
    obtain ⟨x6_1, x7_1, x8_1, rfl, HA, HK1, HO_6, HO_7, HB⟩ := hrel
    cases gk with
    | zero => exact absurd HA.out (by simp [zaj.l0])
    | succ k1 =>
     have H := HA.out
     clear HA
     simp only [zaj.l0] at H
     by_cases c7 : x8_1 ≥ 0
     ·
      rw [if_pos c7] at H
      have c7b0 : decide (0 ≤ x8_1) = true := decide_eq_true c7
      clear c7
      by_cases c8 : 0 ≤ x8_1
      ·
       rw [if_pos c8] at H
       have c8b0 : decide (0 ≤ x8_1) = true := decide_eq_true c8
       clear c8
       by_cases c9 : x8_1 < (l0.length : Int)
       ·
        rw [if_pos c9] at H
        have c9b0 : decide (x8_1 < (l0.length : Int)) = true := decide_eq_true c9
        clear c9
        obtain ⟨y335, hy335⟩ : ∃ y_ : List Int, y_ = (([rd l0 x8_1] : List Int)) := ⟨_, rfl⟩
        replace H : (if y335.length + x7_1.length < 17592186044416 then ((zaq.f k1 (y335 ++ x7_1)).bind fun t341 => (zaj.l1 k1 l0 l1 x6_1 t341 x8_1 0 9999)) else (none)) = some (r1, r2) := by first | (rw [hy335]; with_reducible exact H) | (have H2_ := (Option.bind_some _ _).symm.trans H; rw [hy335]; with_reducible exact H2_) | (have H2_ := (Option.bind_some _ _).symm.trans H; with_reducible exact H2_) | with_reducible exact H | (rw [hy335]; exact H) | exact H
        have Ny335 := zA hy335
        clear hy335
        by_cases c10 : y335.length + x7_1.length < 17592186044416
        ·
         rw [if_pos c10] at H
         have LMc10 := zA c10
         clear c10
         obtain ⟨y338, hy338⟩ : ∃ y_ : List Int, y_ = (y335 ++ x7_1) := ⟨_, rfl⟩
         replace H : ((zaq.f k1 y338).bind fun t341 => (zaj.l1 k1 l0 l1 x6_1 t341 x8_1 0 9999)) = some (r1, r2) := by first | (rw [hy338]; with_reducible exact H) | (have H2_ := (Option.bind_some _ _).symm.trans H; rw [hy338]; with_reducible exact H2_) | (have H2_ := (Option.bind_some _ _).symm.trans H; with_reducible exact H2_) | with_reducible exact H | (rw [hy338]; exact H) | exact H
         have Ny338 := zA hy338
         clear hy338
         replace H := zO H
         obtain ⟨t341, A110, H⟩ := H
         try dsimp only at H
         have A11 := zA A110
         clear A110
         have H' := zA H
         clear H
         have p334 : 0 ≤ (x8_1 : Int) := of_decide_eq_true (by first | (with_reducible assumption) | assumption)
         have q334 : x8_1 < (l0.length : Int) := of_decide_eq_true (by first | (with_reducible assumption) | assumption)
         obtain ⟨ad334, e334, hx334_0⟩ := Kd.at_int HR0.out x8_1 p334 q334
         cases e334
         replace hx334_0 := (HB.out.cell (World.block_lt_of_cell? w _ hx334_0)).trans hx334_0
         replace p334 := eq_true p334
         replace q334 := eq_true q334
         go_wp2_with (first | ((with_reducible refine zbe (N := 26) rfl ?_); refine Kd.R_lit (Kd.int .i64) _ 3 ?hg (N := 26) ?hd (xs := ([rd l0 x8_1] : List Int)) (inner := [.int .i64 (rd l0 x8_1)]) (ok := fun _ => True) (okp := fun _ => True) ?hr ?hp (fun _ hk => hk) trivial (Below.refl _ _) (Nat.le_refl _) (by simp) ?_; (case hd => rfl); (case hg => rfl); (case hr => first | (go_simp; done) | (go_simp; rfl)); (case hp => exact (Reps.one (show Kd.M (Kd.int .i64) _ _ _ (rd l0 x8_1) [.int .i64 (rd l0 x8_1)] from rfl) (Reps.none _ _))); intro v336 w12 ho13 hb hg_ hnew_; clear hg_ hnew_; (first | rw [← Ny335.out] at ho13 | (simp only [Int.reduceToNat] at ho13; rw [← Ny335.out] at ho13)); have n0_ := zA (Kd.zbs (zR HO_6) (Kd.zbi ho13) hb); have n1_ := zA (Kd.zbs (zR HO_7) (Kd.zbi ho13) hb); have n2_ := zA (Kd.zbw (Kd.zca (Kd.zca ho13 (Kd.R_lt (zR HO_6))) (Kd.R_lt (zR HO_7))) (za (zB HB))); have n3_ := zA (zaa (zB HB) hb); clear HO_6 HO_7 HB; have HO_6 := n0_; have HO_7 := n1_; have HO337 := n2_; have HB := n3_; clear n0_ n1_ n2_ n3_ hb ho13; obtain ⟨Ao15, co15, eo15⟩ := Kd.zbp HO_7.out; subst eo15) | ((with_reducible refine zb2 (b := .append) (xs := #[.tmp 26, .tmp 27]) rfl ?_); at_builtin; refine Kd.R_append_rows (Kd.int .i64) (w0 := w) w.heap.size rfl (.tmp 26) (.tmp 27) 31 3 (.int .i64 0) 8 rfl Tryd.underlying31 info3 rfl (by decide) (by omega) v336 y335 x7_1 _ _ _ (fun k_ => some k_ ≠ (v329 : Value).ownBlock ∧ some k_ ≠ (.slice Ao15 x7_1.length co15 : Value).ownBlock) (fun _ => False) rfl rfl ?aO ?aR (fun _ _ h => h) (fun _ h => h.elim) ?aF ?aB ?aS ?aL ?_; (case aR => exact zJ (Kd.zaz HO_7.out).2.2); (case aB => exact (zB HB)); (case aF => exact (fun k_ hk => ⟨Kd.fresh' (Kd.R_lt (zR HO_6)) k_ hk, Kd.fresh' (Kd.R_lt (zR HO_7)) k_ hk⟩)); (case aO => exact (by (with_reducible repeat (first | apply Kd.zb7 | apply Kd.zb9 | apply Kd.zci)); exact Kd.zbn HO337.out (fun _ hk => ⟨hk.1.2, hk.2⟩))); (case aS => exact (za (zB HB))); (case aL => have := LMc10.out; omega); intro v339 w14 ho hb hg hat; rw [← Ny338.out] at ho; have n0_ := zA (Kd.R_after (ok := (fun k_ => some k_ ≠ (.slice Ao15 x7_1.length co15 : Value).ownBlock)) (zR HO_6) hg hat); have n1_ := zA (Kd.R_after (ok := (fun k_ => some k_ ≠ (v329 : Value).ownBlock)) (zR HO_7) hg hat); have n2_ := zA (hb); have n3_ := zA (ho); clear HO_6 HO_7 HB HO337; have HO_6 := n0_; have HO_7 := n1_; have HB := n2_; have HO340 := n3_; clear n0_ n1_ n2_ n3_ ho hb hg hat; obtain ⟨Ao16, co16, eo16⟩ := Kd.zbp HO340.out; subst eo16) | ((with_reducible refine zad (f := 83) rfl ?_); refine za0 (some 29) rfl rfl Tryd.func83 (by kernel_rfl) rfl #[.slice Ao16 y338.length co16] rfl (zE) ?_; (with_reducible refine (zaq.calls k1 (fun k_ => some k_ = (.slice Ao16 y338.length co16 : Value).ownBlock) (.slice Ao16 y338.length co16) y338 t341 w _ ?side1 ?side2 A11.out).mono ?_); (case side1 => repeat (first | (with_reducible first | exact HB.out | apply zbt | apply zbg | apply zbl) | exact HB.out)); (case side2 => exact Kd.zc4 rfl HO340.out); rintro e w17 ⟨v342, rfl, ho0, hb, hkp⟩; refine ⟨_, rfl, ?_⟩; have n0_ := zA (Kd.zbn (ok' := fun k_ => some k_ ≠ (.slice Ao15 x7_1.length co15 : Value).ownBlock ∧ some k_ ≠ (v342 : Value).ownBlock) (Kd.R_keptB (HO_6.out) hkp (fun k_ hk_ hs_ => (hk_.2) hs_)) (fun k_ hk_ => ⟨hk_.1.1, fun e_ => Or.elim (ho0.1 k_ e_.symm) (fun hs_ => hk_.2.1 hs_) (fun hn_ => Nat.not_le.2 hk_.2.2 hn_)⟩)); have n1_ := zA (Kd.zbn (ok' := fun k_ => some k_ ≠ (v329 : Value).ownBlock ∧ some k_ ≠ (v342 : Value).ownBlock) (Kd.R_keptB (HO_7.out) hkp (fun k_ hk_ hs_ => (hk_.2) hs_)) (fun k_ hk_ => ⟨hk_.1.1, fun e_ => Or.elim (ho0.1 k_ e_.symm) (fun hs_ => hk_.2.1 hs_) (fun hn_ => Nat.not_le.2 hk_.2.2 hn_)⟩)); have n2_ := zA (Kd.zbn (ok' := fun k_ => some k_ ≠ (v329 : Value).ownBlock ∧ some k_ ≠ (.slice Ao15 x7_1.length co15 : Value).ownBlock) ho0 (fun k_ hk_ => ⟨Or.elim hk_ (fun hs_ => fun e_ => (((HO_6.out).1 k_ e_.symm).2) hs_) (fun hn_ => (Kd.fresh' (Kd.R_lt (zR HO_6)) k_ hn_)), Or.elim hk_ (fun hs_ => fun e_ => (((HO_7.out).1 k_ e_.symm).2) hs_) (fun hn_ => (Kd.fresh' (Kd.R_lt (zR HO_7)) k_ hn_))⟩)); have n3_ := zA (hb); clear HO_6 HO_7 HB HO340; have HO_6 := n0_; have HO_7 := n1_; have HO343 := n2_; have HB := n3_; clear n0_ n1_ n2_ n3_; (try clear hb); (try clear hkp); (try clear ho0)))
         go_loopg [9, 10] k1 (fun kq v9 v10 w' => ∃ (x9_2 : Int) (x10_2 : Int), v9 = .int .i64 x9_2 ∧ v10 = .int .i64 x10_2 ∧ Aside0 (zaj.l1 kq l0 l1 x6_1 t341 x8_1 x9_2 x10_2 = some (r1, r2)) ∧ Aside0 (kq ≤ k1) ∧ Aside0 (Kd.R (Kd.int .i64) 3 w' w.heap.size (fun k_ => some k_ ≠ (v342 : Value).ownBlock) v329 x6_1) ∧ Aside0 (Kd.R (Kd.int .i64) 3 w' w.heap.size (fun k_ => some k_ ≠ (v329 : Value).ownBlock) v342 t341) ∧ Aside0 (Below w.heap.size w w'))
         case atStart => exact ⟨(0), (9999), (zF), (zF), H', ⟨Nat.le_refl _⟩, ⟨by (with_reducible repeat (first | apply Kd.zb7 | apply Kd.zb9 | apply Kd.zci)); exact Kd.zbn HO_6.out (fun _ hk => hk.2)⟩, ⟨by (with_reducible repeat (first | apply Kd.zb7 | apply Kd.zb9 | apply Kd.zci)); exact Kd.zbn HO343.out (fun _ hk => hk.1)⟩, ⟨zB HB⟩⟩
         case round =>
          clear H'
          try clear c1
          try clear p2
          try clear c3
          try clear c3b0
          try clear c3b1
          try clear p3
          try clear q3
          try clear hx3
          try clear c4
          try clear c4b0
          try clear c4b1
          try clear c5
          try clear p6
          try clear c7
          try clear c7b0
          try clear c8
          try clear c8b0
          try clear c9
          try clear c9b0
          try clear c10
          try clear hx334_0
          try clear p2
          try clear p334
          try clear p6
          try clear q334
          obtain ⟨x9_2, x10_2, rfl, rfl, HA, HK2, HO_6, HO_7, HB⟩ := hrel
          cases gk with
          | zero => exact absurd HA.out (by simp [zaj.l1])
          | succ k2 =>
           have H := HA.out
           clear HA
           simp only [zaj.l1] at H
           by_cases c18 : x9_2 < x10_2
           ·
            rw [if_pos c18] at H
            have c18b0 : decide (x9_2 < x10_2) = true := decide_eq_true c18
            clear c18
            replace H := zO H
            obtain ⟨t354, A190, H⟩ := H
            try dsimp only at H
            have A19 := zA A190
            clear A190
            replace H := zO H
            obtain ⟨t357, A200, H⟩ := H
            try dsimp only at H
            have A20 := zA A200
            clear A200
            replace H := zO H
            obtain ⟨t360, A210, H⟩ := H
            try dsimp only at H
            have A21 := zA A210
            clear A210
            by_cases c22 : t360 ≤ 0
            ·
             rw [if_pos c22] at H
             have c22b0 : decide (t360 ≤ 0) = true := decide_eq_true c22
             clear c22
             have H' := zA H
             clear H
             go_wp2_with (first | ((with_reducible refine zad (f := 20) rfl ?_); refine za0 (some 40) rfl rfl Tryd.func20 (by kernel_rfl) rfl #[.int .i64 (wrap64 (Int.tdiv (wrap64 ((wrap64 (x9_2 + x10_2)) + 1)) 2))] rfl (zE) ?_; (with_reducible refine (zat.calls k2 (wrap64 (Int.tdiv (wrap64 ((wrap64 (x9_2 + x10_2)) + 1)) 2)) t354 _ A19.out).mono ?_); rintro e w23 ⟨v355, rfl, ho0, hb⟩; refine ⟨_, rfl, ?_⟩; have n0_ := zA (Kd.zbs (zR HO_6) (Kd.zbi ho0) hb); have n1_ := zA (Kd.zbs (zR HO_7) (Kd.zbi ho0) hb); have n2_ := zA (Kd.zbw (Kd.zca (Kd.zca ho0 (Kd.R_lt (zR HO_6))) (Kd.R_lt (zR HO_7))) (za (zB HB))); have n3_ := zA (zaa (zB HB) hb); clear HO_6 HO_7 HB; have HO_6 := n0_; have HO_7 := n1_; have HO356 := n2_; have HB := n3_; clear n0_ n1_ n2_ n3_; (try clear hb); (try clear hb2); (try clear hk); (try clear hi); (try clear ho0); obtain ⟨Ao24, co24, eo24⟩ := Kd.zbp HO356.out; subst eo24) | ((with_reducible refine zad (f := 56) rfl ?_); refine za0 (some 41) rfl rfl Tryd.func56 (by kernel_rfl) rfl #[.slice A1 l1.length c1, .slice Ao24 t354.length co24] rfl (zE) ?_; (with_reducible refine (zaf.calls k2 _ _ l1 _ _ t354 t357 _ ?side1 ?side2 ?side3 ?side4 A20.out).mono ?_); (case side1 => exact zJ (Kd.za4 HR1.out HB.out)); (case side2 => exact HC1.out); (case side3 => exact zJ (Kd.zaz HO356.out).2.2); (case side4 => exact (Kd.zaz HO356.out).2.1); rintro e w25 ⟨v358, rfl, ho0, hb⟩; refine ⟨_, rfl, ?_⟩; have n0_ := zA (Kd.zbs (zR HO_6) (Kd.zbi ho0) hb); have n1_ := zA (Kd.zbs (zR HO_7) (Kd.zbi ho0) hb); have n2_ := zA (Kd.zbs (zR HO356) (Kd.zbi ho0) hb); have n3_ := zA (Kd.zbw (Kd.zca (Kd.zca (Kd.zca ho0 (Kd.R_lt (zR HO_6))) (Kd.R_lt (zR HO_7))) (Kd.R_lt (zR HO356))) (za (zB HB))); have n4_ := zA (zaa (zB HB) hb); clear HO_6 HO_7 HO356 HB; have HO_6 := n0_; have HO_7 := n1_; have HO356 := n2_; have HO359 := n3_; have HB := n4_; clear n0_ n1_ n2_ n3_ n4_; (try clear hb); (try clear hb2); (try clear hk); (try clear hi); (try clear ho0); obtain ⟨Ao26, co26, eo26⟩ := Kd.zbp HO359.out; subst eo26; obtain ⟨Ao27, co27, eo27⟩ := Kd.zbp HO_7.out; subst eo27) | ((with_reducible refine zad (f := 18) rfl ?_); refine za0 (some 43) rfl rfl Tryd.func18 (by kernel_rfl) rfl #[.slice Ao26 t357.length co26, .slice Ao27 t341.length co27] rfl (zE) ?_; (with_reducible refine (zax.calls k2 _ _ t357 _ _ t341 t360 _ ?side1 ?side2 ?side3 ?side4 A21.out).mono ?_); (case side1 => exact zJ (Kd.zaz HO359.out).2.2); (case side2 => exact (Kd.zaz HO359.out).2.1); (case side3 => exact zJ (Kd.zaz HO_7.out).2.2); (case side4 => exact (Kd.zaz HO_7.out).2.1); rintro e w' ⟨rfl, ⟨nd, rfl⟩⟩; refine ⟨_, rfl, ?_⟩))
             go_roundg k2
             case measure => have := HK1.out; have := HK2.out; omega
             case rel => exact ⟨(wrap64 (Int.tdiv (wrap64 ((wrap64 (x9_2 + x10_2)) + 1)) 2)), (x10_2), (zF), (zF), H', ⟨by have := HK1.out; have := HK2.out; omega⟩, ⟨by (with_reducible repeat (first | apply Kd.zb7 | apply Kd.zb9 | apply Kd.zci)); exact Kd.zbn HO_6.out (fun _ hk => hk.1.1)⟩, ⟨by (with_reducible repeat (first | apply Kd.zb7 | apply Kd.zb9 | apply Kd.zci)); exact Kd.zbn HO_7.out (fun _ hk => hk.1.1)⟩, ⟨zB HB⟩⟩
            ·
             rw [if_neg c22] at H
             have c22b0 : decide (t360 ≤ 0) = false := decide_eq_false c22
             clear c22
             have H' := zA H
             clear H
             go_wp2_with (first | ((with_reducible refine zad (f := 20) rfl ?_); refine za0 (some 40) rfl rfl Tryd.func20 (by kernel_rfl) rfl #[.int .i64 (wrap64 (Int.tdiv (wrap64 ((wrap64 (x9_2 + x10_2)) + 1)) 2))] rfl (zE) ?_; (with_reducible refine (zat.calls k2 (wrap64 (Int.tdiv (wrap64 ((wrap64 (x9_2 + x10_2)) + 1)) 2)) t354 _ A19.out).mono ?_); rintro e w28 ⟨v355, rfl, ho0, hb⟩; refine ⟨_, rfl, ?_⟩; have n0_ := zA (Kd.zbs (zR HO_6) (Kd.zbi ho0) hb); have n1_ := zA (Kd.zbs (zR HO_7) (Kd.zbi ho0) hb); have n2_ := zA (Kd.zbw (Kd.zca (Kd.zca ho0 (Kd.R_lt (zR HO_6))) (Kd.R_lt (zR HO_7))) (za (zB HB))); have n3_ := zA (zaa (zB HB) hb); clear HO_6 HO_7 HB; have HO_6 := n0_; have HO_7 := n1_; have HO356 := n2_; have HB := n3_; clear n0_ n1_ n2_ n3_; (try clear hb); (try clear hb2); (try clear hk); (try clear hi); (try clear ho0); obtain ⟨Ao29, co29, eo29⟩ := Kd.zbp HO356.out; subst eo29) | ((with_reducible refine zad (f := 56) rfl ?_); refine za0 (some 41) rfl rfl Tryd.func56 (by kernel_rfl) rfl #[.slice A1 l1.length c1, .slice Ao29 t354.length co29] rfl (zE) ?_; (with_reducible refine (zaf.calls k2 _ _ l1 _ _ t354 t357 _ ?side1 ?side2 ?side3 ?side4 A20.out).mono ?_); (case side1 => exact zJ (Kd.za4 HR1.out HB.out)); (case side2 => exact HC1.out); (case side3 => exact zJ (Kd.zaz HO356.out).2.2); (case side4 => exact (Kd.zaz HO356.out).2.1); rintro e w30 ⟨v358, rfl, ho0, hb⟩; refine ⟨_, rfl, ?_⟩; have n0_ := zA (Kd.zbs (zR HO_6) (Kd.zbi ho0) hb); have n1_ := zA (Kd.zbs (zR HO_7) (Kd.zbi ho0) hb); have n2_ := zA (Kd.zbs (zR HO356) (Kd.zbi ho0) hb); have n3_ := zA (Kd.zbw (Kd.zca (Kd.zca (Kd.zca ho0 (Kd.R_lt (zR HO_6))) (Kd.R_lt (zR HO_7))) (Kd.R_lt (zR HO356))) (za (zB HB))); have n4_ := zA (zaa (zB HB) hb); clear HO_6 HO_7 HO356 HB; have HO_6 := n0_; have HO_7 := n1_; have HO356 := n2_; have HO359 := n3_; have HB := n4_; clear n0_ n1_ n2_ n3_ n4_; (try clear hb); (try clear hb2); (try clear hk); (try clear hi); (try clear ho0); obtain ⟨Ao31, co31, eo31⟩ := Kd.zbp HO359.out; subst eo31; obtain ⟨Ao32, co32, eo32⟩ := Kd.zbp HO_7.out; subst eo32) | ((with_reducible refine zad (f := 18) rfl ?_); refine za0 (some 43) rfl rfl Tryd.func18 (by kernel_rfl) rfl #[.slice Ao31 t357.length co31, .slice Ao32 t341.length co32] rfl (zE) ?_; (with_reducible refine (zax.calls k2 _ _ t357 _ _ t341 t360 _ ?side1 ?side2 ?side3 ?side4 A21.out).mono ?_); (case side1 => exact zJ (Kd.zaz HO359.out).2.2); (case side2 => exact (Kd.zaz HO359.out).2.1); (case side3 => exact zJ (Kd.zaz HO_7.out).2.2); (case side4 => exact (Kd.zaz HO_7.out).2.1); rintro e w' ⟨rfl, ⟨nd, rfl⟩⟩; refine ⟨_, rfl, ?_⟩))
             go_roundg k2
             case measure => have := HK1.out; have := HK2.out; omega
             case rel => exact ⟨(x9_2), (wrap64 ((wrap64 (Int.tdiv (wrap64 ((wrap64 (x9_2 + x10_2)) + 1)) 2)) - 1)), (zF), (zF), H', ⟨by have := HK1.out; have := HK2.out; omega⟩, ⟨by (with_reducible repeat (first | apply Kd.zb7 | apply Kd.zb9 | apply Kd.zci)); exact Kd.zbn HO_6.out (fun _ hk => hk.1.1)⟩, ⟨by (with_reducible repeat (first | apply Kd.zb7 | apply Kd.zb9 | apply Kd.zci)); exact Kd.zbn HO_7.out (fun _ hk => hk.1.1)⟩, ⟨zB HB⟩⟩
           ·
            rw [if_neg c18] at H
            have c18b0 : decide (x9_2 < x10_2) = false := decide_eq_false c18
            clear c18
            by_cases c33 : 0 ≤ x8_1
            ·
             rw [if_pos c33] at H
             have c33b0 : decide (0 ≤ x8_1) = true := decide_eq_true c33
             clear c33
             by_cases c34 : x8_1 < (x6_1.length : Int)
             ·
              rw [if_pos c34] at H
              have c34b0 : decide (x8_1 < (x6_1.length : Int)) = true := decide_eq_true c34
              clear c34
              obtain ⟨y344, hy344⟩ : ∃ y_ : List Int, y_ = (x6_1.set (x8_1 : Int).toNat x9_2) := ⟨_, rfl⟩
              replace H : ((zat.f k2 x9_2).bind fun t345 => ((zaf.f k2 l1 t345).bind fun t348 => ((za6.f k2 t341 t348).bind fun t351 => (zaj.l0 k2 l0 l1 y344 t351 (wrap64 (x8_1 - 1)))))) = some (r1, r2) := by first | (rw [hy344]; with_reducible exact H) | (have H2_ := (Option.bind_some _ _).symm.trans H; rw [hy344]; with_reducible exact H2_) | (have H2_ := (Option.bind_some _ _).symm.trans H; with_reducible exact H2_) | with_reducible exact H | (rw [hy344]; exact H) | exact H
              have Ny344 := zA hy344
              clear hy344
              replace H := zO H
              obtain ⟨t345, A360, H⟩ := H
              try dsimp only at H
              have A36 := zA A360
              clear A360
              replace H := zO H
              obtain ⟨t348, A370, H⟩ := H
              try dsimp only at H
              have A37 := zA A370
              clear A370
              replace H := zO H
              obtain ⟨t351, A380, H⟩ := H
              try dsimp only at H
              have A38 := zA A380
              clear A380
              have H' := zA H
              clear H
              have p35 : 0 ≤ (x8_1 : Int) := of_decide_eq_true (by first | (with_reducible assumption) | assumption)
              have q35 : (x8_1 : Int) < ((x6_1.length : Int) : Int) := of_decide_eq_true (by first | (with_reducible assumption) | assumption)
              obtain ⟨go35, co35, eo35, gb35, gl35, cl35, HG35⟩ := Kd.R_form HO_6.out (by omega)
              (first | cases eo35 | (injection eo35 with ea_ en_ ec_; (first | subst ea_ | (injection ea_ with ea_; subst ea_)); subst ec_; clear en_))
              have GB35 := zA gb35
              have GG35 := zA HG35
              clear gb35 gl35 HG35
              obtain ⟨hx35_0, hf35_0⟩ := Kd.zc1 0 HO_6.out (x8_1 : Int) p35 q35
              replace p35 := eq_true p35
              replace q35 := eq_true q35
              have HP39 := Kd.R_putg HO_6.out (x8_1 : Int) x9_2
              go_wp2_with (first | ((with_reducible refine zc3 (t := 3) (p := 51) rfl ?_); refine zcx (t := 3) (p := 51) (v := ?vo_w40) (w1 := (wr.setCell ⟨go35, (x8_1 : Int).toNat, none⟩ (.int .i64 x9_2))) ?hg ?ho ?hn ?hr ?_; (case ho => rfl); (case hg => rfl); (case hn => rfl); (case hr => first | (go_simp; done) | (go_simp; rfl)); intro w40 hw; have hg : wr.grownBy w40 (some go35) := (by rw [hw]; exact HP39.2); have hp_ : Kd.R (Kd.int .i64) 3 w40 w.heap.size (fun k_ => some k_ ≠ (v342 : Value).ownBlock) (.slice (some ⟨go35, 0, none⟩) x6_1.length co35) y344 := (by rw [hw, Ny344.out]; exact HP39.1); clear HP39; have n0_ := zA (hp_); have n1_ := zA (Kd.R_after (v := (.slice (some ⟨go35, 0, none⟩) x6_1.length co35)) (v1 := (.slice (some ⟨go35, 0, none⟩) x6_1.length co35)) (ok := (fun _ => True)) (by (with_reducible repeat (first | apply Kd.zb7 | apply Kd.zb9 | apply Kd.zci)); exact Kd.zbn HO_7.out (fun _ hk => ⟨trivial, hk⟩)) hg (.inl rfl)); have n2_ := zA ((by rw [hw]; exact zc7 (HB.out) GB35.out : Below w.heap.size w w40)); clear HO_6 HO_7 HB; have HO_6 := n0_; have HO_7 := n1_; have HB := n2_; clear n0_ n1_ n2_ hg hw hp_) | ((with_reducible refine zad (f := 20) rfl ?_); refine za0 (some 55) rfl rfl Tryd.func20 (by kernel_rfl) rfl #[.int .i64 x9_2] rfl (zE) ?_; (with_reducible refine (zat.calls k2 x9_2 t345 _ A36.out).mono ?_); rintro e w41 ⟨v346, rfl, ho0, hb⟩; refine ⟨_, rfl, ?_⟩; have n0_ := zA (Kd.zbs (zR HO_6) (Kd.zbi ho0) hb); have n1_ := zA (Kd.zbs (zR HO_7) (Kd.zbi ho0) hb); have n2_ := zA (Kd.zbw (Kd.zca (Kd.zca ho0 (Kd.R_lt (zR HO_6))) (Kd.R_lt (zR HO_7))) (za (zB HB))); have n3_ := zA (zaa (zB HB) hb); clear HO_6 HO_7 HB; have HO_6 := n0_; have HO_7 := n1_; have HO347 := n2_; have HB := n3_; clear n0_ n1_ n2_ n3_; (try clear hb); (try clear hb2); (try clear hk); (try clear hi); (try clear ho0); obtain ⟨Ao42, co42, eo42⟩ := Kd.zbp HO347.out; subst eo42) | ((with_reducible refine zad (f := 56) rfl ?_); refine za0 (some 56) rfl rfl Tryd.func56 (by kernel_rfl) rfl #[.slice A1 l1.length c1, .slice Ao42 t345.length co42] rfl (zE) ?_; (with_reducible refine (zaf.calls k2 _ _ l1 _ _ t345 t348 _ ?side1 ?side2 ?side3 ?side4 A37.out).mono ?_); (case side1 => exact zJ (Kd.za4 HR1.out HB.out)); (case side2 => exact HC1.out); (case side3 => exact zJ (Kd.zaz HO347.out).2.2); (case side4 => exact (Kd.zaz HO347.out).2.1); rintro e w43 ⟨v349, rfl, ho0, hb⟩; refine ⟨_, rfl, ?_⟩; have n0_ := zA (Kd.zbs (zR HO_6) (Kd.zbi ho0) hb); have n1_ := zA (Kd.zbs (zR HO_7) (Kd.zbi ho0) hb); have n2_ := zA (Kd.zbs (zR HO347) (Kd.zbi ho0) hb); have n3_ := zA (Kd.zbw (Kd.zca (Kd.zca (Kd.zca ho0 (Kd.R_lt (zR HO_6))) (Kd.R_lt (zR HO_7))) (Kd.R_lt (zR HO347))) (za (zB HB))); have n4_ := zA (zaa (zB HB) hb); clear HO_6 HO_7 HO347 HB; have HO_6 := n0_; have HO_7 := n1_; have HO347 := n2_; have HO350 := n3_; have HB := n4_; clear n0_ n1_ n2_ n3_ n4_; (try clear hb); (try clear hb2); (try clear hk); (try clear hi); (try clear ho0); obtain ⟨Ao44, co44, eo44⟩ := Kd.zbp HO_7.out; subst eo44; obtain ⟨Ao45, co45, eo45⟩ := Kd.zbp HO350.out; subst eo45) | ((with_reducible refine zad (f := 66) rfl ?_); refine za0 (some 57) rfl rfl Tryd.func66 (by kernel_rfl) rfl #[.slice Ao44 t341.length co44, .slice Ao45 t348.length co45] rfl (zE) ?_; (with_reducible refine (za6.calls k2 _ _ t341 _ _ t348 t351 _ ?side1 ?side2 ?side3 ?side4 A38.out).mono ?_); (case side1 => exact zJ (Kd.zaz HO_7.out).2.2); (case side2 => exact (Kd.zaz HO_7.out).2.1); (case side3 => exact zJ (Kd.zaz HO350.out).2.2); (case side4 => exact (Kd.zaz HO350.out).2.1); rintro e w46 ⟨v352, rfl, ho0, hb⟩; refine ⟨_, rfl, ?_⟩; have n0_ := zA (Kd.zbs (zR HO_6) (Kd.zbi ho0) hb); have n1_ := zA (Kd.zbs (zR HO_7) (Kd.zbi ho0) hb); have n2_ := zA (Kd.zbs (zR HO347) (Kd.zbi ho0) hb); have n3_ := zA (Kd.zbs (zR HO350) (Kd.zbi ho0) hb); have n4_ := zA (Kd.zbw (Kd.zca (Kd.zca (Kd.zca (Kd.zca ho0 (Kd.R_lt (zR HO_6))) (Kd.R_lt (zR HO_7))) (Kd.R_lt (zR HO347))) (Kd.R_lt (zR HO350))) (za (zB HB))); have n5_ := zA (zaa (zB HB) hb); clear HO_6 HO_7 HO347 HO350 HB; have HO_6 := n0_; have HO_7 := n1_; have HO347 := n2_; have HO350 := n3_; have HO353 := n4_; have HB := n5_; clear n0_ n1_ n2_ n3_ n4_ n5_; (try clear hb); (try clear hb2); (try clear hk); (try clear hi); (try clear ho0)))
              go_roundg k2
              case measure => have := HK1.out; have := HK2.out; omega
              case rel => exact ⟨(y344), (t351), (wrap64 (x8_1 - 1)), (zF), H', ⟨by have := HK1.out; have := HK2.out; omega⟩, ⟨by (with_reducible repeat (first | apply Kd.zb7 | apply Kd.zb9 | apply Kd.zci)); exact Kd.zbn HO_6.out (fun _ hk => hk.2)⟩, ⟨by (with_reducible repeat (first | apply Kd.zb7 | apply Kd.zb9 | apply Kd.zci)); exact Kd.zbn HO353.out (fun _ hk => hk.1.1.1.2)⟩, ⟨zB HB⟩⟩
             ·
              rw [if_neg c34] at H
              exact absurd H (by simp)
            ·
             rw [if_neg c33] at H
             exact absurd H (by simp)
        ·
         rw [if_neg c10] at H
         exact absurd H (by simp)
       ·
        rw [if_neg c9] at H
        exact absurd H (by simp)
      ·
       rw [if_neg c8] at H
       exact absurd H (by simp)
     ·
      rw [if_neg c7] at H
      have c7b0 : decide (0 ≤ x8_1) = false := decide_eq_false c7
      clear c7
      replace H := zO H
      obtain ⟨t331, A470, H⟩ := H
      try dsimp only at H
      have A47 := zA A470
      clear A470
      simp only [Option.some.injEq, Prod.mk.injEq] at H
      obtain ⟨rfl, rfl⟩ := H
      obtain ⟨Ao48, co48, eo48⟩ := Kd.zbp HO_6.out
      subst eo48
      go_wp2_with (first | ((with_reducible refine zad (f := 83) rfl ?_); refine za0 (some 59) rfl rfl Tryd.func83 (by kernel_rfl) rfl #[.slice Ao48 x6_1.length co48] rfl (zE) ?_; (with_reducible refine (zaq.calls k1 (fun k_ => some k_ = (.slice Ao48 x6_1.length co48 : Value).ownBlock) (.slice Ao48 x6_1.length co48) x6_1 t331 w _ ?side1 ?side2 A47.out).mono ?_); (case side1 => repeat (first | (with_reducible first | exact HB.out | apply zbt | apply zbg | apply zbl) | exact HB.out)); (case side2 => exact Kd.zc4 rfl HO_6.out); rintro e w49 ⟨v332, rfl, ho0, hb, hkp⟩; refine ⟨_, rfl, ?_⟩; have n0_ := zA (Kd.zbn (ok' := fun k_ => some k_ ≠ (v332 : Value).ownBlock) (Kd.R_keptB (HO_7.out) hkp (fun k_ hk_ hs_ => (hk_) hs_)) (fun k_ hk_ => fun e_ => Or.elim (ho0.1 k_ e_.symm) (fun hs_ => hk_.2.1 hs_) (fun hn_ => Nat.not_le.2 hk_.2.2 hn_))); have n1_ := zA (Kd.zbn (ok' := fun k_ => some k_ ≠ (u7 : Value).ownBlock) ho0 (fun k_ hk_ => Or.elim hk_ (fun hs_ => fun e_ => (((HO_7.out).1 k_ e_.symm)) hs_) (fun hn_ => (Kd.fresh' (Kd.R_lt (zR HO_7)) k_ hn_)))); have n2_ := zA (hb); clear HO_7 HB HO_6; have HO_7 := n0_; have HO333 := n1_; have HB := n2_; clear n0_ n1_ n2_; (try clear hb); (try clear hkp); (try clear ho0)))
      go_ret2
      exact ⟨_, _, zW, zR HO333, zR HO_7, zB HB⟩
  ·
   rw [if_neg c4] at H
   exact absurd H (by simp)
 ·
  rw [if_neg c3] at H
  exact absurd H (by simp)
def zbc.l0 : Nat → List Int → List Int → Option (List Int)
 | 0, _, _ => none
 | k + 1, x0, x1 => if (x1.length : Int) > 0 then ((zaj.f k x0 x1).bind fun bt361 => (zbc.l0 k x1 bt361.2)) else (some x0)
def zbc.f (k : Nat) (l0 : List Int) (l1 : List Int) : Option (List Int) := zbc.l0 k l0 l1
theorem zbc.calls (k : Nat) (P0_ : Nat → Prop) (A0 : Option Addr) (c0 : Nat) (l0 : List Int) (P1_ : Nat → Prop) (A1 : Option Addr) (c1 : Nat) (l1 : List Int) (r : List Int) (w : World) (hs0 : Kd.V (Kd.int .i64) 3 w w.heap.size (fun k_ => P0_ k_) (.slice A0 l0.length c0) l0) (hs1 : Kd.V (Kd.int .i64) 3 w w.heap.size (fun k_ => P1_ k_) (.slice A1 l1.length c1) l1) (h : zbc.f k l0 l1 = some r) :
  Calls Tryd.prog 19 #[.slice A0 l0.length c0, .slice A1 l1.length c1] w fun e w' => ∃ v0_ : Value, e = .returned (v0_) ∧ Kd.V (Kd.int .i64) 3 w' w.heap.size (fun k_ => ((P0_ k_ ∨ P1_ k_) ∨ w.heap.size ≤ k_)) v0_ r ∧ Below w.heap.size w w' := by
 have HO0 := zA (show Kd.V (Kd.int .i64) 3 w w.heap.size (fun k_ => ((P0_ k_ ∨ P1_ k_) ∨ w.heap.size ≤ k_)) (.slice A0 l0.length c0) l0 from Kd.zao hs0 (fun k_ hk => .inl (.inl hk)))
 have HO1 := zA (show Kd.V (Kd.int .i64) 3 w w.heap.size (fun k_ => ((P0_ k_ ∨ P1_ k_) ∨ w.heap.size ≤ k_)) (.slice A1 l1.length c1) l1 from Kd.zao hs1 (fun k_ hk => .inl (.inr hk)))
 have HB := zA (Below.refl w.heap.size w)
 have H : (zbc.l0 k l0 l1) = some r := h
 clear h
 have H' := zA H
 clear H
 go_enter Tryd.func19, Tryd.ntmps19
 go_wp2
 go_loopg [0, 1] k (fun kq v0 v1 w' => ∃ (x0_1 : List Int) (x1_1 : List Int), Aside0 (zbc.l0 kq x0_1 x1_1 = some r) ∧ Aside0 (kq ≤ k) ∧ Aside0 (Kd.V (Kd.int .i64) 3 w' w.heap.size (fun k_ => ((P0_ k_ ∨ P1_ k_) ∨ w.heap.size ≤ k_)) v0 x0_1) ∧ Aside0 (Kd.V (Kd.int .i64) 3 w' w.heap.size (fun k_ => ((P0_ k_ ∨ P1_ k_) ∨ w.heap.size ≤ k_)) v1 x1_1) ∧ Aside0 (Below w.heap.size w w'))
 case atStart => exact ⟨(l0), (l1), H', ⟨Nat.le_refl _⟩, ⟨zV HO0⟩, ⟨zV HO1⟩, ⟨zB HB⟩⟩
 case round =>
  clear H'
  try clear c1
  try clear p2
  obtain ⟨x0_1, x1_1, HA, HK1, HO_0, HO_1, HB⟩ := hrel
  cases gk with
  | zero => exact absurd HA.out (by simp [zbc.l0])
  | succ k1 =>
   have H := HA.out
   clear HA
   simp only [zbc.l0] at H
   by_cases c3 : (x1_1.length : Int) > 0
   ·
    rw [if_pos c3] at H
    have c3b0 : decide (0 < (x1_1.length : Int)) = true := decide_eq_true c3
    have c3b1 : decide (0 < x1_1.length) = true := decide_eq_true (by omega)
    clear c3
    replace H := zO H
    obtain ⟨⟨t361, t362⟩, A40, H⟩ := H
    try dsimp only at H
    have A4 := zA A40
    clear A40
    have H' := zA H
    clear H
    obtain ⟨Ao5, co5, eo5⟩ := Kd.za9 HO_1.out
    subst eo5
    obtain ⟨Ao6, co6, eo6⟩ := Kd.za9 HO_0.out
    subst eo6
    go_wp2_with (first | ((with_reducible refine zad (f := 57) rfl ?_); refine za0 (some 13) rfl rfl Tryd.func57 (by kernel_rfl) rfl #[.slice Ao6 x0_1.length co6, .slice Ao5 x1_1.length co5] rfl (zE) ?_; (with_reducible refine (zaj.calls k1 _ _ x0_1 _ _ x1_1 t361 t362 _ ?side1 ?side2 ?side3 ?side4 A4.out).mono ?_); (case side1 => exact zJ (Kd.zam HO_0.out).2.2); (case side2 => exact (Kd.zam HO_0.out).2.1); (case side3 => exact zJ (Kd.zam HO_1.out).2.2); (case side4 => exact (Kd.zam HO_1.out).2.1); rintro e w7 ⟨v363, v365, rfl, ho0, ho1, hb⟩; refine ⟨_, rfl, ?_⟩; have n0_ := zA (Kd.zao (Kd.V_told (Kd.V_told (Kd.V_old (zV HO_0) hb) (Kd.zbi ho0)) (Kd.zbi ho1)) (fun _ h_ => h_.1)); have n1_ := zA (Kd.zao (Kd.V_told (Kd.V_told (Kd.V_old (zV HO_1) hb) (Kd.zbi ho0)) (Kd.zbi ho1)) (fun _ h_ => h_.1)); have n2_ := zA (Kd.zbw (Kd.R_newM (M := fun k_ => (w.heap.size ≤ k_)) ho0 (za (zB HB)) (fun k_ h_ => h_)) (za (zB HB))); have n3_ := zA (Kd.zbw (Kd.R_newM (M := fun k_ => (w.heap.size ≤ k_)) ho1 (za (zB HB)) (fun k_ h_ => h_)) (za (zB HB))); have n4_ := zA (zaa (zB HB) hb); clear HO_0 HO_1 HB; have HO_0 := n0_; have HO_1 := n1_; have HO364 := n2_; have HO366 := n3_; have HB := n4_; clear n0_ n1_ n2_ n3_ n4_; (try clear hb); (try clear hb2); (try clear hk); (try clear hi); (try clear ho0); (try clear ho1)))
    go_roundg k1
    case measure => have := HK1.out; omega
    case rel => exact ⟨(x1_1), (t362), H', ⟨by have := HK1.out; omega⟩, ⟨by (with_reducible repeat (first | apply Kd.zbr | apply Kd.zbq | apply Kd.zbx)); exact Kd.zao HO_1.out (fun _ hk => hk.1.1)⟩, ⟨Kd.zao (Kd.R_V (by (with_reducible repeat (first | apply Kd.zb7 | apply Kd.zb9 | apply Kd.zci)); exact Kd.zbn HO366.out (fun _ hk => hk.1))) (fun k_ hk => by first | exact ⟨(.inr (hk.1)), hk.2⟩ | exact (.inr (hk)))⟩, ⟨zB HB⟩⟩
   ·
    rw [if_neg c3] at H
    have c3b0 : decide (0 < (x1_1.length : Int)) = false := decide_eq_false c3
    have c3b1 : decide (0 < x1_1.length) = false := decide_eq_false (by omega)
    clear c3
    obtain rfl := Option.some.inj H
    obtain ⟨Ao8, co8, eo8⟩ := Kd.za9 HO_1.out
    subst eo8
    go_wp2
    go_ret
    exact ⟨_, zW, zV HO_0, zB HB⟩
end Go.Proofs.YtfjkamhcabckeaaDoor.P
end
