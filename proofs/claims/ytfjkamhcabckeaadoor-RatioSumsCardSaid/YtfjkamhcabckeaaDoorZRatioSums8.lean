-- Written by a program of this session (wip/tools/shake.py) out of its own texts and of the kit's printed ones; not trusted: Lean checks it.
import Derived.Test.YtfjkamhcabckeaaDoorZRatioSums7
set_option maxHeartbeats 8000000
set_option maxRecDepth 100000
set_option linter.unusedVariables false
set_option linter.unusedSimpArgs false
section
namespace Go.Proofs.YtfjkamhcabckeaaDoor.P
open Go.RowKit Go.Proofs.YtfjkamhcabckeaaDoorW.PrintWords Go.Proofs.YtfjkamhcabckeaaDoorW.PrintLast Go.Proofs.YtfjkamhcabckeaaDoorW.PrintMore
attribute [local go_sem] zdo zdl max_two min_two zc9 zdb zdm zdk
def zb2.f (k : Nat) (l0_0 : List Int) (l0_1 : List Int) (l1_0 : List Int) (l1_1 : List Int) : Option (List Int × List Int) := (zam.f k l0_0 l1_1).bind fun t881 => ((zam.f k l1_0 l0_1).bind fun t884 => ((za2.f k t881 t884).bind fun t887 => ((zam.f k l0_1 l1_1).bind fun t890 => ((zb1.f k t887 t890).bind fun bt893 => (some (bt893.1, bt893.2))))))
def zb2.T1 : Bool × List (List Nat × List Nat) := (true, [([], []), ([0], [0]), ([], []), ([2], [2]), ([1, 3], [1, 3]), ([], []), ([5], [5]), ([], []), ([7], [7]), ([6, 8, 4], [6, 8]), ([4, 9, 9], [4, 9]), ([], []), ([11], [11]), ([], []), ([13], [13]), ([12, 14, 10], [12, 14]), ([10, 15, 15], [10, 15]), ([16, 16, 0, 1, 2, 3, 4, 5, 6, 7, 8, 9, 10, 11, 12, 13, 14, 15, 16], [16])])
def zb2.B1 : List Nat := [0, 1, 0, 4, 15, 0, 32, 0, 128, 511, 1023, 0, 2048, 0, 8192, 32767, 65535, 131071]
theorem zb2.tab1 : rtab .any (opsOf Tryd.f38 1) = zb2.T1 := by kernel_rfl
theorem zb2.bits1 : waitsOk zb2.T1.2 zb2.B1 = true := by kernel_rfl
theorem zb2.calls (k : Nat) (A0_0 : Option Addr) (c0_0 : Nat) (l0_0 : List Int) (A0_1 : Option Addr) (c0_1 : Nat) (l0_1 : List Int) (A1_0 : Option Addr) (c1_0 : Nat) (l1_0 : List Int) (A1_1 : Option Addr) (c1_1 : Nat) (l1_1 : List Int) (r1 : List Int) (r2 : List Int) (w : World) (hr0_0 : Kd.C (Kd.int .i64) w A0_0 l0_0.length l0_0) (hc0_0 : l0_0.length ≤ c0_0) (hr0_1 : Kd.C (Kd.int .i64) w A0_1 l0_1.length l0_1) (hc0_1 : l0_1.length ≤ c0_1) (hr1_0 : Kd.C (Kd.int .i64) w A1_0 l1_0.length l1_0) (hc1_0 : l1_0.length ≤ c1_0) (hr1_1 : Kd.C (Kd.int .i64) w A1_1 l1_1.length l1_1) (hc1_1 : l1_1.length ≤ c1_1) (h : zb2.f k l0_0 l0_1 l1_0 l1_1 = some (r1, r2)) :
  Calls Tryd.prog 38 #[.agg #[.slice A0_0 l0_0.length c0_0, .slice A0_1 l0_1.length c0_1], .agg #[.slice A1_0 l1_0.length c1_0, .slice A1_1 l1_1.length c1_1]] w fun e w' => ∃ v0_ v1_ : Value, e = .returned (.agg #[v0_, v1_]) ∧ Kd.R (Kd.int .i64) 3 w' w.heap.size (fun k_ => some k_ ≠ (v1_ : Value).ownBlock) v0_ r1 ∧ Kd.R (Kd.int .i64) 3 w' w.heap.size (fun k_ => some k_ ≠ (v0_ : Value).ownBlock) v1_ r2 ∧ Below w.heap.size w w' := by
 have hu40 := Tryd.underlying40
 have HR0_0 := zA hr0_0
 have HC0_0 := zA hc0_0
 clear hr0_0 hc0_0
 have HR0_1 := zA hr0_1
 have HC0_1 := zA hc0_1
 clear hr0_1 hc0_1
 have HR1_0 := zA hr1_0
 have HC1_0 := zA hc1_0
 clear hr1_0 hc1_0
 have HR1_1 := zA hr1_1
 have HC1_1 := zA hc1_1
 clear hr1_1 hc1_1
 have HB := zA (Below.refl w.heap.size w)
 have H : ((zam.f k l0_0 l1_1).bind fun t881 => ((zam.f k l1_0 l0_1).bind fun t884 => ((za2.f k t881 t884).bind fun t887 => ((zam.f k l0_1 l1_1).bind fun t890 => ((zb1.f k t887 t890).bind fun bt893 => (some (bt893.1, bt893.2))))))) = some (r1, r2) := h
 clear h
 replace H := zO H
 obtain ⟨t881, A30, H⟩ := H
 try dsimp only at H
 have A3 := zA A30
 clear A30
 replace H := zO H
 obtain ⟨t884, A40, H⟩ := H
 try dsimp only at H
 have A4 := zA A40
 clear A40
 replace H := zO H
 obtain ⟨t887, A50, H⟩ := H
 try dsimp only at H
 have A5 := zA A50
 clear A50
 replace H := zO H
 obtain ⟨t890, A60, H⟩ := H
 try dsimp only at H
 have A6 := zA A60
 clear A60
 replace H := zO H
 obtain ⟨⟨t893, t896⟩, A70, H⟩ := H
 try dsimp only at H
 have A7 := zA A70
 clear A70
 simp only [Option.some.injEq, Prod.mk.injEq] at H
 obtain ⟨rfl, rfl⟩ := H
 go_enter Tryd.func38, Tryd.ntmps38
 try go_wp2_with (first | ((with_reducible refine zbh (N := 2) rfl ?_); refine zbj ?hg (N := 2) ?hd (cs := #[.slice A0_0 l0_0.length c0_0, .slice A0_1 l0_1.length c0_1]) (t := 40) ?hr ?_; (case hd => rfl); (case hg => rfl); (case hr => first | (go_simp; done) | (go_simp; rfl)); intro gb878 hg w8 hbox hb; have n0_ := zA (zaf (zB HB) hb); have n1_ := zA (hbox); have n2_ := zA ((by rw [hg]; exact (za (zB HB)) : w.heap.size ≤ gb878)); have n3_ := zA ((by rw [hg]; exact (za (zB HB)) : w.heap.size ≤ gb878)); clear HB; have HB := n0_; have BK878 := n1_; have GW878 := n2_; have GE878 := n3_; clear n0_ n1_ n2_ n3_ hb hbox hg) | ((with_reducible refine zbh (N := 3) rfl ?_); refine zbj ?hg (N := 3) ?hd (cs := #[.slice A1_0 l1_0.length c1_0, .slice A1_1 l1_1.length c1_1]) (t := 40) ?hr ?_; (case hd => rfl); (case hg => rfl); (case hr => first | (go_simp; done) | (go_simp; rfl)); intro gb879 hg w9 hbox hb; have n0_ := zA (zaa (g := gb878) (o := .cells #[.slice A0_0 l0_0.length c0_0, .slice A0_1 l0_1.length c0_1] 40 (0, 0)) (zK BK878) hb); have n1_ := zA (zaf (zB HB) hb); have n2_ := zA (hbox); have n3_ := zA ((by rw [hg]; exact (za (zB HB)) : w.heap.size ≤ gb879)); have n4_ := zA ((by rw [hg]; exact (za (zB HB)) : w.heap.size ≤ gb879)); have n5_ := zA ((by rw [hg]; exact Nat.ne_of_lt (za5 (g := gb878) (o := .cells #[.slice A0_0 l0_0.length c0_0, .slice A0_1 l0_1.length c0_1] 40 (0, 0)) (zK BK878)) : gb878 ≠ gb879)); have n6_ := zA ((by rw [hg]; exact Nat.ne_of_gt (za5 (g := gb878) (o := .cells #[.slice A0_0 l0_0.length c0_0, .slice A0_1 l0_1.length c0_1] 40 (0, 0)) (zK BK878)) : gb879 ≠ gb878)); clear BK878 HB; have BK878 := n0_; have HB := n1_; have BK879 := n2_; have GW879 := n3_; have GE879 := n4_; have NB878_879 := n5_; have NB879_878 := n6_; clear n0_ n1_ n2_ n3_ n4_ n5_ n6_ hb hbox hg) | ((with_reducible refine zbh (N := 4) rfl ?_); refine zbj ?hg (N := 4) ?hd (cs := #[.slice none 0 0, .slice none 0 0]) (t := 40) ?hr ?_; (case hd => rfl); (case hg => rfl); (case hr => first | (go_simp; done) | (go_simp; rfl)); intro gb880 hg w10 hbox hb; have n0_ := zA (zaa (g := gb878) (o := .cells #[.slice A0_0 l0_0.length c0_0, .slice A0_1 l0_1.length c0_1] 40 (0, 0)) (zK BK878) hb); have n1_ := zA (zaa (g := gb879) (o := .cells #[.slice A1_0 l1_0.length c1_0, .slice A1_1 l1_1.length c1_1] 40 (0, 0)) (zK BK879) hb); have n2_ := zA (zaf (zB HB) hb); have n3_ := zA (hbox); have n4_ := zA ((by rw [hg]; exact (za (zB HB)) : w.heap.size ≤ gb880)); have n5_ := zA ((by rw [hg]; exact (za (zB HB)) : w.heap.size ≤ gb880)); have n6_ := zA ((by rw [hg]; exact Nat.ne_of_lt (za5 (g := gb878) (o := .cells #[.slice A0_0 l0_0.length c0_0, .slice A0_1 l0_1.length c0_1] 40 (0, 0)) (zK BK878)) : gb878 ≠ gb880)); have n7_ := zA ((by rw [hg]; exact Nat.ne_of_gt (za5 (g := gb878) (o := .cells #[.slice A0_0 l0_0.length c0_0, .slice A0_1 l0_1.length c0_1] 40 (0, 0)) (zK BK878)) : gb880 ≠ gb878)); have n8_ := zA ((by rw [hg]; exact Nat.ne_of_lt (za5 (g := gb879) (o := .cells #[.slice A1_0 l1_0.length c1_0, .slice A1_1 l1_1.length c1_1] 40 (0, 0)) (zK BK879)) : gb879 ≠ gb880)); have n9_ := zA ((by rw [hg]; exact Nat.ne_of_gt (za5 (g := gb879) (o := .cells #[.slice A1_0 l1_0.length c1_0, .slice A1_1 l1_1.length c1_1] 40 (0, 0)) (zK BK879)) : gb880 ≠ gb879)); clear BK878 BK879 HB; have BK878 := n0_; have BK879 := n1_; have HB := n2_; have BK880 := n3_; have GW880 := n4_; have GE880 := n5_; have NB878_880 := n6_; have NB880_878 := n7_; have NB879_880 := n8_; have NB880_879 := n9_; clear n0_ n1_ n2_ n3_ n4_ n5_ n6_ n7_ n8_ n9_ hb hbox hg))
 have n0_ := zA (zae BK878.out)
 have n1_ := zA (zae BK879.out)
 have n2_ := zA (zae BK880.out)
 have n3_ := zA (zb0 HB.out)
 clear BK878 BK879 BK880 HB
 have BK878 := n0_
 have BK879 := n1_
 have BK880 := n2_
 have HB := n3_
 clear n0_ n1_ n2_ n3_
 refine start_ (n := 18) (S := fun w' => w'.cell? ⟨gb878, 0, none⟩ = some (.slice A0_0 l0_0.length c0_0) ∧ w'.cell? ⟨gb878, 1, none⟩ = some (.slice A0_1 l0_1.length c0_1) ∧ w'.cell? ⟨gb879, 0, none⟩ = some (.slice A1_0 l1_0.length c1_0) ∧ w'.cell? ⟨gb879, 1, none⟩ = some (.slice A1_1 l1_1.length c1_1)) (ds := []) #[false, false, false, false, false, false, false, false, false, false, false, false, false, false, false, false, false, false] (by kernel_rfl) rfl rfl ⟨(zad BK878.out 0).trans rfl, (zad BK878.out 1).trans rfl, (zad BK879.out 0).trans rfl, (zad BK879.out 1).trans rfl⟩ (fun hHeld => ?_); refine zc0 zb2.tab1 zb2.bits1 (fun HT_ HW_ => ?_)
 generalize w10.drew = w11 at BK878 BK879 BK880 HB hHeld ⊢
 refine pure_ (i := 0) (N := some 5) (v := ?_) (a' := ?_) #[true, false, false, false, false, false, false, false, false, false, false, false, false, false, false, false, false, false] rfl rfl (zbf HT_.out (by kernel_rfl)) (fun _ _ _ h => h) (Or.inl ⟨by rfl, ?_⟩) ?_ ?_
 rotate_left
 ·
  intro w'
  go_simp
  with_reducible rfl
 rotate_left
 ·
  simp only [Act.put, zs1, zs2, zs3, i64_w, i32_w]
  rfl
 refine pure_ (i := 2) (N := some 7) (v := ?_) (a' := ?_) #[true, false, true, false, false, false, false, false, false, false, false, false, false, false, false, false, false, false] rfl rfl (zbf HT_.out (by kernel_rfl)) (fun _ _ _ h => h) (Or.inl ⟨by rfl, ?_⟩) ?_ ?_
 rotate_left
 ·
  intro w'
  go_simp
  with_reducible rfl
 rotate_left
 ·
  simp only [Act.put, zs1, zs2, zs3, i64_w, i32_w]
  rfl
 refine pure_ (i := 5) (N := some 10) (v := ?_) (a' := ?_) #[true, false, true, false, false, true, false, false, false, false, false, false, false, false, false, false, false, false] rfl rfl (zbf HT_.out (by kernel_rfl)) (fun _ _ _ h => h) (Or.inl ⟨by rfl, ?_⟩) ?_ ?_
 rotate_left
 ·
  intro w'
  go_simp
  with_reducible rfl
 rotate_left
 ·
  simp only [Act.put, zs1, zs2, zs3, i64_w, i32_w]
  rfl
 refine pure_ (i := 7) (N := some 12) (v := ?_) (a' := ?_) #[true, false, true, false, false, true, false, true, false, false, false, false, false, false, false, false, false, false] rfl rfl (zbf HT_.out (by kernel_rfl)) (fun _ _ _ h => h) (Or.inl ⟨by rfl, ?_⟩) ?_ ?_
 rotate_left
 ·
  intro w'
  go_simp
  with_reducible rfl
 rotate_left
 ·
  simp only [Act.put, zs1, zs2, zs3, i64_w, i32_w]
  rfl
 refine pure_ (i := 11) (N := some 16) (v := ?_) (a' := ?_) #[true, false, true, false, false, true, false, true, false, false, false, true, false, false, false, false, false, false] rfl rfl (zbf HT_.out (by kernel_rfl)) (fun _ _ _ h => h) (Or.inl ⟨by rfl, ?_⟩) ?_ ?_
 rotate_left
 ·
  intro w'
  go_simp
  with_reducible rfl
 rotate_left
 ·
  simp only [Act.put, zs1, zs2, zs3, i64_w, i32_w]
  rfl
 refine pure_ (i := 13) (N := some 18) (v := ?_) (a' := ?_) #[true, false, true, false, false, true, false, true, false, false, false, true, false, true, false, false, false, false] rfl rfl (zbf HT_.out (by kernel_rfl)) (fun _ _ _ h => h) (Or.inl ⟨by rfl, ?_⟩) ?_ ?_
 rotate_left
 ·
  intro w'
  go_simp
  with_reducible rfl
 rotate_left
 ·
  simp only [Act.put, zs1, zs2, zs3, i64_w, i32_w]
  rfl
 refine take_ (i := 1) (N := some 6) (v := ?_) (a' := ?_) #[true, true, true, false, false, true, false, true, false, false, false, true, false, true, false, false, false, false] rfl rfl (zbx HT_.out HW_.out (by kernel_rfl)) (fun _ _ _ h => h) (Or.inl ⟨by rfl, ?_⟩) hHeld ?_ ?_
 rotate_left
 ·
  rintro w' ⟨s0, s1, s2, s3⟩
  go_simp
  with_reducible rfl
 rotate_left
 ·
  simp only [Act.put, zs1, zs2, zs3, i64_w, i32_w]
  rfl
 refine take_ (i := 3) (N := some 8) (v := ?_) (a' := ?_) #[true, true, true, true, false, true, false, true, false, false, false, true, false, true, false, false, false, false] rfl rfl (zbx HT_.out HW_.out (by kernel_rfl)) (fun _ _ _ h => h) (Or.inl ⟨by rfl, ?_⟩) hHeld ?_ ?_
 rotate_left
 ·
  rintro w' ⟨s0, s1, s2, s3⟩
  go_simp
  with_reducible rfl
 rotate_left
 ·
  simp only [Act.put, zs1, zs2, zs3, i64_w, i32_w]
  rfl
 refine take_ (i := 6) (N := some 11) (v := ?_) (a' := ?_) #[true, true, true, true, false, true, true, true, false, false, false, true, false, true, false, false, false, false] rfl rfl (zbx HT_.out HW_.out (by kernel_rfl)) (fun _ _ _ h => h) (Or.inl ⟨by rfl, ?_⟩) hHeld ?_ ?_
 rotate_left
 ·
  rintro w' ⟨s0, s1, s2, s3⟩
  go_simp
  with_reducible rfl
 rotate_left
 ·
  simp only [Act.put, zs1, zs2, zs3, i64_w, i32_w]
  rfl
 refine take_ (i := 8) (N := some 13) (v := ?_) (a' := ?_) #[true, true, true, true, false, true, true, true, true, false, false, true, false, true, false, false, false, false] rfl rfl (zbx HT_.out HW_.out (by kernel_rfl)) (fun _ _ _ h => h) (Or.inl ⟨by rfl, ?_⟩) hHeld ?_ ?_
 rotate_left
 ·
  rintro w' ⟨s0, s1, s2, s3⟩
  go_simp
  with_reducible rfl
 rotate_left
 ·
  simp only [Act.put, zs1, zs2, zs3, i64_w, i32_w]
  rfl
 refine take_ (i := 12) (N := some 17) (v := ?_) (a' := ?_) #[true, true, true, true, false, true, true, true, true, false, false, true, true, true, false, false, false, false] rfl rfl (zbx HT_.out HW_.out (by kernel_rfl)) (fun _ _ _ h => h) (Or.inl ⟨by rfl, ?_⟩) hHeld ?_ ?_
 rotate_left
 ·
  rintro w' ⟨s0, s1, s2, s3⟩
  go_simp
  with_reducible rfl
 rotate_left
 ·
  simp only [Act.put, zs1, zs2, zs3, i64_w, i32_w]
  rfl
 refine take_ (i := 14) (N := some 19) (v := ?_) (a' := ?_) #[true, true, true, true, false, true, true, true, true, false, false, true, true, true, true, false, false, false] rfl rfl (zbx HT_.out HW_.out (by kernel_rfl)) (fun _ _ _ h => h) (Or.inl ⟨by rfl, ?_⟩) hHeld ?_ ?_
 rotate_left
 ·
  rintro w' ⟨s0, s1, s2, s3⟩
  go_simp
  with_reducible rfl
 rotate_left
 ·
  simp only [Act.put, zs1, zs2, zs3, i64_w, i32_w]
  rfl
 refine one_ (i := 4) (N := some 9) #[true, true, true, true, true, true, true, true, true, false, false, true, true, true, true, false, false, false] rfl rfl (zcf HT_.out (by kernel_rfl)) (by decide) (fun K hK => ?_)
 refine goes_ Tryd.func56 (by kernel_rfl) rfl #[.slice A0_0 l0_0.length c0_0, .slice A1_1 l1_1.length c1_1] (by rfl) rfl rfl (zE) ?_
 with_reducible refine (zam.calls k _ _ l0_0 _ _ l1_1 t881 _ ?side1 ?side2 ?side3 ?side4 A3.out).mono ?_
 (case side1 => exact zJ (Kd.za6 HR0_0.out HB.out))
 (case side2 => exact HC0_0.out)
 (case side3 => exact zJ (Kd.za6 HR1_1.out HB.out))
 (case side4 => exact HC1_1.out)
 rintro e w12 ⟨v882, rfl, ho0, hb⟩
 refine ⟨_, rfl, ?_⟩
 have n0_ := zA (Kd.zbm ho0 (za (zB HB)))
 have n1_ := zA (zaa (g := gb878) (o := .cells #[.slice A0_0 l0_0.length c0_0, .slice A0_1 l0_1.length c0_1] 40 (0, 0)) (zK BK878) hb)
 have n2_ := zA (zaa (g := gb879) (o := .cells #[.slice A1_0 l1_0.length c1_0, .slice A1_1 l1_1.length c1_1] 40 (0, 0)) (zK BK879) hb)
 have n3_ := zA (zaa (g := gb880) (o := .cells #[.slice none 0 0, .slice none 0 0] 40 (0, 0)) (zK BK880) hb)
 have n4_ := zA (zaf (zB HB) hb)
 clear BK878 BK879 BK880 HB
 have HO883 := n0_
 have BK878 := n1_
 have BK879 := n2_
 have BK880 := n3_
 have HB := n4_
 clear n0_ n1_ n2_ n3_ n4_
 (try clear hb)
 (try clear hb2)
 (try clear hk)
 (try clear hi)
 (try clear ho0)
 refine hK.out _ _ ⟨(zad BK878.out 0).trans rfl, (zad BK878.out 1).trans rfl, (zad BK879.out 0).trans rfl, (zad BK879.out 1).trans rfl⟩ (fun hHeld => ?_)
 clear hK K
 refine norm_ (a' := ?_) ?_ ?_
 rotate_left
 ·
  show Act.put _ (some 9) _ = _
  simp only [Act.put, zs1, zs2, zs3, i64_w, i32_w]
  rfl
 refine one_ (i := 9) (N := some 14) #[true, true, true, true, true, true, true, true, true, true, false, true, true, true, true, false, false, false] rfl rfl (zcf HT_.out (by kernel_rfl)) (by decide) (fun K hK => ?_)
 refine goes_ Tryd.func56 (by kernel_rfl) rfl #[.slice A1_0 l1_0.length c1_0, .slice A0_1 l0_1.length c0_1] (by rfl) rfl rfl (zE) ?_
 with_reducible refine (zam.calls k _ _ l1_0 _ _ l0_1 t884 _ ?side1 ?side2 ?side3 ?side4 A4.out).mono ?_
 (case side1 => exact zJ (Kd.za6 HR1_0.out HB.out))
 (case side2 => exact HC1_0.out)
 (case side3 => exact zJ (Kd.za6 HR0_1.out HB.out))
 (case side4 => exact HC0_1.out)
 rintro e w13 ⟨v885, rfl, ho0, hb⟩
 refine ⟨_, rfl, ?_⟩
 have n0_ := zA (Kd.zbp (zR HO883) (Kd.za1 ho0) hb)
 have n1_ := zA (Kd.zbm (Kd.zbk ho0 (Kd.R_lt (zR HO883))) (za (zB HB)))
 have n2_ := zA (zaa (g := gb878) (o := .cells #[.slice A0_0 l0_0.length c0_0, .slice A0_1 l0_1.length c0_1] 40 (0, 0)) (zK BK878) hb)
 have n3_ := zA (zaa (g := gb879) (o := .cells #[.slice A1_0 l1_0.length c1_0, .slice A1_1 l1_1.length c1_1] 40 (0, 0)) (zK BK879) hb)
 have n4_ := zA (zaa (g := gb880) (o := .cells #[.slice none 0 0, .slice none 0 0] 40 (0, 0)) (zK BK880) hb)
 have n5_ := zA (zaf (zB HB) hb)
 clear HO883 BK878 BK879 BK880 HB
 have HO883 := n0_
 have HO886 := n1_
 have BK878 := n2_
 have BK879 := n3_
 have BK880 := n4_
 have HB := n5_
 clear n0_ n1_ n2_ n3_ n4_ n5_
 (try clear hb)
 (try clear hb2)
 (try clear hk)
 (try clear hi)
 (try clear ho0)
 obtain ⟨Ao14, co14, eo14⟩ := Kd.zbn HO883.out
 (first | subst eo14 | (injection eo14 with f1_ f2_ f3_; have f4_ := f1_.symm; have f5_ := f3_.symm; clear f1_ f2_ f3_; subst f4_; subst f5_))
 obtain ⟨Ao15, co15, eo15⟩ := Kd.zbn HO886.out
 (first | subst eo15 | (injection eo15 with f1_ f2_ f3_; have f4_ := f1_.symm; have f5_ := f3_.symm; clear f1_ f2_ f3_; subst f4_; subst f5_))
 refine hK.out _ _ ⟨(zad BK878.out 0).trans rfl, (zad BK878.out 1).trans rfl, (zad BK879.out 0).trans rfl, (zad BK879.out 1).trans rfl⟩ (fun hHeld => ?_)
 clear hK K
 refine norm_ (a' := ?_) ?_ ?_
 rotate_left
 ·
  show Act.put _ (some 14) _ = _
  simp only [Act.put, zs1, zs2, zs3, i64_w, i32_w]
  rfl
 refine one_ (i := 10) (N := some 15) #[true, true, true, true, true, true, true, true, true, true, true, true, true, true, true, false, false, false] rfl rfl (zcf HT_.out (by kernel_rfl)) (by decide) (fun K hK => ?_)
 refine goes_ Tryd.func55 (by kernel_rfl) rfl #[.slice Ao14 t881.length co14, .slice Ao15 t884.length co15] (by rfl) rfl rfl (zE) ?_
 with_reducible refine (za2.calls k _ _ t881 _ _ t884 t887 _ ?side1 ?side2 ?side3 ?side4 A5.out).mono ?_
 (case side1 => exact zJ (Kd.zat HO883.out).2.2)
 (case side2 => exact (Kd.zat HO883.out).2.1)
 (case side3 => exact zJ (Kd.zat HO886.out).2.2)
 (case side4 => exact (Kd.zat HO886.out).2.1)
 rintro e w16 ⟨v888, rfl, ho0, hb⟩
 refine ⟨_, rfl, ?_⟩
 have n0_ := zA (Kd.zbp (zR HO883) (Kd.za1 ho0) hb)
 have n1_ := zA (Kd.zbp (zR HO886) (Kd.za1 ho0) hb)
 have n2_ := zA (Kd.zbm (Kd.zbk (Kd.zbk ho0 (Kd.R_lt (zR HO883))) (Kd.R_lt (zR HO886))) (za (zB HB)))
 have n3_ := zA (zaa (g := gb878) (o := .cells #[.slice A0_0 l0_0.length c0_0, .slice A0_1 l0_1.length c0_1] 40 (0, 0)) (zK BK878) hb)
 have n4_ := zA (zaa (g := gb879) (o := .cells #[.slice A1_0 l1_0.length c1_0, .slice A1_1 l1_1.length c1_1] 40 (0, 0)) (zK BK879) hb)
 have n5_ := zA (zaa (g := gb880) (o := .cells #[.slice none 0 0, .slice none 0 0] 40 (0, 0)) (zK BK880) hb)
 have n6_ := zA (zaf (zB HB) hb)
 clear HO883 HO886 BK878 BK879 BK880 HB
 have HO883 := n0_
 have HO886 := n1_
 have HO889 := n2_
 have BK878 := n3_
 have BK879 := n4_
 have BK880 := n5_
 have HB := n6_
 clear n0_ n1_ n2_ n3_ n4_ n5_ n6_
 (try clear hb)
 (try clear hb2)
 (try clear hk)
 (try clear hi)
 (try clear ho0)
 refine hK.out _ _ ⟨(zad BK878.out 0).trans rfl, (zad BK878.out 1).trans rfl, (zad BK879.out 0).trans rfl, (zad BK879.out 1).trans rfl⟩ (fun hHeld => ?_)
 clear hK K
 refine norm_ (a' := ?_) ?_ ?_
 rotate_left
 ·
  show Act.put _ (some 15) _ = _
  simp only [Act.put, zs1, zs2, zs3, i64_w, i32_w]
  rfl
 refine one_ (i := 15) (N := some 20) #[true, true, true, true, true, true, true, true, true, true, true, true, true, true, true, true, false, false] rfl rfl (zcf HT_.out (by kernel_rfl)) (by decide) (fun K hK => ?_)
 refine goes_ Tryd.func56 (by kernel_rfl) rfl #[.slice A0_1 l0_1.length c0_1, .slice A1_1 l1_1.length c1_1] (by rfl) rfl rfl (zE) ?_
 with_reducible refine (zam.calls k _ _ l0_1 _ _ l1_1 t890 _ ?side1 ?side2 ?side3 ?side4 A6.out).mono ?_
 (case side1 => exact zJ (Kd.za6 HR0_1.out HB.out))
 (case side2 => exact HC0_1.out)
 (case side3 => exact zJ (Kd.za6 HR1_1.out HB.out))
 (case side4 => exact HC1_1.out)
 rintro e w17 ⟨v891, rfl, ho0, hb⟩
 refine ⟨_, rfl, ?_⟩
 have n0_ := zA (Kd.zbp (zR HO883) (Kd.za1 ho0) hb)
 have n1_ := zA (Kd.zbp (zR HO886) (Kd.za1 ho0) hb)
 have n2_ := zA (Kd.zbp (zR HO889) (Kd.za1 ho0) hb)
 have n3_ := zA (Kd.zbm (Kd.zbk (Kd.zbk (Kd.zbk ho0 (Kd.R_lt (zR HO883))) (Kd.R_lt (zR HO886))) (Kd.R_lt (zR HO889))) (za (zB HB)))
 have n4_ := zA (zaa (g := gb878) (o := .cells #[.slice A0_0 l0_0.length c0_0, .slice A0_1 l0_1.length c0_1] 40 (0, 0)) (zK BK878) hb)
 have n5_ := zA (zaa (g := gb879) (o := .cells #[.slice A1_0 l1_0.length c1_0, .slice A1_1 l1_1.length c1_1] 40 (0, 0)) (zK BK879) hb)
 have n6_ := zA (zaa (g := gb880) (o := .cells #[.slice none 0 0, .slice none 0 0] 40 (0, 0)) (zK BK880) hb)
 have n7_ := zA (zaf (zB HB) hb)
 clear HO883 HO886 HO889 BK878 BK879 BK880 HB
 have HO883 := n0_
 have HO886 := n1_
 have HO889 := n2_
 have HO892 := n3_
 have BK878 := n4_
 have BK879 := n5_
 have BK880 := n6_
 have HB := n7_
 clear n0_ n1_ n2_ n3_ n4_ n5_ n6_ n7_
 (try clear hb)
 (try clear hb2)
 (try clear hk)
 (try clear hi)
 (try clear ho0)
 obtain ⟨Ao18, co18, eo18⟩ := Kd.zbn HO889.out
 (first | subst eo18 | (injection eo18 with f1_ f2_ f3_; have f4_ := f1_.symm; have f5_ := f3_.symm; clear f1_ f2_ f3_; subst f4_; subst f5_))
 obtain ⟨Ao19, co19, eo19⟩ := Kd.zbn HO892.out
 (first | subst eo19 | (injection eo19 with f1_ f2_ f3_; have f4_ := f1_.symm; have f5_ := f3_.symm; clear f1_ f2_ f3_; subst f4_; subst f5_))
 refine hK.out _ _ ⟨(zad BK878.out 0).trans rfl, (zad BK878.out 1).trans rfl, (zad BK879.out 0).trans rfl, (zad BK879.out 1).trans rfl⟩ (fun hHeld => ?_)
 clear hK K
 refine norm_ (a' := ?_) ?_ ?_
 rotate_left
 ·
  show Act.put _ (some 20) _ = _
  simp only [Act.put, zs1, zs2, zs3, i64_w, i32_w]
  rfl
 refine one_ (i := 16) (N := some 21) #[true, true, true, true, true, true, true, true, true, true, true, true, true, true, true, true, true, false] rfl rfl (zcf HT_.out (by kernel_rfl)) (by decide) (fun K hK => ?_)
 refine goes_ Tryd.func59 (by kernel_rfl) rfl #[.slice Ao18 t887.length co18, .slice Ao19 t890.length co19] (by rfl) rfl rfl (zE) ?_
 with_reducible refine (zb1.calls k _ _ t887 _ _ t890 t893 t896 _ ?side1 ?side2 ?side3 ?side4 A7.out).mono ?_
 (case side1 => exact zJ (Kd.zat HO889.out).2.2)
 (case side2 => exact (Kd.zat HO889.out).2.1)
 (case side3 => exact zJ (Kd.zat HO892.out).2.2)
 (case side4 => exact (Kd.zat HO892.out).2.1)
 rintro e w20 ⟨v894, v897, rfl, ho0, ho1, hb⟩
 refine ⟨_, rfl, ?_⟩
 have n0_ := zA (Kd.zav (Kd.zci (Kd.zci (Kd.R_old (zR HO883) hb) (Kd.za1 ho0)) (Kd.za1 ho1)) (fun _ h_ => h_.1))
 have n1_ := zA (Kd.zav (Kd.zci (Kd.zci (Kd.R_old (zR HO886) hb) (Kd.za1 ho0)) (Kd.za1 ho1)) (fun _ h_ => h_.1))
 have n2_ := zA (Kd.zav (Kd.zci (Kd.zci (Kd.R_old (zR HO889) hb) (Kd.za1 ho0)) (Kd.za1 ho1)) (fun _ h_ => h_.1))
 have n3_ := zA (Kd.zav (Kd.zci (Kd.zci (Kd.R_old (zR HO892) hb) (Kd.za1 ho0)) (Kd.za1 ho1)) (fun _ h_ => h_.1))
 have n4_ := zA (Kd.zbm (Kd.zbk (Kd.zbk (Kd.zbk (Kd.zbk ho0 (Kd.R_lt (zR HO883))) (Kd.R_lt (zR HO886))) (Kd.R_lt (zR HO889))) (Kd.R_lt (zR HO892))) (za (zB HB)))
 have n5_ := zA (Kd.zbm (Kd.zbk (Kd.zbk (Kd.zbk (Kd.zbk ho1 (Kd.R_lt (zR HO883))) (Kd.R_lt (zR HO886))) (Kd.R_lt (zR HO889))) (Kd.R_lt (zR HO892))) (za (zB HB)))
 have n6_ := zA (zaa (g := gb878) (o := .cells #[.slice A0_0 l0_0.length c0_0, .slice A0_1 l0_1.length c0_1] 40 (0, 0)) (zK BK878) hb)
 have n7_ := zA (zaa (g := gb879) (o := .cells #[.slice A1_0 l1_0.length c1_0, .slice A1_1 l1_1.length c1_1] 40 (0, 0)) (zK BK879) hb)
 have n8_ := zA (zaa (g := gb880) (o := .cells #[.slice none 0 0, .slice none 0 0] 40 (0, 0)) (zK BK880) hb)
 have n9_ := zA (zaf (zB HB) hb)
 clear HO883 HO886 HO889 HO892 BK878 BK879 BK880 HB
 have HO883 := n0_
 have HO886 := n1_
 have HO889 := n2_
 have HO892 := n3_
 have HO895 := n4_
 have HO898 := n5_
 have BK878 := n6_
 have BK879 := n7_
 have BK880 := n8_
 have HB := n9_
 clear n0_ n1_ n2_ n3_ n4_ n5_ n6_ n7_ n8_ n9_
 (try clear hb)
 (try clear hb2)
 (try clear hk)
 (try clear hi)
 (try clear ho0)
 (try clear ho1)
 obtain ⟨Ao21, co21, eo21⟩ := Kd.zbn HO895.out
 (first | subst eo21 | (injection eo21 with f1_ f2_ f3_; have f4_ := f1_.symm; have f5_ := f3_.symm; clear f1_ f2_ f3_; subst f4_; subst f5_))
 obtain ⟨Ao23, co23, eo23⟩ := Kd.zbn HO898.out
 (first | subst eo23 | (injection eo23 with f1_ f2_ f3_; have f4_ := f1_.symm; have f5_ := f3_.symm; clear f1_ f2_ f3_; subst f4_; subst f5_))
 refine hK.out _ _ ⟨(zad BK878.out 0).trans rfl, (zad BK878.out 1).trans rfl, (zad BK879.out 0).trans rfl, (zad BK879.out 1).trans rfl⟩ (fun hHeld => ?_)
 clear hK K
 refine norm_ (a' := ?_) ?_ ?_
 rotate_left
 ·
  show Act.put _ (some 21) _ = _
  simp only [Act.put, zs1, zs2, zs3, i64_w, i32_w]
  rfl
 refine one_ (i := 17) (N := none) #[true, true, true, true, true, true, true, true, true, true, true, true, true, true, true, true, true, true] rfl rfl (zcf HT_.out (by kernel_rfl)) (by decide) (fun K hK => ?_)
 have hs22 : w20.cell? ⟨gb880, 0, none⟩ = some (.slice none 0 0) := (zad BK880.out 0).trans rfl
 have hfs22 := zal BK880.out 0
 have hns22_0 := NB878_880.out
 have hns22_1 := NB879_880.out
 have hms22_0 := NB880_878.out
 have hms22_1 := NB880_879.out
 have hs24 : w20.cell? ⟨gb880, 1, none⟩ = some (.slice none 0 0) := (zad BK880.out 1).trans rfl
 have hfs24 := zal BK880.out 1
 have hns24_0 := NB878_880.out
 have hns24_1 := NB879_880.out
 have hms24_0 := NB880_878.out
 have hms24_1 := NB880_879.out
 refine skip_ (w1 := ?_) (by rfl) rfl ?_ ?_
 rotate_left
 ·
  go_simp
  rfl
 refine hK.out _ _ ⟨((cell_far (p := ⟨gb880, _, none⟩) NB878_880.out _).trans (((cell_far (p := ⟨gb880, _, none⟩) NB878_880.out _).trans (hHeld.1)))), ((cell_far (p := ⟨gb880, _, none⟩) NB878_880.out _).trans (((cell_far (p := ⟨gb880, _, none⟩) NB878_880.out _).trans (hHeld.2.1)))), ((cell_far (p := ⟨gb880, _, none⟩) NB879_880.out _).trans (((cell_far (p := ⟨gb880, _, none⟩) NB879_880.out _).trans (hHeld.2.2.1)))), ((cell_far (p := ⟨gb880, _, none⟩) NB879_880.out _).trans (((cell_far (p := ⟨gb880, _, none⟩) NB879_880.out _).trans (hHeld.2.2.2))))⟩ (fun hHeld => ?_)
 clear hK K
 refine done_ (done_of HT_.out (by kernel_rfl)) ?_
 try go_wp2
 refine bodyPost_ret (results_cell_row rfl _ _ gb880 40 #[.slice Ao21 t893.length co21, .slice Ao23 t896.length co23] (0, 0) _ rfl (by (with_reducible repeat (first | refine zab ?_ _ | refine zae ?_ | refine zac ?_ _)); refine zbo (cs := #[.slice Ao21 t893.length co21, .slice none 0 0]) ?_ 1 _ rfl; (with_reducible repeat (first | refine zab ?_ _ | refine zae ?_ | refine zac ?_ _)); refine zbo (cs := #[.slice none 0 0, .slice none 0 0]) ?_ 0 _ rfl; (with_reducible repeat (first | refine zab ?_ _ | refine zae ?_ | refine zac ?_ _)); exact BK880.out) Tryd.underlying40 rfl (by kernel_rfl)) rfl ?_
 exact ⟨_, _, zW, by (with_reducible repeat (first | apply Kd.za3 | apply Kd.za4 | apply Kd.zbb)); exact Kd.zav (Kd.R_far (p := ⟨gb880, 1, none⟩) (Kd.R_far (p := ⟨gb880, 0, none⟩) (Kd.zbe HO895.out BK880.out (by decide)) (fun _ hk => hk.2) (.slice Ao21 t893.length co21)) (fun _ hk => hk.2) (.slice Ao23 t896.length co23)) (fun _ hk => hk.1.1.1.1.1), by (with_reducible repeat (first | apply Kd.za3 | apply Kd.za4 | apply Kd.zbb)); exact Kd.zav (Kd.R_far (p := ⟨gb880, 1, none⟩) (Kd.R_far (p := ⟨gb880, 0, none⟩) (Kd.zbe HO898.out BK880.out (by decide)) (fun _ hk => hk.2) (.slice Ao21 t893.length co21)) (fun _ hk => hk.2) (.slice Ao23 t896.length co23)) (fun _ hk => hk.1.1.1.1.1), zB HB⟩
def zb4.f (k : Nat) (l0_0 : List Int) (l0_1 : List Int) (l1_0 : List Int) (l1_1 : List Int) : Option (List Int × List Int) := (zam.f k l0_0 l1_1).bind fun t902 => ((zam.f k l1_0 l0_1).bind fun t905 => ((zbg.f k t902 t905).bind fun t908 => ((zam.f k l0_1 l1_1).bind fun t911 => ((zb1.f k t908 t911).bind fun bt914 => (some (bt914.1, bt914.2))))))
def zb4.T1 : Bool × List (List Nat × List Nat) := (true, [([], []), ([0], [0]), ([], []), ([2], [2]), ([1, 3], [1, 3]), ([], []), ([5], [5]), ([], []), ([7], [7]), ([6, 8, 4], [6, 8]), ([4, 9, 9], [4, 9]), ([], []), ([11], [11]), ([], []), ([13], [13]), ([12, 14, 10], [12, 14]), ([10, 15, 15], [10, 15]), ([16, 16, 0, 1, 2, 3, 4, 5, 6, 7, 8, 9, 10, 11, 12, 13, 14, 15, 16], [16])])
def zb4.B1 : List Nat := [0, 1, 0, 4, 15, 0, 32, 0, 128, 511, 1023, 0, 2048, 0, 8192, 32767, 65535, 131071]
theorem zb4.tab1 : rtab .any (opsOf Tryd.f39 1) = zb4.T1 := by kernel_rfl
theorem zb4.bits1 : waitsOk zb4.T1.2 zb4.B1 = true := by kernel_rfl
theorem zb4.calls (k : Nat) (A0_0 : Option Addr) (c0_0 : Nat) (l0_0 : List Int) (A0_1 : Option Addr) (c0_1 : Nat) (l0_1 : List Int) (A1_0 : Option Addr) (c1_0 : Nat) (l1_0 : List Int) (A1_1 : Option Addr) (c1_1 : Nat) (l1_1 : List Int) (r1 : List Int) (r2 : List Int) (w : World) (hr0_0 : Kd.C (Kd.int .i64) w A0_0 l0_0.length l0_0) (hc0_0 : l0_0.length ≤ c0_0) (hr0_1 : Kd.C (Kd.int .i64) w A0_1 l0_1.length l0_1) (hc0_1 : l0_1.length ≤ c0_1) (hr1_0 : Kd.C (Kd.int .i64) w A1_0 l1_0.length l1_0) (hc1_0 : l1_0.length ≤ c1_0) (hr1_1 : Kd.C (Kd.int .i64) w A1_1 l1_1.length l1_1) (hc1_1 : l1_1.length ≤ c1_1) (h : zb4.f k l0_0 l0_1 l1_0 l1_1 = some (r1, r2)) :
  Calls Tryd.prog 39 #[.agg #[.slice A0_0 l0_0.length c0_0, .slice A0_1 l0_1.length c0_1], .agg #[.slice A1_0 l1_0.length c1_0, .slice A1_1 l1_1.length c1_1]] w fun e w' => ∃ v0_ v1_ : Value, e = .returned (.agg #[v0_, v1_]) ∧ Kd.R (Kd.int .i64) 3 w' w.heap.size (fun k_ => some k_ ≠ (v1_ : Value).ownBlock) v0_ r1 ∧ Kd.R (Kd.int .i64) 3 w' w.heap.size (fun k_ => some k_ ≠ (v0_ : Value).ownBlock) v1_ r2 ∧ Below w.heap.size w w' := by
 have hu40 := Tryd.underlying40
 have HR0_0 := zA hr0_0
 have HC0_0 := zA hc0_0
 clear hr0_0 hc0_0
 have HR0_1 := zA hr0_1
 have HC0_1 := zA hc0_1
 clear hr0_1 hc0_1
 have HR1_0 := zA hr1_0
 have HC1_0 := zA hc1_0
 clear hr1_0 hc1_0
 have HR1_1 := zA hr1_1
 have HC1_1 := zA hc1_1
 clear hr1_1 hc1_1
 have HB := zA (Below.refl w.heap.size w)
 have H : ((zam.f k l0_0 l1_1).bind fun t902 => ((zam.f k l1_0 l0_1).bind fun t905 => ((zbg.f k t902 t905).bind fun t908 => ((zam.f k l0_1 l1_1).bind fun t911 => ((zb1.f k t908 t911).bind fun bt914 => (some (bt914.1, bt914.2))))))) = some (r1, r2) := h
 clear h
 replace H := zO H
 obtain ⟨t902, A30, H⟩ := H
 try dsimp only at H
 have A3 := zA A30
 clear A30
 replace H := zO H
 obtain ⟨t905, A40, H⟩ := H
 try dsimp only at H
 have A4 := zA A40
 clear A40
 replace H := zO H
 obtain ⟨t908, A50, H⟩ := H
 try dsimp only at H
 have A5 := zA A50
 clear A50
 replace H := zO H
 obtain ⟨t911, A60, H⟩ := H
 try dsimp only at H
 have A6 := zA A60
 clear A60
 replace H := zO H
 obtain ⟨⟨t914, t917⟩, A70, H⟩ := H
 try dsimp only at H
 have A7 := zA A70
 clear A70
 simp only [Option.some.injEq, Prod.mk.injEq] at H
 obtain ⟨rfl, rfl⟩ := H
 go_enter Tryd.func39, Tryd.ntmps39
 try go_wp2_with (first | ((with_reducible refine zbh (N := 2) rfl ?_); refine zbj ?hg (N := 2) ?hd (cs := #[.slice A0_0 l0_0.length c0_0, .slice A0_1 l0_1.length c0_1]) (t := 40) ?hr ?_; (case hd => rfl); (case hg => rfl); (case hr => first | (go_simp; done) | (go_simp; rfl)); intro gb899 hg w8 hbox hb; have n0_ := zA (zaf (zB HB) hb); have n1_ := zA (hbox); have n2_ := zA ((by rw [hg]; exact (za (zB HB)) : w.heap.size ≤ gb899)); have n3_ := zA ((by rw [hg]; exact (za (zB HB)) : w.heap.size ≤ gb899)); clear HB; have HB := n0_; have BK899 := n1_; have GW899 := n2_; have GE899 := n3_; clear n0_ n1_ n2_ n3_ hb hbox hg) | ((with_reducible refine zbh (N := 3) rfl ?_); refine zbj ?hg (N := 3) ?hd (cs := #[.slice A1_0 l1_0.length c1_0, .slice A1_1 l1_1.length c1_1]) (t := 40) ?hr ?_; (case hd => rfl); (case hg => rfl); (case hr => first | (go_simp; done) | (go_simp; rfl)); intro gb900 hg w9 hbox hb; have n0_ := zA (zaa (g := gb899) (o := .cells #[.slice A0_0 l0_0.length c0_0, .slice A0_1 l0_1.length c0_1] 40 (0, 0)) (zK BK899) hb); have n1_ := zA (zaf (zB HB) hb); have n2_ := zA (hbox); have n3_ := zA ((by rw [hg]; exact (za (zB HB)) : w.heap.size ≤ gb900)); have n4_ := zA ((by rw [hg]; exact (za (zB HB)) : w.heap.size ≤ gb900)); have n5_ := zA ((by rw [hg]; exact Nat.ne_of_lt (za5 (g := gb899) (o := .cells #[.slice A0_0 l0_0.length c0_0, .slice A0_1 l0_1.length c0_1] 40 (0, 0)) (zK BK899)) : gb899 ≠ gb900)); have n6_ := zA ((by rw [hg]; exact Nat.ne_of_gt (za5 (g := gb899) (o := .cells #[.slice A0_0 l0_0.length c0_0, .slice A0_1 l0_1.length c0_1] 40 (0, 0)) (zK BK899)) : gb900 ≠ gb899)); clear BK899 HB; have BK899 := n0_; have HB := n1_; have BK900 := n2_; have GW900 := n3_; have GE900 := n4_; have NB899_900 := n5_; have NB900_899 := n6_; clear n0_ n1_ n2_ n3_ n4_ n5_ n6_ hb hbox hg) | ((with_reducible refine zbh (N := 4) rfl ?_); refine zbj ?hg (N := 4) ?hd (cs := #[.slice none 0 0, .slice none 0 0]) (t := 40) ?hr ?_; (case hd => rfl); (case hg => rfl); (case hr => first | (go_simp; done) | (go_simp; rfl)); intro gb901 hg w10 hbox hb; have n0_ := zA (zaa (g := gb899) (o := .cells #[.slice A0_0 l0_0.length c0_0, .slice A0_1 l0_1.length c0_1] 40 (0, 0)) (zK BK899) hb); have n1_ := zA (zaa (g := gb900) (o := .cells #[.slice A1_0 l1_0.length c1_0, .slice A1_1 l1_1.length c1_1] 40 (0, 0)) (zK BK900) hb); have n2_ := zA (zaf (zB HB) hb); have n3_ := zA (hbox); have n4_ := zA ((by rw [hg]; exact (za (zB HB)) : w.heap.size ≤ gb901)); have n5_ := zA ((by rw [hg]; exact (za (zB HB)) : w.heap.size ≤ gb901)); have n6_ := zA ((by rw [hg]; exact Nat.ne_of_lt (za5 (g := gb899) (o := .cells #[.slice A0_0 l0_0.length c0_0, .slice A0_1 l0_1.length c0_1] 40 (0, 0)) (zK BK899)) : gb899 ≠ gb901)); have n7_ := zA ((by rw [hg]; exact Nat.ne_of_gt (za5 (g := gb899) (o := .cells #[.slice A0_0 l0_0.length c0_0, .slice A0_1 l0_1.length c0_1] 40 (0, 0)) (zK BK899)) : gb901 ≠ gb899)); have n8_ := zA ((by rw [hg]; exact Nat.ne_of_lt (za5 (g := gb900) (o := .cells #[.slice A1_0 l1_0.length c1_0, .slice A1_1 l1_1.length c1_1] 40 (0, 0)) (zK BK900)) : gb900 ≠ gb901)); have n9_ := zA ((by rw [hg]; exact Nat.ne_of_gt (za5 (g := gb900) (o := .cells #[.slice A1_0 l1_0.length c1_0, .slice A1_1 l1_1.length c1_1] 40 (0, 0)) (zK BK900)) : gb901 ≠ gb900)); clear BK899 BK900 HB; have BK899 := n0_; have BK900 := n1_; have HB := n2_; have BK901 := n3_; have GW901 := n4_; have GE901 := n5_; have NB899_901 := n6_; have NB901_899 := n7_; have NB900_901 := n8_; have NB901_900 := n9_; clear n0_ n1_ n2_ n3_ n4_ n5_ n6_ n7_ n8_ n9_ hb hbox hg))
 have n0_ := zA (zae BK899.out)
 have n1_ := zA (zae BK900.out)
 have n2_ := zA (zae BK901.out)
 have n3_ := zA (zb0 HB.out)
 clear BK899 BK900 BK901 HB
 have BK899 := n0_
 have BK900 := n1_
 have BK901 := n2_
 have HB := n3_
 clear n0_ n1_ n2_ n3_
 refine start_ (n := 18) (S := fun w' => w'.cell? ⟨gb899, 0, none⟩ = some (.slice A0_0 l0_0.length c0_0) ∧ w'.cell? ⟨gb899, 1, none⟩ = some (.slice A0_1 l0_1.length c0_1) ∧ w'.cell? ⟨gb900, 0, none⟩ = some (.slice A1_0 l1_0.length c1_0) ∧ w'.cell? ⟨gb900, 1, none⟩ = some (.slice A1_1 l1_1.length c1_1)) (ds := []) #[false, false, false, false, false, false, false, false, false, false, false, false, false, false, false, false, false, false] (by kernel_rfl) rfl rfl ⟨(zad BK899.out 0).trans rfl, (zad BK899.out 1).trans rfl, (zad BK900.out 0).trans rfl, (zad BK900.out 1).trans rfl⟩ (fun hHeld => ?_); refine zc0 zb4.tab1 zb4.bits1 (fun HT_ HW_ => ?_)
 generalize w10.drew = w11 at BK899 BK900 BK901 HB hHeld ⊢
 refine pure_ (i := 0) (N := some 5) (v := ?_) (a' := ?_) #[true, false, false, false, false, false, false, false, false, false, false, false, false, false, false, false, false, false] rfl rfl (zbf HT_.out (by kernel_rfl)) (fun _ _ _ h => h) (Or.inl ⟨by rfl, ?_⟩) ?_ ?_
 rotate_left
 ·
  intro w'
  go_simp
  with_reducible rfl
 rotate_left
 ·
  simp only [Act.put, zs1, zs2, zs3, i64_w, i32_w]
  rfl
 refine pure_ (i := 2) (N := some 7) (v := ?_) (a' := ?_) #[true, false, true, false, false, false, false, false, false, false, false, false, false, false, false, false, false, false] rfl rfl (zbf HT_.out (by kernel_rfl)) (fun _ _ _ h => h) (Or.inl ⟨by rfl, ?_⟩) ?_ ?_
 rotate_left
 ·
  intro w'
  go_simp
  with_reducible rfl
 rotate_left
 ·
  simp only [Act.put, zs1, zs2, zs3, i64_w, i32_w]
  rfl
 refine pure_ (i := 5) (N := some 10) (v := ?_) (a' := ?_) #[true, false, true, false, false, true, false, false, false, false, false, false, false, false, false, false, false, false] rfl rfl (zbf HT_.out (by kernel_rfl)) (fun _ _ _ h => h) (Or.inl ⟨by rfl, ?_⟩) ?_ ?_
 rotate_left
 ·
  intro w'
  go_simp
  with_reducible rfl
 rotate_left
 ·
  simp only [Act.put, zs1, zs2, zs3, i64_w, i32_w]
  rfl
 refine pure_ (i := 7) (N := some 12) (v := ?_) (a' := ?_) #[true, false, true, false, false, true, false, true, false, false, false, false, false, false, false, false, false, false] rfl rfl (zbf HT_.out (by kernel_rfl)) (fun _ _ _ h => h) (Or.inl ⟨by rfl, ?_⟩) ?_ ?_
 rotate_left
 ·
  intro w'
  go_simp
  with_reducible rfl
 rotate_left
 ·
  simp only [Act.put, zs1, zs2, zs3, i64_w, i32_w]
  rfl
 refine pure_ (i := 11) (N := some 16) (v := ?_) (a' := ?_) #[true, false, true, false, false, true, false, true, false, false, false, true, false, false, false, false, false, false] rfl rfl (zbf HT_.out (by kernel_rfl)) (fun _ _ _ h => h) (Or.inl ⟨by rfl, ?_⟩) ?_ ?_
 rotate_left
 ·
  intro w'
  go_simp
  with_reducible rfl
 rotate_left
 ·
  simp only [Act.put, zs1, zs2, zs3, i64_w, i32_w]
  rfl
 refine pure_ (i := 13) (N := some 18) (v := ?_) (a' := ?_) #[true, false, true, false, false, true, false, true, false, false, false, true, false, true, false, false, false, false] rfl rfl (zbf HT_.out (by kernel_rfl)) (fun _ _ _ h => h) (Or.inl ⟨by rfl, ?_⟩) ?_ ?_
 rotate_left
 ·
  intro w'
  go_simp
  with_reducible rfl
 rotate_left
 ·
  simp only [Act.put, zs1, zs2, zs3, i64_w, i32_w]
  rfl
 refine take_ (i := 1) (N := some 6) (v := ?_) (a' := ?_) #[true, true, true, false, false, true, false, true, false, false, false, true, false, true, false, false, false, false] rfl rfl (zbx HT_.out HW_.out (by kernel_rfl)) (fun _ _ _ h => h) (Or.inl ⟨by rfl, ?_⟩) hHeld ?_ ?_
 rotate_left
 ·
  rintro w' ⟨s0, s1, s2, s3⟩
  go_simp
  with_reducible rfl
 rotate_left
 ·
  simp only [Act.put, zs1, zs2, zs3, i64_w, i32_w]
  rfl
 refine take_ (i := 3) (N := some 8) (v := ?_) (a' := ?_) #[true, true, true, true, false, true, false, true, false, false, false, true, false, true, false, false, false, false] rfl rfl (zbx HT_.out HW_.out (by kernel_rfl)) (fun _ _ _ h => h) (Or.inl ⟨by rfl, ?_⟩) hHeld ?_ ?_
 rotate_left
 ·
  rintro w' ⟨s0, s1, s2, s3⟩
  go_simp
  with_reducible rfl
 rotate_left
 ·
  simp only [Act.put, zs1, zs2, zs3, i64_w, i32_w]
  rfl
 refine take_ (i := 6) (N := some 11) (v := ?_) (a' := ?_) #[true, true, true, true, false, true, true, true, false, false, false, true, false, true, false, false, false, false] rfl rfl (zbx HT_.out HW_.out (by kernel_rfl)) (fun _ _ _ h => h) (Or.inl ⟨by rfl, ?_⟩) hHeld ?_ ?_
 rotate_left
 ·
  rintro w' ⟨s0, s1, s2, s3⟩
  go_simp
  with_reducible rfl
 rotate_left
 ·
  simp only [Act.put, zs1, zs2, zs3, i64_w, i32_w]
  rfl
 refine take_ (i := 8) (N := some 13) (v := ?_) (a' := ?_) #[true, true, true, true, false, true, true, true, true, false, false, true, false, true, false, false, false, false] rfl rfl (zbx HT_.out HW_.out (by kernel_rfl)) (fun _ _ _ h => h) (Or.inl ⟨by rfl, ?_⟩) hHeld ?_ ?_
 rotate_left
 ·
  rintro w' ⟨s0, s1, s2, s3⟩
  go_simp
  with_reducible rfl
 rotate_left
 ·
  simp only [Act.put, zs1, zs2, zs3, i64_w, i32_w]
  rfl
 refine take_ (i := 12) (N := some 17) (v := ?_) (a' := ?_) #[true, true, true, true, false, true, true, true, true, false, false, true, true, true, false, false, false, false] rfl rfl (zbx HT_.out HW_.out (by kernel_rfl)) (fun _ _ _ h => h) (Or.inl ⟨by rfl, ?_⟩) hHeld ?_ ?_
 rotate_left
 ·
  rintro w' ⟨s0, s1, s2, s3⟩
  go_simp
  with_reducible rfl
 rotate_left
 ·
  simp only [Act.put, zs1, zs2, zs3, i64_w, i32_w]
  rfl
 refine take_ (i := 14) (N := some 19) (v := ?_) (a' := ?_) #[true, true, true, true, false, true, true, true, true, false, false, true, true, true, true, false, false, false] rfl rfl (zbx HT_.out HW_.out (by kernel_rfl)) (fun _ _ _ h => h) (Or.inl ⟨by rfl, ?_⟩) hHeld ?_ ?_
 rotate_left
 ·
  rintro w' ⟨s0, s1, s2, s3⟩
  go_simp
  with_reducible rfl
 rotate_left
 ·
  simp only [Act.put, zs1, zs2, zs3, i64_w, i32_w]
  rfl
 refine one_ (i := 4) (N := some 9) #[true, true, true, true, true, true, true, true, true, false, false, true, true, true, true, false, false, false] rfl rfl (zcf HT_.out (by kernel_rfl)) (by decide) (fun K hK => ?_)
 refine goes_ Tryd.func56 (by kernel_rfl) rfl #[.slice A0_0 l0_0.length c0_0, .slice A1_1 l1_1.length c1_1] (by rfl) rfl rfl (zE) ?_
 with_reducible refine (zam.calls k _ _ l0_0 _ _ l1_1 t902 _ ?side1 ?side2 ?side3 ?side4 A3.out).mono ?_
 (case side1 => exact zJ (Kd.za6 HR0_0.out HB.out))
 (case side2 => exact HC0_0.out)
 (case side3 => exact zJ (Kd.za6 HR1_1.out HB.out))
 (case side4 => exact HC1_1.out)
 rintro e w12 ⟨v903, rfl, ho0, hb⟩
 refine ⟨_, rfl, ?_⟩
 have n0_ := zA (Kd.zbm ho0 (za (zB HB)))
 have n1_ := zA (zaa (g := gb899) (o := .cells #[.slice A0_0 l0_0.length c0_0, .slice A0_1 l0_1.length c0_1] 40 (0, 0)) (zK BK899) hb)
 have n2_ := zA (zaa (g := gb900) (o := .cells #[.slice A1_0 l1_0.length c1_0, .slice A1_1 l1_1.length c1_1] 40 (0, 0)) (zK BK900) hb)
 have n3_ := zA (zaa (g := gb901) (o := .cells #[.slice none 0 0, .slice none 0 0] 40 (0, 0)) (zK BK901) hb)
 have n4_ := zA (zaf (zB HB) hb)
 clear BK899 BK900 BK901 HB
 have HO904 := n0_
 have BK899 := n1_
 have BK900 := n2_
 have BK901 := n3_
 have HB := n4_
 clear n0_ n1_ n2_ n3_ n4_
 (try clear hb)
 (try clear hb2)
 (try clear hk)
 (try clear hi)
 (try clear ho0)
 refine hK.out _ _ ⟨(zad BK899.out 0).trans rfl, (zad BK899.out 1).trans rfl, (zad BK900.out 0).trans rfl, (zad BK900.out 1).trans rfl⟩ (fun hHeld => ?_)
 clear hK K
 refine norm_ (a' := ?_) ?_ ?_
 rotate_left
 ·
  show Act.put _ (some 9) _ = _
  simp only [Act.put, zs1, zs2, zs3, i64_w, i32_w]
  rfl
 refine one_ (i := 9) (N := some 14) #[true, true, true, true, true, true, true, true, true, true, false, true, true, true, true, false, false, false] rfl rfl (zcf HT_.out (by kernel_rfl)) (by decide) (fun K hK => ?_)
 refine goes_ Tryd.func56 (by kernel_rfl) rfl #[.slice A1_0 l1_0.length c1_0, .slice A0_1 l0_1.length c0_1] (by rfl) rfl rfl (zE) ?_
 with_reducible refine (zam.calls k _ _ l1_0 _ _ l0_1 t905 _ ?side1 ?side2 ?side3 ?side4 A4.out).mono ?_
 (case side1 => exact zJ (Kd.za6 HR1_0.out HB.out))
 (case side2 => exact HC1_0.out)
 (case side3 => exact zJ (Kd.za6 HR0_1.out HB.out))
 (case side4 => exact HC0_1.out)
 rintro e w13 ⟨v906, rfl, ho0, hb⟩
 refine ⟨_, rfl, ?_⟩
 have n0_ := zA (Kd.zbp (zR HO904) (Kd.za1 ho0) hb)
 have n1_ := zA (Kd.zbm (Kd.zbk ho0 (Kd.R_lt (zR HO904))) (za (zB HB)))
 have n2_ := zA (zaa (g := gb899) (o := .cells #[.slice A0_0 l0_0.length c0_0, .slice A0_1 l0_1.length c0_1] 40 (0, 0)) (zK BK899) hb)
 have n3_ := zA (zaa (g := gb900) (o := .cells #[.slice A1_0 l1_0.length c1_0, .slice A1_1 l1_1.length c1_1] 40 (0, 0)) (zK BK900) hb)
 have n4_ := zA (zaa (g := gb901) (o := .cells #[.slice none 0 0, .slice none 0 0] 40 (0, 0)) (zK BK901) hb)
 have n5_ := zA (zaf (zB HB) hb)
 clear HO904 BK899 BK900 BK901 HB
 have HO904 := n0_
 have HO907 := n1_
 have BK899 := n2_
 have BK900 := n3_
 have BK901 := n4_
 have HB := n5_
 clear n0_ n1_ n2_ n3_ n4_ n5_
 (try clear hb)
 (try clear hb2)
 (try clear hk)
 (try clear hi)
 (try clear ho0)
 obtain ⟨Ao14, co14, eo14⟩ := Kd.zbn HO904.out
 (first | subst eo14 | (injection eo14 with f1_ f2_ f3_; have f4_ := f1_.symm; have f5_ := f3_.symm; clear f1_ f2_ f3_; subst f4_; subst f5_))
 obtain ⟨Ao15, co15, eo15⟩ := Kd.zbn HO907.out
 (first | subst eo15 | (injection eo15 with f1_ f2_ f3_; have f4_ := f1_.symm; have f5_ := f3_.symm; clear f1_ f2_ f3_; subst f4_; subst f5_))
 refine hK.out _ _ ⟨(zad BK899.out 0).trans rfl, (zad BK899.out 1).trans rfl, (zad BK900.out 0).trans rfl, (zad BK900.out 1).trans rfl⟩ (fun hHeld => ?_)
 clear hK K
 refine norm_ (a' := ?_) ?_ ?_
 rotate_left
 ·
  show Act.put _ (some 14) _ = _
  simp only [Act.put, zs1, zs2, zs3, i64_w, i32_w]
  rfl
 refine one_ (i := 10) (N := some 15) #[true, true, true, true, true, true, true, true, true, true, true, true, true, true, true, false, false, false] rfl rfl (zcf HT_.out (by kernel_rfl)) (by decide) (fun K hK => ?_)
 refine goes_ Tryd.func66 (by kernel_rfl) rfl #[.slice Ao14 t902.length co14, .slice Ao15 t905.length co15] (by rfl) rfl rfl (zE) ?_
 with_reducible refine (zbg.calls k _ _ t902 _ _ t905 t908 _ ?side1 ?side2 ?side3 ?side4 A5.out).mono ?_
 (case side1 => exact zJ (Kd.zat HO904.out).2.2)
 (case side2 => exact (Kd.zat HO904.out).2.1)
 (case side3 => exact zJ (Kd.zat HO907.out).2.2)
 (case side4 => exact (Kd.zat HO907.out).2.1)
 rintro e w16 ⟨v909, rfl, ho0, hb⟩
 refine ⟨_, rfl, ?_⟩
 have n0_ := zA (Kd.zbp (zR HO904) (Kd.za1 ho0) hb)
 have n1_ := zA (Kd.zbp (zR HO907) (Kd.za1 ho0) hb)
 have n2_ := zA (Kd.zbm (Kd.zbk (Kd.zbk ho0 (Kd.R_lt (zR HO904))) (Kd.R_lt (zR HO907))) (za (zB HB)))
 have n3_ := zA (zaa (g := gb899) (o := .cells #[.slice A0_0 l0_0.length c0_0, .slice A0_1 l0_1.length c0_1] 40 (0, 0)) (zK BK899) hb)
 have n4_ := zA (zaa (g := gb900) (o := .cells #[.slice A1_0 l1_0.length c1_0, .slice A1_1 l1_1.length c1_1] 40 (0, 0)) (zK BK900) hb)
 have n5_ := zA (zaa (g := gb901) (o := .cells #[.slice none 0 0, .slice none 0 0] 40 (0, 0)) (zK BK901) hb)
 have n6_ := zA (zaf (zB HB) hb)
 clear HO904 HO907 BK899 BK900 BK901 HB
 have HO904 := n0_
 have HO907 := n1_
 have HO910 := n2_
 have BK899 := n3_
 have BK900 := n4_
 have BK901 := n5_
 have HB := n6_
 clear n0_ n1_ n2_ n3_ n4_ n5_ n6_
 (try clear hb)
 (try clear hb2)
 (try clear hk)
 (try clear hi)
 (try clear ho0)
 refine hK.out _ _ ⟨(zad BK899.out 0).trans rfl, (zad BK899.out 1).trans rfl, (zad BK900.out 0).trans rfl, (zad BK900.out 1).trans rfl⟩ (fun hHeld => ?_)
 clear hK K
 refine norm_ (a' := ?_) ?_ ?_
 rotate_left
 ·
  show Act.put _ (some 15) _ = _
  simp only [Act.put, zs1, zs2, zs3, i64_w, i32_w]
  rfl
 refine one_ (i := 15) (N := some 20) #[true, true, true, true, true, true, true, true, true, true, true, true, true, true, true, true, false, false] rfl rfl (zcf HT_.out (by kernel_rfl)) (by decide) (fun K hK => ?_)
 refine goes_ Tryd.func56 (by kernel_rfl) rfl #[.slice A0_1 l0_1.length c0_1, .slice A1_1 l1_1.length c1_1] (by rfl) rfl rfl (zE) ?_
 with_reducible refine (zam.calls k _ _ l0_1 _ _ l1_1 t911 _ ?side1 ?side2 ?side3 ?side4 A6.out).mono ?_
 (case side1 => exact zJ (Kd.za6 HR0_1.out HB.out))
 (case side2 => exact HC0_1.out)
 (case side3 => exact zJ (Kd.za6 HR1_1.out HB.out))
 (case side4 => exact HC1_1.out)
 rintro e w17 ⟨v912, rfl, ho0, hb⟩
 refine ⟨_, rfl, ?_⟩
 have n0_ := zA (Kd.zbp (zR HO904) (Kd.za1 ho0) hb)
 have n1_ := zA (Kd.zbp (zR HO907) (Kd.za1 ho0) hb)
 have n2_ := zA (Kd.zbp (zR HO910) (Kd.za1 ho0) hb)
 have n3_ := zA (Kd.zbm (Kd.zbk (Kd.zbk (Kd.zbk ho0 (Kd.R_lt (zR HO904))) (Kd.R_lt (zR HO907))) (Kd.R_lt (zR HO910))) (za (zB HB)))
 have n4_ := zA (zaa (g := gb899) (o := .cells #[.slice A0_0 l0_0.length c0_0, .slice A0_1 l0_1.length c0_1] 40 (0, 0)) (zK BK899) hb)
 have n5_ := zA (zaa (g := gb900) (o := .cells #[.slice A1_0 l1_0.length c1_0, .slice A1_1 l1_1.length c1_1] 40 (0, 0)) (zK BK900) hb)
 have n6_ := zA (zaa (g := gb901) (o := .cells #[.slice none 0 0, .slice none 0 0] 40 (0, 0)) (zK BK901) hb)
 have n7_ := zA (zaf (zB HB) hb)
 clear HO904 HO907 HO910 BK899 BK900 BK901 HB
 have HO904 := n0_
 have HO907 := n1_
 have HO910 := n2_
 have HO913 := n3_
 have BK899 := n4_
 have BK900 := n5_
 have BK901 := n6_
 have HB := n7_
 clear n0_ n1_ n2_ n3_ n4_ n5_ n6_ n7_
 (try clear hb)
 (try clear hb2)
 (try clear hk)
 (try clear hi)
 (try clear ho0)
 obtain ⟨Ao18, co18, eo18⟩ := Kd.zbn HO910.out
 (first | subst eo18 | (injection eo18 with f1_ f2_ f3_; have f4_ := f1_.symm; have f5_ := f3_.symm; clear f1_ f2_ f3_; subst f4_; subst f5_))
 obtain ⟨Ao19, co19, eo19⟩ := Kd.zbn HO913.out
 (first | subst eo19 | (injection eo19 with f1_ f2_ f3_; have f4_ := f1_.symm; have f5_ := f3_.symm; clear f1_ f2_ f3_; subst f4_; subst f5_))
 refine hK.out _ _ ⟨(zad BK899.out 0).trans rfl, (zad BK899.out 1).trans rfl, (zad BK900.out 0).trans rfl, (zad BK900.out 1).trans rfl⟩ (fun hHeld => ?_)
 clear hK K
 refine norm_ (a' := ?_) ?_ ?_
 rotate_left
 ·
  show Act.put _ (some 20) _ = _
  simp only [Act.put, zs1, zs2, zs3, i64_w, i32_w]
  rfl
 refine one_ (i := 16) (N := some 21) #[true, true, true, true, true, true, true, true, true, true, true, true, true, true, true, true, true, false] rfl rfl (zcf HT_.out (by kernel_rfl)) (by decide) (fun K hK => ?_)
 refine goes_ Tryd.func59 (by kernel_rfl) rfl #[.slice Ao18 t908.length co18, .slice Ao19 t911.length co19] (by rfl) rfl rfl (zE) ?_
 with_reducible refine (zb1.calls k _ _ t908 _ _ t911 t914 t917 _ ?side1 ?side2 ?side3 ?side4 A7.out).mono ?_
 (case side1 => exact zJ (Kd.zat HO910.out).2.2)
 (case side2 => exact (Kd.zat HO910.out).2.1)
 (case side3 => exact zJ (Kd.zat HO913.out).2.2)
 (case side4 => exact (Kd.zat HO913.out).2.1)
 rintro e w20 ⟨v915, v918, rfl, ho0, ho1, hb⟩
 refine ⟨_, rfl, ?_⟩
 have n0_ := zA (Kd.zav (Kd.zci (Kd.zci (Kd.R_old (zR HO904) hb) (Kd.za1 ho0)) (Kd.za1 ho1)) (fun _ h_ => h_.1))
 have n1_ := zA (Kd.zav (Kd.zci (Kd.zci (Kd.R_old (zR HO907) hb) (Kd.za1 ho0)) (Kd.za1 ho1)) (fun _ h_ => h_.1))
 have n2_ := zA (Kd.zav (Kd.zci (Kd.zci (Kd.R_old (zR HO910) hb) (Kd.za1 ho0)) (Kd.za1 ho1)) (fun _ h_ => h_.1))
 have n3_ := zA (Kd.zav (Kd.zci (Kd.zci (Kd.R_old (zR HO913) hb) (Kd.za1 ho0)) (Kd.za1 ho1)) (fun _ h_ => h_.1))
 have n4_ := zA (Kd.zbm (Kd.zbk (Kd.zbk (Kd.zbk (Kd.zbk ho0 (Kd.R_lt (zR HO904))) (Kd.R_lt (zR HO907))) (Kd.R_lt (zR HO910))) (Kd.R_lt (zR HO913))) (za (zB HB)))
 have n5_ := zA (Kd.zbm (Kd.zbk (Kd.zbk (Kd.zbk (Kd.zbk ho1 (Kd.R_lt (zR HO904))) (Kd.R_lt (zR HO907))) (Kd.R_lt (zR HO910))) (Kd.R_lt (zR HO913))) (za (zB HB)))
 have n6_ := zA (zaa (g := gb899) (o := .cells #[.slice A0_0 l0_0.length c0_0, .slice A0_1 l0_1.length c0_1] 40 (0, 0)) (zK BK899) hb)
 have n7_ := zA (zaa (g := gb900) (o := .cells #[.slice A1_0 l1_0.length c1_0, .slice A1_1 l1_1.length c1_1] 40 (0, 0)) (zK BK900) hb)
 have n8_ := zA (zaa (g := gb901) (o := .cells #[.slice none 0 0, .slice none 0 0] 40 (0, 0)) (zK BK901) hb)
 have n9_ := zA (zaf (zB HB) hb)
 clear HO904 HO907 HO910 HO913 BK899 BK900 BK901 HB
 have HO904 := n0_
 have HO907 := n1_
 have HO910 := n2_
 have HO913 := n3_
 have HO916 := n4_
 have HO919 := n5_
 have BK899 := n6_
 have BK900 := n7_
 have BK901 := n8_
 have HB := n9_
 clear n0_ n1_ n2_ n3_ n4_ n5_ n6_ n7_ n8_ n9_
 (try clear hb)
 (try clear hb2)
 (try clear hk)
 (try clear hi)
 (try clear ho0)
 (try clear ho1)
 obtain ⟨Ao21, co21, eo21⟩ := Kd.zbn HO916.out
 (first | subst eo21 | (injection eo21 with f1_ f2_ f3_; have f4_ := f1_.symm; have f5_ := f3_.symm; clear f1_ f2_ f3_; subst f4_; subst f5_))
 obtain ⟨Ao23, co23, eo23⟩ := Kd.zbn HO919.out
 (first | subst eo23 | (injection eo23 with f1_ f2_ f3_; have f4_ := f1_.symm; have f5_ := f3_.symm; clear f1_ f2_ f3_; subst f4_; subst f5_))
 refine hK.out _ _ ⟨(zad BK899.out 0).trans rfl, (zad BK899.out 1).trans rfl, (zad BK900.out 0).trans rfl, (zad BK900.out 1).trans rfl⟩ (fun hHeld => ?_)
 clear hK K
 refine norm_ (a' := ?_) ?_ ?_
 rotate_left
 ·
  show Act.put _ (some 21) _ = _
  simp only [Act.put, zs1, zs2, zs3, i64_w, i32_w]
  rfl
 refine one_ (i := 17) (N := none) #[true, true, true, true, true, true, true, true, true, true, true, true, true, true, true, true, true, true] rfl rfl (zcf HT_.out (by kernel_rfl)) (by decide) (fun K hK => ?_)
 have hs22 : w20.cell? ⟨gb901, 0, none⟩ = some (.slice none 0 0) := (zad BK901.out 0).trans rfl
 have hfs22 := zal BK901.out 0
 have hns22_0 := NB899_901.out
 have hns22_1 := NB900_901.out
 have hms22_0 := NB901_899.out
 have hms22_1 := NB901_900.out
 have hs24 : w20.cell? ⟨gb901, 1, none⟩ = some (.slice none 0 0) := (zad BK901.out 1).trans rfl
 have hfs24 := zal BK901.out 1
 have hns24_0 := NB899_901.out
 have hns24_1 := NB900_901.out
 have hms24_0 := NB901_899.out
 have hms24_1 := NB901_900.out
 refine skip_ (w1 := ?_) (by rfl) rfl ?_ ?_
 rotate_left
 ·
  go_simp
  rfl
 refine hK.out _ _ ⟨((cell_far (p := ⟨gb901, _, none⟩) NB899_901.out _).trans (((cell_far (p := ⟨gb901, _, none⟩) NB899_901.out _).trans (hHeld.1)))), ((cell_far (p := ⟨gb901, _, none⟩) NB899_901.out _).trans (((cell_far (p := ⟨gb901, _, none⟩) NB899_901.out _).trans (hHeld.2.1)))), ((cell_far (p := ⟨gb901, _, none⟩) NB900_901.out _).trans (((cell_far (p := ⟨gb901, _, none⟩) NB900_901.out _).trans (hHeld.2.2.1)))), ((cell_far (p := ⟨gb901, _, none⟩) NB900_901.out _).trans (((cell_far (p := ⟨gb901, _, none⟩) NB900_901.out _).trans (hHeld.2.2.2))))⟩ (fun hHeld => ?_)
 clear hK K
 refine done_ (done_of HT_.out (by kernel_rfl)) ?_
 try go_wp2
 refine bodyPost_ret (results_cell_row rfl _ _ gb901 40 #[.slice Ao21 t914.length co21, .slice Ao23 t917.length co23] (0, 0) _ rfl (by (with_reducible repeat (first | refine zab ?_ _ | refine zae ?_ | refine zac ?_ _)); refine zbo (cs := #[.slice Ao21 t914.length co21, .slice none 0 0]) ?_ 1 _ rfl; (with_reducible repeat (first | refine zab ?_ _ | refine zae ?_ | refine zac ?_ _)); refine zbo (cs := #[.slice none 0 0, .slice none 0 0]) ?_ 0 _ rfl; (with_reducible repeat (first | refine zab ?_ _ | refine zae ?_ | refine zac ?_ _)); exact BK901.out) Tryd.underlying40 rfl (by kernel_rfl)) rfl ?_
 exact ⟨_, _, zW, by (with_reducible repeat (first | apply Kd.za3 | apply Kd.za4 | apply Kd.zbb)); exact Kd.zav (Kd.R_far (p := ⟨gb901, 1, none⟩) (Kd.R_far (p := ⟨gb901, 0, none⟩) (Kd.zbe HO916.out BK901.out (by decide)) (fun _ hk => hk.2) (.slice Ao21 t914.length co21)) (fun _ hk => hk.2) (.slice Ao23 t917.length co23)) (fun _ hk => hk.1.1.1.1.1), by (with_reducible repeat (first | apply Kd.za3 | apply Kd.za4 | apply Kd.zbb)); exact Kd.zav (Kd.R_far (p := ⟨gb901, 1, none⟩) (Kd.R_far (p := ⟨gb901, 0, none⟩) (Kd.zbe HO919.out BK901.out (by decide)) (fun _ hk => hk.2) (.slice Ao21 t914.length co21)) (fun _ hk => hk.2) (.slice Ao23 t917.length co23)) (fun _ hk => hk.1.1.1.1.1), zB HB⟩
end Go.Proofs.YtfjkamhcabckeaaDoor.P
end
