-- Written by a program of this session (wip/tools/shake.py) out of its own texts and of the kit's printed ones; not trusted: Lean checks it.
import Derived.Test.YtfjkamhcabckeaaDoorZRatioSums8
set_option maxHeartbeats 8000000
set_option maxRecDepth 100000
set_option linter.unusedVariables false
set_option linter.unusedSimpArgs false
section
namespace Go.Proofs.YtfjkamhcabckeaaDoor.P
open Go.RowKit Go.Proofs.YtfjkamhcabckeaaDoorW.PrintWords Go.Proofs.YtfjkamhcabckeaaDoorW.PrintLast Go.Proofs.YtfjkamhcabckeaaDoorW.PrintMore
attribute [local go_sem] zdo zdl max_two min_two zc9 zdb zdm zdk
mutual
def zaj.j0 : Nat → Bool → List Int → List Int → List Int → List Int → List Int → List Int → List Int → List Int → Option (Bool)
 | 0, _, _, _, _, _, _, _, _, _ => none
 | k + 1, x47, x936000, x936001, x937000, x937001, x951000, x951001, x952000, x952001 => if x47 = true then ((zbq.f k).bind fun t953 => (some t953)) else ((zb3.f k x937000 x937001 x952000 x952001).bind fun t954 => ((ratio_Sub.f k x936000 x936001 x951000 x951001).bind fun bt955 => ((ratio_Cmp.f k x936000 x936001 x951000 x951001).bind fun t963 => (if t963 = t954 then ((ratio_Add.f k x936000 x936001 x951000 x951001).bind fun bt964 => ((zb2.f k x937000 x937001 x952000 x952001).bind fun bt970 => ((zcr.f k bt964.1 bt964.2 bt970.1 bt970.2).bind fun t976 => (zaj.j1 k t954 bt955.2.2 (!t976) x937000 x937001 x952000 x952001 bt955.1 bt955.2.1)))) else (zaj.j1 k t954 bt955.2.2 true x937000 x937001 x952000 x952001 bt955.1 bt955.2.1)))))
def zaj.j1 : Nat → Int → Int → Bool → List Int → List Int → List Int → List Int → List Int → List Int → Option (Bool)
 | 0, _, _, _, _, _, _, _, _, _ => none
 | k + 1, x11, x13, x72, x937000, x937001, x952000, x952001, x963000, x963001 => if x72 = true then (none) else (if x11 < 0 then (if x13 = 14 then (if (x963000.length : Int) = 0 then (some ((x963001.length : Int) == 0)) else (none)) else (none)) else (if x13 = 0 then ((zb4.f k x937000 x937001 x952000 x952001).bind fun bt977 => ((zcr.f k x963000 x963001 bt977.1 bt977.2).bind fun t983 => (if t983 = true then ((zcy.f k x963000 x963001).bind fun t984 => (some t984)) else (none)))) else (none)))
end
def zaj.f (k : Nat) (l0_0 : List Int) (l0_1 : List Int) (l1_0 : List Int) (l1_1 : List Int) : Option (Bool) := (zar.f k l0_0 l0_1).bind fun bt922 => ((zar.f k l1_0 l1_1).bind fun bt937 => ((zbq.f k).bind fun t952 => (if t952 = true then (if (l0_1.length : Int) = 0 then (zaj.j0 k true bt922.1 bt922.2.1 bt922.2.2.1 bt922.2.2.2.1 bt937.1 bt937.2.1 bt937.2.2.1 bt937.2.2.2.1) else (if (l1_1.length : Int) = 0 then (zaj.j0 k true bt922.1 bt922.2.1 bt922.2.2.1 bt922.2.2.2.1 bt937.1 bt937.2.1 bt937.2.2.1 bt937.2.2.2.1) else (if bt922.2.2.2.2 = true then (zaj.j0 k (!bt937.2.2.2.2) bt922.1 bt922.2.1 bt922.2.2.1 bt922.2.2.2.1 bt937.1 bt937.2.1 bt937.2.2.1 bt937.2.2.2.1) else (zaj.j0 k true bt922.1 bt922.2.1 bt922.2.2.1 bt922.2.2.2.1 bt937.1 bt937.2.1 bt937.2.2.1 bt937.2.2.2.1)))) else (zaj.j0 k true bt922.1 bt922.2.1 bt922.2.2.1 bt922.2.2.2.1 bt937.1 bt937.2.1 bt937.2.2.1 bt937.2.2.2.1))))
def zaj.T7 : Bool × List (List Nat × List Nat) := (true, [([], []), ([], []), ([0, 1], [0, 1]), ([], []), ([2, 3], [2, 3]), ([4, 2], [4]), ([5], [5]), ([5], [5]), ([6, 7, 5, 5], [5, 6, 7]), ([5], [5]), ([5], [5]), ([9, 10, 8, 5], [5, 9, 10]), ([8, 11, 11, 5], [5, 8, 11]), ([12, 5], [5, 12]), ([5, 13], [5, 13])])
def zaj.B7 : List Nat := [0, 0, 3, 0, 15, 31, 63, 63, 255, 63, 63, 2047, 4095, 8191, 16383]
theorem zaj.tab7 : rtab .any (opsOf Tryd.f7 7) = zaj.T7 := by kernel_rfl
theorem zaj.bits7 : waitsOk zaj.T7.2 zaj.B7 = true := by kernel_rfl
def zaj.T11 : Bool × List (List Nat × List Nat) := (true, [([], []), ([0], [0]), ([1], [1]), ([2], [2]), ([2], [2]), ([2], [2]), ([4, 5, 2, 2], [2, 4, 5]), ([3, 6, 6, 2], [2, 3, 6]), ([2, 7], [2, 7]), ([8, 7], [8]), ([9], [9]), ([10, 9, 9], [9, 10]), ([9, 11], [9, 11]), ([12, 11, 0, 1, 2, 3, 4, 5, 6, 7, 8, 9, 10, 11, 12], [12])])
def zaj.B11 : List Nat := [0, 1, 3, 7, 7, 7, 55, 127, 255, 511, 1023, 2047, 4095, 8191]
theorem zaj.tab11 : rtab .any (opsOf Tryd.f7 11) = zaj.T11 := by kernel_rfl
theorem zaj.bits11 : waitsOk zaj.T11.2 zaj.B11 = true := by kernel_rfl
theorem zaj.calls (k : Nat) (A0_0 : Option Addr) (c0_0 : Nat) (l0_0 : List Int) (A0_1 : Option Addr) (c0_1 : Nat) (l0_1 : List Int) (A1_0 : Option Addr) (c1_0 : Nat) (l1_0 : List Int) (A1_1 : Option Addr) (c1_1 : Nat) (l1_1 : List Int) (r : Bool) (w : World) (hr0_0 : Kd.C (Kd.int .u64) w A0_0 l0_0.length l0_0) (hc0_0 : l0_0.length ≤ c0_0) (hr0_1 : Kd.C (Kd.int .u64) w A0_1 l0_1.length l0_1) (hc0_1 : l0_1.length ≤ c0_1) (hr1_0 : Kd.C (Kd.int .u64) w A1_0 l1_0.length l1_0) (hc1_0 : l1_0.length ≤ c1_0) (hr1_1 : Kd.C (Kd.int .u64) w A1_1 l1_1.length l1_1) (hc1_1 : l1_1.length ≤ c1_1) (hG : Glob w) (h : zaj.f k l0_0 l0_1 l1_0 l1_1 = some r) :
  Calls Tryd.prog 7 #[.agg #[.slice A0_0 l0_0.length c0_0, .slice A0_1 l0_1.length c0_1], .agg #[.slice A1_0 l1_0.length c1_0, .slice A1_1 l1_1.length c1_1]] w fun e w' => e = .returned (.bool r) ∧ Below w.heap.size w w' := by
 have hu24 := Tryd.underlying24
 have hu28 := Tryd.underlying28
 have hu40 := Tryd.underlying40
 have HR0_0 := zA hr0_0
 have HC0_0 := zA hc0_0
 clear hr0_0 hc0_0
 have HR0_1 := zA hr0_1
 have HC0_1 := zA hc0_1
 clear hr0_1 hc0_1
 have HR1_0 := zA hr1_0
 have HC1_0 := zA hc1_0
 clear hr1_0 hc1_0
 have HR1_1 := zA hr1_1
 have HC1_1 := zA hc1_1
 clear hr1_1 hc1_1
 have HG := zA hG
 clear hG
 have HB := zA (Below.refl w.heap.size w)
 have H : ((zar.f k l0_0 l0_1).bind fun bt922 => ((zar.f k l1_0 l1_1).bind fun bt937 => ((zbq.f k).bind fun t952 => (if t952 = true then (if (l0_1.length : Int) = 0 then (zaj.j0 k true bt922.1 bt922.2.1 bt922.2.2.1 bt922.2.2.2.1 bt937.1 bt937.2.1 bt937.2.2.1 bt937.2.2.2.1) else (if (l1_1.length : Int) = 0 then (zaj.j0 k true bt922.1 bt922.2.1 bt922.2.2.1 bt922.2.2.2.1 bt937.1 bt937.2.1 bt937.2.2.1 bt937.2.2.2.1) else (if bt922.2.2.2.2 = true then (zaj.j0 k (!bt937.2.2.2.2) bt922.1 bt922.2.1 bt922.2.2.1 bt922.2.2.2.1 bt937.1 bt937.2.1 bt937.2.2.1 bt937.2.2.2.1) else (zaj.j0 k true bt922.1 bt922.2.1 bt922.2.2.1 bt922.2.2.2.1 bt937.1 bt937.2.1 bt937.2.2.1 bt937.2.2.2.1)))) else (zaj.j0 k true bt922.1 bt922.2.1 bt922.2.2.1 bt922.2.2.2.1 bt937.1 bt937.2.1 bt937.2.2.1 bt937.2.2.2.1))))) = some r := h
 clear h
 replace H := zO H
 obtain ⟨⟨t922, t925, t928, t931, t934⟩, A30, H⟩ := H
 try dsimp only at H
 have A3 := zA A30
 clear A30
 replace H := zO H
 obtain ⟨⟨t937, t940, t943, t946, t949⟩, A40, H⟩ := H
 try dsimp only at H
 have A4 := zA A40
 clear A40
 have HC5 := zA H
 clear H
 go_enter Tryd.func7, Tryd.ntmps7
 go_upto_region 3 with (first | ((with_reducible refine zbh (N := 2) rfl ?_); (try (refine zcp (by rfl) ?_; dsimp only)); refine zbj ?hg (N := 2) ?hd (cs := #[.slice A0_0 l0_0.length c0_0, .slice A0_1 l0_1.length c0_1]) (t := 24) ?hr ?_; (case hd => rfl); (case hg => rfl); (case hr => first | (go_simp; done) | (go_simp; rfl)); intro gb920 hg w6 hbox hb; have n0_ := zA (zaf (zB HB) hb); have n1_ := zA (hbox); have n2_ := zA ((by rw [hg]; exact (za (zB HB)) : w.heap.size ≤ gb920)); have n3_ := zA ((by rw [hg]; exact (za (zB HB)) : w.heap.size ≤ gb920)); clear HB; have HB := n0_; have BK920 := n1_; have GW920 := n2_; have GE920 := n3_; clear n0_ n1_ n2_ n3_ hb hbox hg) | ((with_reducible refine zbh (N := 3) rfl ?_); (try (refine zcp (by rfl) ?_; dsimp only)); refine zbj ?hg (N := 3) ?hd (cs := #[.slice A1_0 l1_0.length c1_0, .slice A1_1 l1_1.length c1_1]) (t := 24) ?hr ?_; (case hd => rfl); (case hg => rfl); (case hr => first | (go_simp; done) | (go_simp; rfl)); intro gb921 hg w7 hbox hb; have n0_ := zA (zaa (g := gb920) (o := .cells #[.slice A0_0 l0_0.length c0_0, .slice A0_1 l0_1.length c0_1] 24 (0, 0)) (zK BK920) hb); have n1_ := zA (zaf (zB HB) hb); have n2_ := zA (hbox); have n3_ := zA ((by rw [hg]; exact (za (zB HB)) : w.heap.size ≤ gb921)); have n4_ := zA ((by rw [hg]; exact (za (zB HB)) : w.heap.size ≤ gb921)); have n5_ := zA ((by rw [hg]; exact Nat.ne_of_lt (za5 (g := gb920) (o := .cells #[.slice A0_0 l0_0.length c0_0, .slice A0_1 l0_1.length c0_1] 24 (0, 0)) (zK BK920)) : gb920 ≠ gb921)); have n6_ := zA ((by rw [hg]; exact Nat.ne_of_gt (za5 (g := gb920) (o := .cells #[.slice A0_0 l0_0.length c0_0, .slice A0_1 l0_1.length c0_1] 24 (0, 0)) (zK BK920)) : gb921 ≠ gb920)); clear BK920 HB; have BK920 := n0_; have HB := n1_; have BK921 := n2_; have GW921 := n3_; have GE921 := n4_; have NB920_921 := n5_; have NB921_920 := n6_; clear n0_ n1_ n2_ n3_ n4_ n5_ n6_ hb hbox hg; have hnb8 := NB920_921.out; have hnc8 := NB921_920.out; have hcz9_0 : w7.cell? ⟨gb920, 0, none⟩ = some (.slice A0_0 l0_0.length c0_0) := (zad BK920.out 0).trans rfl; have hcz9_1 : w7.cell? ⟨gb920, 1, none⟩ = some (.slice A0_1 l0_1.length c0_1) := (zad BK920.out 1).trans rfl; have hfz9_0 := zal BK920.out 0; have hfz9_1 := zal BK920.out 1) | ((with_reducible refine zah (f := 25) rfl ?_); refine zba (some 16) rfl rfl Tryd.func25 (by kernel_rfl) rfl #[.agg #[.slice A0_0 l0_0.length c0_0, .slice A0_1 l0_1.length c0_1]] rfl (zE) ?_; (with_reducible refine (zar.calls k _ _ l0_0 _ _ l0_1 t922 t925 t928 t931 t934 _ ?side1 ?side2 ?side3 ?side4 A3.out).mono ?_); (case side1 => exact zJ (Kd.za6 HR0_0.out HB.out)); (case side2 => exact HC0_0.out); (case side3 => exact zJ (Kd.za6 HR0_1.out HB.out)); (case side4 => exact HC0_1.out); rintro e w10 ⟨v923, v926, v929, v932, rfl, ho0, ho1, ho2, ho3, hb⟩; refine ⟨_, rfl, ?_⟩; have n0_ := zA (Kd.zbi (Kd.zak (ok' := fun k_ => some k_ ≠ (v929 : Value).ownBlock ∧ some k_ ≠ (v932 : Value).ownBlock ∧ k_ ≠ gb920 ∧ k_ ≠ gb921) ho0 (fun k_ hk_ => ⟨hk_.2.1, hk_.2.2, (Kd.freshB (g := gb920) (o := .cells #[.slice A0_0 l0_0.length c0_0, .slice A0_1 l0_1.length c0_1] 24 (0, 0)) (zK BK920) k_ hk_.1), (Kd.freshB (g := gb921) (o := .cells #[.slice A1_0 l1_0.length c1_0, .slice A1_1 l1_1.length c1_1] 24 (0, 0)) (zK BK921) k_ hk_.1)⟩)) (za (zB HB))); have n1_ := zA (Kd.zbi (Kd.zak (ok' := fun k_ => some k_ ≠ (v929 : Value).ownBlock ∧ some k_ ≠ (v932 : Value).ownBlock ∧ k_ ≠ gb920 ∧ k_ ≠ gb921) ho1 (fun k_ hk_ => ⟨hk_.2.1, hk_.2.2, (Kd.freshB (g := gb920) (o := .cells #[.slice A0_0 l0_0.length c0_0, .slice A0_1 l0_1.length c0_1] 24 (0, 0)) (zK BK920) k_ hk_.1), (Kd.freshB (g := gb921) (o := .cells #[.slice A1_0 l1_0.length c1_0, .slice A1_1 l1_1.length c1_1] 24 (0, 0)) (zK BK921) k_ hk_.1)⟩)) (za (zB HB))); have n2_ := zA (Kd.zbm (Kd.zav (ok' := fun k_ => some k_ ≠ (v932 : Value).ownBlock) ho2 (fun _ hk_ => hk_.2)) (za (zB HB))); have n3_ := zA (Kd.zbm (Kd.zav (ok' := fun k_ => some k_ ≠ (v929 : Value).ownBlock) ho3 (fun _ hk_ => hk_.2)) (za (zB HB))); have n4_ := zA (zaa (g := gb920) (o := .cells #[.slice A0_0 l0_0.length c0_0, .slice A0_1 l0_1.length c0_1] 24 (0, 0)) (zK BK920) hb); have n5_ := zA (zaa (g := gb921) (o := .cells #[.slice A1_0 l1_0.length c1_0, .slice A1_1 l1_1.length c1_1] 24 (0, 0)) (zK BK921) hb); have n6_ := zA (zaf (zB HB) hb); clear BK920 BK921 HB; have HO924 := n0_; have HO927 := n1_; have HO930 := n2_; have HO933 := n3_; have BK920 := n4_; have BK921 := n5_; have HB := n6_; clear n0_ n1_ n2_ n3_ n4_ n5_ n6_; (try clear hb); (try clear hb2); (try clear hk); (try clear hi); (try clear ho0); (try clear ho1); (try clear ho2); (try clear ho3)) | ((with_reducible refine zbh (N := 5) rfl ?_); (try (refine zcp (by rfl) ?_; dsimp only)); refine zbj ?hg (N := 5) ?hd (cs := #[.slice none 0 0, .slice none 0 0]) (t := 28) ?hr ?_; (case hd => rfl); (case hg => rfl); (case hr => first | (go_simp; done) | (go_simp; rfl)); intro gb935 hg w11 hbox hb; have n0_ := zA (Kd.zao (Kd.zca (zV HO924) gb935 (Nat.le_of_eq hg.symm)) hb); have n1_ := zA (Kd.zao (Kd.zca (zV HO927) gb935 (Nat.le_of_eq hg.symm)) hb); have n2_ := zA (Kd.zax (zR HO930) hb); have n3_ := zA (Kd.zax (zR HO933) hb); have n4_ := zA (zaa (g := gb920) (o := .cells #[.slice A0_0 l0_0.length c0_0, .slice A0_1 l0_1.length c0_1] 24 (0, 0)) (zK BK920) hb); have n5_ := zA (zaa (g := gb921) (o := .cells #[.slice A1_0 l1_0.length c1_0, .slice A1_1 l1_1.length c1_1] 24 (0, 0)) (zK BK921) hb); have n6_ := zA (zaf (zB HB) hb); have n7_ := zA (hbox); have n8_ := zA ((by rw [hg]; exact (za (zB HB)) : w.heap.size ≤ gb935)); have n9_ := zA ((by rw [hg]; exact (za (zB HB)) : w.heap.size ≤ gb935)); have n10_ := zA ((by rw [hg]; exact Nat.ne_of_lt (za5 (g := gb920) (o := .cells #[.slice A0_0 l0_0.length c0_0, .slice A0_1 l0_1.length c0_1] 24 (0, 0)) (zK BK920)) : gb920 ≠ gb935)); have n11_ := zA ((by rw [hg]; exact Nat.ne_of_gt (za5 (g := gb920) (o := .cells #[.slice A0_0 l0_0.length c0_0, .slice A0_1 l0_1.length c0_1] 24 (0, 0)) (zK BK920)) : gb935 ≠ gb920)); have n12_ := zA ((by rw [hg]; exact Nat.ne_of_lt (za5 (g := gb921) (o := .cells #[.slice A1_0 l1_0.length c1_0, .slice A1_1 l1_1.length c1_1] 24 (0, 0)) (zK BK921)) : gb921 ≠ gb935)); have n13_ := zA ((by rw [hg]; exact Nat.ne_of_gt (za5 (g := gb921) (o := .cells #[.slice A1_0 l1_0.length c1_0, .slice A1_1 l1_1.length c1_1] 24 (0, 0)) (zK BK921)) : gb935 ≠ gb921)); clear HO924 HO927 HO930 HO933 BK920 BK921 HB; have HO924 := n0_; have HO927 := n1_; have HO930 := n2_; have HO933 := n3_; have BK920 := n4_; have BK921 := n5_; have HB := n6_; have BK935 := n7_; have GW935 := n8_; have GE935 := n9_; have NB920_935 := n10_; have NB935_920 := n11_; have NB921_935 := n12_; have NB935_921 := n13_; clear n0_ n1_ n2_ n3_ n4_ n5_ n6_ n7_ n8_ n9_ n10_ n11_ n12_ n13_ hb hbox hg) | ((with_reducible refine zbh (N := 6) rfl ?_); (try (refine zcp (by rfl) ?_; dsimp only)); refine zbj ?hg (N := 6) ?hd (cs := #[.slice none 0 0, .slice none 0 0]) (t := 40) ?hr ?_; (case hd => rfl); (case hg => rfl); (case hr => first | (go_simp; done) | (go_simp; rfl)); intro gb936 hg w12 hbox hb; have n0_ := zA (Kd.zao (Kd.zca (zV HO924) gb936 (Nat.le_of_eq hg.symm)) hb); have n1_ := zA (Kd.zao (Kd.zca (zV HO927) gb936 (Nat.le_of_eq hg.symm)) hb); have n2_ := zA (Kd.zax (zR HO930) hb); have n3_ := zA (Kd.zax (zR HO933) hb); have n4_ := zA (zaa (g := gb920) (o := .cells #[.slice A0_0 l0_0.length c0_0, .slice A0_1 l0_1.length c0_1] 24 (0, 0)) (zK BK920) hb); have n5_ := zA (zaa (g := gb921) (o := .cells #[.slice A1_0 l1_0.length c1_0, .slice A1_1 l1_1.length c1_1] 24 (0, 0)) (zK BK921) hb); have n6_ := zA (zaa (g := gb935) (o := .cells #[.slice none 0 0, .slice none 0 0] 28 (0, 0)) (zK BK935) hb); have n7_ := zA (zaf (zB HB) hb); have n8_ := zA (hbox); have n9_ := zA ((by rw [hg]; exact (za (zB HB)) : w.heap.size ≤ gb936)); have n10_ := zA ((by rw [hg]; exact (za (zB HB)) : w.heap.size ≤ gb936)); have n11_ := zA ((by rw [hg]; exact Nat.ne_of_lt (za5 (g := gb920) (o := .cells #[.slice A0_0 l0_0.length c0_0, .slice A0_1 l0_1.length c0_1] 24 (0, 0)) (zK BK920)) : gb920 ≠ gb936)); have n12_ := zA ((by rw [hg]; exact Nat.ne_of_gt (za5 (g := gb920) (o := .cells #[.slice A0_0 l0_0.length c0_0, .slice A0_1 l0_1.length c0_1] 24 (0, 0)) (zK BK920)) : gb936 ≠ gb920)); have n13_ := zA ((by rw [hg]; exact Nat.ne_of_lt (za5 (g := gb921) (o := .cells #[.slice A1_0 l1_0.length c1_0, .slice A1_1 l1_1.length c1_1] 24 (0, 0)) (zK BK921)) : gb921 ≠ gb936)); have n14_ := zA ((by rw [hg]; exact Nat.ne_of_gt (za5 (g := gb921) (o := .cells #[.slice A1_0 l1_0.length c1_0, .slice A1_1 l1_1.length c1_1] 24 (0, 0)) (zK BK921)) : gb936 ≠ gb921)); have n15_ := zA ((by rw [hg]; exact Nat.ne_of_lt (za5 (g := gb935) (o := .cells #[.slice none 0 0, .slice none 0 0] 28 (0, 0)) (zK BK935)) : gb935 ≠ gb936)); have n16_ := zA ((by rw [hg]; exact Nat.ne_of_gt (za5 (g := gb935) (o := .cells #[.slice none 0 0, .slice none 0 0] 28 (0, 0)) (zK BK935)) : gb936 ≠ gb935)); clear HO924 HO927 HO930 HO933 BK920 BK921 BK935 HB; have HO924 := n0_; have HO927 := n1_; have HO930 := n2_; have HO933 := n3_; have BK920 := n4_; have BK921 := n5_; have BK935 := n6_; have HB := n7_; have BK936 := n8_; have GW936 := n9_; have GE936 := n10_; have NB920_936 := n11_; have NB936_920 := n12_; have NB921_936 := n13_; have NB936_921 := n14_; have NB935_936 := n15_; have NB936_935 := n16_; clear n0_ n1_ n2_ n3_ n4_ n5_ n6_ n7_ n8_ n9_ n10_ n11_ n12_ n13_ n14_ n15_ n16_ hb hbox hg; obtain ⟨Ao13, co13, eo13⟩ := Kd.zbt HO924.out; subst eo13; have hnb14 := NB935_920.out; have hnc14 := NB920_935.out; have hnb15 := NB935_921.out; have hnc15 := NB921_935.out; have hnb16 := NB935_936.out; have hnc16 := NB936_935.out; have hcz17_0 : w12.cell? ⟨gb935, 0, none⟩ = some (.slice none 0 0) := (zad BK935.out 0).trans rfl; have hcz17_1 : w12.cell? ⟨gb935, 1, none⟩ = some (.slice none 0 0) := (zad BK935.out 1).trans rfl; have hfz17_0 := zal BK935.out 0; have hfz17_1 := zal BK935.out 1; obtain ⟨Ao18, co18, eo18⟩ := Kd.zbt HO927.out; subst eo18; obtain ⟨Ao19, co19, eo19⟩ := Kd.zbn HO930.out; subst eo19; have hnb20 := NB936_920.out; have hnc20 := NB920_936.out; have hnb21 := NB936_921.out; have hnc21 := NB921_936.out; have hcz22_0 : w12.cell? ⟨gb936, 0, none⟩ = some (.slice none 0 0) := (zad BK936.out 0).trans rfl; have hcz22_1 : w12.cell? ⟨gb936, 1, none⟩ = some (.slice none 0 0) := (zad BK936.out 1).trans rfl; have hfz22_0 := zal BK936.out 0; have hfz22_1 := zal BK936.out 1; obtain ⟨Ao23, co23, eo23⟩ := Kd.zbn HO933.out; subst eo23; have hcz24_0 : w12.cell? ⟨gb921, 0, none⟩ = some (.slice A1_0 l1_0.length c1_0) := (zad BK921.out 0).trans rfl; have hcz24_1 : w12.cell? ⟨gb921, 1, none⟩ = some (.slice A1_1 l1_1.length c1_1) := (zad BK921.out 1).trans rfl; have hfz24_0 := zal BK921.out 0; have hfz24_1 := zal BK921.out 1) | ((with_reducible refine zah (f := 25) rfl ?_); refine zba (some 22) rfl rfl Tryd.func25 (by kernel_rfl) rfl #[.agg #[.slice A1_0 l1_0.length c1_0, .slice A1_1 l1_1.length c1_1]] rfl (zE) ?_; (with_reducible refine (zar.calls k _ _ l1_0 _ _ l1_1 t937 t940 t943 t946 t949 _ ?side1 ?side2 ?side3 ?side4 A4.out).mono ?_); (case side1 => exact Kd.za6 HR1_0.out (zB HB)); (case side2 => exact HC1_0.out); (case side3 => exact Kd.za6 HR1_1.out (zB HB)); (case side4 => exact HC1_1.out); rintro e w25 ⟨v938, v941, v944, v947, rfl, ho0, ho1, ho2, ho3, hb⟩; refine ⟨_, rfl, ?_⟩; have n0_ := zA (Kd.zak (Kd.zch (Kd.zch (Kd.V_old (by (with_reducible repeat (first | apply Kd.za8 | apply Kd.za9 | apply Kd.zbc)); exact (Kd.zak (Kd.zak (Kd.V_far (p := ⟨gb936, 1, none⟩) (Kd.V_far (p := ⟨gb936, 0, none⟩) (Kd.V_far (p := ⟨gb935, 1, none⟩) (Kd.V_far (p := ⟨gb935, 0, none⟩) (Kd.zak (Kd.zak HO924.out (fun k_ hk => (⟨hk, hk.1.2⟩ : _ ∧ k_ ≠ gb935))) (fun k_ hk => (⟨hk, hk.1.2⟩ : _ ∧ k_ ≠ gb936))) (fun _ hk => hk.1.2) (.slice Ao13 t922.length co13)) (fun _ hk => hk.1.2) (.slice Ao18 t925.length co18)) (fun _ hk => hk.2) (.slice Ao19 t928.length co19)) (fun _ hk => hk.2) (.slice Ao23 t931.length co23)) (fun _ h_ => h_.1)) (fun _ h_ => h_.1))) hb) (Kd.za1 ho2)) (Kd.za1 ho3)) (fun _ h_ => h_.1)); have n1_ := zA (Kd.zak (Kd.zch (Kd.zch (Kd.V_old (by (with_reducible repeat (first | apply Kd.za8 | apply Kd.za9 | apply Kd.zbc)); exact (Kd.zak (Kd.zak (Kd.V_far (p := ⟨gb936, 1, none⟩) (Kd.V_far (p := ⟨gb936, 0, none⟩) (Kd.V_far (p := ⟨gb935, 1, none⟩) (Kd.V_far (p := ⟨gb935, 0, none⟩) (Kd.zak (Kd.zak HO927.out (fun k_ hk => (⟨hk, hk.1.2⟩ : _ ∧ k_ ≠ gb935))) (fun k_ hk => (⟨hk, hk.1.2⟩ : _ ∧ k_ ≠ gb936))) (fun _ hk => hk.1.2) (.slice Ao13 t922.length co13)) (fun _ hk => hk.1.2) (.slice Ao18 t925.length co18)) (fun _ hk => hk.2) (.slice Ao19 t928.length co19)) (fun _ hk => hk.2) (.slice Ao23 t931.length co23)) (fun _ h_ => h_.1)) (fun _ h_ => h_.1))) hb) (Kd.za1 ho2)) (Kd.za1 ho3)) (fun _ h_ => h_.1)); have n2_ := zA (Kd.zav (Kd.zci (Kd.zci (Kd.R_old (by (with_reducible repeat (first | apply Kd.za3 | apply Kd.za4 | apply Kd.zbb)); exact (Kd.zav (Kd.zav (Kd.R_far (p := ⟨gb936, 1, none⟩) (Kd.R_far (p := ⟨gb936, 0, none⟩) (Kd.R_far (p := ⟨gb935, 1, none⟩) (Kd.R_far (p := ⟨gb935, 0, none⟩) (Kd.zbe (Kd.zbe HO930.out BK935.out (by decide)) BK936.out (by decide)) (fun _ hk => hk.1.2) (.slice Ao13 t922.length co13)) (fun _ hk => hk.1.2) (.slice Ao18 t925.length co18)) (fun _ hk => hk.2) (.slice Ao19 t928.length co19)) (fun _ hk => hk.2) (.slice Ao23 t931.length co23)) (fun _ h_ => h_.1)) (fun _ h_ => h_.1))) hb) (Kd.za1 ho2)) (Kd.za1 ho3)) (fun _ h_ => h_.1)); have n3_ := zA (Kd.zav (Kd.zci (Kd.zci (Kd.R_old (by (with_reducible repeat (first | apply Kd.za3 | apply Kd.za4 | apply Kd.zbb)); exact (Kd.zav (Kd.zav (Kd.R_far (p := ⟨gb936, 1, none⟩) (Kd.R_far (p := ⟨gb936, 0, none⟩) (Kd.R_far (p := ⟨gb935, 1, none⟩) (Kd.R_far (p := ⟨gb935, 0, none⟩) (Kd.zbe (Kd.zbe HO933.out BK935.out (by decide)) BK936.out (by decide)) (fun _ hk => hk.1.2) (.slice Ao13 t922.length co13)) (fun _ hk => hk.1.2) (.slice Ao18 t925.length co18)) (fun _ hk => hk.2) (.slice Ao19 t928.length co19)) (fun _ hk => hk.2) (.slice Ao23 t931.length co23)) (fun _ h_ => h_.1)) (fun _ h_ => h_.1))) hb) (Kd.za1 ho2)) (Kd.za1 ho3)) (fun _ h_ => h_.1)); have n4_ := zA (Kd.zbi (Kd.zak (ok' := fun k_ => some k_ ≠ (v944 : Value).ownBlock ∧ some k_ ≠ (v947 : Value).ownBlock ∧ some k_ ≠ (.slice Ao19 t928.length co19 : Value).ownBlock ∧ some k_ ≠ (.slice Ao23 t931.length co23 : Value).ownBlock ∧ k_ ≠ gb920 ∧ k_ ≠ gb921 ∧ k_ ≠ gb935 ∧ k_ ≠ gb936) ho0 (fun k_ hk_ => ⟨hk_.2.1, hk_.2.2, (Kd.fresh' (Kd.R_lt (by (with_reducible repeat (first | apply Kd.za3 | apply Kd.za4 | apply Kd.zbb)); exact (Kd.zav (Kd.zav (Kd.R_far (p := ⟨gb936, 1, none⟩) (Kd.R_far (p := ⟨gb936, 0, none⟩) (Kd.R_far (p := ⟨gb935, 1, none⟩) (Kd.R_far (p := ⟨gb935, 0, none⟩) (Kd.zbe (Kd.zbe HO930.out BK935.out (by decide)) BK936.out (by decide)) (fun _ hk => hk.1.2) (.slice Ao13 t922.length co13)) (fun _ hk => hk.1.2) (.slice Ao18 t925.length co18)) (fun _ hk => hk.2) (.slice Ao19 t928.length co19)) (fun _ hk => hk.2) (.slice Ao23 t931.length co23)) (fun _ h_ => h_.1)) (fun _ h_ => h_.1)))) k_ hk_.1), (Kd.fresh' (Kd.R_lt (by (with_reducible repeat (first | apply Kd.za3 | apply Kd.za4 | apply Kd.zbb)); exact (Kd.zav (Kd.zav (Kd.R_far (p := ⟨gb936, 1, none⟩) (Kd.R_far (p := ⟨gb936, 0, none⟩) (Kd.R_far (p := ⟨gb935, 1, none⟩) (Kd.R_far (p := ⟨gb935, 0, none⟩) (Kd.zbe (Kd.zbe HO933.out BK935.out (by decide)) BK936.out (by decide)) (fun _ hk => hk.1.2) (.slice Ao13 t922.length co13)) (fun _ hk => hk.1.2) (.slice Ao18 t925.length co18)) (fun _ hk => hk.2) (.slice Ao19 t928.length co19)) (fun _ hk => hk.2) (.slice Ao23 t931.length co23)) (fun _ h_ => h_.1)) (fun _ h_ => h_.1)))) k_ hk_.1), (Kd.freshB (g := gb920) (o := .cells #[.slice A0_0 l0_0.length c0_0, .slice A0_1 l0_1.length c0_1] 24 (0, 0)) (by (with_reducible repeat (first | refine zab ?_ _ | refine zae ?_ | refine zac ?_ _)); refine zaq ?_ NB920_936.out _; (with_reducible repeat (first | refine zab ?_ _ | refine zae ?_ | refine zac ?_ _)); refine zaq ?_ NB920_936.out _; (with_reducible repeat (first | refine zab ?_ _ | refine zae ?_ | refine zac ?_ _)); refine zaq ?_ NB920_935.out _; (with_reducible repeat (first | refine zab ?_ _ | refine zae ?_ | refine zac ?_ _)); refine zaq ?_ NB920_935.out _; (with_reducible repeat (first | refine zab ?_ _ | refine zae ?_ | refine zac ?_ _)); exact BK920.out) k_ hk_.1), (Kd.freshB (g := gb921) (o := .cells #[.slice A1_0 l1_0.length c1_0, .slice A1_1 l1_1.length c1_1] 24 (0, 0)) (by (with_reducible repeat (first | refine zab ?_ _ | refine zae ?_ | refine zac ?_ _)); refine zaq ?_ NB921_936.out _; (with_reducible repeat (first | refine zab ?_ _ | refine zae ?_ | refine zac ?_ _)); refine zaq ?_ NB921_936.out _; (with_reducible repeat (first | refine zab ?_ _ | refine zae ?_ | refine zac ?_ _)); refine zaq ?_ NB921_935.out _; (with_reducible repeat (first | refine zab ?_ _ | refine zae ?_ | refine zac ?_ _)); refine zaq ?_ NB921_935.out _; (with_reducible repeat (first | refine zab ?_ _ | refine zae ?_ | refine zac ?_ _)); exact BK921.out) k_ hk_.1), (Kd.freshB (g := gb935) (o := .cells #[.slice Ao13 t922.length co13, .slice Ao18 t925.length co18] 28 (0, 0)) (by (with_reducible repeat (first | refine zab ?_ _ | refine zae ?_ | refine zac ?_ _)); refine zaq ?_ NB935_936.out _; (with_reducible repeat (first | refine zab ?_ _ | refine zae ?_ | refine zac ?_ _)); refine zaq ?_ NB935_936.out _; (with_reducible repeat (first | refine zab ?_ _ | refine zae ?_ | refine zac ?_ _)); refine zbo (cs := #[.slice Ao13 t922.length co13, .slice none 0 0]) ?_ 1 _ rfl; (with_reducible repeat (first | refine zab ?_ _ | refine zae ?_ | refine zac ?_ _)); refine zbo (cs := #[.slice none 0 0, .slice none 0 0]) ?_ 0 _ rfl; (with_reducible repeat (first | refine zab ?_ _ | refine zae ?_ | refine zac ?_ _)); exact BK935.out) k_ hk_.1), (Kd.freshB (g := gb936) (o := .cells #[.slice Ao19 t928.length co19, .slice Ao23 t931.length co23] 40 (0, 0)) (by (with_reducible repeat (first | refine zab ?_ _ | refine zae ?_ | refine zac ?_ _)); refine zbo (cs := #[.slice Ao19 t928.length co19, .slice none 0 0]) ?_ 1 _ rfl; (with_reducible repeat (first | refine zab ?_ _ | refine zae ?_ | refine zac ?_ _)); refine zbo (cs := #[.slice none 0 0, .slice none 0 0]) ?_ 0 _ rfl; (with_reducible repeat (first | refine zab ?_ _ | refine zae ?_ | refine zac ?_ _)); refine zaq ?_ NB936_935.out _; (with_reducible repeat (first | refine zab ?_ _ | refine zae ?_ | refine zac ?_ _)); refine zaq ?_ NB936_935.out _; (with_reducible repeat (first | refine zab ?_ _ | refine zae ?_ | refine zac ?_ _)); exact BK936.out) k_ hk_.1)⟩)) (za (zB HB))); have n5_ := zA (Kd.zbi (Kd.zak (ok' := fun k_ => some k_ ≠ (v944 : Value).ownBlock ∧ some k_ ≠ (v947 : Value).ownBlock ∧ some k_ ≠ (.slice Ao19 t928.length co19 : Value).ownBlock ∧ some k_ ≠ (.slice Ao23 t931.length co23 : Value).ownBlock ∧ k_ ≠ gb920 ∧ k_ ≠ gb921 ∧ k_ ≠ gb935 ∧ k_ ≠ gb936) ho1 (fun k_ hk_ => ⟨hk_.2.1, hk_.2.2, (Kd.fresh' (Kd.R_lt (by (with_reducible repeat (first | apply Kd.za3 | apply Kd.za4 | apply Kd.zbb)); exact (Kd.zav (Kd.zav (Kd.R_far (p := ⟨gb936, 1, none⟩) (Kd.R_far (p := ⟨gb936, 0, none⟩) (Kd.R_far (p := ⟨gb935, 1, none⟩) (Kd.R_far (p := ⟨gb935, 0, none⟩) (Kd.zbe (Kd.zbe HO930.out BK935.out (by decide)) BK936.out (by decide)) (fun _ hk => hk.1.2) (.slice Ao13 t922.length co13)) (fun _ hk => hk.1.2) (.slice Ao18 t925.length co18)) (fun _ hk => hk.2) (.slice Ao19 t928.length co19)) (fun _ hk => hk.2) (.slice Ao23 t931.length co23)) (fun _ h_ => h_.1)) (fun _ h_ => h_.1)))) k_ hk_.1), (Kd.fresh' (Kd.R_lt (by (with_reducible repeat (first | apply Kd.za3 | apply Kd.za4 | apply Kd.zbb)); exact (Kd.zav (Kd.zav (Kd.R_far (p := ⟨gb936, 1, none⟩) (Kd.R_far (p := ⟨gb936, 0, none⟩) (Kd.R_far (p := ⟨gb935, 1, none⟩) (Kd.R_far (p := ⟨gb935, 0, none⟩) (Kd.zbe (Kd.zbe HO933.out BK935.out (by decide)) BK936.out (by decide)) (fun _ hk => hk.1.2) (.slice Ao13 t922.length co13)) (fun _ hk => hk.1.2) (.slice Ao18 t925.length co18)) (fun _ hk => hk.2) (.slice Ao19 t928.length co19)) (fun _ hk => hk.2) (.slice Ao23 t931.length co23)) (fun _ h_ => h_.1)) (fun _ h_ => h_.1)))) k_ hk_.1), (Kd.freshB (g := gb920) (o := .cells #[.slice A0_0 l0_0.length c0_0, .slice A0_1 l0_1.length c0_1] 24 (0, 0)) (by (with_reducible repeat (first | refine zab ?_ _ | refine zae ?_ | refine zac ?_ _)); refine zaq ?_ NB920_936.out _; (with_reducible repeat (first | refine zab ?_ _ | refine zae ?_ | refine zac ?_ _)); refine zaq ?_ NB920_936.out _; (with_reducible repeat (first | refine zab ?_ _ | refine zae ?_ | refine zac ?_ _)); refine zaq ?_ NB920_935.out _; (with_reducible repeat (first | refine zab ?_ _ | refine zae ?_ | refine zac ?_ _)); refine zaq ?_ NB920_935.out _; (with_reducible repeat (first | refine zab ?_ _ | refine zae ?_ | refine zac ?_ _)); exact BK920.out) k_ hk_.1), (Kd.freshB (g := gb921) (o := .cells #[.slice A1_0 l1_0.length c1_0, .slice A1_1 l1_1.length c1_1] 24 (0, 0)) (by (with_reducible repeat (first | refine zab ?_ _ | refine zae ?_ | refine zac ?_ _)); refine zaq ?_ NB921_936.out _; (with_reducible repeat (first | refine zab ?_ _ | refine zae ?_ | refine zac ?_ _)); refine zaq ?_ NB921_936.out _; (with_reducible repeat (first | refine zab ?_ _ | refine zae ?_ | refine zac ?_ _)); refine zaq ?_ NB921_935.out _; (with_reducible repeat (first | refine zab ?_ _ | refine zae ?_ | refine zac ?_ _)); refine zaq ?_ NB921_935.out _; (with_reducible repeat (first | refine zab ?_ _ | refine zae ?_ | refine zac ?_ _)); exact BK921.out) k_ hk_.1), (Kd.freshB (g := gb935) (o := .cells #[.slice Ao13 t922.length co13, .slice Ao18 t925.length co18] 28 (0, 0)) (by (with_reducible repeat (first | refine zab ?_ _ | refine zae ?_ | refine zac ?_ _)); refine zaq ?_ NB935_936.out _; (with_reducible repeat (first | refine zab ?_ _ | refine zae ?_ | refine zac ?_ _)); refine zaq ?_ NB935_936.out _; (with_reducible repeat (first | refine zab ?_ _ | refine zae ?_ | refine zac ?_ _)); refine zbo (cs := #[.slice Ao13 t922.length co13, .slice none 0 0]) ?_ 1 _ rfl; (with_reducible repeat (first | refine zab ?_ _ | refine zae ?_ | refine zac ?_ _)); refine zbo (cs := #[.slice none 0 0, .slice none 0 0]) ?_ 0 _ rfl; (with_reducible repeat (first | refine zab ?_ _ | refine zae ?_ | refine zac ?_ _)); exact BK935.out) k_ hk_.1), (Kd.freshB (g := gb936) (o := .cells #[.slice Ao19 t928.length co19, .slice Ao23 t931.length co23] 40 (0, 0)) (by (with_reducible repeat (first | refine zab ?_ _ | refine zae ?_ | refine zac ?_ _)); refine zbo (cs := #[.slice Ao19 t928.length co19, .slice none 0 0]) ?_ 1 _ rfl; (with_reducible repeat (first | refine zab ?_ _ | refine zae ?_ | refine zac ?_ _)); refine zbo (cs := #[.slice none 0 0, .slice none 0 0]) ?_ 0 _ rfl; (with_reducible repeat (first | refine zab ?_ _ | refine zae ?_ | refine zac ?_ _)); refine zaq ?_ NB936_935.out _; (with_reducible repeat (first | refine zab ?_ _ | refine zae ?_ | refine zac ?_ _)); refine zaq ?_ NB936_935.out _; (with_reducible repeat (first | refine zab ?_ _ | refine zae ?_ | refine zac ?_ _)); exact BK936.out) k_ hk_.1)⟩)) (za (zB HB))); have n6_ := zA (Kd.zbm (Kd.zbk (Kd.zbk (Kd.zav (ok' := fun k_ => some k_ ≠ (v947 : Value).ownBlock) ho2 (fun _ hk_ => hk_.2)) (Kd.R_lt (by (with_reducible repeat (first | apply Kd.za3 | apply Kd.za4 | apply Kd.zbb)); exact (Kd.zav (Kd.zav (Kd.R_far (p := ⟨gb936, 1, none⟩) (Kd.R_far (p := ⟨gb936, 0, none⟩) (Kd.R_far (p := ⟨gb935, 1, none⟩) (Kd.R_far (p := ⟨gb935, 0, none⟩) (Kd.zbe (Kd.zbe HO930.out BK935.out (by decide)) BK936.out (by decide)) (fun _ hk => hk.1.2) (.slice Ao13 t922.length co13)) (fun _ hk => hk.1.2) (.slice Ao18 t925.length co18)) (fun _ hk => hk.2) (.slice Ao19 t928.length co19)) (fun _ hk => hk.2) (.slice Ao23 t931.length co23)) (fun _ h_ => h_.1)) (fun _ h_ => h_.1))))) (Kd.R_lt (by (with_reducible repeat (first | apply Kd.za3 | apply Kd.za4 | apply Kd.zbb)); exact (Kd.zav (Kd.zav (Kd.R_far (p := ⟨gb936, 1, none⟩) (Kd.R_far (p := ⟨gb936, 0, none⟩) (Kd.R_far (p := ⟨gb935, 1, none⟩) (Kd.R_far (p := ⟨gb935, 0, none⟩) (Kd.zbe (Kd.zbe HO933.out BK935.out (by decide)) BK936.out (by decide)) (fun _ hk => hk.1.2) (.slice Ao13 t922.length co13)) (fun _ hk => hk.1.2) (.slice Ao18 t925.length co18)) (fun _ hk => hk.2) (.slice Ao19 t928.length co19)) (fun _ hk => hk.2) (.slice Ao23 t931.length co23)) (fun _ h_ => h_.1)) (fun _ h_ => h_.1))))) (za (zB HB))); have n7_ := zA (Kd.zbm (Kd.zbk (Kd.zbk (Kd.zav (ok' := fun k_ => some k_ ≠ (v944 : Value).ownBlock) ho3 (fun _ hk_ => hk_.2)) (Kd.R_lt (by (with_reducible repeat (first | apply Kd.za3 | apply Kd.za4 | apply Kd.zbb)); exact (Kd.zav (Kd.zav (Kd.R_far (p := ⟨gb936, 1, none⟩) (Kd.R_far (p := ⟨gb936, 0, none⟩) (Kd.R_far (p := ⟨gb935, 1, none⟩) (Kd.R_far (p := ⟨gb935, 0, none⟩) (Kd.zbe (Kd.zbe HO930.out BK935.out (by decide)) BK936.out (by decide)) (fun _ hk => hk.1.2) (.slice Ao13 t922.length co13)) (fun _ hk => hk.1.2) (.slice Ao18 t925.length co18)) (fun _ hk => hk.2) (.slice Ao19 t928.length co19)) (fun _ hk => hk.2) (.slice Ao23 t931.length co23)) (fun _ h_ => h_.1)) (fun _ h_ => h_.1))))) (Kd.R_lt (by (with_reducible repeat (first | apply Kd.za3 | apply Kd.za4 | apply Kd.zbb)); exact (Kd.zav (Kd.zav (Kd.R_far (p := ⟨gb936, 1, none⟩) (Kd.R_far (p := ⟨gb936, 0, none⟩) (Kd.R_far (p := ⟨gb935, 1, none⟩) (Kd.R_far (p := ⟨gb935, 0, none⟩) (Kd.zbe (Kd.zbe HO933.out BK935.out (by decide)) BK936.out (by decide)) (fun _ hk => hk.1.2) (.slice Ao13 t922.length co13)) (fun _ hk => hk.1.2) (.slice Ao18 t925.length co18)) (fun _ hk => hk.2) (.slice Ao19 t928.length co19)) (fun _ hk => hk.2) (.slice Ao23 t931.length co23)) (fun _ h_ => h_.1)) (fun _ h_ => h_.1))))) (za (zB HB))); have n8_ := zA (zaa (g := gb920) (o := .cells #[.slice A0_0 l0_0.length c0_0, .slice A0_1 l0_1.length c0_1] 24 (0, 0)) (by (with_reducible repeat (first | refine zab ?_ _ | refine zae ?_ | refine zac ?_ _)); refine zaq ?_ NB920_936.out _; (with_reducible repeat (first | refine zab ?_ _ | refine zae ?_ | refine zac ?_ _)); refine zaq ?_ NB920_936.out _; (with_reducible repeat (first | refine zab ?_ _ | refine zae ?_ | refine zac ?_ _)); refine zaq ?_ NB920_935.out _; (with_reducible repeat (first | refine zab ?_ _ | refine zae ?_ | refine zac ?_ _)); refine zaq ?_ NB920_935.out _; (with_reducible repeat (first | refine zab ?_ _ | refine zae ?_ | refine zac ?_ _)); exact BK920.out) hb); have n9_ := zA (zaa (g := gb921) (o := .cells #[.slice A1_0 l1_0.length c1_0, .slice A1_1 l1_1.length c1_1] 24 (0, 0)) (by (with_reducible repeat (first | refine zab ?_ _ | refine zae ?_ | refine zac ?_ _)); refine zaq ?_ NB921_936.out _; (with_reducible repeat (first | refine zab ?_ _ | refine zae ?_ | refine zac ?_ _)); refine zaq ?_ NB921_936.out _; (with_reducible repeat (first | refine zab ?_ _ | refine zae ?_ | refine zac ?_ _)); refine zaq ?_ NB921_935.out _; (with_reducible repeat (first | refine zab ?_ _ | refine zae ?_ | refine zac ?_ _)); refine zaq ?_ NB921_935.out _; (with_reducible repeat (first | refine zab ?_ _ | refine zae ?_ | refine zac ?_ _)); exact BK921.out) hb); have n10_ := zA (zaa (g := gb935) (o := .cells #[.slice Ao13 t922.length co13, .slice Ao18 t925.length co18] 28 (0, 0)) (by (with_reducible repeat (first | refine zab ?_ _ | refine zae ?_ | refine zac ?_ _)); refine zaq ?_ NB935_936.out _; (with_reducible repeat (first | refine zab ?_ _ | refine zae ?_ | refine zac ?_ _)); refine zaq ?_ NB935_936.out _; (with_reducible repeat (first | refine zab ?_ _ | refine zae ?_ | refine zac ?_ _)); refine zbo (cs := #[.slice Ao13 t922.length co13, .slice none 0 0]) ?_ 1 _ rfl; (with_reducible repeat (first | refine zab ?_ _ | refine zae ?_ | refine zac ?_ _)); refine zbo (cs := #[.slice none 0 0, .slice none 0 0]) ?_ 0 _ rfl; (with_reducible repeat (first | refine zab ?_ _ | refine zae ?_ | refine zac ?_ _)); exact BK935.out) hb); have n11_ := zA (zaa (g := gb936) (o := .cells #[.slice Ao19 t928.length co19, .slice Ao23 t931.length co23] 40 (0, 0)) (by (with_reducible repeat (first | refine zab ?_ _ | refine zae ?_ | refine zac ?_ _)); refine zbo (cs := #[.slice Ao19 t928.length co19, .slice none 0 0]) ?_ 1 _ rfl; (with_reducible repeat (first | refine zab ?_ _ | refine zae ?_ | refine zac ?_ _)); refine zbo (cs := #[.slice none 0 0, .slice none 0 0]) ?_ 0 _ rfl; (with_reducible repeat (first | refine zab ?_ _ | refine zae ?_ | refine zac ?_ _)); refine zaq ?_ NB936_935.out _; (with_reducible repeat (first | refine zab ?_ _ | refine zae ?_ | refine zac ?_ _)); refine zaq ?_ NB936_935.out _; (with_reducible repeat (first | refine zab ?_ _ | refine zae ?_ | refine zac ?_ _)); exact BK936.out) hb); have n12_ := zA (zaf (zB HB) hb); clear HO924 HO927 HO930 HO933 BK920 BK921 BK935 BK936 HB; have HO924 := n0_; have HO927 := n1_; have HO930 := n2_; have HO933 := n3_; have HO939 := n4_; have HO942 := n5_; have HO945 := n6_; have HO948 := n7_; have BK920 := n8_; have BK921 := n9_; have BK935 := n10_; have BK936 := n11_; have HB := n12_; clear n0_ n1_ n2_ n3_ n4_ n5_ n6_ n7_ n8_ n9_ n10_ n11_ n12_; (try clear hb); (try clear hb2); (try clear hk); (try clear hi); (try clear ho0); (try clear ho1); (try clear ho2); (try clear ho3)) | ((with_reducible refine zbh (N := 8) rfl ?_); (try (refine zcp (by rfl) ?_; dsimp only)); refine zbj ?hg (N := 8) ?hd (cs := #[.slice none 0 0, .slice none 0 0]) (t := 28) ?hr ?_; (case hd => rfl); (case hg => rfl); (case hr => first | (go_simp; done) | (go_simp; rfl)); intro gb950 hg w26 hbox hb; have n0_ := zA (Kd.zao (Kd.zca (zV HO924) gb950 (Nat.le_of_eq hg.symm)) hb); have n1_ := zA (Kd.zao (Kd.zca (zV HO927) gb950 (Nat.le_of_eq hg.symm)) hb); have n2_ := zA (Kd.zax (zR HO930) hb); have n3_ := zA (Kd.zax (zR HO933) hb); have n4_ := zA (Kd.zao (Kd.zca (zV HO939) gb950 (Nat.le_of_eq hg.symm)) hb); have n5_ := zA (Kd.zao (Kd.zca (zV HO942) gb950 (Nat.le_of_eq hg.symm)) hb); have n6_ := zA (Kd.zax (zR HO945) hb); have n7_ := zA (Kd.zax (zR HO948) hb); have n8_ := zA (zaa (g := gb920) (o := .cells #[.slice A0_0 l0_0.length c0_0, .slice A0_1 l0_1.length c0_1] 24 (0, 0)) (zK BK920) hb); have n9_ := zA (zaa (g := gb921) (o := .cells #[.slice A1_0 l1_0.length c1_0, .slice A1_1 l1_1.length c1_1] 24 (0, 0)) (zK BK921) hb); have n10_ := zA (zaa (g := gb935) (o := .cells #[.slice Ao13 t922.length co13, .slice Ao18 t925.length co18] 28 (0, 0)) (zK BK935) hb); have n11_ := zA (zaa (g := gb936) (o := .cells #[.slice Ao19 t928.length co19, .slice Ao23 t931.length co23] 40 (0, 0)) (zK BK936) hb); have n12_ := zA (zaf (zB HB) hb); have n13_ := zA (hbox); have n14_ := zA ((by rw [hg]; exact (za (zB HB)) : w.heap.size ≤ gb950)); have n15_ := zA ((by rw [hg]; exact (za (zB HB)) : w.heap.size ≤ gb950)); have n16_ := zA ((by rw [hg]; exact Nat.ne_of_lt (za5 (g := gb920) (o := .cells #[.slice A0_0 l0_0.length c0_0, .slice A0_1 l0_1.length c0_1] 24 (0, 0)) (zK BK920)) : gb920 ≠ gb950)); have n17_ := zA ((by rw [hg]; exact Nat.ne_of_gt (za5 (g := gb920) (o := .cells #[.slice A0_0 l0_0.length c0_0, .slice A0_1 l0_1.length c0_1] 24 (0, 0)) (zK BK920)) : gb950 ≠ gb920)); have n18_ := zA ((by rw [hg]; exact Nat.ne_of_lt (za5 (g := gb921) (o := .cells #[.slice A1_0 l1_0.length c1_0, .slice A1_1 l1_1.length c1_1] 24 (0, 0)) (zK BK921)) : gb921 ≠ gb950)); have n19_ := zA ((by rw [hg]; exact Nat.ne_of_gt (za5 (g := gb921) (o := .cells #[.slice A1_0 l1_0.length c1_0, .slice A1_1 l1_1.length c1_1] 24 (0, 0)) (zK BK921)) : gb950 ≠ gb921)); have n20_ := zA ((by rw [hg]; exact Nat.ne_of_lt (za5 (g := gb935) (o := .cells #[.slice Ao13 t922.length co13, .slice Ao18 t925.length co18] 28 (0, 0)) (zK BK935)) : gb935 ≠ gb950)); have n21_ := zA ((by rw [hg]; exact Nat.ne_of_gt (za5 (g := gb935) (o := .cells #[.slice Ao13 t922.length co13, .slice Ao18 t925.length co18] 28 (0, 0)) (zK BK935)) : gb950 ≠ gb935)); have n22_ := zA ((by rw [hg]; exact Nat.ne_of_lt (za5 (g := gb936) (o := .cells #[.slice Ao19 t928.length co19, .slice Ao23 t931.length co23] 40 (0, 0)) (zK BK936)) : gb936 ≠ gb950)); have n23_ := zA ((by rw [hg]; exact Nat.ne_of_gt (za5 (g := gb936) (o := .cells #[.slice Ao19 t928.length co19, .slice Ao23 t931.length co23] 40 (0, 0)) (zK BK936)) : gb950 ≠ gb936)); clear HO924 HO927 HO930 HO933 HO939 HO942 HO945 HO948 BK920 BK921 BK935 BK936 HB; have HO924 := n0_; have HO927 := n1_; have HO930 := n2_; have HO933 := n3_; have HO939 := n4_; have HO942 := n5_; have HO945 := n6_; have HO948 := n7_; have BK920 := n8_; have BK921 := n9_; have BK935 := n10_; have BK936 := n11_; have HB := n12_; have BK950 := n13_; have GW950 := n14_; have GE950 := n15_; have NB920_950 := n16_; have NB950_920 := n17_; have NB921_950 := n18_; have NB950_921 := n19_; have NB935_950 := n20_; have NB950_935 := n21_; have NB936_950 := n22_; have NB950_936 := n23_; clear n0_ n1_ n2_ n3_ n4_ n5_ n6_ n7_ n8_ n9_ n10_ n11_ n12_ n13_ n14_ n15_ n16_ n17_ n18_ n19_ n20_ n21_ n22_ n23_ hb hbox hg) | ((with_reducible refine zbh (N := 9) rfl ?_); (try (refine zcp (by rfl) ?_; dsimp only)); refine zbj ?hg (N := 9) ?hd (cs := #[.slice none 0 0, .slice none 0 0]) (t := 40) ?hr ?_; (case hd => rfl); (case hg => rfl); (case hr => first | (go_simp; done) | (go_simp; rfl)); intro gb951 hg w27 hbox hb; have n0_ := zA (Kd.zao (Kd.zca (zV HO924) gb951 (Nat.le_of_eq hg.symm)) hb); have n1_ := zA (Kd.zao (Kd.zca (zV HO927) gb951 (Nat.le_of_eq hg.symm)) hb); have n2_ := zA (Kd.zax (zR HO930) hb); have n3_ := zA (Kd.zax (zR HO933) hb); have n4_ := zA (Kd.zao (Kd.zca (zV HO939) gb951 (Nat.le_of_eq hg.symm)) hb); have n5_ := zA (Kd.zao (Kd.zca (zV HO942) gb951 (Nat.le_of_eq hg.symm)) hb); have n6_ := zA (Kd.zax (zR HO945) hb); have n7_ := zA (Kd.zax (zR HO948) hb); have n8_ := zA (zaa (g := gb920) (o := .cells #[.slice A0_0 l0_0.length c0_0, .slice A0_1 l0_1.length c0_1] 24 (0, 0)) (zK BK920) hb); have n9_ := zA (zaa (g := gb921) (o := .cells #[.slice A1_0 l1_0.length c1_0, .slice A1_1 l1_1.length c1_1] 24 (0, 0)) (zK BK921) hb); have n10_ := zA (zaa (g := gb935) (o := .cells #[.slice Ao13 t922.length co13, .slice Ao18 t925.length co18] 28 (0, 0)) (zK BK935) hb); have n11_ := zA (zaa (g := gb936) (o := .cells #[.slice Ao19 t928.length co19, .slice Ao23 t931.length co23] 40 (0, 0)) (zK BK936) hb); have n12_ := zA (zaa (g := gb950) (o := .cells #[.slice none 0 0, .slice none 0 0] 28 (0, 0)) (zK BK950) hb); have n13_ := zA (zaf (zB HB) hb); have n14_ := zA (hbox); have n15_ := zA ((by rw [hg]; exact (za (zB HB)) : w.heap.size ≤ gb951)); have n16_ := zA ((by rw [hg]; exact (za (zB HB)) : w.heap.size ≤ gb951)); have n17_ := zA ((by rw [hg]; exact Nat.ne_of_lt (za5 (g := gb920) (o := .cells #[.slice A0_0 l0_0.length c0_0, .slice A0_1 l0_1.length c0_1] 24 (0, 0)) (zK BK920)) : gb920 ≠ gb951)); have n18_ := zA ((by rw [hg]; exact Nat.ne_of_gt (za5 (g := gb920) (o := .cells #[.slice A0_0 l0_0.length c0_0, .slice A0_1 l0_1.length c0_1] 24 (0, 0)) (zK BK920)) : gb951 ≠ gb920)); have n19_ := zA ((by rw [hg]; exact Nat.ne_of_lt (za5 (g := gb921) (o := .cells #[.slice A1_0 l1_0.length c1_0, .slice A1_1 l1_1.length c1_1] 24 (0, 0)) (zK BK921)) : gb921 ≠ gb951)); have n20_ := zA ((by rw [hg]; exact Nat.ne_of_gt (za5 (g := gb921) (o := .cells #[.slice A1_0 l1_0.length c1_0, .slice A1_1 l1_1.length c1_1] 24 (0, 0)) (zK BK921)) : gb951 ≠ gb921)); have n21_ := zA ((by rw [hg]; exact Nat.ne_of_lt (za5 (g := gb935) (o := .cells #[.slice Ao13 t922.length co13, .slice Ao18 t925.length co18] 28 (0, 0)) (zK BK935)) : gb935 ≠ gb951)); have n22_ := zA ((by rw [hg]; exact Nat.ne_of_gt (za5 (g := gb935) (o := .cells #[.slice Ao13 t922.length co13, .slice Ao18 t925.length co18] 28 (0, 0)) (zK BK935)) : gb951 ≠ gb935)); have n23_ := zA ((by rw [hg]; exact Nat.ne_of_lt (za5 (g := gb936) (o := .cells #[.slice Ao19 t928.length co19, .slice Ao23 t931.length co23] 40 (0, 0)) (zK BK936)) : gb936 ≠ gb951)); have n24_ := zA ((by rw [hg]; exact Nat.ne_of_gt (za5 (g := gb936) (o := .cells #[.slice Ao19 t928.length co19, .slice Ao23 t931.length co23] 40 (0, 0)) (zK BK936)) : gb951 ≠ gb936)); have n25_ := zA ((by rw [hg]; exact Nat.ne_of_lt (za5 (g := gb950) (o := .cells #[.slice none 0 0, .slice none 0 0] 28 (0, 0)) (zK BK950)) : gb950 ≠ gb951)); have n26_ := zA ((by rw [hg]; exact Nat.ne_of_gt (za5 (g := gb950) (o := .cells #[.slice none 0 0, .slice none 0 0] 28 (0, 0)) (zK BK950)) : gb951 ≠ gb950)); clear HO924 HO927 HO930 HO933 HO939 HO942 HO945 HO948 BK920 BK921 BK935 BK936 BK950 HB; have HO924 := n0_; have HO927 := n1_; have HO930 := n2_; have HO933 := n3_; have HO939 := n4_; have HO942 := n5_; have HO945 := n6_; have HO948 := n7_; have BK920 := n8_; have BK921 := n9_; have BK935 := n10_; have BK936 := n11_; have BK950 := n12_; have HB := n13_; have BK951 := n14_; have GW951 := n15_; have GE951 := n16_; have NB920_951 := n17_; have NB951_920 := n18_; have NB921_951 := n19_; have NB951_921 := n20_; have NB935_951 := n21_; have NB951_935 := n22_; have NB936_951 := n23_; have NB951_936 := n24_; have NB950_951 := n25_; have NB951_950 := n26_; clear n0_ n1_ n2_ n3_ n4_ n5_ n6_ n7_ n8_ n9_ n10_ n11_ n12_ n13_ n14_ n15_ n16_ n17_ n18_ n19_ n20_ n21_ n22_ n23_ n24_ n25_ n26_ hb hbox hg; obtain ⟨Ao28, co28, eo28⟩ := Kd.zbt HO939.out; subst eo28; have hnb29 := NB950_920.out; have hnc29 := NB920_950.out; have hnb30 := NB950_921.out; have hnc30 := NB921_950.out; have hnb31 := NB950_935.out; have hnc31 := NB935_950.out; have hnb32 := NB950_936.out; have hnc32 := NB936_950.out; have hnb33 := NB950_951.out; have hnc33 := NB951_950.out; have hcz34_0 : w27.cell? ⟨gb950, 0, none⟩ = some (.slice none 0 0) := (zad BK950.out 0).trans rfl; have hcz34_1 : w27.cell? ⟨gb950, 1, none⟩ = some (.slice none 0 0) := (zad BK950.out 1).trans rfl; have hfz34_0 := zal BK950.out 0; have hfz34_1 := zal BK950.out 1; obtain ⟨Ao35, co35, eo35⟩ := Kd.zbt HO942.out; subst eo35; obtain ⟨Ao36, co36, eo36⟩ := Kd.zbn HO945.out; subst eo36; have hnb37 := NB951_920.out; have hnc37 := NB920_951.out; have hnb38 := NB951_921.out; have hnc38 := NB921_951.out; have hnb39 := NB951_935.out; have hnc39 := NB935_951.out; have hnb40 := NB951_936.out; have hnc40 := NB936_951.out; have hcz41_0 : w27.cell? ⟨gb951, 0, none⟩ = some (.slice none 0 0) := (zad BK951.out 0).trans rfl; have hcz41_1 : w27.cell? ⟨gb951, 1, none⟩ = some (.slice none 0 0) := (zad BK951.out 1).trans rfl; have hfz41_0 := zal BK951.out 0; have hfz41_1 := zal BK951.out 1; obtain ⟨Ao42, co42, eo42⟩ := Kd.zbn HO948.out; subst eo42))
 (try simp only [Act.put, zs1, zs2, zs3])
 go_cut [47] (fun v47 wc => ∃ (kq : Nat) (x47_4 : Bool), v47 = .bool x47_4 ∧ Aside0 (zaj.j0 kq x47_4 t922 t925 t928 t931 t937 t940 t943 t946 = some r) ∧ Aside0 (kq ≤ k) ∧ Aside0 (Kd.V (Kd.int .u64) 57 wc w.heap.size (fun k_ => some k_ ≠ ((.slice Ao19 t928.length co19) : Value).ownBlock ∧ some k_ ≠ ((.slice Ao23 t931.length co23) : Value).ownBlock ∧ some k_ ≠ ((.slice Ao36 t943.length co36) : Value).ownBlock ∧ some k_ ≠ ((.slice Ao42 t946.length co42) : Value).ownBlock ∧ k_ ≠ gb920 ∧ k_ ≠ gb921 ∧ k_ ≠ gb935 ∧ k_ ≠ gb936 ∧ k_ ≠ gb950 ∧ k_ ≠ gb951) (.slice Ao13 t922.length co13) t922) ∧ Aside0 (Kd.V (Kd.int .u64) 57 wc w.heap.size (fun k_ => some k_ ≠ ((.slice Ao19 t928.length co19) : Value).ownBlock ∧ some k_ ≠ ((.slice Ao23 t931.length co23) : Value).ownBlock ∧ some k_ ≠ ((.slice Ao36 t943.length co36) : Value).ownBlock ∧ some k_ ≠ ((.slice Ao42 t946.length co42) : Value).ownBlock ∧ k_ ≠ gb920 ∧ k_ ≠ gb921 ∧ k_ ≠ gb935 ∧ k_ ≠ gb936 ∧ k_ ≠ gb950 ∧ k_ ≠ gb951) (.slice Ao18 t925.length co18) t925) ∧ Aside0 (Kd.R (Kd.int .i64) 3 wc w.heap.size (fun k_ => some k_ ≠ ((.slice Ao23 t931.length co23) : Value).ownBlock ∧ some k_ ≠ ((.slice Ao36 t943.length co36) : Value).ownBlock ∧ some k_ ≠ ((.slice Ao42 t946.length co42) : Value).ownBlock) (.slice Ao19 t928.length co19) t928) ∧ Aside0 (Kd.R (Kd.int .i64) 3 wc w.heap.size (fun k_ => some k_ ≠ ((.slice Ao19 t928.length co19) : Value).ownBlock ∧ some k_ ≠ ((.slice Ao36 t943.length co36) : Value).ownBlock ∧ some k_ ≠ ((.slice Ao42 t946.length co42) : Value).ownBlock) (.slice Ao23 t931.length co23) t931) ∧ Aside0 (Kd.V (Kd.int .u64) 57 wc w.heap.size (fun k_ => some k_ ≠ ((.slice Ao19 t928.length co19) : Value).ownBlock ∧ some k_ ≠ ((.slice Ao23 t931.length co23) : Value).ownBlock ∧ some k_ ≠ ((.slice Ao36 t943.length co36) : Value).ownBlock ∧ some k_ ≠ ((.slice Ao42 t946.length co42) : Value).ownBlock ∧ k_ ≠ gb920 ∧ k_ ≠ gb921 ∧ k_ ≠ gb935 ∧ k_ ≠ gb936 ∧ k_ ≠ gb950 ∧ k_ ≠ gb951) (.slice Ao28 t937.length co28) t937) ∧ Aside0 (Kd.V (Kd.int .u64) 57 wc w.heap.size (fun k_ => some k_ ≠ ((.slice Ao19 t928.length co19) : Value).ownBlock ∧ some k_ ≠ ((.slice Ao23 t931.length co23) : Value).ownBlock ∧ some k_ ≠ ((.slice Ao36 t943.length co36) : Value).ownBlock ∧ some k_ ≠ ((.slice Ao42 t946.length co42) : Value).ownBlock ∧ k_ ≠ gb920 ∧ k_ ≠ gb921 ∧ k_ ≠ gb935 ∧ k_ ≠ gb936 ∧ k_ ≠ gb950 ∧ k_ ≠ gb951) (.slice Ao35 t940.length co35) t940) ∧ Aside0 (Kd.R (Kd.int .i64) 3 wc w.heap.size (fun k_ => some k_ ≠ ((.slice Ao19 t928.length co19) : Value).ownBlock ∧ some k_ ≠ ((.slice Ao23 t931.length co23) : Value).ownBlock ∧ some k_ ≠ ((.slice Ao42 t946.length co42) : Value).ownBlock) (.slice Ao36 t943.length co36) t943) ∧ Aside0 (Kd.R (Kd.int .i64) 3 wc w.heap.size (fun k_ => some k_ ≠ ((.slice Ao19 t928.length co19) : Value).ownBlock ∧ some k_ ≠ ((.slice Ao23 t931.length co23) : Value).ownBlock ∧ some k_ ≠ ((.slice Ao36 t943.length co36) : Value).ownBlock) (.slice Ao42 t946.length co42) t946) ∧ Aside0 (wc.heap[gb920]? = some (.cells #[(.slice A0_0 l0_0.length c0_0), (.slice A0_1 l0_1.length c0_1)] 24 (0, 0))) ∧ Aside0 (wc.heap[gb921]? = some (.cells #[(.slice A1_0 l1_0.length c1_0), (.slice A1_1 l1_1.length c1_1)] 24 (0, 0))) ∧ Aside0 (wc.heap[gb935]? = some (.cells #[(.slice Ao13 t922.length co13), (.slice Ao18 t925.length co18)] 28 (0, 0))) ∧ Aside0 (wc.heap[gb936]? = some (.cells #[(.slice Ao19 t928.length co19), (.slice Ao23 t931.length co23)] 40 (0, 0))) ∧ Aside0 (wc.heap[gb950]? = some (.cells #[(.slice Ao28 t937.length co28), (.slice Ao35 t940.length co35)] 28 (0, 0))) ∧ Aside0 (wc.heap[gb951]? = some (.cells #[(.slice Ao36 t943.length co36), (.slice Ao42 t946.length co42)] 40 (0, 0))) ∧ Aside0 (Below w.heap.size w wc))
 case first =>
  have H := HC5.out
  clear HC5
  replace H := zO H
  obtain ⟨t952, A430, H⟩ := H
  try dsimp only at H
  have A43 := zA A430
  clear A430
  by_cases c44 : t952 = true
  ·
   subst c44
   rw [if_pos rfl] at H
   by_cases c45 : (l0_1.length : Int) = 0
   ·
    rw [if_pos c45] at H
    have c45b0 : ((l0_1.length : Int) == 0) = true := beq_iff_eq.mpr c45
    have c45b1 : ((l0_1.length : Int) != 0) = false := bne_eq_false_iff_eq.mpr c45
    clear c45
    (first | rw [c45b0] | (simp only [i64_w, i32_w]; rw [c45b0]) | skip)
    have H' := zA H
    clear H
    go_wp2_with (first | ((with_reducible refine zah (f := 14) rfl ?_); refine zba (some 26) rfl rfl Tryd.func14 (by kernel_rfl) rfl #[] rfl (zE) ?_; (with_reducible refine (zbq.calls k  true _ ?side1 A43.out).mono ?_); (case side1 => exact Glob.below HG.out (zB HB)); rintro e w46 ⟨rfl, hb⟩; refine ⟨_, rfl, ?_⟩; have n0_ := zA (Kd.zao (by (with_reducible repeat (first | apply Kd.za8 | apply Kd.za9 | apply Kd.zbc)); exact (Kd.zak (Kd.zak (Kd.V_far (p := ⟨gb951, 1, none⟩) (Kd.V_far (p := ⟨gb951, 0, none⟩) (Kd.V_far (p := ⟨gb950, 1, none⟩) (Kd.V_far (p := ⟨gb950, 0, none⟩) (Kd.zak (Kd.zak HO924.out (fun k_ hk => (⟨hk, hk.1.2⟩ : _ ∧ k_ ≠ gb950))) (fun k_ hk => (⟨hk, hk.1.2⟩ : _ ∧ k_ ≠ gb951))) (fun _ hk => hk.1.2) (.slice Ao28 t937.length co28)) (fun _ hk => hk.1.2) (.slice Ao35 t940.length co35)) (fun _ hk => hk.2) (.slice Ao36 t943.length co36)) (fun _ hk => hk.2) (.slice Ao42 t946.length co42)) (fun _ h_ => h_.1)) (fun _ h_ => h_.1))) hb); have n1_ := zA (Kd.zao (by (with_reducible repeat (first | apply Kd.za8 | apply Kd.za9 | apply Kd.zbc)); exact (Kd.zak (Kd.zak (Kd.V_far (p := ⟨gb951, 1, none⟩) (Kd.V_far (p := ⟨gb951, 0, none⟩) (Kd.V_far (p := ⟨gb950, 1, none⟩) (Kd.V_far (p := ⟨gb950, 0, none⟩) (Kd.zak (Kd.zak HO927.out (fun k_ hk => (⟨hk, hk.1.2⟩ : _ ∧ k_ ≠ gb950))) (fun k_ hk => (⟨hk, hk.1.2⟩ : _ ∧ k_ ≠ gb951))) (fun _ hk => hk.1.2) (.slice Ao28 t937.length co28)) (fun _ hk => hk.1.2) (.slice Ao35 t940.length co35)) (fun _ hk => hk.2) (.slice Ao36 t943.length co36)) (fun _ hk => hk.2) (.slice Ao42 t946.length co42)) (fun _ h_ => h_.1)) (fun _ h_ => h_.1))) hb); have n2_ := zA (Kd.zax (by (with_reducible repeat (first | apply Kd.za3 | apply Kd.za4 | apply Kd.zbb)); exact (Kd.zav (Kd.zav (Kd.R_far (p := ⟨gb951, 1, none⟩) (Kd.R_far (p := ⟨gb951, 0, none⟩) (Kd.R_far (p := ⟨gb950, 1, none⟩) (Kd.R_far (p := ⟨gb950, 0, none⟩) (Kd.zbe (Kd.zbe HO930.out BK950.out (by decide)) BK951.out (by decide)) (fun _ hk => hk.1.2) (.slice Ao28 t937.length co28)) (fun _ hk => hk.1.2) (.slice Ao35 t940.length co35)) (fun _ hk => hk.2) (.slice Ao36 t943.length co36)) (fun _ hk => hk.2) (.slice Ao42 t946.length co42)) (fun _ h_ => h_.1)) (fun _ h_ => h_.1))) hb); have n3_ := zA (Kd.zax (by (with_reducible repeat (first | apply Kd.za3 | apply Kd.za4 | apply Kd.zbb)); exact (Kd.zav (Kd.zav (Kd.R_far (p := ⟨gb951, 1, none⟩) (Kd.R_far (p := ⟨gb951, 0, none⟩) (Kd.R_far (p := ⟨gb950, 1, none⟩) (Kd.R_far (p := ⟨gb950, 0, none⟩) (Kd.zbe (Kd.zbe HO933.out BK950.out (by decide)) BK951.out (by decide)) (fun _ hk => hk.1.2) (.slice Ao28 t937.length co28)) (fun _ hk => hk.1.2) (.slice Ao35 t940.length co35)) (fun _ hk => hk.2) (.slice Ao36 t943.length co36)) (fun _ hk => hk.2) (.slice Ao42 t946.length co42)) (fun _ h_ => h_.1)) (fun _ h_ => h_.1))) hb); have n4_ := zA (Kd.zao (by (with_reducible repeat (first | apply Kd.za8 | apply Kd.za9 | apply Kd.zbc)); exact (Kd.zak (Kd.zak (Kd.V_far (p := ⟨gb951, 1, none⟩) (Kd.V_far (p := ⟨gb951, 0, none⟩) (Kd.V_far (p := ⟨gb950, 1, none⟩) (Kd.V_far (p := ⟨gb950, 0, none⟩) (Kd.zak (Kd.zak HO939.out (fun k_ hk => (⟨hk, hk.1.2⟩ : _ ∧ k_ ≠ gb950))) (fun k_ hk => (⟨hk, hk.1.2⟩ : _ ∧ k_ ≠ gb951))) (fun _ hk => hk.1.2) (.slice Ao28 t937.length co28)) (fun _ hk => hk.1.2) (.slice Ao35 t940.length co35)) (fun _ hk => hk.2) (.slice Ao36 t943.length co36)) (fun _ hk => hk.2) (.slice Ao42 t946.length co42)) (fun _ h_ => h_.1)) (fun _ h_ => h_.1))) hb); have n5_ := zA (Kd.zao (by (with_reducible repeat (first | apply Kd.za8 | apply Kd.za9 | apply Kd.zbc)); exact (Kd.zak (Kd.zak (Kd.V_far (p := ⟨gb951, 1, none⟩) (Kd.V_far (p := ⟨gb951, 0, none⟩) (Kd.V_far (p := ⟨gb950, 1, none⟩) (Kd.V_far (p := ⟨gb950, 0, none⟩) (Kd.zak (Kd.zak HO942.out (fun k_ hk => (⟨hk, hk.1.2⟩ : _ ∧ k_ ≠ gb950))) (fun k_ hk => (⟨hk, hk.1.2⟩ : _ ∧ k_ ≠ gb951))) (fun _ hk => hk.1.2) (.slice Ao28 t937.length co28)) (fun _ hk => hk.1.2) (.slice Ao35 t940.length co35)) (fun _ hk => hk.2) (.slice Ao36 t943.length co36)) (fun _ hk => hk.2) (.slice Ao42 t946.length co42)) (fun _ h_ => h_.1)) (fun _ h_ => h_.1))) hb); have n6_ := zA (Kd.zax (by (with_reducible repeat (first | apply Kd.za3 | apply Kd.za4 | apply Kd.zbb)); exact (Kd.zav (Kd.zav (Kd.R_far (p := ⟨gb951, 1, none⟩) (Kd.R_far (p := ⟨gb951, 0, none⟩) (Kd.R_far (p := ⟨gb950, 1, none⟩) (Kd.R_far (p := ⟨gb950, 0, none⟩) (Kd.zbe (Kd.zbe HO945.out BK950.out (by decide)) BK951.out (by decide)) (fun _ hk => hk.1.2) (.slice Ao28 t937.length co28)) (fun _ hk => hk.1.2) (.slice Ao35 t940.length co35)) (fun _ hk => hk.2) (.slice Ao36 t943.length co36)) (fun _ hk => hk.2) (.slice Ao42 t946.length co42)) (fun _ h_ => h_.1)) (fun _ h_ => h_.1))) hb); have n7_ := zA (Kd.zax (by (with_reducible repeat (first | apply Kd.za3 | apply Kd.za4 | apply Kd.zbb)); exact (Kd.zav (Kd.zav (Kd.R_far (p := ⟨gb951, 1, none⟩) (Kd.R_far (p := ⟨gb951, 0, none⟩) (Kd.R_far (p := ⟨gb950, 1, none⟩) (Kd.R_far (p := ⟨gb950, 0, none⟩) (Kd.zbe (Kd.zbe HO948.out BK950.out (by decide)) BK951.out (by decide)) (fun _ hk => hk.1.2) (.slice Ao28 t937.length co28)) (fun _ hk => hk.1.2) (.slice Ao35 t940.length co35)) (fun _ hk => hk.2) (.slice Ao36 t943.length co36)) (fun _ hk => hk.2) (.slice Ao42 t946.length co42)) (fun _ h_ => h_.1)) (fun _ h_ => h_.1))) hb); have n8_ := zA (zaa (g := gb920) (o := .cells #[.slice A0_0 l0_0.length c0_0, .slice A0_1 l0_1.length c0_1] 24 (0, 0)) (by (with_reducible repeat (first | refine zab ?_ _ | refine zae ?_ | refine zac ?_ _)); refine zaq ?_ NB920_951.out _; (with_reducible repeat (first | refine zab ?_ _ | refine zae ?_ | refine zac ?_ _)); refine zaq ?_ NB920_951.out _; (with_reducible repeat (first | refine zab ?_ _ | refine zae ?_ | refine zac ?_ _)); refine zaq ?_ NB920_950.out _; (with_reducible repeat (first | refine zab ?_ _ | refine zae ?_ | refine zac ?_ _)); refine zaq ?_ NB920_950.out _; (with_reducible repeat (first | refine zab ?_ _ | refine zae ?_ | refine zac ?_ _)); exact BK920.out) hb); have n9_ := zA (zaa (g := gb921) (o := .cells #[.slice A1_0 l1_0.length c1_0, .slice A1_1 l1_1.length c1_1] 24 (0, 0)) (by (with_reducible repeat (first | refine zab ?_ _ | refine zae ?_ | refine zac ?_ _)); refine zaq ?_ NB921_951.out _; (with_reducible repeat (first | refine zab ?_ _ | refine zae ?_ | refine zac ?_ _)); refine zaq ?_ NB921_951.out _; (with_reducible repeat (first | refine zab ?_ _ | refine zae ?_ | refine zac ?_ _)); refine zaq ?_ NB921_950.out _; (with_reducible repeat (first | refine zab ?_ _ | refine zae ?_ | refine zac ?_ _)); refine zaq ?_ NB921_950.out _; (with_reducible repeat (first | refine zab ?_ _ | refine zae ?_ | refine zac ?_ _)); exact BK921.out) hb); have n10_ := zA (zaa (g := gb935) (o := .cells #[.slice Ao13 t922.length co13, .slice Ao18 t925.length co18] 28 (0, 0)) (by (with_reducible repeat (first | refine zab ?_ _ | refine zae ?_ | refine zac ?_ _)); refine zaq ?_ NB935_951.out _; (with_reducible repeat (first | refine zab ?_ _ | refine zae ?_ | refine zac ?_ _)); refine zaq ?_ NB935_951.out _; (with_reducible repeat (first | refine zab ?_ _ | refine zae ?_ | refine zac ?_ _)); refine zaq ?_ NB935_950.out _; (with_reducible repeat (first | refine zab ?_ _ | refine zae ?_ | refine zac ?_ _)); refine zaq ?_ NB935_950.out _; (with_reducible repeat (first | refine zab ?_ _ | refine zae ?_ | refine zac ?_ _)); exact BK935.out) hb); have n11_ := zA (zaa (g := gb936) (o := .cells #[.slice Ao19 t928.length co19, .slice Ao23 t931.length co23] 40 (0, 0)) (by (with_reducible repeat (first | refine zab ?_ _ | refine zae ?_ | refine zac ?_ _)); refine zaq ?_ NB936_951.out _; (with_reducible repeat (first | refine zab ?_ _ | refine zae ?_ | refine zac ?_ _)); refine zaq ?_ NB936_951.out _; (with_reducible repeat (first | refine zab ?_ _ | refine zae ?_ | refine zac ?_ _)); refine zaq ?_ NB936_950.out _; (with_reducible repeat (first | refine zab ?_ _ | refine zae ?_ | refine zac ?_ _)); refine zaq ?_ NB936_950.out _; (with_reducible repeat (first | refine zab ?_ _ | refine zae ?_ | refine zac ?_ _)); exact BK936.out) hb); have n12_ := zA (zaa (g := gb950) (o := .cells #[.slice Ao28 t937.length co28, .slice Ao35 t940.length co35] 28 (0, 0)) (by (with_reducible repeat (first | refine zab ?_ _ | refine zae ?_ | refine zac ?_ _)); refine zaq ?_ NB950_951.out _; (with_reducible repeat (first | refine zab ?_ _ | refine zae ?_ | refine zac ?_ _)); refine zaq ?_ NB950_951.out _; (with_reducible repeat (first | refine zab ?_ _ | refine zae ?_ | refine zac ?_ _)); refine zbo (cs := #[.slice Ao28 t937.length co28, .slice none 0 0]) ?_ 1 _ rfl; (with_reducible repeat (first | refine zab ?_ _ | refine zae ?_ | refine zac ?_ _)); refine zbo (cs := #[.slice none 0 0, .slice none 0 0]) ?_ 0 _ rfl; (with_reducible repeat (first | refine zab ?_ _ | refine zae ?_ | refine zac ?_ _)); exact BK950.out) hb); have n13_ := zA (zaa (g := gb951) (o := .cells #[.slice Ao36 t943.length co36, .slice Ao42 t946.length co42] 40 (0, 0)) (by (with_reducible repeat (first | refine zab ?_ _ | refine zae ?_ | refine zac ?_ _)); refine zbo (cs := #[.slice Ao36 t943.length co36, .slice none 0 0]) ?_ 1 _ rfl; (with_reducible repeat (first | refine zab ?_ _ | refine zae ?_ | refine zac ?_ _)); refine zbo (cs := #[.slice none 0 0, .slice none 0 0]) ?_ 0 _ rfl; (with_reducible repeat (first | refine zab ?_ _ | refine zae ?_ | refine zac ?_ _)); refine zaq ?_ NB951_950.out _; (with_reducible repeat (first | refine zab ?_ _ | refine zae ?_ | refine zac ?_ _)); refine zaq ?_ NB951_950.out _; (with_reducible repeat (first | refine zab ?_ _ | refine zae ?_ | refine zac ?_ _)); exact BK951.out) hb); have n14_ := zA (zaf (zB HB) hb); clear HO924 HO927 HO930 HO933 HO939 HO942 HO945 HO948 BK920 BK921 BK935 BK936 BK950 BK951 HB; have HO924 := n0_; have HO927 := n1_; have HO930 := n2_; have HO933 := n3_; have HO939 := n4_; have HO942 := n5_; have HO945 := n6_; have HO948 := n7_; have BK920 := n8_; have BK921 := n9_; have BK935 := n10_; have BK936 := n11_; have BK950 := n12_; have BK951 := n13_; have HB := n14_; clear n0_ n1_ n2_ n3_ n4_ n5_ n6_ n7_ n8_ n9_ n10_ n11_ n12_ n13_ n14_; (try clear hb); (try clear hb2); (try clear hk); (try clear hi); have hnb47 := NB920_921.out; have hnc47 := NB921_920.out; have hnb48 := NB920_935.out; have hnc48 := NB935_920.out; have hnb49 := NB920_936.out; have hnc49 := NB936_920.out; have hnb50 := NB920_950.out; have hnc50 := NB950_920.out; have hnb51 := NB920_951.out; have hnc51 := NB951_920.out; have hcz52_0 : w46.cell? ⟨gb920, 0, none⟩ = some (.slice A0_0 l0_0.length c0_0) := (zad BK920.out 0).trans rfl; have hcz52_1 : w46.cell? ⟨gb920, 1, none⟩ = some (.slice A0_1 l0_1.length c0_1) := (zad BK920.out 1).trans rfl; have hfz52_0 := zal BK920.out 0; have hfz52_1 := zal BK920.out 1))
    go_meet
    case rel => exact ⟨_, (true), (zF), H', ⟨by first | omega | exact Nat.le_refl _⟩, ⟨by (with_reducible repeat (first | apply Kd.za8 | apply Kd.za9 | apply Kd.zbc)); exact Kd.zak HO924.out (fun _ hk => ⟨hk.1.1.1.1.1.1.1, ⟨hk.1.1.1.1.1.1.2.1, ⟨hk.1.1.1.2, ⟨hk.1.1.2, ⟨hk.1.1.1.1.1.1.2.2.1, ⟨hk.1.1.1.1.1.1.2.2.2, ⟨hk.1.1.1.1.1.2, ⟨hk.1.1.1.1.2, ⟨hk.1.2, hk.2⟩⟩⟩⟩⟩⟩⟩⟩⟩)⟩, ⟨by (with_reducible repeat (first | apply Kd.za8 | apply Kd.za9 | apply Kd.zbc)); exact Kd.zak HO927.out (fun _ hk => ⟨hk.1.1.1.1.1.1.1, ⟨hk.1.1.1.1.1.1.2.1, ⟨hk.1.1.1.2, ⟨hk.1.1.2, ⟨hk.1.1.1.1.1.1.2.2.1, ⟨hk.1.1.1.1.1.1.2.2.2, ⟨hk.1.1.1.1.1.2, ⟨hk.1.1.1.1.2, ⟨hk.1.2, hk.2⟩⟩⟩⟩⟩⟩⟩⟩⟩)⟩, ⟨by (with_reducible repeat (first | apply Kd.za3 | apply Kd.za4 | apply Kd.zbb)); exact Kd.zav HO930.out (fun _ hk => ⟨hk.1.1, ⟨hk.1.2, hk.2⟩⟩)⟩, ⟨by (with_reducible repeat (first | apply Kd.za3 | apply Kd.za4 | apply Kd.zbb)); exact Kd.zav HO933.out (fun _ hk => ⟨hk.1.1, ⟨hk.1.2, hk.2⟩⟩)⟩, ⟨by (with_reducible repeat (first | apply Kd.za8 | apply Kd.za9 | apply Kd.zbc)); exact Kd.zak HO939.out (fun _ hk => ⟨hk.1.1.2.2.1, ⟨hk.1.1.2.2.2.1, ⟨hk.1.1.1, ⟨hk.1.1.2.1, ⟨hk.1.1.2.2.2.2.1, ⟨hk.1.1.2.2.2.2.2.1, ⟨hk.1.1.2.2.2.2.2.2.1, ⟨hk.1.1.2.2.2.2.2.2.2, ⟨hk.1.2, hk.2⟩⟩⟩⟩⟩⟩⟩⟩⟩)⟩, ⟨by (with_reducible repeat (first | apply Kd.za8 | apply Kd.za9 | apply Kd.zbc)); exact Kd.zak HO942.out (fun _ hk => ⟨hk.1.1.2.2.1, ⟨hk.1.1.2.2.2.1, ⟨hk.1.1.1, ⟨hk.1.1.2.1, ⟨hk.1.1.2.2.2.2.1, ⟨hk.1.1.2.2.2.2.2.1, ⟨hk.1.1.2.2.2.2.2.2.1, ⟨hk.1.1.2.2.2.2.2.2.2, ⟨hk.1.2, hk.2⟩⟩⟩⟩⟩⟩⟩⟩⟩)⟩, ⟨by (with_reducible repeat (first | apply Kd.za3 | apply Kd.za4 | apply Kd.zbb)); exact Kd.zav HO945.out (fun _ hk => ⟨hk.1.2, ⟨hk.2, hk.1.1⟩⟩)⟩, ⟨by (with_reducible repeat (first | apply Kd.za3 | apply Kd.za4 | apply Kd.zbb)); exact Kd.zav HO948.out (fun _ hk => ⟨hk.1.2, ⟨hk.2, hk.1.1⟩⟩)⟩, ⟨zK BK920⟩, ⟨zK BK921⟩, ⟨zK BK935⟩, ⟨zK BK936⟩, ⟨zK BK950⟩, ⟨zK BK951⟩, ⟨zB HB⟩⟩
   ·
    rw [if_neg c45] at H
    have c45b0 : ((l0_1.length : Int) == 0) = false := beq_eq_false_iff_ne.mpr c45
    have c45b1 : ((l0_1.length : Int) != 0) = true := bne_iff_ne.mpr c45
    have c45b2 : ¬ (l0_1 = []) := fun h_ => c45 (by rw [h_]; rfl)
    (first | rw [c45b0] | (simp only [i64_w, i32_w]; rw [c45b0]) | skip)
    by_cases c53 : (l1_1.length : Int) = 0
    ·
     rw [if_pos c53] at H
     have c53b0 : ((l1_1.length : Int) == 0) = true := beq_iff_eq.mpr c53
     have c53b1 : ((l1_1.length : Int) != 0) = false := bne_eq_false_iff_eq.mpr c53
     clear c53
     have H' := zA H
     clear H
     go_wp2_with (first | ((with_reducible refine zah (f := 14) rfl ?_); refine zba (some 26) rfl rfl Tryd.func14 (by kernel_rfl) rfl #[] rfl (zE) ?_; (with_reducible refine (zbq.calls k  true _ ?side1 A43.out).mono ?_); (case side1 => exact Glob.below HG.out (zB HB)); rintro e w54 ⟨rfl, hb⟩; refine ⟨_, rfl, ?_⟩; have n0_ := zA (Kd.zao (by (with_reducible repeat (first | apply Kd.za8 | apply Kd.za9 | apply Kd.zbc)); exact (Kd.zak (Kd.zak (Kd.V_far (p := ⟨gb951, 1, none⟩) (Kd.V_far (p := ⟨gb951, 0, none⟩) (Kd.V_far (p := ⟨gb950, 1, none⟩) (Kd.V_far (p := ⟨gb950, 0, none⟩) (Kd.zak (Kd.zak HO924.out (fun k_ hk => (⟨hk, hk.1.2⟩ : _ ∧ k_ ≠ gb950))) (fun k_ hk => (⟨hk, hk.1.2⟩ : _ ∧ k_ ≠ gb951))) (fun _ hk => hk.1.2) (.slice Ao28 t937.length co28)) (fun _ hk => hk.1.2) (.slice Ao35 t940.length co35)) (fun _ hk => hk.2) (.slice Ao36 t943.length co36)) (fun _ hk => hk.2) (.slice Ao42 t946.length co42)) (fun _ h_ => h_.1)) (fun _ h_ => h_.1))) hb); have n1_ := zA (Kd.zao (by (with_reducible repeat (first | apply Kd.za8 | apply Kd.za9 | apply Kd.zbc)); exact (Kd.zak (Kd.zak (Kd.V_far (p := ⟨gb951, 1, none⟩) (Kd.V_far (p := ⟨gb951, 0, none⟩) (Kd.V_far (p := ⟨gb950, 1, none⟩) (Kd.V_far (p := ⟨gb950, 0, none⟩) (Kd.zak (Kd.zak HO927.out (fun k_ hk => (⟨hk, hk.1.2⟩ : _ ∧ k_ ≠ gb950))) (fun k_ hk => (⟨hk, hk.1.2⟩ : _ ∧ k_ ≠ gb951))) (fun _ hk => hk.1.2) (.slice Ao28 t937.length co28)) (fun _ hk => hk.1.2) (.slice Ao35 t940.length co35)) (fun _ hk => hk.2) (.slice Ao36 t943.length co36)) (fun _ hk => hk.2) (.slice Ao42 t946.length co42)) (fun _ h_ => h_.1)) (fun _ h_ => h_.1))) hb); have n2_ := zA (Kd.zax (by (with_reducible repeat (first | apply Kd.za3 | apply Kd.za4 | apply Kd.zbb)); exact (Kd.zav (Kd.zav (Kd.R_far (p := ⟨gb951, 1, none⟩) (Kd.R_far (p := ⟨gb951, 0, none⟩) (Kd.R_far (p := ⟨gb950, 1, none⟩) (Kd.R_far (p := ⟨gb950, 0, none⟩) (Kd.zbe (Kd.zbe HO930.out BK950.out (by decide)) BK951.out (by decide)) (fun _ hk => hk.1.2) (.slice Ao28 t937.length co28)) (fun _ hk => hk.1.2) (.slice Ao35 t940.length co35)) (fun _ hk => hk.2) (.slice Ao36 t943.length co36)) (fun _ hk => hk.2) (.slice Ao42 t946.length co42)) (fun _ h_ => h_.1)) (fun _ h_ => h_.1))) hb); have n3_ := zA (Kd.zax (by (with_reducible repeat (first | apply Kd.za3 | apply Kd.za4 | apply Kd.zbb)); exact (Kd.zav (Kd.zav (Kd.R_far (p := ⟨gb951, 1, none⟩) (Kd.R_far (p := ⟨gb951, 0, none⟩) (Kd.R_far (p := ⟨gb950, 1, none⟩) (Kd.R_far (p := ⟨gb950, 0, none⟩) (Kd.zbe (Kd.zbe HO933.out BK950.out (by decide)) BK951.out (by decide)) (fun _ hk => hk.1.2) (.slice Ao28 t937.length co28)) (fun _ hk => hk.1.2) (.slice Ao35 t940.length co35)) (fun _ hk => hk.2) (.slice Ao36 t943.length co36)) (fun _ hk => hk.2) (.slice Ao42 t946.length co42)) (fun _ h_ => h_.1)) (fun _ h_ => h_.1))) hb); have n4_ := zA (Kd.zao (by (with_reducible repeat (first | apply Kd.za8 | apply Kd.za9 | apply Kd.zbc)); exact (Kd.zak (Kd.zak (Kd.V_far (p := ⟨gb951, 1, none⟩) (Kd.V_far (p := ⟨gb951, 0, none⟩) (Kd.V_far (p := ⟨gb950, 1, none⟩) (Kd.V_far (p := ⟨gb950, 0, none⟩) (Kd.zak (Kd.zak HO939.out (fun k_ hk => (⟨hk, hk.1.2⟩ : _ ∧ k_ ≠ gb950))) (fun k_ hk => (⟨hk, hk.1.2⟩ : _ ∧ k_ ≠ gb951))) (fun _ hk => hk.1.2) (.slice Ao28 t937.length co28)) (fun _ hk => hk.1.2) (.slice Ao35 t940.length co35)) (fun _ hk => hk.2) (.slice Ao36 t943.length co36)) (fun _ hk => hk.2) (.slice Ao42 t946.length co42)) (fun _ h_ => h_.1)) (fun _ h_ => h_.1))) hb); have n5_ := zA (Kd.zao (by (with_reducible repeat (first | apply Kd.za8 | apply Kd.za9 | apply Kd.zbc)); exact (Kd.zak (Kd.zak (Kd.V_far (p := ⟨gb951, 1, none⟩) (Kd.V_far (p := ⟨gb951, 0, none⟩) (Kd.V_far (p := ⟨gb950, 1, none⟩) (Kd.V_far (p := ⟨gb950, 0, none⟩) (Kd.zak (Kd.zak HO942.out (fun k_ hk => (⟨hk, hk.1.2⟩ : _ ∧ k_ ≠ gb950))) (fun k_ hk => (⟨hk, hk.1.2⟩ : _ ∧ k_ ≠ gb951))) (fun _ hk => hk.1.2) (.slice Ao28 t937.length co28)) (fun _ hk => hk.1.2) (.slice Ao35 t940.length co35)) (fun _ hk => hk.2) (.slice Ao36 t943.length co36)) (fun _ hk => hk.2) (.slice Ao42 t946.length co42)) (fun _ h_ => h_.1)) (fun _ h_ => h_.1))) hb); have n6_ := zA (Kd.zax (by (with_reducible repeat (first | apply Kd.za3 | apply Kd.za4 | apply Kd.zbb)); exact (Kd.zav (Kd.zav (Kd.R_far (p := ⟨gb951, 1, none⟩) (Kd.R_far (p := ⟨gb951, 0, none⟩) (Kd.R_far (p := ⟨gb950, 1, none⟩) (Kd.R_far (p := ⟨gb950, 0, none⟩) (Kd.zbe (Kd.zbe HO945.out BK950.out (by decide)) BK951.out (by decide)) (fun _ hk => hk.1.2) (.slice Ao28 t937.length co28)) (fun _ hk => hk.1.2) (.slice Ao35 t940.length co35)) (fun _ hk => hk.2) (.slice Ao36 t943.length co36)) (fun _ hk => hk.2) (.slice Ao42 t946.length co42)) (fun _ h_ => h_.1)) (fun _ h_ => h_.1))) hb); have n7_ := zA (Kd.zax (by (with_reducible repeat (first | apply Kd.za3 | apply Kd.za4 | apply Kd.zbb)); exact (Kd.zav (Kd.zav (Kd.R_far (p := ⟨gb951, 1, none⟩) (Kd.R_far (p := ⟨gb951, 0, none⟩) (Kd.R_far (p := ⟨gb950, 1, none⟩) (Kd.R_far (p := ⟨gb950, 0, none⟩) (Kd.zbe (Kd.zbe HO948.out BK950.out (by decide)) BK951.out (by decide)) (fun _ hk => hk.1.2) (.slice Ao28 t937.length co28)) (fun _ hk => hk.1.2) (.slice Ao35 t940.length co35)) (fun _ hk => hk.2) (.slice Ao36 t943.length co36)) (fun _ hk => hk.2) (.slice Ao42 t946.length co42)) (fun _ h_ => h_.1)) (fun _ h_ => h_.1))) hb); have n8_ := zA (zaa (g := gb920) (o := .cells #[.slice A0_0 l0_0.length c0_0, .slice A0_1 l0_1.length c0_1] 24 (0, 0)) (by (with_reducible repeat (first | refine zab ?_ _ | refine zae ?_ | refine zac ?_ _)); refine zaq ?_ NB920_951.out _; (with_reducible repeat (first | refine zab ?_ _ | refine zae ?_ | refine zac ?_ _)); refine zaq ?_ NB920_951.out _; (with_reducible repeat (first | refine zab ?_ _ | refine zae ?_ | refine zac ?_ _)); refine zaq ?_ NB920_950.out _; (with_reducible repeat (first | refine zab ?_ _ | refine zae ?_ | refine zac ?_ _)); refine zaq ?_ NB920_950.out _; (with_reducible repeat (first | refine zab ?_ _ | refine zae ?_ | refine zac ?_ _)); exact BK920.out) hb); have n9_ := zA (zaa (g := gb921) (o := .cells #[.slice A1_0 l1_0.length c1_0, .slice A1_1 l1_1.length c1_1] 24 (0, 0)) (by (with_reducible repeat (first | refine zab ?_ _ | refine zae ?_ | refine zac ?_ _)); refine zaq ?_ NB921_951.out _; (with_reducible repeat (first | refine zab ?_ _ | refine zae ?_ | refine zac ?_ _)); refine zaq ?_ NB921_951.out _; (with_reducible repeat (first | refine zab ?_ _ | refine zae ?_ | refine zac ?_ _)); refine zaq ?_ NB921_950.out _; (with_reducible repeat (first | refine zab ?_ _ | refine zae ?_ | refine zac ?_ _)); refine zaq ?_ NB921_950.out _; (with_reducible repeat (first | refine zab ?_ _ | refine zae ?_ | refine zac ?_ _)); exact BK921.out) hb); have n10_ := zA (zaa (g := gb935) (o := .cells #[.slice Ao13 t922.length co13, .slice Ao18 t925.length co18] 28 (0, 0)) (by (with_reducible repeat (first | refine zab ?_ _ | refine zae ?_ | refine zac ?_ _)); refine zaq ?_ NB935_951.out _; (with_reducible repeat (first | refine zab ?_ _ | refine zae ?_ | refine zac ?_ _)); refine zaq ?_ NB935_951.out _; (with_reducible repeat (first | refine zab ?_ _ | refine zae ?_ | refine zac ?_ _)); refine zaq ?_ NB935_950.out _; (with_reducible repeat (first | refine zab ?_ _ | refine zae ?_ | refine zac ?_ _)); refine zaq ?_ NB935_950.out _; (with_reducible repeat (first | refine zab ?_ _ | refine zae ?_ | refine zac ?_ _)); exact BK935.out) hb); have n11_ := zA (zaa (g := gb936) (o := .cells #[.slice Ao19 t928.length co19, .slice Ao23 t931.length co23] 40 (0, 0)) (by (with_reducible repeat (first | refine zab ?_ _ | refine zae ?_ | refine zac ?_ _)); refine zaq ?_ NB936_951.out _; (with_reducible repeat (first | refine zab ?_ _ | refine zae ?_ | refine zac ?_ _)); refine zaq ?_ NB936_951.out _; (with_reducible repeat (first | refine zab ?_ _ | refine zae ?_ | refine zac ?_ _)); refine zaq ?_ NB936_950.out _; (with_reducible repeat (first | refine zab ?_ _ | refine zae ?_ | refine zac ?_ _)); refine zaq ?_ NB936_950.out _; (with_reducible repeat (first | refine zab ?_ _ | refine zae ?_ | refine zac ?_ _)); exact BK936.out) hb); have n12_ := zA (zaa (g := gb950) (o := .cells #[.slice Ao28 t937.length co28, .slice Ao35 t940.length co35] 28 (0, 0)) (by (with_reducible repeat (first | refine zab ?_ _ | refine zae ?_ | refine zac ?_ _)); refine zaq ?_ NB950_951.out _; (with_reducible repeat (first | refine zab ?_ _ | refine zae ?_ | refine zac ?_ _)); refine zaq ?_ NB950_951.out _; (with_reducible repeat (first | refine zab ?_ _ | refine zae ?_ | refine zac ?_ _)); refine zbo (cs := #[.slice Ao28 t937.length co28, .slice none 0 0]) ?_ 1 _ rfl; (with_reducible repeat (first | refine zab ?_ _ | refine zae ?_ | refine zac ?_ _)); refine zbo (cs := #[.slice none 0 0, .slice none 0 0]) ?_ 0 _ rfl; (with_reducible repeat (first | refine zab ?_ _ | refine zae ?_ | refine zac ?_ _)); exact BK950.out) hb); have n13_ := zA (zaa (g := gb951) (o := .cells #[.slice Ao36 t943.length co36, .slice Ao42 t946.length co42] 40 (0, 0)) (by (with_reducible repeat (first | refine zab ?_ _ | refine zae ?_ | refine zac ?_ _)); refine zbo (cs := #[.slice Ao36 t943.length co36, .slice none 0 0]) ?_ 1 _ rfl; (with_reducible repeat (first | refine zab ?_ _ | refine zae ?_ | refine zac ?_ _)); refine zbo (cs := #[.slice none 0 0, .slice none 0 0]) ?_ 0 _ rfl; (with_reducible repeat (first | refine zab ?_ _ | refine zae ?_ | refine zac ?_ _)); refine zaq ?_ NB951_950.out _; (with_reducible repeat (first | refine zab ?_ _ | refine zae ?_ | refine zac ?_ _)); refine zaq ?_ NB951_950.out _; (with_reducible repeat (first | refine zab ?_ _ | refine zae ?_ | refine zac ?_ _)); exact BK951.out) hb); have n14_ := zA (zaf (zB HB) hb); clear HO924 HO927 HO930 HO933 HO939 HO942 HO945 HO948 BK920 BK921 BK935 BK936 BK950 BK951 HB; have HO924 := n0_; have HO927 := n1_; have HO930 := n2_; have HO933 := n3_; have HO939 := n4_; have HO942 := n5_; have HO945 := n6_; have HO948 := n7_; have BK920 := n8_; have BK921 := n9_; have BK935 := n10_; have BK936 := n11_; have BK950 := n12_; have BK951 := n13_; have HB := n14_; clear n0_ n1_ n2_ n3_ n4_ n5_ n6_ n7_ n8_ n9_ n10_ n11_ n12_ n13_ n14_; (try clear hb); (try clear hb2); (try clear hk); (try clear hi); have hnb55 := NB920_921.out; have hnc55 := NB921_920.out; have hnb56 := NB920_935.out; have hnc56 := NB935_920.out; have hnb57 := NB920_936.out; have hnc57 := NB936_920.out; have hnb58 := NB920_950.out; have hnc58 := NB950_920.out; have hnb59 := NB920_951.out; have hnc59 := NB951_920.out; have hcz60_0 : w54.cell? ⟨gb920, 0, none⟩ = some (.slice A0_0 l0_0.length c0_0) := (zad BK920.out 0).trans rfl; have hcz60_1 : w54.cell? ⟨gb920, 1, none⟩ = some (.slice A0_1 l0_1.length c0_1) := (zad BK920.out 1).trans rfl; have hfz60_0 := zal BK920.out 0; have hfz60_1 := zal BK920.out 1; have hnb61 := NB921_935.out; have hnc61 := NB935_921.out; have hnb62 := NB921_936.out; have hnc62 := NB936_921.out; have hnb63 := NB921_950.out; have hnc63 := NB950_921.out; have hnb64 := NB921_951.out; have hnc64 := NB951_921.out; have hcz65_0 : w54.cell? ⟨gb921, 0, none⟩ = some (.slice A1_0 l1_0.length c1_0) := (zad BK921.out 0).trans rfl; have hcz65_1 : w54.cell? ⟨gb921, 1, none⟩ = some (.slice A1_1 l1_1.length c1_1) := (zad BK921.out 1).trans rfl; have hfz65_0 := zal BK921.out 0; have hfz65_1 := zal BK921.out 1))
     go_meet
     case rel => exact ⟨_, (true), (zF), H', ⟨by first | omega | exact Nat.le_refl _⟩, ⟨by (with_reducible repeat (first | apply Kd.za8 | apply Kd.za9 | apply Kd.zbc)); exact Kd.zak HO924.out (fun _ hk => ⟨hk.1.1.1.1.1.1.1, ⟨hk.1.1.1.1.1.1.2.1, ⟨hk.1.1.1.2, ⟨hk.1.1.2, ⟨hk.1.1.1.1.1.1.2.2.1, ⟨hk.1.1.1.1.1.1.2.2.2, ⟨hk.1.1.1.1.1.2, ⟨hk.1.1.1.1.2, ⟨hk.1.2, hk.2⟩⟩⟩⟩⟩⟩⟩⟩⟩)⟩, ⟨by (with_reducible repeat (first | apply Kd.za8 | apply Kd.za9 | apply Kd.zbc)); exact Kd.zak HO927.out (fun _ hk => ⟨hk.1.1.1.1.1.1.1, ⟨hk.1.1.1.1.1.1.2.1, ⟨hk.1.1.1.2, ⟨hk.1.1.2, ⟨hk.1.1.1.1.1.1.2.2.1, ⟨hk.1.1.1.1.1.1.2.2.2, ⟨hk.1.1.1.1.1.2, ⟨hk.1.1.1.1.2, ⟨hk.1.2, hk.2⟩⟩⟩⟩⟩⟩⟩⟩⟩)⟩, ⟨by (with_reducible repeat (first | apply Kd.za3 | apply Kd.za4 | apply Kd.zbb)); exact Kd.zav HO930.out (fun _ hk => ⟨hk.1.1, ⟨hk.1.2, hk.2⟩⟩)⟩, ⟨by (with_reducible repeat (first | apply Kd.za3 | apply Kd.za4 | apply Kd.zbb)); exact Kd.zav HO933.out (fun _ hk => ⟨hk.1.1, ⟨hk.1.2, hk.2⟩⟩)⟩, ⟨by (with_reducible repeat (first | apply Kd.za8 | apply Kd.za9 | apply Kd.zbc)); exact Kd.zak HO939.out (fun _ hk => ⟨hk.1.1.2.2.1, ⟨hk.1.1.2.2.2.1, ⟨hk.1.1.1, ⟨hk.1.1.2.1, ⟨hk.1.1.2.2.2.2.1, ⟨hk.1.1.2.2.2.2.2.1, ⟨hk.1.1.2.2.2.2.2.2.1, ⟨hk.1.1.2.2.2.2.2.2.2, ⟨hk.1.2, hk.2⟩⟩⟩⟩⟩⟩⟩⟩⟩)⟩, ⟨by (with_reducible repeat (first | apply Kd.za8 | apply Kd.za9 | apply Kd.zbc)); exact Kd.zak HO942.out (fun _ hk => ⟨hk.1.1.2.2.1, ⟨hk.1.1.2.2.2.1, ⟨hk.1.1.1, ⟨hk.1.1.2.1, ⟨hk.1.1.2.2.2.2.1, ⟨hk.1.1.2.2.2.2.2.1, ⟨hk.1.1.2.2.2.2.2.2.1, ⟨hk.1.1.2.2.2.2.2.2.2, ⟨hk.1.2, hk.2⟩⟩⟩⟩⟩⟩⟩⟩⟩)⟩, ⟨by (with_reducible repeat (first | apply Kd.za3 | apply Kd.za4 | apply Kd.zbb)); exact Kd.zav HO945.out (fun _ hk => ⟨hk.1.2, ⟨hk.2, hk.1.1⟩⟩)⟩, ⟨by (with_reducible repeat (first | apply Kd.za3 | apply Kd.za4 | apply Kd.zbb)); exact Kd.zav HO948.out (fun _ hk => ⟨hk.1.2, ⟨hk.2, hk.1.1⟩⟩)⟩, ⟨zK BK920⟩, ⟨zK BK921⟩, ⟨zK BK935⟩, ⟨zK BK936⟩, ⟨zK BK950⟩, ⟨zK BK951⟩, ⟨zB HB⟩⟩
    ·
     rw [if_neg c53] at H
     have c53b0 : ((l1_1.length : Int) == 0) = false := beq_eq_false_iff_ne.mpr c53
     have c53b1 : ((l1_1.length : Int) != 0) = true := bne_iff_ne.mpr c53
     have c53b2 : ¬ (l1_1 = []) := fun h_ => c53 (by rw [h_]; rfl)
     by_cases c66 : t934 = true
     ·
      subst c66
      rw [if_pos rfl] at H
      have H' := zA H
      clear H
      go_wp2_with (first | ((with_reducible refine zah (f := 14) rfl ?_); refine zba (some 26) rfl rfl Tryd.func14 (by kernel_rfl) rfl #[] rfl (zE) ?_; (with_reducible refine (zbq.calls k  true _ ?side1 A43.out).mono ?_); (case side1 => exact Glob.below HG.out (zB HB)); rintro e w67 ⟨rfl, hb⟩; refine ⟨_, rfl, ?_⟩; have n0_ := zA (Kd.zao (by (with_reducible repeat (first | apply Kd.za8 | apply Kd.za9 | apply Kd.zbc)); exact (Kd.zak (Kd.zak (Kd.V_far (p := ⟨gb951, 1, none⟩) (Kd.V_far (p := ⟨gb951, 0, none⟩) (Kd.V_far (p := ⟨gb950, 1, none⟩) (Kd.V_far (p := ⟨gb950, 0, none⟩) (Kd.zak (Kd.zak HO924.out (fun k_ hk => (⟨hk, hk.1.2⟩ : _ ∧ k_ ≠ gb950))) (fun k_ hk => (⟨hk, hk.1.2⟩ : _ ∧ k_ ≠ gb951))) (fun _ hk => hk.1.2) (.slice Ao28 t937.length co28)) (fun _ hk => hk.1.2) (.slice Ao35 t940.length co35)) (fun _ hk => hk.2) (.slice Ao36 t943.length co36)) (fun _ hk => hk.2) (.slice Ao42 t946.length co42)) (fun _ h_ => h_.1)) (fun _ h_ => h_.1))) hb); have n1_ := zA (Kd.zao (by (with_reducible repeat (first | apply Kd.za8 | apply Kd.za9 | apply Kd.zbc)); exact (Kd.zak (Kd.zak (Kd.V_far (p := ⟨gb951, 1, none⟩) (Kd.V_far (p := ⟨gb951, 0, none⟩) (Kd.V_far (p := ⟨gb950, 1, none⟩) (Kd.V_far (p := ⟨gb950, 0, none⟩) (Kd.zak (Kd.zak HO927.out (fun k_ hk => (⟨hk, hk.1.2⟩ : _ ∧ k_ ≠ gb950))) (fun k_ hk => (⟨hk, hk.1.2⟩ : _ ∧ k_ ≠ gb951))) (fun _ hk => hk.1.2) (.slice Ao28 t937.length co28)) (fun _ hk => hk.1.2) (.slice Ao35 t940.length co35)) (fun _ hk => hk.2) (.slice Ao36 t943.length co36)) (fun _ hk => hk.2) (.slice Ao42 t946.length co42)) (fun _ h_ => h_.1)) (fun _ h_ => h_.1))) hb); have n2_ := zA (Kd.zax (by (with_reducible repeat (first | apply Kd.za3 | apply Kd.za4 | apply Kd.zbb)); exact (Kd.zav (Kd.zav (Kd.R_far (p := ⟨gb951, 1, none⟩) (Kd.R_far (p := ⟨gb951, 0, none⟩) (Kd.R_far (p := ⟨gb950, 1, none⟩) (Kd.R_far (p := ⟨gb950, 0, none⟩) (Kd.zbe (Kd.zbe HO930.out BK950.out (by decide)) BK951.out (by decide)) (fun _ hk => hk.1.2) (.slice Ao28 t937.length co28)) (fun _ hk => hk.1.2) (.slice Ao35 t940.length co35)) (fun _ hk => hk.2) (.slice Ao36 t943.length co36)) (fun _ hk => hk.2) (.slice Ao42 t946.length co42)) (fun _ h_ => h_.1)) (fun _ h_ => h_.1))) hb); have n3_ := zA (Kd.zax (by (with_reducible repeat (first | apply Kd.za3 | apply Kd.za4 | apply Kd.zbb)); exact (Kd.zav (Kd.zav (Kd.R_far (p := ⟨gb951, 1, none⟩) (Kd.R_far (p := ⟨gb951, 0, none⟩) (Kd.R_far (p := ⟨gb950, 1, none⟩) (Kd.R_far (p := ⟨gb950, 0, none⟩) (Kd.zbe (Kd.zbe HO933.out BK950.out (by decide)) BK951.out (by decide)) (fun _ hk => hk.1.2) (.slice Ao28 t937.length co28)) (fun _ hk => hk.1.2) (.slice Ao35 t940.length co35)) (fun _ hk => hk.2) (.slice Ao36 t943.length co36)) (fun _ hk => hk.2) (.slice Ao42 t946.length co42)) (fun _ h_ => h_.1)) (fun _ h_ => h_.1))) hb); have n4_ := zA (Kd.zao (by (with_reducible repeat (first | apply Kd.za8 | apply Kd.za9 | apply Kd.zbc)); exact (Kd.zak (Kd.zak (Kd.V_far (p := ⟨gb951, 1, none⟩) (Kd.V_far (p := ⟨gb951, 0, none⟩) (Kd.V_far (p := ⟨gb950, 1, none⟩) (Kd.V_far (p := ⟨gb950, 0, none⟩) (Kd.zak (Kd.zak HO939.out (fun k_ hk => (⟨hk, hk.1.2⟩ : _ ∧ k_ ≠ gb950))) (fun k_ hk => (⟨hk, hk.1.2⟩ : _ ∧ k_ ≠ gb951))) (fun _ hk => hk.1.2) (.slice Ao28 t937.length co28)) (fun _ hk => hk.1.2) (.slice Ao35 t940.length co35)) (fun _ hk => hk.2) (.slice Ao36 t943.length co36)) (fun _ hk => hk.2) (.slice Ao42 t946.length co42)) (fun _ h_ => h_.1)) (fun _ h_ => h_.1))) hb); have n5_ := zA (Kd.zao (by (with_reducible repeat (first | apply Kd.za8 | apply Kd.za9 | apply Kd.zbc)); exact (Kd.zak (Kd.zak (Kd.V_far (p := ⟨gb951, 1, none⟩) (Kd.V_far (p := ⟨gb951, 0, none⟩) (Kd.V_far (p := ⟨gb950, 1, none⟩) (Kd.V_far (p := ⟨gb950, 0, none⟩) (Kd.zak (Kd.zak HO942.out (fun k_ hk => (⟨hk, hk.1.2⟩ : _ ∧ k_ ≠ gb950))) (fun k_ hk => (⟨hk, hk.1.2⟩ : _ ∧ k_ ≠ gb951))) (fun _ hk => hk.1.2) (.slice Ao28 t937.length co28)) (fun _ hk => hk.1.2) (.slice Ao35 t940.length co35)) (fun _ hk => hk.2) (.slice Ao36 t943.length co36)) (fun _ hk => hk.2) (.slice Ao42 t946.length co42)) (fun _ h_ => h_.1)) (fun _ h_ => h_.1))) hb); have n6_ := zA (Kd.zax (by (with_reducible repeat (first | apply Kd.za3 | apply Kd.za4 | apply Kd.zbb)); exact (Kd.zav (Kd.zav (Kd.R_far (p := ⟨gb951, 1, none⟩) (Kd.R_far (p := ⟨gb951, 0, none⟩) (Kd.R_far (p := ⟨gb950, 1, none⟩) (Kd.R_far (p := ⟨gb950, 0, none⟩) (Kd.zbe (Kd.zbe HO945.out BK950.out (by decide)) BK951.out (by decide)) (fun _ hk => hk.1.2) (.slice Ao28 t937.length co28)) (fun _ hk => hk.1.2) (.slice Ao35 t940.length co35)) (fun _ hk => hk.2) (.slice Ao36 t943.length co36)) (fun _ hk => hk.2) (.slice Ao42 t946.length co42)) (fun _ h_ => h_.1)) (fun _ h_ => h_.1))) hb); have n7_ := zA (Kd.zax (by (with_reducible repeat (first | apply Kd.za3 | apply Kd.za4 | apply Kd.zbb)); exact (Kd.zav (Kd.zav (Kd.R_far (p := ⟨gb951, 1, none⟩) (Kd.R_far (p := ⟨gb951, 0, none⟩) (Kd.R_far (p := ⟨gb950, 1, none⟩) (Kd.R_far (p := ⟨gb950, 0, none⟩) (Kd.zbe (Kd.zbe HO948.out BK950.out (by decide)) BK951.out (by decide)) (fun _ hk => hk.1.2) (.slice Ao28 t937.length co28)) (fun _ hk => hk.1.2) (.slice Ao35 t940.length co35)) (fun _ hk => hk.2) (.slice Ao36 t943.length co36)) (fun _ hk => hk.2) (.slice Ao42 t946.length co42)) (fun _ h_ => h_.1)) (fun _ h_ => h_.1))) hb); have n8_ := zA (zaa (g := gb920) (o := .cells #[.slice A0_0 l0_0.length c0_0, .slice A0_1 l0_1.length c0_1] 24 (0, 0)) (by (with_reducible repeat (first | refine zab ?_ _ | refine zae ?_ | refine zac ?_ _)); refine zaq ?_ NB920_951.out _; (with_reducible repeat (first | refine zab ?_ _ | refine zae ?_ | refine zac ?_ _)); refine zaq ?_ NB920_951.out _; (with_reducible repeat (first | refine zab ?_ _ | refine zae ?_ | refine zac ?_ _)); refine zaq ?_ NB920_950.out _; (with_reducible repeat (first | refine zab ?_ _ | refine zae ?_ | refine zac ?_ _)); refine zaq ?_ NB920_950.out _; (with_reducible repeat (first | refine zab ?_ _ | refine zae ?_ | refine zac ?_ _)); exact BK920.out) hb); have n9_ := zA (zaa (g := gb921) (o := .cells #[.slice A1_0 l1_0.length c1_0, .slice A1_1 l1_1.length c1_1] 24 (0, 0)) (by (with_reducible repeat (first | refine zab ?_ _ | refine zae ?_ | refine zac ?_ _)); refine zaq ?_ NB921_951.out _; (with_reducible repeat (first | refine zab ?_ _ | refine zae ?_ | refine zac ?_ _)); refine zaq ?_ NB921_951.out _; (with_reducible repeat (first | refine zab ?_ _ | refine zae ?_ | refine zac ?_ _)); refine zaq ?_ NB921_950.out _; (with_reducible repeat (first | refine zab ?_ _ | refine zae ?_ | refine zac ?_ _)); refine zaq ?_ NB921_950.out _; (with_reducible repeat (first | refine zab ?_ _ | refine zae ?_ | refine zac ?_ _)); exact BK921.out) hb); have n10_ := zA (zaa (g := gb935) (o := .cells #[.slice Ao13 t922.length co13, .slice Ao18 t925.length co18] 28 (0, 0)) (by (with_reducible repeat (first | refine zab ?_ _ | refine zae ?_ | refine zac ?_ _)); refine zaq ?_ NB935_951.out _; (with_reducible repeat (first | refine zab ?_ _ | refine zae ?_ | refine zac ?_ _)); refine zaq ?_ NB935_951.out _; (with_reducible repeat (first | refine zab ?_ _ | refine zae ?_ | refine zac ?_ _)); refine zaq ?_ NB935_950.out _; (with_reducible repeat (first | refine zab ?_ _ | refine zae ?_ | refine zac ?_ _)); refine zaq ?_ NB935_950.out _; (with_reducible repeat (first | refine zab ?_ _ | refine zae ?_ | refine zac ?_ _)); exact BK935.out) hb); have n11_ := zA (zaa (g := gb936) (o := .cells #[.slice Ao19 t928.length co19, .slice Ao23 t931.length co23] 40 (0, 0)) (by (with_reducible repeat (first | refine zab ?_ _ | refine zae ?_ | refine zac ?_ _)); refine zaq ?_ NB936_951.out _; (with_reducible repeat (first | refine zab ?_ _ | refine zae ?_ | refine zac ?_ _)); refine zaq ?_ NB936_951.out _; (with_reducible repeat (first | refine zab ?_ _ | refine zae ?_ | refine zac ?_ _)); refine zaq ?_ NB936_950.out _; (with_reducible repeat (first | refine zab ?_ _ | refine zae ?_ | refine zac ?_ _)); refine zaq ?_ NB936_950.out _; (with_reducible repeat (first | refine zab ?_ _ | refine zae ?_ | refine zac ?_ _)); exact BK936.out) hb); have n12_ := zA (zaa (g := gb950) (o := .cells #[.slice Ao28 t937.length co28, .slice Ao35 t940.length co35] 28 (0, 0)) (by (with_reducible repeat (first | refine zab ?_ _ | refine zae ?_ | refine zac ?_ _)); refine zaq ?_ NB950_951.out _; (with_reducible repeat (first | refine zab ?_ _ | refine zae ?_ | refine zac ?_ _)); refine zaq ?_ NB950_951.out _; (with_reducible repeat (first | refine zab ?_ _ | refine zae ?_ | refine zac ?_ _)); refine zbo (cs := #[.slice Ao28 t937.length co28, .slice none 0 0]) ?_ 1 _ rfl; (with_reducible repeat (first | refine zab ?_ _ | refine zae ?_ | refine zac ?_ _)); refine zbo (cs := #[.slice none 0 0, .slice none 0 0]) ?_ 0 _ rfl; (with_reducible repeat (first | refine zab ?_ _ | refine zae ?_ | refine zac ?_ _)); exact BK950.out) hb); have n13_ := zA (zaa (g := gb951) (o := .cells #[.slice Ao36 t943.length co36, .slice Ao42 t946.length co42] 40 (0, 0)) (by (with_reducible repeat (first | refine zab ?_ _ | refine zae ?_ | refine zac ?_ _)); refine zbo (cs := #[.slice Ao36 t943.length co36, .slice none 0 0]) ?_ 1 _ rfl; (with_reducible repeat (first | refine zab ?_ _ | refine zae ?_ | refine zac ?_ _)); refine zbo (cs := #[.slice none 0 0, .slice none 0 0]) ?_ 0 _ rfl; (with_reducible repeat (first | refine zab ?_ _ | refine zae ?_ | refine zac ?_ _)); refine zaq ?_ NB951_950.out _; (with_reducible repeat (first | refine zab ?_ _ | refine zae ?_ | refine zac ?_ _)); refine zaq ?_ NB951_950.out _; (with_reducible repeat (first | refine zab ?_ _ | refine zae ?_ | refine zac ?_ _)); exact BK951.out) hb); have n14_ := zA (zaf (zB HB) hb); clear HO924 HO927 HO930 HO933 HO939 HO942 HO945 HO948 BK920 BK921 BK935 BK936 BK950 BK951 HB; have HO924 := n0_; have HO927 := n1_; have HO930 := n2_; have HO933 := n3_; have HO939 := n4_; have HO942 := n5_; have HO945 := n6_; have HO948 := n7_; have BK920 := n8_; have BK921 := n9_; have BK935 := n10_; have BK936 := n11_; have BK950 := n12_; have BK951 := n13_; have HB := n14_; clear n0_ n1_ n2_ n3_ n4_ n5_ n6_ n7_ n8_ n9_ n10_ n11_ n12_ n13_ n14_; (try clear hb); (try clear hb2); (try clear hk); (try clear hi); have hnb68 := NB920_921.out; have hnc68 := NB921_920.out; have hnb69 := NB920_935.out; have hnc69 := NB935_920.out; have hnb70 := NB920_936.out; have hnc70 := NB936_920.out; have hnb71 := NB920_950.out; have hnc71 := NB950_920.out; have hnb72 := NB920_951.out; have hnc72 := NB951_920.out; have hcz73_0 : w67.cell? ⟨gb920, 0, none⟩ = some (.slice A0_0 l0_0.length c0_0) := (zad BK920.out 0).trans rfl; have hcz73_1 : w67.cell? ⟨gb920, 1, none⟩ = some (.slice A0_1 l0_1.length c0_1) := (zad BK920.out 1).trans rfl; have hfz73_0 := zal BK920.out 0; have hfz73_1 := zal BK920.out 1; have hnb74 := NB921_935.out; have hnc74 := NB935_921.out; have hnb75 := NB921_936.out; have hnc75 := NB936_921.out; have hnb76 := NB921_950.out; have hnc76 := NB950_921.out; have hnb77 := NB921_951.out; have hnc77 := NB951_921.out; have hcz78_0 : w67.cell? ⟨gb921, 0, none⟩ = some (.slice A1_0 l1_0.length c1_0) := (zad BK921.out 0).trans rfl; have hcz78_1 : w67.cell? ⟨gb921, 1, none⟩ = some (.slice A1_1 l1_1.length c1_1) := (zad BK921.out 1).trans rfl; have hfz78_0 := zal BK921.out 0; have hfz78_1 := zal BK921.out 1))
      go_meet
      case rel => exact ⟨_, (!t949), (zF), H', ⟨by first | omega | exact Nat.le_refl _⟩, ⟨by (with_reducible repeat (first | apply Kd.za8 | apply Kd.za9 | apply Kd.zbc)); exact Kd.zak HO924.out (fun _ hk => ⟨hk.1.1.1.1.1.1.1, ⟨hk.1.1.1.1.1.1.2.1, ⟨hk.1.1.1.2, ⟨hk.1.1.2, ⟨hk.1.1.1.1.1.1.2.2.1, ⟨hk.1.1.1.1.1.1.2.2.2, ⟨hk.1.1.1.1.1.2, ⟨hk.1.1.1.1.2, ⟨hk.1.2, hk.2⟩⟩⟩⟩⟩⟩⟩⟩⟩)⟩, ⟨by (with_reducible repeat (first | apply Kd.za8 | apply Kd.za9 | apply Kd.zbc)); exact Kd.zak HO927.out (fun _ hk => ⟨hk.1.1.1.1.1.1.1, ⟨hk.1.1.1.1.1.1.2.1, ⟨hk.1.1.1.2, ⟨hk.1.1.2, ⟨hk.1.1.1.1.1.1.2.2.1, ⟨hk.1.1.1.1.1.1.2.2.2, ⟨hk.1.1.1.1.1.2, ⟨hk.1.1.1.1.2, ⟨hk.1.2, hk.2⟩⟩⟩⟩⟩⟩⟩⟩⟩)⟩, ⟨by (with_reducible repeat (first | apply Kd.za3 | apply Kd.za4 | apply Kd.zbb)); exact Kd.zav HO930.out (fun _ hk => ⟨hk.1.1, ⟨hk.1.2, hk.2⟩⟩)⟩, ⟨by (with_reducible repeat (first | apply Kd.za3 | apply Kd.za4 | apply Kd.zbb)); exact Kd.zav HO933.out (fun _ hk => ⟨hk.1.1, ⟨hk.1.2, hk.2⟩⟩)⟩, ⟨by (with_reducible repeat (first | apply Kd.za8 | apply Kd.za9 | apply Kd.zbc)); exact Kd.zak HO939.out (fun _ hk => ⟨hk.1.1.2.2.1, ⟨hk.1.1.2.2.2.1, ⟨hk.1.1.1, ⟨hk.1.1.2.1, ⟨hk.1.1.2.2.2.2.1, ⟨hk.1.1.2.2.2.2.2.1, ⟨hk.1.1.2.2.2.2.2.2.1, ⟨hk.1.1.2.2.2.2.2.2.2, ⟨hk.1.2, hk.2⟩⟩⟩⟩⟩⟩⟩⟩⟩)⟩, ⟨by (with_reducible repeat (first | apply Kd.za8 | apply Kd.za9 | apply Kd.zbc)); exact Kd.zak HO942.out (fun _ hk => ⟨hk.1.1.2.2.1, ⟨hk.1.1.2.2.2.1, ⟨hk.1.1.1, ⟨hk.1.1.2.1, ⟨hk.1.1.2.2.2.2.1, ⟨hk.1.1.2.2.2.2.2.1, ⟨hk.1.1.2.2.2.2.2.2.1, ⟨hk.1.1.2.2.2.2.2.2.2, ⟨hk.1.2, hk.2⟩⟩⟩⟩⟩⟩⟩⟩⟩)⟩, ⟨by (with_reducible repeat (first | apply Kd.za3 | apply Kd.za4 | apply Kd.zbb)); exact Kd.zav HO945.out (fun _ hk => ⟨hk.1.2, ⟨hk.2, hk.1.1⟩⟩)⟩, ⟨by (with_reducible repeat (first | apply Kd.za3 | apply Kd.za4 | apply Kd.zbb)); exact Kd.zav HO948.out (fun _ hk => ⟨hk.1.2, ⟨hk.2, hk.1.1⟩⟩)⟩, ⟨zK BK920⟩, ⟨zK BK921⟩, ⟨zK BK935⟩, ⟨zK BK936⟩, ⟨zK BK950⟩, ⟨zK BK951⟩, ⟨zB HB⟩⟩
     ·
      replace c66 := Bool.eq_false_iff.mpr c66
      subst c66
      rw [if_neg (show ¬ (false = true) by decide)] at H
      have H' := zA H
      clear H
      go_wp2_with (first | ((with_reducible refine zah (f := 14) rfl ?_); refine zba (some 26) rfl rfl Tryd.func14 (by kernel_rfl) rfl #[] rfl (zE) ?_; (with_reducible refine (zbq.calls k  true _ ?side1 A43.out).mono ?_); (case side1 => exact Glob.below HG.out (zB HB)); rintro e w79 ⟨rfl, hb⟩; refine ⟨_, rfl, ?_⟩; have n0_ := zA (Kd.zao (by (with_reducible repeat (first | apply Kd.za8 | apply Kd.za9 | apply Kd.zbc)); exact (Kd.zak (Kd.zak (Kd.V_far (p := ⟨gb951, 1, none⟩) (Kd.V_far (p := ⟨gb951, 0, none⟩) (Kd.V_far (p := ⟨gb950, 1, none⟩) (Kd.V_far (p := ⟨gb950, 0, none⟩) (Kd.zak (Kd.zak HO924.out (fun k_ hk => (⟨hk, hk.1.2⟩ : _ ∧ k_ ≠ gb950))) (fun k_ hk => (⟨hk, hk.1.2⟩ : _ ∧ k_ ≠ gb951))) (fun _ hk => hk.1.2) (.slice Ao28 t937.length co28)) (fun _ hk => hk.1.2) (.slice Ao35 t940.length co35)) (fun _ hk => hk.2) (.slice Ao36 t943.length co36)) (fun _ hk => hk.2) (.slice Ao42 t946.length co42)) (fun _ h_ => h_.1)) (fun _ h_ => h_.1))) hb); have n1_ := zA (Kd.zao (by (with_reducible repeat (first | apply Kd.za8 | apply Kd.za9 | apply Kd.zbc)); exact (Kd.zak (Kd.zak (Kd.V_far (p := ⟨gb951, 1, none⟩) (Kd.V_far (p := ⟨gb951, 0, none⟩) (Kd.V_far (p := ⟨gb950, 1, none⟩) (Kd.V_far (p := ⟨gb950, 0, none⟩) (Kd.zak (Kd.zak HO927.out (fun k_ hk => (⟨hk, hk.1.2⟩ : _ ∧ k_ ≠ gb950))) (fun k_ hk => (⟨hk, hk.1.2⟩ : _ ∧ k_ ≠ gb951))) (fun _ hk => hk.1.2) (.slice Ao28 t937.length co28)) (fun _ hk => hk.1.2) (.slice Ao35 t940.length co35)) (fun _ hk => hk.2) (.slice Ao36 t943.length co36)) (fun _ hk => hk.2) (.slice Ao42 t946.length co42)) (fun _ h_ => h_.1)) (fun _ h_ => h_.1))) hb); have n2_ := zA (Kd.zax (by (with_reducible repeat (first | apply Kd.za3 | apply Kd.za4 | apply Kd.zbb)); exact (Kd.zav (Kd.zav (Kd.R_far (p := ⟨gb951, 1, none⟩) (Kd.R_far (p := ⟨gb951, 0, none⟩) (Kd.R_far (p := ⟨gb950, 1, none⟩) (Kd.R_far (p := ⟨gb950, 0, none⟩) (Kd.zbe (Kd.zbe HO930.out BK950.out (by decide)) BK951.out (by decide)) (fun _ hk => hk.1.2) (.slice Ao28 t937.length co28)) (fun _ hk => hk.1.2) (.slice Ao35 t940.length co35)) (fun _ hk => hk.2) (.slice Ao36 t943.length co36)) (fun _ hk => hk.2) (.slice Ao42 t946.length co42)) (fun _ h_ => h_.1)) (fun _ h_ => h_.1))) hb); have n3_ := zA (Kd.zax (by (with_reducible repeat (first | apply Kd.za3 | apply Kd.za4 | apply Kd.zbb)); exact (Kd.zav (Kd.zav (Kd.R_far (p := ⟨gb951, 1, none⟩) (Kd.R_far (p := ⟨gb951, 0, none⟩) (Kd.R_far (p := ⟨gb950, 1, none⟩) (Kd.R_far (p := ⟨gb950, 0, none⟩) (Kd.zbe (Kd.zbe HO933.out BK950.out (by decide)) BK951.out (by decide)) (fun _ hk => hk.1.2) (.slice Ao28 t937.length co28)) (fun _ hk => hk.1.2) (.slice Ao35 t940.length co35)) (fun _ hk => hk.2) (.slice Ao36 t943.length co36)) (fun _ hk => hk.2) (.slice Ao42 t946.length co42)) (fun _ h_ => h_.1)) (fun _ h_ => h_.1))) hb); have n4_ := zA (Kd.zao (by (with_reducible repeat (first | apply Kd.za8 | apply Kd.za9 | apply Kd.zbc)); exact (Kd.zak (Kd.zak (Kd.V_far (p := ⟨gb951, 1, none⟩) (Kd.V_far (p := ⟨gb951, 0, none⟩) (Kd.V_far (p := ⟨gb950, 1, none⟩) (Kd.V_far (p := ⟨gb950, 0, none⟩) (Kd.zak (Kd.zak HO939.out (fun k_ hk => (⟨hk, hk.1.2⟩ : _ ∧ k_ ≠ gb950))) (fun k_ hk => (⟨hk, hk.1.2⟩ : _ ∧ k_ ≠ gb951))) (fun _ hk => hk.1.2) (.slice Ao28 t937.length co28)) (fun _ hk => hk.1.2) (.slice Ao35 t940.length co35)) (fun _ hk => hk.2) (.slice Ao36 t943.length co36)) (fun _ hk => hk.2) (.slice Ao42 t946.length co42)) (fun _ h_ => h_.1)) (fun _ h_ => h_.1))) hb); have n5_ := zA (Kd.zao (by (with_reducible repeat (first | apply Kd.za8 | apply Kd.za9 | apply Kd.zbc)); exact (Kd.zak (Kd.zak (Kd.V_far (p := ⟨gb951, 1, none⟩) (Kd.V_far (p := ⟨gb951, 0, none⟩) (Kd.V_far (p := ⟨gb950, 1, none⟩) (Kd.V_far (p := ⟨gb950, 0, none⟩) (Kd.zak (Kd.zak HO942.out (fun k_ hk => (⟨hk, hk.1.2⟩ : _ ∧ k_ ≠ gb950))) (fun k_ hk => (⟨hk, hk.1.2⟩ : _ ∧ k_ ≠ gb951))) (fun _ hk => hk.1.2) (.slice Ao28 t937.length co28)) (fun _ hk => hk.1.2) (.slice Ao35 t940.length co35)) (fun _ hk => hk.2) (.slice Ao36 t943.length co36)) (fun _ hk => hk.2) (.slice Ao42 t946.length co42)) (fun _ h_ => h_.1)) (fun _ h_ => h_.1))) hb); have n6_ := zA (Kd.zax (by (with_reducible repeat (first | apply Kd.za3 | apply Kd.za4 | apply Kd.zbb)); exact (Kd.zav (Kd.zav (Kd.R_far (p := ⟨gb951, 1, none⟩) (Kd.R_far (p := ⟨gb951, 0, none⟩) (Kd.R_far (p := ⟨gb950, 1, none⟩) (Kd.R_far (p := ⟨gb950, 0, none⟩) (Kd.zbe (Kd.zbe HO945.out BK950.out (by decide)) BK951.out (by decide)) (fun _ hk => hk.1.2) (.slice Ao28 t937.length co28)) (fun _ hk => hk.1.2) (.slice Ao35 t940.length co35)) (fun _ hk => hk.2) (.slice Ao36 t943.length co36)) (fun _ hk => hk.2) (.slice Ao42 t946.length co42)) (fun _ h_ => h_.1)) (fun _ h_ => h_.1))) hb); have n7_ := zA (Kd.zax (by (with_reducible repeat (first | apply Kd.za3 | apply Kd.za4 | apply Kd.zbb)); exact (Kd.zav (Kd.zav (Kd.R_far (p := ⟨gb951, 1, none⟩) (Kd.R_far (p := ⟨gb951, 0, none⟩) (Kd.R_far (p := ⟨gb950, 1, none⟩) (Kd.R_far (p := ⟨gb950, 0, none⟩) (Kd.zbe (Kd.zbe HO948.out BK950.out (by decide)) BK951.out (by decide)) (fun _ hk => hk.1.2) (.slice Ao28 t937.length co28)) (fun _ hk => hk.1.2) (.slice Ao35 t940.length co35)) (fun _ hk => hk.2) (.slice Ao36 t943.length co36)) (fun _ hk => hk.2) (.slice Ao42 t946.length co42)) (fun _ h_ => h_.1)) (fun _ h_ => h_.1))) hb); have n8_ := zA (zaa (g := gb920) (o := .cells #[.slice A0_0 l0_0.length c0_0, .slice A0_1 l0_1.length c0_1] 24 (0, 0)) (by (with_reducible repeat (first | refine zab ?_ _ | refine zae ?_ | refine zac ?_ _)); refine zaq ?_ NB920_951.out _; (with_reducible repeat (first | refine zab ?_ _ | refine zae ?_ | refine zac ?_ _)); refine zaq ?_ NB920_951.out _; (with_reducible repeat (first | refine zab ?_ _ | refine zae ?_ | refine zac ?_ _)); refine zaq ?_ NB920_950.out _; (with_reducible repeat (first | refine zab ?_ _ | refine zae ?_ | refine zac ?_ _)); refine zaq ?_ NB920_950.out _; (with_reducible repeat (first | refine zab ?_ _ | refine zae ?_ | refine zac ?_ _)); exact BK920.out) hb); have n9_ := zA (zaa (g := gb921) (o := .cells #[.slice A1_0 l1_0.length c1_0, .slice A1_1 l1_1.length c1_1] 24 (0, 0)) (by (with_reducible repeat (first | refine zab ?_ _ | refine zae ?_ | refine zac ?_ _)); refine zaq ?_ NB921_951.out _; (with_reducible repeat (first | refine zab ?_ _ | refine zae ?_ | refine zac ?_ _)); refine zaq ?_ NB921_951.out _; (with_reducible repeat (first | refine zab ?_ _ | refine zae ?_ | refine zac ?_ _)); refine zaq ?_ NB921_950.out _; (with_reducible repeat (first | refine zab ?_ _ | refine zae ?_ | refine zac ?_ _)); refine zaq ?_ NB921_950.out _; (with_reducible repeat (first | refine zab ?_ _ | refine zae ?_ | refine zac ?_ _)); exact BK921.out) hb); have n10_ := zA (zaa (g := gb935) (o := .cells #[.slice Ao13 t922.length co13, .slice Ao18 t925.length co18] 28 (0, 0)) (by (with_reducible repeat (first | refine zab ?_ _ | refine zae ?_ | refine zac ?_ _)); refine zaq ?_ NB935_951.out _; (with_reducible repeat (first | refine zab ?_ _ | refine zae ?_ | refine zac ?_ _)); refine zaq ?_ NB935_951.out _; (with_reducible repeat (first | refine zab ?_ _ | refine zae ?_ | refine zac ?_ _)); refine zaq ?_ NB935_950.out _; (with_reducible repeat (first | refine zab ?_ _ | refine zae ?_ | refine zac ?_ _)); refine zaq ?_ NB935_950.out _; (with_reducible repeat (first | refine zab ?_ _ | refine zae ?_ | refine zac ?_ _)); exact BK935.out) hb); have n11_ := zA (zaa (g := gb936) (o := .cells #[.slice Ao19 t928.length co19, .slice Ao23 t931.length co23] 40 (0, 0)) (by (with_reducible repeat (first | refine zab ?_ _ | refine zae ?_ | refine zac ?_ _)); refine zaq ?_ NB936_951.out _; (with_reducible repeat (first | refine zab ?_ _ | refine zae ?_ | refine zac ?_ _)); refine zaq ?_ NB936_951.out _; (with_reducible repeat (first | refine zab ?_ _ | refine zae ?_ | refine zac ?_ _)); refine zaq ?_ NB936_950.out _; (with_reducible repeat (first | refine zab ?_ _ | refine zae ?_ | refine zac ?_ _)); refine zaq ?_ NB936_950.out _; (with_reducible repeat (first | refine zab ?_ _ | refine zae ?_ | refine zac ?_ _)); exact BK936.out) hb); have n12_ := zA (zaa (g := gb950) (o := .cells #[.slice Ao28 t937.length co28, .slice Ao35 t940.length co35] 28 (0, 0)) (by (with_reducible repeat (first | refine zab ?_ _ | refine zae ?_ | refine zac ?_ _)); refine zaq ?_ NB950_951.out _; (with_reducible repeat (first | refine zab ?_ _ | refine zae ?_ | refine zac ?_ _)); refine zaq ?_ NB950_951.out _; (with_reducible repeat (first | refine zab ?_ _ | refine zae ?_ | refine zac ?_ _)); refine zbo (cs := #[.slice Ao28 t937.length co28, .slice none 0 0]) ?_ 1 _ rfl; (with_reducible repeat (first | refine zab ?_ _ | refine zae ?_ | refine zac ?_ _)); refine zbo (cs := #[.slice none 0 0, .slice none 0 0]) ?_ 0 _ rfl; (with_reducible repeat (first | refine zab ?_ _ | refine zae ?_ | refine zac ?_ _)); exact BK950.out) hb); have n13_ := zA (zaa (g := gb951) (o := .cells #[.slice Ao36 t943.length co36, .slice Ao42 t946.length co42] 40 (0, 0)) (by (with_reducible repeat (first | refine zab ?_ _ | refine zae ?_ | refine zac ?_ _)); refine zbo (cs := #[.slice Ao36 t943.length co36, .slice none 0 0]) ?_ 1 _ rfl; (with_reducible repeat (first | refine zab ?_ _ | refine zae ?_ | refine zac ?_ _)); refine zbo (cs := #[.slice none 0 0, .slice none 0 0]) ?_ 0 _ rfl; (with_reducible repeat (first | refine zab ?_ _ | refine zae ?_ | refine zac ?_ _)); refine zaq ?_ NB951_950.out _; (with_reducible repeat (first | refine zab ?_ _ | refine zae ?_ | refine zac ?_ _)); refine zaq ?_ NB951_950.out _; (with_reducible repeat (first | refine zab ?_ _ | refine zae ?_ | refine zac ?_ _)); exact BK951.out) hb); have n14_ := zA (zaf (zB HB) hb); clear HO924 HO927 HO930 HO933 HO939 HO942 HO945 HO948 BK920 BK921 BK935 BK936 BK950 BK951 HB; have HO924 := n0_; have HO927 := n1_; have HO930 := n2_; have HO933 := n3_; have HO939 := n4_; have HO942 := n5_; have HO945 := n6_; have HO948 := n7_; have BK920 := n8_; have BK921 := n9_; have BK935 := n10_; have BK936 := n11_; have BK950 := n12_; have BK951 := n13_; have HB := n14_; clear n0_ n1_ n2_ n3_ n4_ n5_ n6_ n7_ n8_ n9_ n10_ n11_ n12_ n13_ n14_; (try clear hb); (try clear hb2); (try clear hk); (try clear hi); have hnb80 := NB920_921.out; have hnc80 := NB921_920.out; have hnb81 := NB920_935.out; have hnc81 := NB935_920.out; have hnb82 := NB920_936.out; have hnc82 := NB936_920.out; have hnb83 := NB920_950.out; have hnc83 := NB950_920.out; have hnb84 := NB920_951.out; have hnc84 := NB951_920.out; have hcz85_0 : w79.cell? ⟨gb920, 0, none⟩ = some (.slice A0_0 l0_0.length c0_0) := (zad BK920.out 0).trans rfl; have hcz85_1 : w79.cell? ⟨gb920, 1, none⟩ = some (.slice A0_1 l0_1.length c0_1) := (zad BK920.out 1).trans rfl; have hfz85_0 := zal BK920.out 0; have hfz85_1 := zal BK920.out 1; have hnb86 := NB921_935.out; have hnc86 := NB935_921.out; have hnb87 := NB921_936.out; have hnc87 := NB936_921.out; have hnb88 := NB921_950.out; have hnc88 := NB950_921.out; have hnb89 := NB921_951.out; have hnc89 := NB951_921.out; have hcz90_0 : w79.cell? ⟨gb921, 0, none⟩ = some (.slice A1_0 l1_0.length c1_0) := (zad BK921.out 0).trans rfl; have hcz90_1 : w79.cell? ⟨gb921, 1, none⟩ = some (.slice A1_1 l1_1.length c1_1) := (zad BK921.out 1).trans rfl; have hfz90_0 := zal BK921.out 0; have hfz90_1 := zal BK921.out 1))
      go_meet
      case rel => exact ⟨_, (true), (zF), H', ⟨by first | omega | exact Nat.le_refl _⟩, ⟨by (with_reducible repeat (first | apply Kd.za8 | apply Kd.za9 | apply Kd.zbc)); exact Kd.zak HO924.out (fun _ hk => ⟨hk.1.1.1.1.1.1.1, ⟨hk.1.1.1.1.1.1.2.1, ⟨hk.1.1.1.2, ⟨hk.1.1.2, ⟨hk.1.1.1.1.1.1.2.2.1, ⟨hk.1.1.1.1.1.1.2.2.2, ⟨hk.1.1.1.1.1.2, ⟨hk.1.1.1.1.2, ⟨hk.1.2, hk.2⟩⟩⟩⟩⟩⟩⟩⟩⟩)⟩, ⟨by (with_reducible repeat (first | apply Kd.za8 | apply Kd.za9 | apply Kd.zbc)); exact Kd.zak HO927.out (fun _ hk => ⟨hk.1.1.1.1.1.1.1, ⟨hk.1.1.1.1.1.1.2.1, ⟨hk.1.1.1.2, ⟨hk.1.1.2, ⟨hk.1.1.1.1.1.1.2.2.1, ⟨hk.1.1.1.1.1.1.2.2.2, ⟨hk.1.1.1.1.1.2, ⟨hk.1.1.1.1.2, ⟨hk.1.2, hk.2⟩⟩⟩⟩⟩⟩⟩⟩⟩)⟩, ⟨by (with_reducible repeat (first | apply Kd.za3 | apply Kd.za4 | apply Kd.zbb)); exact Kd.zav HO930.out (fun _ hk => ⟨hk.1.1, ⟨hk.1.2, hk.2⟩⟩)⟩, ⟨by (with_reducible repeat (first | apply Kd.za3 | apply Kd.za4 | apply Kd.zbb)); exact Kd.zav HO933.out (fun _ hk => ⟨hk.1.1, ⟨hk.1.2, hk.2⟩⟩)⟩, ⟨by (with_reducible repeat (first | apply Kd.za8 | apply Kd.za9 | apply Kd.zbc)); exact Kd.zak HO939.out (fun _ hk => ⟨hk.1.1.2.2.1, ⟨hk.1.1.2.2.2.1, ⟨hk.1.1.1, ⟨hk.1.1.2.1, ⟨hk.1.1.2.2.2.2.1, ⟨hk.1.1.2.2.2.2.2.1, ⟨hk.1.1.2.2.2.2.2.2.1, ⟨hk.1.1.2.2.2.2.2.2.2, ⟨hk.1.2, hk.2⟩⟩⟩⟩⟩⟩⟩⟩⟩)⟩, ⟨by (with_reducible repeat (first | apply Kd.za8 | apply Kd.za9 | apply Kd.zbc)); exact Kd.zak HO942.out (fun _ hk => ⟨hk.1.1.2.2.1, ⟨hk.1.1.2.2.2.1, ⟨hk.1.1.1, ⟨hk.1.1.2.1, ⟨hk.1.1.2.2.2.2.1, ⟨hk.1.1.2.2.2.2.2.1, ⟨hk.1.1.2.2.2.2.2.2.1, ⟨hk.1.1.2.2.2.2.2.2.2, ⟨hk.1.2, hk.2⟩⟩⟩⟩⟩⟩⟩⟩⟩)⟩, ⟨by (with_reducible repeat (first | apply Kd.za3 | apply Kd.za4 | apply Kd.zbb)); exact Kd.zav HO945.out (fun _ hk => ⟨hk.1.2, ⟨hk.2, hk.1.1⟩⟩)⟩, ⟨by (with_reducible repeat (first | apply Kd.za3 | apply Kd.za4 | apply Kd.zbb)); exact Kd.zav HO948.out (fun _ hk => ⟨hk.1.2, ⟨hk.2, hk.1.1⟩⟩)⟩, ⟨zK BK920⟩, ⟨zK BK921⟩, ⟨zK BK935⟩, ⟨zK BK936⟩, ⟨zK BK950⟩, ⟨zK BK951⟩, ⟨zB HB⟩⟩
  ·
   replace c44 := Bool.eq_false_iff.mpr c44
   subst c44
   rw [if_neg (show ¬ (false = true) by decide)] at H
   have H' := zA H
   clear H
   go_wp2_with (first | ((with_reducible refine zah (f := 14) rfl ?_); refine zba (some 26) rfl rfl Tryd.func14 (by kernel_rfl) rfl #[] rfl (zE) ?_; (with_reducible refine (zbq.calls k  false _ ?side1 A43.out).mono ?_); (case side1 => exact Glob.below HG.out (zB HB)); rintro e w91 ⟨rfl, hb⟩; refine ⟨_, rfl, ?_⟩; have n0_ := zA (Kd.zao (by (with_reducible repeat (first | apply Kd.za8 | apply Kd.za9 | apply Kd.zbc)); exact (Kd.zak (Kd.zak (Kd.V_far (p := ⟨gb951, 1, none⟩) (Kd.V_far (p := ⟨gb951, 0, none⟩) (Kd.V_far (p := ⟨gb950, 1, none⟩) (Kd.V_far (p := ⟨gb950, 0, none⟩) (Kd.zak (Kd.zak HO924.out (fun k_ hk => (⟨hk, hk.1.2⟩ : _ ∧ k_ ≠ gb950))) (fun k_ hk => (⟨hk, hk.1.2⟩ : _ ∧ k_ ≠ gb951))) (fun _ hk => hk.1.2) (.slice Ao28 t937.length co28)) (fun _ hk => hk.1.2) (.slice Ao35 t940.length co35)) (fun _ hk => hk.2) (.slice Ao36 t943.length co36)) (fun _ hk => hk.2) (.slice Ao42 t946.length co42)) (fun _ h_ => h_.1)) (fun _ h_ => h_.1))) hb); have n1_ := zA (Kd.zao (by (with_reducible repeat (first | apply Kd.za8 | apply Kd.za9 | apply Kd.zbc)); exact (Kd.zak (Kd.zak (Kd.V_far (p := ⟨gb951, 1, none⟩) (Kd.V_far (p := ⟨gb951, 0, none⟩) (Kd.V_far (p := ⟨gb950, 1, none⟩) (Kd.V_far (p := ⟨gb950, 0, none⟩) (Kd.zak (Kd.zak HO927.out (fun k_ hk => (⟨hk, hk.1.2⟩ : _ ∧ k_ ≠ gb950))) (fun k_ hk => (⟨hk, hk.1.2⟩ : _ ∧ k_ ≠ gb951))) (fun _ hk => hk.1.2) (.slice Ao28 t937.length co28)) (fun _ hk => hk.1.2) (.slice Ao35 t940.length co35)) (fun _ hk => hk.2) (.slice Ao36 t943.length co36)) (fun _ hk => hk.2) (.slice Ao42 t946.length co42)) (fun _ h_ => h_.1)) (fun _ h_ => h_.1))) hb); have n2_ := zA (Kd.zax (by (with_reducible repeat (first | apply Kd.za3 | apply Kd.za4 | apply Kd.zbb)); exact (Kd.zav (Kd.zav (Kd.R_far (p := ⟨gb951, 1, none⟩) (Kd.R_far (p := ⟨gb951, 0, none⟩) (Kd.R_far (p := ⟨gb950, 1, none⟩) (Kd.R_far (p := ⟨gb950, 0, none⟩) (Kd.zbe (Kd.zbe HO930.out BK950.out (by decide)) BK951.out (by decide)) (fun _ hk => hk.1.2) (.slice Ao28 t937.length co28)) (fun _ hk => hk.1.2) (.slice Ao35 t940.length co35)) (fun _ hk => hk.2) (.slice Ao36 t943.length co36)) (fun _ hk => hk.2) (.slice Ao42 t946.length co42)) (fun _ h_ => h_.1)) (fun _ h_ => h_.1))) hb); have n3_ := zA (Kd.zax (by (with_reducible repeat (first | apply Kd.za3 | apply Kd.za4 | apply Kd.zbb)); exact (Kd.zav (Kd.zav (Kd.R_far (p := ⟨gb951, 1, none⟩) (Kd.R_far (p := ⟨gb951, 0, none⟩) (Kd.R_far (p := ⟨gb950, 1, none⟩) (Kd.R_far (p := ⟨gb950, 0, none⟩) (Kd.zbe (Kd.zbe HO933.out BK950.out (by decide)) BK951.out (by decide)) (fun _ hk => hk.1.2) (.slice Ao28 t937.length co28)) (fun _ hk => hk.1.2) (.slice Ao35 t940.length co35)) (fun _ hk => hk.2) (.slice Ao36 t943.length co36)) (fun _ hk => hk.2) (.slice Ao42 t946.length co42)) (fun _ h_ => h_.1)) (fun _ h_ => h_.1))) hb); have n4_ := zA (Kd.zao (by (with_reducible repeat (first | apply Kd.za8 | apply Kd.za9 | apply Kd.zbc)); exact (Kd.zak (Kd.zak (Kd.V_far (p := ⟨gb951, 1, none⟩) (Kd.V_far (p := ⟨gb951, 0, none⟩) (Kd.V_far (p := ⟨gb950, 1, none⟩) (Kd.V_far (p := ⟨gb950, 0, none⟩) (Kd.zak (Kd.zak HO939.out (fun k_ hk => (⟨hk, hk.1.2⟩ : _ ∧ k_ ≠ gb950))) (fun k_ hk => (⟨hk, hk.1.2⟩ : _ ∧ k_ ≠ gb951))) (fun _ hk => hk.1.2) (.slice Ao28 t937.length co28)) (fun _ hk => hk.1.2) (.slice Ao35 t940.length co35)) (fun _ hk => hk.2) (.slice Ao36 t943.length co36)) (fun _ hk => hk.2) (.slice Ao42 t946.length co42)) (fun _ h_ => h_.1)) (fun _ h_ => h_.1))) hb); have n5_ := zA (Kd.zao (by (with_reducible repeat (first | apply Kd.za8 | apply Kd.za9 | apply Kd.zbc)); exact (Kd.zak (Kd.zak (Kd.V_far (p := ⟨gb951, 1, none⟩) (Kd.V_far (p := ⟨gb951, 0, none⟩) (Kd.V_far (p := ⟨gb950, 1, none⟩) (Kd.V_far (p := ⟨gb950, 0, none⟩) (Kd.zak (Kd.zak HO942.out (fun k_ hk => (⟨hk, hk.1.2⟩ : _ ∧ k_ ≠ gb950))) (fun k_ hk => (⟨hk, hk.1.2⟩ : _ ∧ k_ ≠ gb951))) (fun _ hk => hk.1.2) (.slice Ao28 t937.length co28)) (fun _ hk => hk.1.2) (.slice Ao35 t940.length co35)) (fun _ hk => hk.2) (.slice Ao36 t943.length co36)) (fun _ hk => hk.2) (.slice Ao42 t946.length co42)) (fun _ h_ => h_.1)) (fun _ h_ => h_.1))) hb); have n6_ := zA (Kd.zax (by (with_reducible repeat (first | apply Kd.za3 | apply Kd.za4 | apply Kd.zbb)); exact (Kd.zav (Kd.zav (Kd.R_far (p := ⟨gb951, 1, none⟩) (Kd.R_far (p := ⟨gb951, 0, none⟩) (Kd.R_far (p := ⟨gb950, 1, none⟩) (Kd.R_far (p := ⟨gb950, 0, none⟩) (Kd.zbe (Kd.zbe HO945.out BK950.out (by decide)) BK951.out (by decide)) (fun _ hk => hk.1.2) (.slice Ao28 t937.length co28)) (fun _ hk => hk.1.2) (.slice Ao35 t940.length co35)) (fun _ hk => hk.2) (.slice Ao36 t943.length co36)) (fun _ hk => hk.2) (.slice Ao42 t946.length co42)) (fun _ h_ => h_.1)) (fun _ h_ => h_.1))) hb); have n7_ := zA (Kd.zax (by (with_reducible repeat (first | apply Kd.za3 | apply Kd.za4 | apply Kd.zbb)); exact (Kd.zav (Kd.zav (Kd.R_far (p := ⟨gb951, 1, none⟩) (Kd.R_far (p := ⟨gb951, 0, none⟩) (Kd.R_far (p := ⟨gb950, 1, none⟩) (Kd.R_far (p := ⟨gb950, 0, none⟩) (Kd.zbe (Kd.zbe HO948.out BK950.out (by decide)) BK951.out (by decide)) (fun _ hk => hk.1.2) (.slice Ao28 t937.length co28)) (fun _ hk => hk.1.2) (.slice Ao35 t940.length co35)) (fun _ hk => hk.2) (.slice Ao36 t943.length co36)) (fun _ hk => hk.2) (.slice Ao42 t946.length co42)) (fun _ h_ => h_.1)) (fun _ h_ => h_.1))) hb); have n8_ := zA (zaa (g := gb920) (o := .cells #[.slice A0_0 l0_0.length c0_0, .slice A0_1 l0_1.length c0_1] 24 (0, 0)) (by (with_reducible repeat (first | refine zab ?_ _ | refine zae ?_ | refine zac ?_ _)); refine zaq ?_ NB920_951.out _; (with_reducible repeat (first | refine zab ?_ _ | refine zae ?_ | refine zac ?_ _)); refine zaq ?_ NB920_951.out _; (with_reducible repeat (first | refine zab ?_ _ | refine zae ?_ | refine zac ?_ _)); refine zaq ?_ NB920_950.out _; (with_reducible repeat (first | refine zab ?_ _ | refine zae ?_ | refine zac ?_ _)); refine zaq ?_ NB920_950.out _; (with_reducible repeat (first | refine zab ?_ _ | refine zae ?_ | refine zac ?_ _)); exact BK920.out) hb); have n9_ := zA (zaa (g := gb921) (o := .cells #[.slice A1_0 l1_0.length c1_0, .slice A1_1 l1_1.length c1_1] 24 (0, 0)) (by (with_reducible repeat (first | refine zab ?_ _ | refine zae ?_ | refine zac ?_ _)); refine zaq ?_ NB921_951.out _; (with_reducible repeat (first | refine zab ?_ _ | refine zae ?_ | refine zac ?_ _)); refine zaq ?_ NB921_951.out _; (with_reducible repeat (first | refine zab ?_ _ | refine zae ?_ | refine zac ?_ _)); refine zaq ?_ NB921_950.out _; (with_reducible repeat (first | refine zab ?_ _ | refine zae ?_ | refine zac ?_ _)); refine zaq ?_ NB921_950.out _; (with_reducible repeat (first | refine zab ?_ _ | refine zae ?_ | refine zac ?_ _)); exact BK921.out) hb); have n10_ := zA (zaa (g := gb935) (o := .cells #[.slice Ao13 t922.length co13, .slice Ao18 t925.length co18] 28 (0, 0)) (by (with_reducible repeat (first | refine zab ?_ _ | refine zae ?_ | refine zac ?_ _)); refine zaq ?_ NB935_951.out _; (with_reducible repeat (first | refine zab ?_ _ | refine zae ?_ | refine zac ?_ _)); refine zaq ?_ NB935_951.out _; (with_reducible repeat (first | refine zab ?_ _ | refine zae ?_ | refine zac ?_ _)); refine zaq ?_ NB935_950.out _; (with_reducible repeat (first | refine zab ?_ _ | refine zae ?_ | refine zac ?_ _)); refine zaq ?_ NB935_950.out _; (with_reducible repeat (first | refine zab ?_ _ | refine zae ?_ | refine zac ?_ _)); exact BK935.out) hb); have n11_ := zA (zaa (g := gb936) (o := .cells #[.slice Ao19 t928.length co19, .slice Ao23 t931.length co23] 40 (0, 0)) (by (with_reducible repeat (first | refine zab ?_ _ | refine zae ?_ | refine zac ?_ _)); refine zaq ?_ NB936_951.out _; (with_reducible repeat (first | refine zab ?_ _ | refine zae ?_ | refine zac ?_ _)); refine zaq ?_ NB936_951.out _; (with_reducible repeat (first | refine zab ?_ _ | refine zae ?_ | refine zac ?_ _)); refine zaq ?_ NB936_950.out _; (with_reducible repeat (first | refine zab ?_ _ | refine zae ?_ | refine zac ?_ _)); refine zaq ?_ NB936_950.out _; (with_reducible repeat (first | refine zab ?_ _ | refine zae ?_ | refine zac ?_ _)); exact BK936.out) hb); have n12_ := zA (zaa (g := gb950) (o := .cells #[.slice Ao28 t937.length co28, .slice Ao35 t940.length co35] 28 (0, 0)) (by (with_reducible repeat (first | refine zab ?_ _ | refine zae ?_ | refine zac ?_ _)); refine zaq ?_ NB950_951.out _; (with_reducible repeat (first | refine zab ?_ _ | refine zae ?_ | refine zac ?_ _)); refine zaq ?_ NB950_951.out _; (with_reducible repeat (first | refine zab ?_ _ | refine zae ?_ | refine zac ?_ _)); refine zbo (cs := #[.slice Ao28 t937.length co28, .slice none 0 0]) ?_ 1 _ rfl; (with_reducible repeat (first | refine zab ?_ _ | refine zae ?_ | refine zac ?_ _)); refine zbo (cs := #[.slice none 0 0, .slice none 0 0]) ?_ 0 _ rfl; (with_reducible repeat (first | refine zab ?_ _ | refine zae ?_ | refine zac ?_ _)); exact BK950.out) hb); have n13_ := zA (zaa (g := gb951) (o := .cells #[.slice Ao36 t943.length co36, .slice Ao42 t946.length co42] 40 (0, 0)) (by (with_reducible repeat (first | refine zab ?_ _ | refine zae ?_ | refine zac ?_ _)); refine zbo (cs := #[.slice Ao36 t943.length co36, .slice none 0 0]) ?_ 1 _ rfl; (with_reducible repeat (first | refine zab ?_ _ | refine zae ?_ | refine zac ?_ _)); refine zbo (cs := #[.slice none 0 0, .slice none 0 0]) ?_ 0 _ rfl; (with_reducible repeat (first | refine zab ?_ _ | refine zae ?_ | refine zac ?_ _)); refine zaq ?_ NB951_950.out _; (with_reducible repeat (first | refine zab ?_ _ | refine zae ?_ | refine zac ?_ _)); refine zaq ?_ NB951_950.out _; (with_reducible repeat (first | refine zab ?_ _ | refine zae ?_ | refine zac ?_ _)); exact BK951.out) hb); have n14_ := zA (zaf (zB HB) hb); clear HO924 HO927 HO930 HO933 HO939 HO942 HO945 HO948 BK920 BK921 BK935 BK936 BK950 BK951 HB; have HO924 := n0_; have HO927 := n1_; have HO930 := n2_; have HO933 := n3_; have HO939 := n4_; have HO942 := n5_; have HO945 := n6_; have HO948 := n7_; have BK920 := n8_; have BK921 := n9_; have BK935 := n10_; have BK936 := n11_; have BK950 := n12_; have BK951 := n13_; have HB := n14_; clear n0_ n1_ n2_ n3_ n4_ n5_ n6_ n7_ n8_ n9_ n10_ n11_ n12_ n13_ n14_; (try clear hb); (try clear hb2); (try clear hk); (try clear hi)))
   go_meet
   case rel => exact ⟨_, (true), (zF), H', ⟨by first | omega | exact Nat.le_refl _⟩, ⟨by (with_reducible repeat (first | apply Kd.za8 | apply Kd.za9 | apply Kd.zbc)); exact Kd.zak HO924.out (fun _ hk => ⟨hk.1.1.1.1.1.1.1, ⟨hk.1.1.1.1.1.1.2.1, ⟨hk.1.1.1.2, ⟨hk.1.1.2, ⟨hk.1.1.1.1.1.1.2.2.1, ⟨hk.1.1.1.1.1.1.2.2.2, ⟨hk.1.1.1.1.1.2, ⟨hk.1.1.1.1.2, ⟨hk.1.2, hk.2⟩⟩⟩⟩⟩⟩⟩⟩⟩)⟩, ⟨by (with_reducible repeat (first | apply Kd.za8 | apply Kd.za9 | apply Kd.zbc)); exact Kd.zak HO927.out (fun _ hk => ⟨hk.1.1.1.1.1.1.1, ⟨hk.1.1.1.1.1.1.2.1, ⟨hk.1.1.1.2, ⟨hk.1.1.2, ⟨hk.1.1.1.1.1.1.2.2.1, ⟨hk.1.1.1.1.1.1.2.2.2, ⟨hk.1.1.1.1.1.2, ⟨hk.1.1.1.1.2, ⟨hk.1.2, hk.2⟩⟩⟩⟩⟩⟩⟩⟩⟩)⟩, ⟨by (with_reducible repeat (first | apply Kd.za3 | apply Kd.za4 | apply Kd.zbb)); exact Kd.zav HO930.out (fun _ hk => ⟨hk.1.1, ⟨hk.1.2, hk.2⟩⟩)⟩, ⟨by (with_reducible repeat (first | apply Kd.za3 | apply Kd.za4 | apply Kd.zbb)); exact Kd.zav HO933.out (fun _ hk => ⟨hk.1.1, ⟨hk.1.2, hk.2⟩⟩)⟩, ⟨by (with_reducible repeat (first | apply Kd.za8 | apply Kd.za9 | apply Kd.zbc)); exact Kd.zak HO939.out (fun _ hk => ⟨hk.1.1.2.2.1, ⟨hk.1.1.2.2.2.1, ⟨hk.1.1.1, ⟨hk.1.1.2.1, ⟨hk.1.1.2.2.2.2.1, ⟨hk.1.1.2.2.2.2.2.1, ⟨hk.1.1.2.2.2.2.2.2.1, ⟨hk.1.1.2.2.2.2.2.2.2, ⟨hk.1.2, hk.2⟩⟩⟩⟩⟩⟩⟩⟩⟩)⟩, ⟨by (with_reducible repeat (first | apply Kd.za8 | apply Kd.za9 | apply Kd.zbc)); exact Kd.zak HO942.out (fun _ hk => ⟨hk.1.1.2.2.1, ⟨hk.1.1.2.2.2.1, ⟨hk.1.1.1, ⟨hk.1.1.2.1, ⟨hk.1.1.2.2.2.2.1, ⟨hk.1.1.2.2.2.2.2.1, ⟨hk.1.1.2.2.2.2.2.2.1, ⟨hk.1.1.2.2.2.2.2.2.2, ⟨hk.1.2, hk.2⟩⟩⟩⟩⟩⟩⟩⟩⟩)⟩, ⟨by (with_reducible repeat (first | apply Kd.za3 | apply Kd.za4 | apply Kd.zbb)); exact Kd.zav HO945.out (fun _ hk => ⟨hk.1.2, ⟨hk.2, hk.1.1⟩⟩)⟩, ⟨by (with_reducible repeat (first | apply Kd.za3 | apply Kd.za4 | apply Kd.zbb)); exact Kd.zav HO948.out (fun _ hk => ⟨hk.1.2, ⟨hk.2, hk.1.1⟩⟩)⟩, ⟨zK BK920⟩, ⟨zK BK921⟩, ⟨zK BK935⟩, ⟨zK BK936⟩, ⟨zK BK950⟩, ⟨zK BK951⟩, ⟨zB HB⟩⟩
 case rest =>
  clear HC5
  try clear c1
  try clear c2
  try clear p2
  try clear c3
  try clear c4
  try clear c5
  try clear c6
  try clear p6
  try clear c7
  try clear c8
  try clear c14
  try clear c15
  try clear c16
  try clear c20
  try clear c21
  try clear c25
  try clear c29
  try clear c30
  try clear c31
  try clear c32
  try clear c33
  try clear c37
  try clear c38
  try clear c39
  try clear c40
  try clear c44
  try clear c45
  try clear c45b0
  try clear c45b1
  try clear c45b2
  try clear c47
  try clear c48
  try clear c49
  try clear c50
  try clear c51
  try clear c53
  try clear c53b0
  try clear c53b1
  try clear c53b2
  try clear c55
  try clear c56
  try clear c57
  try clear c58
  try clear c59
  try clear c61
  try clear c62
  try clear c63
  try clear c64
  try clear p64
  try clear c66
  try clear c68
  try clear c69
  try clear c70
  try clear c71
  try clear c72
  try clear c74
  try clear c75
  try clear c76
  try clear c77
  try clear c80
  try clear c81
  try clear c82
  try clear c83
  try clear c84
  try clear c86
  try clear c87
  try clear c88
  try clear c89
  try clear hcz17_0
  try clear hcz17_1
  try clear hcz22_0
  try clear hcz22_1
  try clear hcz24_0
  try clear hcz24_1
  try clear hcz34_0
  try clear hcz34_1
  try clear hcz41_0
  try clear hcz41_1
  try clear hcz52_0
  try clear hcz52_1
  try clear hcz60_0
  try clear hcz60_1
  try clear hcz65_0
  try clear hcz65_1
  try clear hcz73_0
  try clear hcz73_1
  try clear hcz78_0
  try clear hcz78_1
  try clear hcz85_0
  try clear hcz85_1
  try clear hcz90_0
  try clear hcz90_1
  try clear hcz9_0
  try clear hcz9_1
  try clear hfz17_0
  try clear hfz17_1
  try clear hfz22_0
  try clear hfz22_1
  try clear hfz24_0
  try clear hfz24_1
  try clear hfz34_0
  try clear hfz34_1
  try clear hfz41_0
  try clear hfz41_1
  try clear hfz52_0
  try clear hfz52_1
  try clear hfz60_0
  try clear hfz60_1
  try clear hfz65_0
  try clear hfz65_1
  try clear hfz73_0
  try clear hfz73_1
  try clear hfz78_0
  try clear hfz78_1
  try clear hfz85_0
  try clear hfz85_1
  try clear hfz90_0
  try clear hfz90_1
  try clear hfz9_0
  try clear hfz9_1
  obtain ⟨kq, x47_4, rfl, HA, HJ4, HO_936000, HO_936001, HO_937000, HO_937001, HO_951000, HO_951001, HO_952000, HO_952001, BK920, BK921, BK935, BK936, BK950, BK951, HB⟩ := hcut
  cases kq with
  | zero => exact absurd HA.out (by simp [zaj.j0])
  | succ kj4 =>
   have H := HA.out
   clear HA
   simp only [zaj.j0] at H
   by_cases c92 : x47_4 = true
   ·
    subst c92
    rw [if_pos rfl] at H
    replace H := zO H
    obtain ⟨t953, A930, H⟩ := H
    try dsimp only at H
    have A93 := zA A930
    clear A930
    obtain rfl := Option.some.inj H
    go_wp2_with (first | ((with_reducible refine zah (f := 14) rfl ?_); refine zba (some 48) rfl rfl Tryd.func14 (by kernel_rfl) rfl #[] rfl (zE) ?_; (with_reducible refine (zbq.calls kj4  t953 _ ?side1 A93.out).mono ?_); (case side1 => exact Glob.below HG.out (zB HB)); rintro e w94 ⟨rfl, hb⟩; refine ⟨_, rfl, ?_⟩; have n0_ := zA (Kd.zao (zV HO_936000) hb); have n1_ := zA (Kd.zao (zV HO_936001) hb); have n2_ := zA (Kd.zax (zR HO_937000) hb); have n3_ := zA (Kd.zax (zR HO_937001) hb); have n4_ := zA (Kd.zao (zV HO_951000) hb); have n5_ := zA (Kd.zao (zV HO_951001) hb); have n6_ := zA (Kd.zax (zR HO_952000) hb); have n7_ := zA (Kd.zax (zR HO_952001) hb); have n8_ := zA (zaa (g := gb920) (o := .cells #[.slice A0_0 l0_0.length c0_0, .slice A0_1 l0_1.length c0_1] 24 (0, 0)) (zK BK920) hb); have n9_ := zA (zaa (g := gb921) (o := .cells #[.slice A1_0 l1_0.length c1_0, .slice A1_1 l1_1.length c1_1] 24 (0, 0)) (zK BK921) hb); have n10_ := zA (zaa (g := gb935) (o := .cells #[.slice Ao13 t922.length co13, .slice Ao18 t925.length co18] 28 (0, 0)) (zK BK935) hb); have n11_ := zA (zaa (g := gb936) (o := .cells #[.slice Ao19 t928.length co19, .slice Ao23 t931.length co23] 40 (0, 0)) (zK BK936) hb); have n12_ := zA (zaa (g := gb950) (o := .cells #[.slice Ao28 t937.length co28, .slice Ao35 t940.length co35] 28 (0, 0)) (zK BK950) hb); have n13_ := zA (zaa (g := gb951) (o := .cells #[.slice Ao36 t943.length co36, .slice Ao42 t946.length co42] 40 (0, 0)) (zK BK951) hb); have n14_ := zA (zaf (zB HB) hb); clear HO_936000 HO_936001 HO_937000 HO_937001 HO_951000 HO_951001 HO_952000 HO_952001 BK920 BK921 BK935 BK936 BK950 BK951 HB; have HO_936000 := n0_; have HO_936001 := n1_; have HO_937000 := n2_; have HO_937001 := n3_; have HO_951000 := n4_; have HO_951001 := n5_; have HO_952000 := n6_; have HO_952001 := n7_; have BK920 := n8_; have BK921 := n9_; have BK935 := n10_; have BK936 := n11_; have BK950 := n12_; have BK951 := n13_; have HB := n14_; clear n0_ n1_ n2_ n3_ n4_ n5_ n6_ n7_ n8_ n9_ n10_ n11_ n12_ n13_ n14_; (try clear hb); (try clear hb2); (try clear hk); (try clear hi)))
    go_ret
    exact ⟨zW, zB HB⟩
   ·
    replace c92 := Bool.eq_false_iff.mpr c92
    subst c92
    rw [if_neg (show ¬ (false = true) by decide)] at H
    replace H := zO H
    obtain ⟨t954, A950, H⟩ := H
    try dsimp only at H
    have A95 := zA A950
    clear A950
    replace H := zO H
    obtain ⟨⟨t955, t958, t961⟩, A960, H⟩ := H
    try dsimp only at H
    have A96 := zA A960
    clear A960
    have HC97 := zA H
    clear H
    have hnb98 := NB936_920.out
    have hnc98 := NB920_936.out
    have hnb99 := NB936_921.out
    have hnc99 := NB921_936.out
    have hnb100 := NB936_935.out
    have hnc100 := NB935_936.out
    have hnb101 := NB936_950.out
    have hnc101 := NB950_936.out
    have hnb102 := NB936_951.out
    have hnc102 := NB951_936.out
    have hcz103_0 : wc.cell? ⟨gb936, 0, none⟩ = some (.slice Ao19 t928.length co19) := (zad BK936.out 0).trans rfl
    have hcz103_1 : wc.cell? ⟨gb936, 1, none⟩ = some (.slice Ao23 t931.length co23) := (zad BK936.out 1).trans rfl
    have hfz103_0 := zal BK936.out 0
    have hfz103_1 := zal BK936.out 1
    have hnb104 := NB951_920.out
    have hnc104 := NB920_951.out
    have hnb105 := NB951_921.out
    have hnc105 := NB921_951.out
    have hnb106 := NB951_935.out
    have hnc106 := NB935_951.out
    have hnb107 := NB951_950.out
    have hnc107 := NB950_951.out
    have hcz108_0 : wc.cell? ⟨gb951, 0, none⟩ = some (.slice Ao36 t943.length co36) := (zad BK951.out 0).trans rfl
    have hcz108_1 : wc.cell? ⟨gb951, 1, none⟩ = some (.slice Ao42 t946.length co42) := (zad BK951.out 1).trans rfl
    have hfz108_0 := zal BK951.out 0
    have hfz108_1 := zal BK951.out 1
    go_upto_region 7 with (first | ((with_reducible refine zah (f := 37) rfl ?_); refine zba (some 51) rfl rfl Tryd.func37 (by kernel_rfl) rfl #[.agg #[.slice Ao19 t928.length co19, .slice Ao23 t931.length co23], .agg #[.slice Ao36 t943.length co36, .slice Ao42 t946.length co42]] rfl (zE) ?_; (with_reducible refine (zb3.calls kj4 _ _ t928 _ _ t931 _ _ t943 _ _ t946 t954 _ ?side1 ?side2 ?side3 ?side4 ?side5 ?side6 ?side7 ?side8 A95.out).mono ?_); (case side1 => exact zJ (Kd.zat HO_937000.out).2.2); (case side2 => exact (Kd.zat HO_937000.out).2.1); (case side3 => exact zJ (Kd.zat HO_937001.out).2.2); (case side4 => exact (Kd.zat HO_937001.out).2.1); (case side5 => exact zJ (Kd.zat HO_952000.out).2.2); (case side6 => exact (Kd.zat HO_952000.out).2.1); (case side7 => exact zJ (Kd.zat HO_952001.out).2.2); (case side8 => exact (Kd.zat HO_952001.out).2.1); rintro e w109 ⟨rfl, hb⟩; refine ⟨_, rfl, ?_⟩; have n0_ := zA (Kd.zao (zV HO_936000) hb); have n1_ := zA (Kd.zao (zV HO_936001) hb); have n2_ := zA (Kd.zax (zR HO_937000) hb); have n3_ := zA (Kd.zax (zR HO_937001) hb); have n4_ := zA (Kd.zao (zV HO_951000) hb); have n5_ := zA (Kd.zao (zV HO_951001) hb); have n6_ := zA (Kd.zax (zR HO_952000) hb); have n7_ := zA (Kd.zax (zR HO_952001) hb); have n8_ := zA (zaa (g := gb920) (o := .cells #[.slice A0_0 l0_0.length c0_0, .slice A0_1 l0_1.length c0_1] 24 (0, 0)) (zK BK920) hb); have n9_ := zA (zaa (g := gb921) (o := .cells #[.slice A1_0 l1_0.length c1_0, .slice A1_1 l1_1.length c1_1] 24 (0, 0)) (zK BK921) hb); have n10_ := zA (zaa (g := gb935) (o := .cells #[.slice Ao13 t922.length co13, .slice Ao18 t925.length co18] 28 (0, 0)) (zK BK935) hb); have n11_ := zA (zaa (g := gb936) (o := .cells #[.slice Ao19 t928.length co19, .slice Ao23 t931.length co23] 40 (0, 0)) (zK BK936) hb); have n12_ := zA (zaa (g := gb950) (o := .cells #[.slice Ao28 t937.length co28, .slice Ao35 t940.length co35] 28 (0, 0)) (zK BK950) hb); have n13_ := zA (zaa (g := gb951) (o := .cells #[.slice Ao36 t943.length co36, .slice Ao42 t946.length co42] 40 (0, 0)) (zK BK951) hb); have n14_ := zA (zaf (zB HB) hb); clear HO_936000 HO_936001 HO_937000 HO_937001 HO_951000 HO_951001 HO_952000 HO_952001 BK920 BK921 BK935 BK936 BK950 BK951 HB; have HO_936000 := n0_; have HO_936001 := n1_; have HO_937000 := n2_; have HO_937001 := n3_; have HO_951000 := n4_; have HO_951001 := n5_; have HO_952000 := n6_; have HO_952001 := n7_; have BK920 := n8_; have BK921 := n9_; have BK935 := n10_; have BK936 := n11_; have BK950 := n12_; have BK951 := n13_; have HB := n14_; clear n0_ n1_ n2_ n3_ n4_ n5_ n6_ n7_ n8_ n9_ n10_ n11_ n12_ n13_ n14_; (try clear hb); (try clear hb2); (try clear hk); (try clear hi); have hnb110 := NB935_920.out; have hnc110 := NB920_935.out; have hnb111 := NB935_921.out; have hnc111 := NB921_935.out; have hnb112 := NB935_950.out; have hnc112 := NB950_935.out; have hcz113_0 : w109.cell? ⟨gb935, 0, none⟩ = some (.slice Ao13 t922.length co13) := (zad BK935.out 0).trans rfl; have hcz113_1 : w109.cell? ⟨gb935, 1, none⟩ = some (.slice Ao18 t925.length co18) := (zad BK935.out 1).trans rfl; have hfz113_0 := zal BK935.out 0; have hfz113_1 := zal BK935.out 1; have hnb114 := NB950_920.out; have hnc114 := NB920_950.out; have hnb115 := NB950_921.out; have hnc115 := NB921_950.out; have hcz116_0 : w109.cell? ⟨gb950, 0, none⟩ = some (.slice Ao28 t937.length co28) := (zad BK950.out 0).trans rfl; have hcz116_1 : w109.cell? ⟨gb950, 1, none⟩ = some (.slice Ao35 t940.length co35) := (zad BK950.out 1).trans rfl; have hfz116_0 := zal BK950.out 0; have hfz116_1 := zal BK950.out 1) | ((with_reducible refine zah (f := 33) rfl ?_); refine zba (some 55) rfl rfl Tryd.func33 (by kernel_rfl) rfl #[.agg #[.slice Ao13 t922.length co13, .slice Ao18 t925.length co18], .agg #[.slice Ao28 t937.length co28, .slice Ao35 t940.length co35]] rfl (zE) ?_; (with_reducible refine (ratio_Sub.calls kj4 _ _ t922 _ _ t925 _ _ t937 _ _ t940 t955 t958 t961 _ ?side1 ?side2 ?side3 ?side4 ?side5 ?side6 ?side7 ?side8 A96.out).mono ?_); (case side1 => exact zJ (Kd.zas HO_936000.out).2.2); (case side2 => exact (Kd.zas HO_936000.out).2.1); (case side3 => exact zJ (Kd.zas HO_936001.out).2.2); (case side4 => exact (Kd.zas HO_936001.out).2.1); (case side5 => exact zJ (Kd.zas HO_951000.out).2.2); (case side6 => exact (Kd.zas HO_951000.out).2.1); (case side7 => exact zJ (Kd.zas HO_951001.out).2.2); (case side8 => exact (Kd.zas HO_951001.out).2.1); rintro e w117 ⟨v956, v959, rfl, ho0, ho1, hb⟩; refine ⟨_, rfl, ?_⟩; have n0_ := zA (Kd.zao (zV HO_936000) hb); have n1_ := zA (Kd.zao (zV HO_936001) hb); have n2_ := zA (Kd.zax (zR HO_937000) hb); have n3_ := zA (Kd.zax (zR HO_937001) hb); have n4_ := zA (Kd.zao (zV HO_951000) hb); have n5_ := zA (Kd.zao (zV HO_951001) hb); have n6_ := zA (Kd.zax (zR HO_952000) hb); have n7_ := zA (Kd.zax (zR HO_952001) hb); have n8_ := zA (Kd.zbi (Kd.zak (ok' := fun k_ => some k_ ≠ (.slice Ao19 t928.length co19 : Value).ownBlock ∧ some k_ ≠ (.slice Ao23 t931.length co23 : Value).ownBlock ∧ some k_ ≠ (.slice Ao36 t943.length co36 : Value).ownBlock ∧ some k_ ≠ (.slice Ao42 t946.length co42 : Value).ownBlock ∧ k_ ≠ gb920 ∧ k_ ≠ gb921 ∧ k_ ≠ gb935 ∧ k_ ≠ gb936 ∧ k_ ≠ gb950 ∧ k_ ≠ gb951) ho0 (fun k_ hk_ => ⟨(Kd.fresh' (Kd.R_lt (zR HO_937000)) k_ hk_), (Kd.fresh' (Kd.R_lt (zR HO_937001)) k_ hk_), (Kd.fresh' (Kd.R_lt (zR HO_952000)) k_ hk_), (Kd.fresh' (Kd.R_lt (zR HO_952001)) k_ hk_), (Kd.freshB (g := gb920) (o := .cells #[.slice A0_0 l0_0.length c0_0, .slice A0_1 l0_1.length c0_1] 24 (0, 0)) (zK BK920) k_ hk_), (Kd.freshB (g := gb921) (o := .cells #[.slice A1_0 l1_0.length c1_0, .slice A1_1 l1_1.length c1_1] 24 (0, 0)) (zK BK921) k_ hk_), (Kd.freshB (g := gb935) (o := .cells #[.slice Ao13 t922.length co13, .slice Ao18 t925.length co18] 28 (0, 0)) (zK BK935) k_ hk_), (Kd.freshB (g := gb936) (o := .cells #[.slice Ao19 t928.length co19, .slice Ao23 t931.length co23] 40 (0, 0)) (zK BK936) k_ hk_), (Kd.freshB (g := gb950) (o := .cells #[.slice Ao28 t937.length co28, .slice Ao35 t940.length co35] 28 (0, 0)) (zK BK950) k_ hk_), (Kd.freshB (g := gb951) (o := .cells #[.slice Ao36 t943.length co36, .slice Ao42 t946.length co42] 40 (0, 0)) (zK BK951) k_ hk_)⟩)) (za (zB HB))); have n9_ := zA (Kd.zbi (Kd.zak (ok' := fun k_ => some k_ ≠ (.slice Ao19 t928.length co19 : Value).ownBlock ∧ some k_ ≠ (.slice Ao23 t931.length co23 : Value).ownBlock ∧ some k_ ≠ (.slice Ao36 t943.length co36 : Value).ownBlock ∧ some k_ ≠ (.slice Ao42 t946.length co42 : Value).ownBlock ∧ k_ ≠ gb920 ∧ k_ ≠ gb921 ∧ k_ ≠ gb935 ∧ k_ ≠ gb936 ∧ k_ ≠ gb950 ∧ k_ ≠ gb951) ho1 (fun k_ hk_ => ⟨(Kd.fresh' (Kd.R_lt (zR HO_937000)) k_ hk_), (Kd.fresh' (Kd.R_lt (zR HO_937001)) k_ hk_), (Kd.fresh' (Kd.R_lt (zR HO_952000)) k_ hk_), (Kd.fresh' (Kd.R_lt (zR HO_952001)) k_ hk_), (Kd.freshB (g := gb920) (o := .cells #[.slice A0_0 l0_0.length c0_0, .slice A0_1 l0_1.length c0_1] 24 (0, 0)) (zK BK920) k_ hk_), (Kd.freshB (g := gb921) (o := .cells #[.slice A1_0 l1_0.length c1_0, .slice A1_1 l1_1.length c1_1] 24 (0, 0)) (zK BK921) k_ hk_), (Kd.freshB (g := gb935) (o := .cells #[.slice Ao13 t922.length co13, .slice Ao18 t925.length co18] 28 (0, 0)) (zK BK935) k_ hk_), (Kd.freshB (g := gb936) (o := .cells #[.slice Ao19 t928.length co19, .slice Ao23 t931.length co23] 40 (0, 0)) (zK BK936) k_ hk_), (Kd.freshB (g := gb950) (o := .cells #[.slice Ao28 t937.length co28, .slice Ao35 t940.length co35] 28 (0, 0)) (zK BK950) k_ hk_), (Kd.freshB (g := gb951) (o := .cells #[.slice Ao36 t943.length co36, .slice Ao42 t946.length co42] 40 (0, 0)) (zK BK951) k_ hk_)⟩)) (za (zB HB))); have n10_ := zA (zaa (g := gb920) (o := .cells #[.slice A0_0 l0_0.length c0_0, .slice A0_1 l0_1.length c0_1] 24 (0, 0)) (zK BK920) hb); have n11_ := zA (zaa (g := gb921) (o := .cells #[.slice A1_0 l1_0.length c1_0, .slice A1_1 l1_1.length c1_1] 24 (0, 0)) (zK BK921) hb); have n12_ := zA (zaa (g := gb935) (o := .cells #[.slice Ao13 t922.length co13, .slice Ao18 t925.length co18] 28 (0, 0)) (zK BK935) hb); have n13_ := zA (zaa (g := gb936) (o := .cells #[.slice Ao19 t928.length co19, .slice Ao23 t931.length co23] 40 (0, 0)) (zK BK936) hb); have n14_ := zA (zaa (g := gb950) (o := .cells #[.slice Ao28 t937.length co28, .slice Ao35 t940.length co35] 28 (0, 0)) (zK BK950) hb); have n15_ := zA (zaa (g := gb951) (o := .cells #[.slice Ao36 t943.length co36, .slice Ao42 t946.length co42] 40 (0, 0)) (zK BK951) hb); have n16_ := zA (zaf (zB HB) hb); clear HO_936000 HO_936001 HO_937000 HO_937001 HO_951000 HO_951001 HO_952000 HO_952001 BK920 BK921 BK935 BK936 BK950 BK951 HB; have HO_936000 := n0_; have HO_936001 := n1_; have HO_937000 := n2_; have HO_937001 := n3_; have HO_951000 := n4_; have HO_951001 := n5_; have HO_952000 := n6_; have HO_952001 := n7_; have HO957 := n8_; have HO960 := n9_; have BK920 := n10_; have BK921 := n11_; have BK935 := n12_; have BK936 := n13_; have BK950 := n14_; have BK951 := n15_; have HB := n16_; clear n0_ n1_ n2_ n3_ n4_ n5_ n6_ n7_ n8_ n9_ n10_ n11_ n12_ n13_ n14_ n15_ n16_; (try clear hb); (try clear hb2); (try clear hk); (try clear hi); (try clear ho0); (try clear ho1)) | ((with_reducible refine zbh (N := 12) rfl ?_); (try (refine zcp (by rfl) ?_; dsimp only)); refine zbj ?hg (N := 12) ?hd (cs := #[.slice none 0 0, .slice none 0 0]) (t := 28) ?hr ?_; (case hd => rfl); (case hg => rfl); (case hr => first | (go_simp; done) | (go_simp; rfl)); intro gb962 hg w118 hbox hb; have n0_ := zA (Kd.zao (Kd.zca (zV HO_936000) gb962 (Nat.le_of_eq hg.symm)) hb); have n1_ := zA (Kd.zao (Kd.zca (zV HO_936001) gb962 (Nat.le_of_eq hg.symm)) hb); have n2_ := zA (Kd.zax (zR HO_937000) hb); have n3_ := zA (Kd.zax (zR HO_937001) hb); have n4_ := zA (Kd.zao (Kd.zca (zV HO_951000) gb962 (Nat.le_of_eq hg.symm)) hb); have n5_ := zA (Kd.zao (Kd.zca (zV HO_951001) gb962 (Nat.le_of_eq hg.symm)) hb); have n6_ := zA (Kd.zax (zR HO_952000) hb); have n7_ := zA (Kd.zax (zR HO_952001) hb); have n8_ := zA (Kd.zao (Kd.zca (zV HO957) gb962 (Nat.le_of_eq hg.symm)) hb); have n9_ := zA (Kd.zao (Kd.zca (zV HO960) gb962 (Nat.le_of_eq hg.symm)) hb); have n10_ := zA (zaa (g := gb920) (o := .cells #[.slice A0_0 l0_0.length c0_0, .slice A0_1 l0_1.length c0_1] 24 (0, 0)) (zK BK920) hb); have n11_ := zA (zaa (g := gb921) (o := .cells #[.slice A1_0 l1_0.length c1_0, .slice A1_1 l1_1.length c1_1] 24 (0, 0)) (zK BK921) hb); have n12_ := zA (zaa (g := gb935) (o := .cells #[.slice Ao13 t922.length co13, .slice Ao18 t925.length co18] 28 (0, 0)) (zK BK935) hb); have n13_ := zA (zaa (g := gb936) (o := .cells #[.slice Ao19 t928.length co19, .slice Ao23 t931.length co23] 40 (0, 0)) (zK BK936) hb); have n14_ := zA (zaa (g := gb950) (o := .cells #[.slice Ao28 t937.length co28, .slice Ao35 t940.length co35] 28 (0, 0)) (zK BK950) hb); have n15_ := zA (zaa (g := gb951) (o := .cells #[.slice Ao36 t943.length co36, .slice Ao42 t946.length co42] 40 (0, 0)) (zK BK951) hb); have n16_ := zA (zaf (zB HB) hb); have n17_ := zA (hbox); have n18_ := zA ((by rw [hg]; exact (za (zB HB)) : w.heap.size ≤ gb962)); have n19_ := zA ((by rw [hg]; exact (za (zB HB)) : w.heap.size ≤ gb962)); have n20_ := zA ((by rw [hg]; exact Nat.ne_of_lt (za5 (g := gb920) (o := .cells #[.slice A0_0 l0_0.length c0_0, .slice A0_1 l0_1.length c0_1] 24 (0, 0)) (zK BK920)) : gb920 ≠ gb962)); have n21_ := zA ((by rw [hg]; exact Nat.ne_of_gt (za5 (g := gb920) (o := .cells #[.slice A0_0 l0_0.length c0_0, .slice A0_1 l0_1.length c0_1] 24 (0, 0)) (zK BK920)) : gb962 ≠ gb920)); have n22_ := zA ((by rw [hg]; exact Nat.ne_of_lt (za5 (g := gb921) (o := .cells #[.slice A1_0 l1_0.length c1_0, .slice A1_1 l1_1.length c1_1] 24 (0, 0)) (zK BK921)) : gb921 ≠ gb962)); have n23_ := zA ((by rw [hg]; exact Nat.ne_of_gt (za5 (g := gb921) (o := .cells #[.slice A1_0 l1_0.length c1_0, .slice A1_1 l1_1.length c1_1] 24 (0, 0)) (zK BK921)) : gb962 ≠ gb921)); have n24_ := zA ((by rw [hg]; exact Nat.ne_of_lt (za5 (g := gb935) (o := .cells #[.slice Ao13 t922.length co13, .slice Ao18 t925.length co18] 28 (0, 0)) (zK BK935)) : gb935 ≠ gb962)); have n25_ := zA ((by rw [hg]; exact Nat.ne_of_gt (za5 (g := gb935) (o := .cells #[.slice Ao13 t922.length co13, .slice Ao18 t925.length co18] 28 (0, 0)) (zK BK935)) : gb962 ≠ gb935)); have n26_ := zA ((by rw [hg]; exact Nat.ne_of_lt (za5 (g := gb936) (o := .cells #[.slice Ao19 t928.length co19, .slice Ao23 t931.length co23] 40 (0, 0)) (zK BK936)) : gb936 ≠ gb962)); have n27_ := zA ((by rw [hg]; exact Nat.ne_of_gt (za5 (g := gb936) (o := .cells #[.slice Ao19 t928.length co19, .slice Ao23 t931.length co23] 40 (0, 0)) (zK BK936)) : gb962 ≠ gb936)); have n28_ := zA ((by rw [hg]; exact Nat.ne_of_lt (za5 (g := gb950) (o := .cells #[.slice Ao28 t937.length co28, .slice Ao35 t940.length co35] 28 (0, 0)) (zK BK950)) : gb950 ≠ gb962)); have n29_ := zA ((by rw [hg]; exact Nat.ne_of_gt (za5 (g := gb950) (o := .cells #[.slice Ao28 t937.length co28, .slice Ao35 t940.length co35] 28 (0, 0)) (zK BK950)) : gb962 ≠ gb950)); have n30_ := zA ((by rw [hg]; exact Nat.ne_of_lt (za5 (g := gb951) (o := .cells #[.slice Ao36 t943.length co36, .slice Ao42 t946.length co42] 40 (0, 0)) (zK BK951)) : gb951 ≠ gb962)); have n31_ := zA ((by rw [hg]; exact Nat.ne_of_gt (za5 (g := gb951) (o := .cells #[.slice Ao36 t943.length co36, .slice Ao42 t946.length co42] 40 (0, 0)) (zK BK951)) : gb962 ≠ gb951)); clear HO_936000 HO_936001 HO_937000 HO_937001 HO_951000 HO_951001 HO_952000 HO_952001 HO957 HO960 BK920 BK921 BK935 BK936 BK950 BK951 HB; have HO_936000 := n0_; have HO_936001 := n1_; have HO_937000 := n2_; have HO_937001 := n3_; have HO_951000 := n4_; have HO_951001 := n5_; have HO_952000 := n6_; have HO_952001 := n7_; have HO957 := n8_; have HO960 := n9_; have BK920 := n10_; have BK921 := n11_; have BK935 := n12_; have BK936 := n13_; have BK950 := n14_; have BK951 := n15_; have HB := n16_; have BK962 := n17_; have GW962 := n18_; have GE962 := n19_; have NB920_962 := n20_; have NB962_920 := n21_; have NB921_962 := n22_; have NB962_921 := n23_; have NB935_962 := n24_; have NB962_935 := n25_; have NB936_962 := n26_; have NB962_936 := n27_; have NB950_962 := n28_; have NB962_950 := n29_; have NB951_962 := n30_; have NB962_951 := n31_; clear n0_ n1_ n2_ n3_ n4_ n5_ n6_ n7_ n8_ n9_ n10_ n11_ n12_ n13_ n14_ n15_ n16_ n17_ n18_ n19_ n20_ n21_ n22_ n23_ n24_ n25_ n26_ n27_ n28_ n29_ n30_ n31_ hb hbox hg; obtain ⟨Ao119, co119, eo119⟩ := Kd.zbt HO957.out; subst eo119; have hnb120 := NB962_920.out; have hnc120 := NB920_962.out; have hnb121 := NB962_921.out; have hnc121 := NB921_962.out; have hnb122 := NB962_935.out; have hnc122 := NB935_962.out; have hnb123 := NB962_936.out; have hnc123 := NB936_962.out; have hnb124 := NB962_950.out; have hnc124 := NB950_962.out; have hnb125 := NB962_951.out; have hnc125 := NB951_962.out; have hcz126_0 : w118.cell? ⟨gb962, 0, none⟩ = some (.slice none 0 0) := (zad BK962.out 0).trans rfl; have hcz126_1 : w118.cell? ⟨gb962, 1, none⟩ = some (.slice none 0 0) := (zad BK962.out 1).trans rfl; have hfz126_0 := zal BK962.out 0; have hfz126_1 := zal BK962.out 1; obtain ⟨Ao127, co127, eo127⟩ := Kd.zbt HO960.out; subst eo127))
    (try simp only [Act.put, zs1, zs2, zs3])
    go_cut [72] (fun v72 wc => ∃ (kq : Nat) (x72_96 : Bool), v72 = .bool x72_96 ∧ Aside0 (zaj.j1 kq t954 t961 x72_96 t928 t931 t943 t946 t955 t958 = some r) ∧ Aside0 (kq ≤ kj4) ∧ Aside0 (Kd.V (Kd.int .u64) 57 wc w.heap.size (fun k_ => some k_ ≠ ((.slice Ao19 t928.length co19) : Value).ownBlock ∧ some k_ ≠ ((.slice Ao23 t931.length co23) : Value).ownBlock ∧ some k_ ≠ ((.slice Ao36 t943.length co36) : Value).ownBlock ∧ some k_ ≠ ((.slice Ao42 t946.length co42) : Value).ownBlock ∧ k_ ≠ gb920 ∧ k_ ≠ gb921 ∧ k_ ≠ gb935 ∧ k_ ≠ gb936 ∧ k_ ≠ gb950 ∧ k_ ≠ gb951 ∧ k_ ≠ gb962) (.slice Ao13 t922.length co13) t922) ∧ Aside0 (Kd.V (Kd.int .u64) 57 wc w.heap.size (fun k_ => some k_ ≠ ((.slice Ao19 t928.length co19) : Value).ownBlock ∧ some k_ ≠ ((.slice Ao23 t931.length co23) : Value).ownBlock ∧ some k_ ≠ ((.slice Ao36 t943.length co36) : Value).ownBlock ∧ some k_ ≠ ((.slice Ao42 t946.length co42) : Value).ownBlock ∧ k_ ≠ gb920 ∧ k_ ≠ gb921 ∧ k_ ≠ gb935 ∧ k_ ≠ gb936 ∧ k_ ≠ gb950 ∧ k_ ≠ gb951 ∧ k_ ≠ gb962) (.slice Ao18 t925.length co18) t925) ∧ Aside0 (Kd.R (Kd.int .i64) 3 wc w.heap.size (fun k_ => some k_ ≠ ((.slice Ao23 t931.length co23) : Value).ownBlock ∧ some k_ ≠ ((.slice Ao36 t943.length co36) : Value).ownBlock ∧ some k_ ≠ ((.slice Ao42 t946.length co42) : Value).ownBlock) (.slice Ao19 t928.length co19) t928) ∧ Aside0 (Kd.R (Kd.int .i64) 3 wc w.heap.size (fun k_ => some k_ ≠ ((.slice Ao19 t928.length co19) : Value).ownBlock ∧ some k_ ≠ ((.slice Ao36 t943.length co36) : Value).ownBlock ∧ some k_ ≠ ((.slice Ao42 t946.length co42) : Value).ownBlock) (.slice Ao23 t931.length co23) t931) ∧ Aside0 (Kd.V (Kd.int .u64) 57 wc w.heap.size (fun k_ => some k_ ≠ ((.slice Ao19 t928.length co19) : Value).ownBlock ∧ some k_ ≠ ((.slice Ao23 t931.length co23) : Value).ownBlock ∧ some k_ ≠ ((.slice Ao36 t943.length co36) : Value).ownBlock ∧ some k_ ≠ ((.slice Ao42 t946.length co42) : Value).ownBlock ∧ k_ ≠ gb920 ∧ k_ ≠ gb921 ∧ k_ ≠ gb935 ∧ k_ ≠ gb936 ∧ k_ ≠ gb950 ∧ k_ ≠ gb951 ∧ k_ ≠ gb962) (.slice Ao28 t937.length co28) t937) ∧ Aside0 (Kd.V (Kd.int .u64) 57 wc w.heap.size (fun k_ => some k_ ≠ ((.slice Ao19 t928.length co19) : Value).ownBlock ∧ some k_ ≠ ((.slice Ao23 t931.length co23) : Value).ownBlock ∧ some k_ ≠ ((.slice Ao36 t943.length co36) : Value).ownBlock ∧ some k_ ≠ ((.slice Ao42 t946.length co42) : Value).ownBlock ∧ k_ ≠ gb920 ∧ k_ ≠ gb921 ∧ k_ ≠ gb935 ∧ k_ ≠ gb936 ∧ k_ ≠ gb950 ∧ k_ ≠ gb951 ∧ k_ ≠ gb962) (.slice Ao35 t940.length co35) t940) ∧ Aside0 (Kd.R (Kd.int .i64) 3 wc w.heap.size (fun k_ => some k_ ≠ ((.slice Ao19 t928.length co19) : Value).ownBlock ∧ some k_ ≠ ((.slice Ao23 t931.length co23) : Value).ownBlock ∧ some k_ ≠ ((.slice Ao42 t946.length co42) : Value).ownBlock) (.slice Ao36 t943.length co36) t943) ∧ Aside0 (Kd.R (Kd.int .i64) 3 wc w.heap.size (fun k_ => some k_ ≠ ((.slice Ao19 t928.length co19) : Value).ownBlock ∧ some k_ ≠ ((.slice Ao23 t931.length co23) : Value).ownBlock ∧ some k_ ≠ ((.slice Ao36 t943.length co36) : Value).ownBlock) (.slice Ao42 t946.length co42) t946) ∧ Aside0 (Kd.V (Kd.int .u64) 57 wc w.heap.size (fun k_ => some k_ ≠ ((.slice Ao19 t928.length co19) : Value).ownBlock ∧ some k_ ≠ ((.slice Ao23 t931.length co23) : Value).ownBlock ∧ some k_ ≠ ((.slice Ao36 t943.length co36) : Value).ownBlock ∧ some k_ ≠ ((.slice Ao42 t946.length co42) : Value).ownBlock ∧ k_ ≠ gb920 ∧ k_ ≠ gb921 ∧ k_ ≠ gb935 ∧ k_ ≠ gb936 ∧ k_ ≠ gb950 ∧ k_ ≠ gb951 ∧ k_ ≠ gb962) (.slice Ao119 t955.length co119) t955) ∧ Aside0 (Kd.V (Kd.int .u64) 57 wc w.heap.size (fun k_ => some k_ ≠ ((.slice Ao19 t928.length co19) : Value).ownBlock ∧ some k_ ≠ ((.slice Ao23 t931.length co23) : Value).ownBlock ∧ some k_ ≠ ((.slice Ao36 t943.length co36) : Value).ownBlock ∧ some k_ ≠ ((.slice Ao42 t946.length co42) : Value).ownBlock ∧ k_ ≠ gb920 ∧ k_ ≠ gb921 ∧ k_ ≠ gb935 ∧ k_ ≠ gb936 ∧ k_ ≠ gb950 ∧ k_ ≠ gb951 ∧ k_ ≠ gb962) (.slice Ao127 t958.length co127) t958) ∧ Aside0 (wc.heap[gb920]? = some (.cells #[(.slice A0_0 l0_0.length c0_0), (.slice A0_1 l0_1.length c0_1)] 24 (0, 0))) ∧ Aside0 (wc.heap[gb921]? = some (.cells #[(.slice A1_0 l1_0.length c1_0), (.slice A1_1 l1_1.length c1_1)] 24 (0, 0))) ∧ Aside0 (wc.heap[gb935]? = some (.cells #[(.slice Ao13 t922.length co13), (.slice Ao18 t925.length co18)] 28 (0, 0))) ∧ Aside0 (wc.heap[gb936]? = some (.cells #[(.slice Ao19 t928.length co19), (.slice Ao23 t931.length co23)] 40 (0, 0))) ∧ Aside0 (wc.heap[gb950]? = some (.cells #[(.slice Ao28 t937.length co28), (.slice Ao35 t940.length co35)] 28 (0, 0))) ∧ Aside0 (wc.heap[gb951]? = some (.cells #[(.slice Ao36 t943.length co36), (.slice Ao42 t946.length co42)] 40 (0, 0))) ∧ Aside0 (wc.heap[gb962]? = some (.cells #[(.slice Ao119 t955.length co119), (.slice Ao127 t958.length co127)] 28 (0, 0))) ∧ Aside0 (Below w.heap.size w wc))
    case first =>
     have H := HC97.out
     clear HC97
     replace H := zO H
     obtain ⟨t963, A1280, H⟩ := H
     try dsimp only at H
     have A128 := zA A1280
     clear A1280
     by_cases c129 : t963 = t954
     ·
      rw [if_pos c129] at H
      have c129b0 : (t963 == t954) = true := beq_iff_eq.mpr c129
      have c129b1 : (t963 != t954) = false := bne_eq_false_iff_eq.mpr c129
      clear c129
      (first | rw [c129b0] | (simp only [i64_w, i32_w]; rw [c129b0]) | skip)
      replace H := zO H
      obtain ⟨⟨t964, t967⟩, A1300, H⟩ := H
      try dsimp only at H
      have A130 := zA A1300
      clear A1300
      replace H := zO H
      obtain ⟨⟨t970, t973⟩, A1310, H⟩ := H
      try dsimp only at H
      have A131 := zA A1310
      clear A1310
      replace H := zO H
      obtain ⟨t976, A1320, H⟩ := H
      try dsimp only at H
      have A132 := zA A1320
      clear A1320
      have H' := zA H
      clear H
      try go_wp2
      have n0_ : Aside0 (Kd.V (Kd.int .u64) 57 ((w118.setCell ⟨gb962, 0, none⟩ (.slice Ao119 t955.length co119)).setCell ⟨gb962, 1, none⟩ (.slice Ao127 t958.length co127)) w.heap.size (fun k_ => some k_ ≠ (.slice Ao19 t928.length co19 : Value).ownBlock ∧ some k_ ≠ (.slice Ao23 t931.length co23 : Value).ownBlock ∧ some k_ ≠ (.slice Ao36 t943.length co36 : Value).ownBlock ∧ some k_ ≠ (.slice Ao42 t946.length co42 : Value).ownBlock ∧ k_ ≠ gb920 ∧ k_ ≠ gb921 ∧ k_ ≠ gb935 ∧ k_ ≠ gb936 ∧ k_ ≠ gb950 ∧ k_ ≠ gb951 ∧ k_ ≠ gb962) (.slice Ao13 t922.length co13) t922) := ⟨by (with_reducible repeat (first | apply Kd.za8 | apply Kd.za9 | apply Kd.zbc)); exact Kd.zak (Kd.V_far (p := ⟨gb962, 1, none⟩) (Kd.V_far (p := ⟨gb962, 0, none⟩) (Kd.zak HO_936000.out (fun k_ hk => (⟨hk, hk.2⟩ : _ ∧ k_ ≠ gb962))) (fun _ hk => hk.2) (.slice Ao119 t955.length co119)) (fun _ hk => hk.2) (.slice Ao127 t958.length co127)) (fun _ hk => ⟨hk.1.1.1, ⟨hk.1.1.2.1, ⟨hk.1.1.2.2.1, ⟨hk.1.1.2.2.2.1, ⟨hk.1.1.2.2.2.2.1, ⟨hk.1.1.2.2.2.2.2.1, ⟨hk.1.1.2.2.2.2.2.2.1, ⟨hk.1.1.2.2.2.2.2.2.2.1, ⟨hk.1.1.2.2.2.2.2.2.2.2.1, ⟨hk.1.1.2.2.2.2.2.2.2.2.2, hk.1.2⟩⟩⟩⟩⟩⟩⟩⟩⟩⟩)⟩
      have n1_ : Aside0 (Kd.V (Kd.int .u64) 57 ((w118.setCell ⟨gb962, 0, none⟩ (.slice Ao119 t955.length co119)).setCell ⟨gb962, 1, none⟩ (.slice Ao127 t958.length co127)) w.heap.size (fun k_ => some k_ ≠ (.slice Ao19 t928.length co19 : Value).ownBlock ∧ some k_ ≠ (.slice Ao23 t931.length co23 : Value).ownBlock ∧ some k_ ≠ (.slice Ao36 t943.length co36 : Value).ownBlock ∧ some k_ ≠ (.slice Ao42 t946.length co42 : Value).ownBlock ∧ k_ ≠ gb920 ∧ k_ ≠ gb921 ∧ k_ ≠ gb935 ∧ k_ ≠ gb936 ∧ k_ ≠ gb950 ∧ k_ ≠ gb951 ∧ k_ ≠ gb962) (.slice Ao18 t925.length co18) t925) := ⟨by (with_reducible repeat (first | apply Kd.za8 | apply Kd.za9 | apply Kd.zbc)); exact Kd.zak (Kd.V_far (p := ⟨gb962, 1, none⟩) (Kd.V_far (p := ⟨gb962, 0, none⟩) (Kd.zak HO_936001.out (fun k_ hk => (⟨hk, hk.2⟩ : _ ∧ k_ ≠ gb962))) (fun _ hk => hk.2) (.slice Ao119 t955.length co119)) (fun _ hk => hk.2) (.slice Ao127 t958.length co127)) (fun _ hk => ⟨hk.1.1.1, ⟨hk.1.1.2.1, ⟨hk.1.1.2.2.1, ⟨hk.1.1.2.2.2.1, ⟨hk.1.1.2.2.2.2.1, ⟨hk.1.1.2.2.2.2.2.1, ⟨hk.1.1.2.2.2.2.2.2.1, ⟨hk.1.1.2.2.2.2.2.2.2.1, ⟨hk.1.1.2.2.2.2.2.2.2.2.1, ⟨hk.1.1.2.2.2.2.2.2.2.2.2, hk.1.2⟩⟩⟩⟩⟩⟩⟩⟩⟩⟩)⟩
      have n2_ : Aside0 (Kd.R (Kd.int .i64) 3 ((w118.setCell ⟨gb962, 0, none⟩ (.slice Ao119 t955.length co119)).setCell ⟨gb962, 1, none⟩ (.slice Ao127 t958.length co127)) w.heap.size (fun k_ => some k_ ≠ (.slice Ao23 t931.length co23 : Value).ownBlock ∧ some k_ ≠ (.slice Ao36 t943.length co36 : Value).ownBlock ∧ some k_ ≠ (.slice Ao42 t946.length co42 : Value).ownBlock) (.slice Ao19 t928.length co19) t928) := ⟨by (with_reducible repeat (first | apply Kd.za3 | apply Kd.za4 | apply Kd.zbb)); exact Kd.zav (Kd.R_far (p := ⟨gb962, 1, none⟩) (Kd.R_far (p := ⟨gb962, 0, none⟩) (Kd.zbe HO_937000.out BK962.out (by decide)) (fun _ hk => hk.2) (.slice Ao119 t955.length co119)) (fun _ hk => hk.2) (.slice Ao127 t958.length co127)) (fun _ hk => ⟨hk.1.1, ⟨hk.1.2.1, hk.1.2.2⟩⟩)⟩
      have n3_ : Aside0 (Kd.R (Kd.int .i64) 3 ((w118.setCell ⟨gb962, 0, none⟩ (.slice Ao119 t955.length co119)).setCell ⟨gb962, 1, none⟩ (.slice Ao127 t958.length co127)) w.heap.size (fun k_ => some k_ ≠ (.slice Ao19 t928.length co19 : Value).ownBlock ∧ some k_ ≠ (.slice Ao36 t943.length co36 : Value).ownBlock ∧ some k_ ≠ (.slice Ao42 t946.length co42 : Value).ownBlock) (.slice Ao23 t931.length co23) t931) := ⟨by (with_reducible repeat (first | apply Kd.za3 | apply Kd.za4 | apply Kd.zbb)); exact Kd.zav (Kd.R_far (p := ⟨gb962, 1, none⟩) (Kd.R_far (p := ⟨gb962, 0, none⟩) (Kd.zbe HO_937001.out BK962.out (by decide)) (fun _ hk => hk.2) (.slice Ao119 t955.length co119)) (fun _ hk => hk.2) (.slice Ao127 t958.length co127)) (fun _ hk => ⟨hk.1.1, ⟨hk.1.2.1, hk.1.2.2⟩⟩)⟩
      have n4_ : Aside0 (Kd.V (Kd.int .u64) 57 ((w118.setCell ⟨gb962, 0, none⟩ (.slice Ao119 t955.length co119)).setCell ⟨gb962, 1, none⟩ (.slice Ao127 t958.length co127)) w.heap.size (fun k_ => some k_ ≠ (.slice Ao19 t928.length co19 : Value).ownBlock ∧ some k_ ≠ (.slice Ao23 t931.length co23 : Value).ownBlock ∧ some k_ ≠ (.slice Ao36 t943.length co36 : Value).ownBlock ∧ some k_ ≠ (.slice Ao42 t946.length co42 : Value).ownBlock ∧ k_ ≠ gb920 ∧ k_ ≠ gb921 ∧ k_ ≠ gb935 ∧ k_ ≠ gb936 ∧ k_ ≠ gb950 ∧ k_ ≠ gb951 ∧ k_ ≠ gb962) (.slice Ao28 t937.length co28) t937) := ⟨by (with_reducible repeat (first | apply Kd.za8 | apply Kd.za9 | apply Kd.zbc)); exact Kd.zak (Kd.V_far (p := ⟨gb962, 1, none⟩) (Kd.V_far (p := ⟨gb962, 0, none⟩) (Kd.zak HO_951000.out (fun k_ hk => (⟨hk, hk.2⟩ : _ ∧ k_ ≠ gb962))) (fun _ hk => hk.2) (.slice Ao119 t955.length co119)) (fun _ hk => hk.2) (.slice Ao127 t958.length co127)) (fun _ hk => ⟨hk.1.1.1, ⟨hk.1.1.2.1, ⟨hk.1.1.2.2.1, ⟨hk.1.1.2.2.2.1, ⟨hk.1.1.2.2.2.2.1, ⟨hk.1.1.2.2.2.2.2.1, ⟨hk.1.1.2.2.2.2.2.2.1, ⟨hk.1.1.2.2.2.2.2.2.2.1, ⟨hk.1.1.2.2.2.2.2.2.2.2.1, ⟨hk.1.1.2.2.2.2.2.2.2.2.2, hk.1.2⟩⟩⟩⟩⟩⟩⟩⟩⟩⟩)⟩
      have n5_ : Aside0 (Kd.V (Kd.int .u64) 57 ((w118.setCell ⟨gb962, 0, none⟩ (.slice Ao119 t955.length co119)).setCell ⟨gb962, 1, none⟩ (.slice Ao127 t958.length co127)) w.heap.size (fun k_ => some k_ ≠ (.slice Ao19 t928.length co19 : Value).ownBlock ∧ some k_ ≠ (.slice Ao23 t931.length co23 : Value).ownBlock ∧ some k_ ≠ (.slice Ao36 t943.length co36 : Value).ownBlock ∧ some k_ ≠ (.slice Ao42 t946.length co42 : Value).ownBlock ∧ k_ ≠ gb920 ∧ k_ ≠ gb921 ∧ k_ ≠ gb935 ∧ k_ ≠ gb936 ∧ k_ ≠ gb950 ∧ k_ ≠ gb951 ∧ k_ ≠ gb962) (.slice Ao35 t940.length co35) t940) := ⟨by (with_reducible repeat (first | apply Kd.za8 | apply Kd.za9 | apply Kd.zbc)); exact Kd.zak (Kd.V_far (p := ⟨gb962, 1, none⟩) (Kd.V_far (p := ⟨gb962, 0, none⟩) (Kd.zak HO_951001.out (fun k_ hk => (⟨hk, hk.2⟩ : _ ∧ k_ ≠ gb962))) (fun _ hk => hk.2) (.slice Ao119 t955.length co119)) (fun _ hk => hk.2) (.slice Ao127 t958.length co127)) (fun _ hk => ⟨hk.1.1.1, ⟨hk.1.1.2.1, ⟨hk.1.1.2.2.1, ⟨hk.1.1.2.2.2.1, ⟨hk.1.1.2.2.2.2.1, ⟨hk.1.1.2.2.2.2.2.1, ⟨hk.1.1.2.2.2.2.2.2.1, ⟨hk.1.1.2.2.2.2.2.2.2.1, ⟨hk.1.1.2.2.2.2.2.2.2.2.1, ⟨hk.1.1.2.2.2.2.2.2.2.2.2, hk.1.2⟩⟩⟩⟩⟩⟩⟩⟩⟩⟩)⟩
      have n6_ : Aside0 (Kd.R (Kd.int .i64) 3 ((w118.setCell ⟨gb962, 0, none⟩ (.slice Ao119 t955.length co119)).setCell ⟨gb962, 1, none⟩ (.slice Ao127 t958.length co127)) w.heap.size (fun k_ => some k_ ≠ (.slice Ao19 t928.length co19 : Value).ownBlock ∧ some k_ ≠ (.slice Ao23 t931.length co23 : Value).ownBlock ∧ some k_ ≠ (.slice Ao42 t946.length co42 : Value).ownBlock) (.slice Ao36 t943.length co36) t943) := ⟨by (with_reducible repeat (first | apply Kd.za3 | apply Kd.za4 | apply Kd.zbb)); exact Kd.zav (Kd.R_far (p := ⟨gb962, 1, none⟩) (Kd.R_far (p := ⟨gb962, 0, none⟩) (Kd.zbe HO_952000.out BK962.out (by decide)) (fun _ hk => hk.2) (.slice Ao119 t955.length co119)) (fun _ hk => hk.2) (.slice Ao127 t958.length co127)) (fun _ hk => ⟨hk.1.1, ⟨hk.1.2.1, hk.1.2.2⟩⟩)⟩
      have n7_ : Aside0 (Kd.R (Kd.int .i64) 3 ((w118.setCell ⟨gb962, 0, none⟩ (.slice Ao119 t955.length co119)).setCell ⟨gb962, 1, none⟩ (.slice Ao127 t958.length co127)) w.heap.size (fun k_ => some k_ ≠ (.slice Ao19 t928.length co19 : Value).ownBlock ∧ some k_ ≠ (.slice Ao23 t931.length co23 : Value).ownBlock ∧ some k_ ≠ (.slice Ao36 t943.length co36 : Value).ownBlock) (.slice Ao42 t946.length co42) t946) := ⟨by (with_reducible repeat (first | apply Kd.za3 | apply Kd.za4 | apply Kd.zbb)); exact Kd.zav (Kd.R_far (p := ⟨gb962, 1, none⟩) (Kd.R_far (p := ⟨gb962, 0, none⟩) (Kd.zbe HO_952001.out BK962.out (by decide)) (fun _ hk => hk.2) (.slice Ao119 t955.length co119)) (fun _ hk => hk.2) (.slice Ao127 t958.length co127)) (fun _ hk => ⟨hk.1.1, ⟨hk.1.2.1, hk.1.2.2⟩⟩)⟩
      have n8_ : Aside0 (Kd.V (Kd.int .u64) 57 ((w118.setCell ⟨gb962, 0, none⟩ (.slice Ao119 t955.length co119)).setCell ⟨gb962, 1, none⟩ (.slice Ao127 t958.length co127)) w.heap.size (fun k_ => some k_ ≠ (.slice Ao19 t928.length co19 : Value).ownBlock ∧ some k_ ≠ (.slice Ao23 t931.length co23 : Value).ownBlock ∧ some k_ ≠ (.slice Ao36 t943.length co36 : Value).ownBlock ∧ some k_ ≠ (.slice Ao42 t946.length co42 : Value).ownBlock ∧ k_ ≠ gb920 ∧ k_ ≠ gb921 ∧ k_ ≠ gb935 ∧ k_ ≠ gb936 ∧ k_ ≠ gb950 ∧ k_ ≠ gb951 ∧ k_ ≠ gb962) (.slice Ao119 t955.length co119) t955) := ⟨by (with_reducible repeat (first | apply Kd.za8 | apply Kd.za9 | apply Kd.zbc)); exact Kd.zak (Kd.V_far (p := ⟨gb962, 1, none⟩) (Kd.V_far (p := ⟨gb962, 0, none⟩) (Kd.zak HO957.out (fun k_ hk => (⟨hk, hk.2⟩ : _ ∧ k_ ≠ gb962))) (fun _ hk => hk.2) (.slice Ao119 t955.length co119)) (fun _ hk => hk.2) (.slice Ao127 t958.length co127)) (fun _ hk => ⟨hk.1.1.1, ⟨hk.1.1.2.1, ⟨hk.1.1.2.2.1, ⟨hk.1.1.2.2.2.1, ⟨hk.1.1.2.2.2.2.1, ⟨hk.1.1.2.2.2.2.2.1, ⟨hk.1.1.2.2.2.2.2.2.1, ⟨hk.1.1.2.2.2.2.2.2.2.1, ⟨hk.1.1.2.2.2.2.2.2.2.2.1, ⟨hk.1.1.2.2.2.2.2.2.2.2.2, hk.1.2⟩⟩⟩⟩⟩⟩⟩⟩⟩⟩)⟩
      have n9_ : Aside0 (Kd.V (Kd.int .u64) 57 ((w118.setCell ⟨gb962, 0, none⟩ (.slice Ao119 t955.length co119)).setCell ⟨gb962, 1, none⟩ (.slice Ao127 t958.length co127)) w.heap.size (fun k_ => some k_ ≠ (.slice Ao19 t928.length co19 : Value).ownBlock ∧ some k_ ≠ (.slice Ao23 t931.length co23 : Value).ownBlock ∧ some k_ ≠ (.slice Ao36 t943.length co36 : Value).ownBlock ∧ some k_ ≠ (.slice Ao42 t946.length co42 : Value).ownBlock ∧ k_ ≠ gb920 ∧ k_ ≠ gb921 ∧ k_ ≠ gb935 ∧ k_ ≠ gb936 ∧ k_ ≠ gb950 ∧ k_ ≠ gb951 ∧ k_ ≠ gb962) (.slice Ao127 t958.length co127) t958) := ⟨by (with_reducible repeat (first | apply Kd.za8 | apply Kd.za9 | apply Kd.zbc)); exact Kd.zak (Kd.V_far (p := ⟨gb962, 1, none⟩) (Kd.V_far (p := ⟨gb962, 0, none⟩) (Kd.zak HO960.out (fun k_ hk => (⟨hk, hk.2⟩ : _ ∧ k_ ≠ gb962))) (fun _ hk => hk.2) (.slice Ao119 t955.length co119)) (fun _ hk => hk.2) (.slice Ao127 t958.length co127)) (fun _ hk => ⟨hk.1.1.1, ⟨hk.1.1.2.1, ⟨hk.1.1.2.2.1, ⟨hk.1.1.2.2.2.1, ⟨hk.1.1.2.2.2.2.1, ⟨hk.1.1.2.2.2.2.2.1, ⟨hk.1.1.2.2.2.2.2.2.1, ⟨hk.1.1.2.2.2.2.2.2.2.1, ⟨hk.1.1.2.2.2.2.2.2.2.2.1, ⟨hk.1.1.2.2.2.2.2.2.2.2.2, hk.1.2⟩⟩⟩⟩⟩⟩⟩⟩⟩⟩)⟩
      have n10_ : Aside0 (((w118.setCell ⟨gb962, 0, none⟩ (.slice Ao119 t955.length co119)).setCell ⟨gb962, 1, none⟩ (.slice Ao127 t958.length co127)).heap[gb920]? = some (.cells #[.slice A0_0 l0_0.length c0_0, .slice A0_1 l0_1.length c0_1] 24 (0, 0))) := ⟨by (with_reducible repeat (first | refine zab ?_ _ | refine zae ?_ | refine zac ?_ _)); refine zaq ?_ NB920_962.out _; (with_reducible repeat (first | refine zab ?_ _ | refine zae ?_ | refine zac ?_ _)); refine zaq ?_ NB920_962.out _; (with_reducible repeat (first | refine zab ?_ _ | refine zae ?_ | refine zac ?_ _)); exact BK920.out⟩
      have n11_ : Aside0 (((w118.setCell ⟨gb962, 0, none⟩ (.slice Ao119 t955.length co119)).setCell ⟨gb962, 1, none⟩ (.slice Ao127 t958.length co127)).heap[gb921]? = some (.cells #[.slice A1_0 l1_0.length c1_0, .slice A1_1 l1_1.length c1_1] 24 (0, 0))) := ⟨by (with_reducible repeat (first | refine zab ?_ _ | refine zae ?_ | refine zac ?_ _)); refine zaq ?_ NB921_962.out _; (with_reducible repeat (first | refine zab ?_ _ | refine zae ?_ | refine zac ?_ _)); refine zaq ?_ NB921_962.out _; (with_reducible repeat (first | refine zab ?_ _ | refine zae ?_ | refine zac ?_ _)); exact BK921.out⟩
      have n12_ : Aside0 (((w118.setCell ⟨gb962, 0, none⟩ (.slice Ao119 t955.length co119)).setCell ⟨gb962, 1, none⟩ (.slice Ao127 t958.length co127)).heap[gb935]? = some (.cells #[.slice Ao13 t922.length co13, .slice Ao18 t925.length co18] 28 (0, 0))) := ⟨by (with_reducible repeat (first | refine zab ?_ _ | refine zae ?_ | refine zac ?_ _)); refine zaq ?_ NB935_962.out _; (with_reducible repeat (first | refine zab ?_ _ | refine zae ?_ | refine zac ?_ _)); refine zaq ?_ NB935_962.out _; (with_reducible repeat (first | refine zab ?_ _ | refine zae ?_ | refine zac ?_ _)); exact BK935.out⟩
      have n13_ : Aside0 (((w118.setCell ⟨gb962, 0, none⟩ (.slice Ao119 t955.length co119)).setCell ⟨gb962, 1, none⟩ (.slice Ao127 t958.length co127)).heap[gb936]? = some (.cells #[.slice Ao19 t928.length co19, .slice Ao23 t931.length co23] 40 (0, 0))) := ⟨by (with_reducible repeat (first | refine zab ?_ _ | refine zae ?_ | refine zac ?_ _)); refine zaq ?_ NB936_962.out _; (with_reducible repeat (first | refine zab ?_ _ | refine zae ?_ | refine zac ?_ _)); refine zaq ?_ NB936_962.out _; (with_reducible repeat (first | refine zab ?_ _ | refine zae ?_ | refine zac ?_ _)); exact BK936.out⟩
      have n14_ : Aside0 (((w118.setCell ⟨gb962, 0, none⟩ (.slice Ao119 t955.length co119)).setCell ⟨gb962, 1, none⟩ (.slice Ao127 t958.length co127)).heap[gb950]? = some (.cells #[.slice Ao28 t937.length co28, .slice Ao35 t940.length co35] 28 (0, 0))) := ⟨by (with_reducible repeat (first | refine zab ?_ _ | refine zae ?_ | refine zac ?_ _)); refine zaq ?_ NB950_962.out _; (with_reducible repeat (first | refine zab ?_ _ | refine zae ?_ | refine zac ?_ _)); refine zaq ?_ NB950_962.out _; (with_reducible repeat (first | refine zab ?_ _ | refine zae ?_ | refine zac ?_ _)); exact BK950.out⟩
      have n15_ : Aside0 (((w118.setCell ⟨gb962, 0, none⟩ (.slice Ao119 t955.length co119)).setCell ⟨gb962, 1, none⟩ (.slice Ao127 t958.length co127)).heap[gb951]? = some (.cells #[.slice Ao36 t943.length co36, .slice Ao42 t946.length co42] 40 (0, 0))) := ⟨by (with_reducible repeat (first | refine zab ?_ _ | refine zae ?_ | refine zac ?_ _)); refine zaq ?_ NB951_962.out _; (with_reducible repeat (first | refine zab ?_ _ | refine zae ?_ | refine zac ?_ _)); refine zaq ?_ NB951_962.out _; (with_reducible repeat (first | refine zab ?_ _ | refine zae ?_ | refine zac ?_ _)); exact BK951.out⟩
      have n16_ : Aside0 (((w118.setCell ⟨gb962, 0, none⟩ (.slice Ao119 t955.length co119)).setCell ⟨gb962, 1, none⟩ (.slice Ao127 t958.length co127)).heap[gb962]? = some (.cells #[.slice Ao119 t955.length co119, .slice Ao127 t958.length co127] 28 (0, 0))) := ⟨by (with_reducible repeat (first | refine zab ?_ _ | refine zae ?_ | refine zac ?_ _)); refine zbo (cs := #[.slice Ao119 t955.length co119, .slice none 0 0]) ?_ 1 _ rfl; (with_reducible repeat (first | refine zab ?_ _ | refine zae ?_ | refine zac ?_ _)); refine zbo (cs := #[.slice none 0 0, .slice none 0 0]) ?_ 0 _ rfl; (with_reducible repeat (first | refine zab ?_ _ | refine zae ?_ | refine zac ?_ _)); exact BK962.out⟩
      have n17_ : Aside0 (Below w.heap.size w ((w118.setCell ⟨gb962, 0, none⟩ (.slice Ao119 t955.length co119)).setCell ⟨gb962, 1, none⟩ (.slice Ao127 t958.length co127))) := ⟨zB HB⟩
      (try clear HO_936000)
      (try clear HO_936001)
      (try clear HO_937000)
      (try clear HO_937001)
      (try clear HO_951000)
      (try clear HO_951001)
      (try clear HO_952000)
      (try clear HO_952001)
      (try clear HO957)
      (try clear HO960)
      (try clear BK920)
      (try clear BK921)
      (try clear BK935)
      (try clear BK936)
      (try clear BK950)
      (try clear BK951)
      (try clear BK962)
      (try clear HB)
      generalize ((w118.setCell ⟨gb962, 0, none⟩ (.slice Ao119 t955.length co119)).setCell ⟨gb962, 1, none⟩ (.slice Ao127 t958.length co127)) = w133 at n0_ n1_ n2_ n3_ n4_ n5_ n6_ n7_ n8_ n9_ n10_ n11_ n12_ n13_ n14_ n15_ n16_ n17_ ⊢
      have HO_936000 := n0_
      have HO_936001 := n1_
      have HO_937000 := n2_
      have HO_937001 := n3_
      have HO_951000 := n4_
      have HO_951001 := n5_
      have HO_952000 := n6_
      have HO_952001 := n7_
      have HO957 := n8_
      have HO960 := n9_
      have BK920 := n10_
      have BK921 := n11_
      have BK935 := n12_
      have BK936 := n13_
      have BK950 := n14_
      have BK951 := n15_
      have BK962 := n16_
      have HB := n17_
      clear n0_ n1_ n2_ n3_ n4_ n5_ n6_ n7_ n8_ n9_ n10_ n11_ n12_ n13_ n14_ n15_ n16_ n17_
      have n0_ := zA (Kd.zbc HO_936000.out)
      have n1_ := zA (Kd.zbc HO_936001.out)
      have n2_ := zA (Kd.zbb HO_937000.out)
      have n3_ := zA (Kd.zbb HO_937001.out)
      have n4_ := zA (Kd.zbc HO_951000.out)
      have n5_ := zA (Kd.zbc HO_951001.out)
      have n6_ := zA (Kd.zbb HO_952000.out)
      have n7_ := zA (Kd.zbb HO_952001.out)
      have n8_ := zA (Kd.zbc HO957.out)
      have n9_ := zA (Kd.zbc HO960.out)
      have n10_ := zA (zae BK920.out)
      have n11_ := zA (zae BK921.out)
      have n12_ := zA (zae BK935.out)
      have n13_ := zA (zae BK936.out)
      have n14_ := zA (zae BK950.out)
      have n15_ := zA (zae BK951.out)
      have n16_ := zA (zae BK962.out)
      have n17_ := zA (zb0 HB.out)
      clear HO_936000 HO_936001 HO_937000 HO_937001 HO_951000 HO_951001 HO_952000 HO_952001 HO957 HO960 BK920 BK921 BK935 BK936 BK950 BK951 BK962 HB
      have HO_936000 := n0_
      have HO_936001 := n1_
      have HO_937000 := n2_
      have HO_937001 := n3_
      have HO_951000 := n4_
      have HO_951001 := n5_
      have HO_952000 := n6_
      have HO_952001 := n7_
      have HO957 := n8_
      have HO960 := n9_
      have BK920 := n10_
      have BK921 := n11_
      have BK935 := n12_
      have BK936 := n13_
      have BK950 := n14_
      have BK951 := n15_
      have BK962 := n16_
      have HB := n17_
      clear n0_ n1_ n2_ n3_ n4_ n5_ n6_ n7_ n8_ n9_ n10_ n11_ n12_ n13_ n14_ n15_ n16_ n17_
      refine start_ (n := 15) (S := fun w' => w'.cell? ⟨gb935, 0, none⟩ = some (.slice Ao13 t922.length co13) ∧ w'.cell? ⟨gb935, 1, none⟩ = some (.slice Ao18 t925.length co18) ∧ w'.cell? ⟨gb950, 0, none⟩ = some (.slice Ao28 t937.length co28) ∧ w'.cell? ⟨gb950, 1, none⟩ = some (.slice Ao35 t940.length co35) ∧ w'.cell? ⟨gb936, 0, none⟩ = some (.slice Ao19 t928.length co19) ∧ w'.cell? ⟨gb936, 1, none⟩ = some (.slice Ao23 t931.length co23) ∧ w'.cell? ⟨gb951, 0, none⟩ = some (.slice Ao36 t943.length co36) ∧ w'.cell? ⟨gb951, 1, none⟩ = some (.slice Ao42 t946.length co42)) (ds := []) #[false, false, false, false, false, false, false, false, false, false, false, false, false, false, false] (by kernel_rfl) rfl rfl ⟨(zad BK935.out 0).trans rfl, (zad BK935.out 1).trans rfl, (zad BK950.out 0).trans rfl, (zad BK950.out 1).trans rfl, (zad BK936.out 0).trans rfl, (zad BK936.out 1).trans rfl, (zad BK951.out 0).trans rfl, (zad BK951.out 1).trans rfl⟩ (fun hHeld => ?_); refine zc0 zaj.tab7 zaj.bits7 (fun HT_ HW_ => ?_)
      generalize w133.drew = w134 at HO_936000 HO_936001 HO_937000 HO_937001 HO_951000 HO_951001 HO_952000 HO_952001 HO957 HO960 BK920 BK921 BK935 BK936 BK950 BK951 BK962 HB hHeld ⊢
      refine pure_ (i := 3) (N := some 61) (v := ?_) (a' := ?_) #[false, false, false, true, false, false, false, false, false, false, false, false, false, false, false] rfl rfl (zbf HT_.out (by kernel_rfl)) (fun _ _ _ h => h) (Or.inl ⟨by rfl, ?_⟩) ?_ ?_
      rotate_left
      ·
       intro w'
       go_simp
       with_reducible rfl
      rotate_left
      ·
       simp only [Act.put, zs1, zs2, zs3, i64_w, i32_w]
       rfl
      refine take_ (i := 0) (N := some 58) (v := ?_) (a' := ?_) #[true, false, false, true, false, false, false, false, false, false, false, false, false, false, false] rfl rfl (zbx HT_.out HW_.out (by kernel_rfl)) (fun _ _ _ h => h) (Or.inl ⟨by rfl, ?_⟩) hHeld ?_ ?_
      rotate_left
      ·
       rintro w' ⟨s0, s1, s2, s3, s4, s5, s6, s7⟩
       go_simp
       with_reducible rfl
      rotate_left
      ·
       simp only [Act.put, zs1, zs2, zs3, i64_w, i32_w]
       rfl
      refine take_ (i := 1) (N := some 59) (v := ?_) (a' := ?_) #[true, true, false, true, false, false, false, false, false, false, false, false, false, false, false] rfl rfl (zbx HT_.out HW_.out (by kernel_rfl)) (fun _ _ _ h => h) (Or.inl ⟨by rfl, ?_⟩) hHeld ?_ ?_
      rotate_left
      ·
       rintro w' ⟨s0, s1, s2, s3, s4, s5, s6, s7⟩
       go_simp
       with_reducible rfl
      rotate_left
      ·
       simp only [Act.put, zs1, zs2, zs3, i64_w, i32_w]
       rfl
      refine one_ (i := 2) (N := some 60) #[true, true, true, true, false, false, false, false, false, false, false, false, false, false, false] rfl rfl (zcf HT_.out (by kernel_rfl)) (by decide) (fun K hK => ?_)
      refine goes_ Tryd.func35 (by kernel_rfl) rfl #[.agg #[.slice Ao13 t922.length co13, .slice Ao18 t925.length co18], .agg #[.slice Ao28 t937.length co28, .slice Ao35 t940.length co35]] (by rfl) rfl rfl (zE) ?_
      with_reducible refine (ratio_Cmp.calls kj4 _ _ t922 _ _ t925 _ _ t937 _ _ t940 t963 _ ?side1 ?side2 ?side3 ?side4 ?side5 ?side6 ?side7 ?side8 A128.out).mono ?_
      (case side1 => exact zJ (Kd.zas HO_936000.out).2.2)
      (case side2 => exact (Kd.zas HO_936000.out).2.1)
      (case side3 => exact zJ (Kd.zas HO_936001.out).2.2)
      (case side4 => exact (Kd.zas HO_936001.out).2.1)
      (case side5 => exact zJ (Kd.zas HO_951000.out).2.2)
      (case side6 => exact (Kd.zas HO_951000.out).2.1)
      (case side7 => exact zJ (Kd.zas HO_951001.out).2.2)
      (case side8 => exact (Kd.zas HO_951001.out).2.1)
      rintro e w135 ⟨rfl, hb⟩
      refine ⟨_, rfl, ?_⟩
      have n0_ := zA (Kd.zao (zV HO_936000) hb)
      have n1_ := zA (Kd.zao (zV HO_936001) hb)
      have n2_ := zA (Kd.zax (zR HO_937000) hb)
      have n3_ := zA (Kd.zax (zR HO_937001) hb)
      have n4_ := zA (Kd.zao (zV HO_951000) hb)
      have n5_ := zA (Kd.zao (zV HO_951001) hb)
      have n6_ := zA (Kd.zax (zR HO_952000) hb)
      have n7_ := zA (Kd.zax (zR HO_952001) hb)
      have n8_ := zA (Kd.zao (zV HO957) hb)
      have n9_ := zA (Kd.zao (zV HO960) hb)
      have n10_ := zA (zaa (g := gb920) (o := .cells #[.slice A0_0 l0_0.length c0_0, .slice A0_1 l0_1.length c0_1] 24 (0, 0)) (zK BK920) hb)
      have n11_ := zA (zaa (g := gb921) (o := .cells #[.slice A1_0 l1_0.length c1_0, .slice A1_1 l1_1.length c1_1] 24 (0, 0)) (zK BK921) hb)
      have n12_ := zA (zaa (g := gb935) (o := .cells #[.slice Ao13 t922.length co13, .slice Ao18 t925.length co18] 28 (0, 0)) (zK BK935) hb)
      have n13_ := zA (zaa (g := gb936) (o := .cells #[.slice Ao19 t928.length co19, .slice Ao23 t931.length co23] 40 (0, 0)) (zK BK936) hb)
      have n14_ := zA (zaa (g := gb950) (o := .cells #[.slice Ao28 t937.length co28, .slice Ao35 t940.length co35] 28 (0, 0)) (zK BK950) hb)
      have n15_ := zA (zaa (g := gb951) (o := .cells #[.slice Ao36 t943.length co36, .slice Ao42 t946.length co42] 40 (0, 0)) (zK BK951) hb)
      have n16_ := zA (zaa (g := gb962) (o := .cells #[.slice Ao119 t955.length co119, .slice Ao127 t958.length co127] 28 (0, 0)) (zK BK962) hb)
      have n17_ := zA (zaf (zB HB) hb)
      clear HO_936000 HO_936001 HO_937000 HO_937001 HO_951000 HO_951001 HO_952000 HO_952001 HO957 HO960 BK920 BK921 BK935 BK936 BK950 BK951 BK962 HB
      have HO_936000 := n0_
      have HO_936001 := n1_
      have HO_937000 := n2_
      have HO_937001 := n3_
      have HO_951000 := n4_
      have HO_951001 := n5_
      have HO_952000 := n6_
      have HO_952001 := n7_
      have HO957 := n8_
      have HO960 := n9_
      have BK920 := n10_
      have BK921 := n11_
      have BK935 := n12_
      have BK936 := n13_
      have BK950 := n14_
      have BK951 := n15_
      have BK962 := n16_
      have HB := n17_
      clear n0_ n1_ n2_ n3_ n4_ n5_ n6_ n7_ n8_ n9_ n10_ n11_ n12_ n13_ n14_ n15_ n16_ n17_
      (try clear hb)
      (try clear hb2)
      (try clear hk)
      (try clear hi)
      refine hK.out _ _ ⟨(zad BK935.out 0).trans rfl, (zad BK935.out 1).trans rfl, (zad BK950.out 0).trans rfl, (zad BK950.out 1).trans rfl, (zad BK936.out 0).trans rfl, (zad BK936.out 1).trans rfl, (zad BK951.out 0).trans rfl, (zad BK951.out 1).trans rfl⟩ (fun hHeld => ?_)
      clear hK K
      refine norm_ (a' := ?_) ?_ ?_
      rotate_left
      ·
       show Act.put _ (some 60) _ = _
       simp only [Act.put, zs1, zs2, zs3, i64_w, i32_w]
       rfl
      refine pure_ (i := 4) (N := some 62) (v := ?_) (a' := ?_) #[true, true, true, true, true, false, false, false, false, false, false, false, false, false, false] rfl rfl (zbf HT_.out (by kernel_rfl)) (fun _ _ _ h => h) (Or.inl ⟨by rfl, ?_⟩) ?_ ?_
      rotate_left
      ·
       intro w'
       go_simp
       with_reducible rfl
      rotate_left
      ·
       simp only [Act.put, zs1, zs2, zs3, i64_w, i32_w]
       rfl
      refine pure_ (i := 5) (N := some 63) (v := ?_) (a' := ?_) #[true, true, true, true, true, true, false, false, false, false, false, false, false, false, false] rfl rfl (zbf HT_.out (by kernel_rfl)) (fun _ _ _ h => h) (Or.inl ⟨by rfl, ?_⟩) ?_ ?_
      rotate_left
      ·
       intro w'
       go_simp
       with_reducible rfl
      rotate_left
      ·
       simp only [Act.put, zs1, zs2, zs3, i64_w, i32_w]
       rfl
      refine take_ (i := 6) (N := some 64) (v := ?_) (a' := ?_) #[true, true, true, true, true, true, true, false, false, false, false, false, false, false, false] rfl rfl (zbx HT_.out HW_.out (by kernel_rfl)) (fun _ _ _ h => h) (Or.inl ⟨by rfl, ?_⟩) hHeld ?_ ?_
      rotate_left
      ·
       rintro w' ⟨s0, s1, s2, s3, s4, s5, s6, s7⟩
       go_simp
       with_reducible rfl
      rotate_left
      ·
       simp only [Act.put, zs1, zs2, zs3, i64_w, i32_w]
       rfl
      refine take_ (i := 7) (N := some 65) (v := ?_) (a' := ?_) #[true, true, true, true, true, true, true, true, false, false, false, false, false, false, false] rfl rfl (zbx HT_.out HW_.out (by kernel_rfl)) (fun _ _ _ h => h) (Or.inl ⟨by rfl, ?_⟩) hHeld ?_ ?_
      rotate_left
      ·
       rintro w' ⟨s0, s1, s2, s3, s4, s5, s6, s7⟩
       go_simp
       with_reducible rfl
      rotate_left
      ·
       simp only [Act.put, zs1, zs2, zs3, i64_w, i32_w]
       rfl
      refine take_ (i := 9) (N := some 67) (v := ?_) (a' := ?_) #[true, true, true, true, true, true, true, true, false, true, false, false, false, false, false] rfl rfl (zbx HT_.out HW_.out (by kernel_rfl)) (fun _ _ _ h => h) (Or.inl ⟨by rfl, ?_⟩) hHeld ?_ ?_
      rotate_left
      ·
       rintro w' ⟨s0, s1, s2, s3, s4, s5, s6, s7⟩
       go_simp
       with_reducible rfl
      rotate_left
      ·
       simp only [Act.put, zs1, zs2, zs3, i64_w, i32_w]
       rfl
      refine take_ (i := 10) (N := some 68) (v := ?_) (a' := ?_) #[true, true, true, true, true, true, true, true, false, true, true, false, false, false, false] rfl rfl (zbx HT_.out HW_.out (by kernel_rfl)) (fun _ _ _ h => h) (Or.inl ⟨by rfl, ?_⟩) hHeld ?_ ?_
      rotate_left
      ·
       rintro w' ⟨s0, s1, s2, s3, s4, s5, s6, s7⟩
       go_simp
       with_reducible rfl
      rotate_left
      ·
       simp only [Act.put, zs1, zs2, zs3, i64_w, i32_w]
       rfl
      refine one_ (i := 8) (N := some 66) #[true, true, true, true, true, true, true, true, true, true, true, false, false, false, false] rfl rfl (zcf HT_.out (by kernel_rfl)) (by decide) (fun K hK => ?_)
      refine goes_ Tryd.func34 (by kernel_rfl) rfl #[.agg #[.slice Ao13 t922.length co13, .slice Ao18 t925.length co18], .agg #[.slice Ao28 t937.length co28, .slice Ao35 t940.length co35]] (by rfl) rfl rfl (zE) ?_
      with_reducible refine (ratio_Add.calls kj4 _ _ t922 _ _ t925 _ _ t937 _ _ t940 t964 t967 _ ?side1 ?side2 ?side3 ?side4 ?side5 ?side6 ?side7 ?side8 A130.out).mono ?_
      (case side1 => exact zJ (Kd.zas HO_936000.out).2.2)
      (case side2 => exact (Kd.zas HO_936000.out).2.1)
      (case side3 => exact zJ (Kd.zas HO_936001.out).2.2)
      (case side4 => exact (Kd.zas HO_936001.out).2.1)
      (case side5 => exact zJ (Kd.zas HO_951000.out).2.2)
      (case side6 => exact (Kd.zas HO_951000.out).2.1)
      (case side7 => exact zJ (Kd.zas HO_951001.out).2.2)
      (case side8 => exact (Kd.zas HO_951001.out).2.1)
      rintro e w136 ⟨v965, v968, rfl, ho0, ho1, hb⟩
      refine ⟨_, rfl, ?_⟩
      have n0_ := zA (Kd.zao (zV HO_936000) hb)
      have n1_ := zA (Kd.zao (zV HO_936001) hb)
      have n2_ := zA (Kd.zax (zR HO_937000) hb)
      have n3_ := zA (Kd.zax (zR HO_937001) hb)
      have n4_ := zA (Kd.zao (zV HO_951000) hb)
      have n5_ := zA (Kd.zao (zV HO_951001) hb)
      have n6_ := zA (Kd.zax (zR HO_952000) hb)
      have n7_ := zA (Kd.zax (zR HO_952001) hb)
      have n8_ := zA (Kd.zao (zV HO957) hb)
      have n9_ := zA (Kd.zao (zV HO960) hb)
      have n10_ := zA (Kd.zbi (Kd.zak (ok' := fun k_ => some k_ ≠ (.slice Ao19 t928.length co19 : Value).ownBlock ∧ some k_ ≠ (.slice Ao23 t931.length co23 : Value).ownBlock ∧ some k_ ≠ (.slice Ao36 t943.length co36 : Value).ownBlock ∧ some k_ ≠ (.slice Ao42 t946.length co42 : Value).ownBlock ∧ k_ ≠ gb920 ∧ k_ ≠ gb921 ∧ k_ ≠ gb935 ∧ k_ ≠ gb936 ∧ k_ ≠ gb950 ∧ k_ ≠ gb951 ∧ k_ ≠ gb962) ho0 (fun k_ hk_ => ⟨(Kd.fresh' (Kd.R_lt (zR HO_937000)) k_ hk_), (Kd.fresh' (Kd.R_lt (zR HO_937001)) k_ hk_), (Kd.fresh' (Kd.R_lt (zR HO_952000)) k_ hk_), (Kd.fresh' (Kd.R_lt (zR HO_952001)) k_ hk_), (Kd.freshB (g := gb920) (o := .cells #[.slice A0_0 l0_0.length c0_0, .slice A0_1 l0_1.length c0_1] 24 (0, 0)) (zK BK920) k_ hk_), (Kd.freshB (g := gb921) (o := .cells #[.slice A1_0 l1_0.length c1_0, .slice A1_1 l1_1.length c1_1] 24 (0, 0)) (zK BK921) k_ hk_), (Kd.freshB (g := gb935) (o := .cells #[.slice Ao13 t922.length co13, .slice Ao18 t925.length co18] 28 (0, 0)) (zK BK935) k_ hk_), (Kd.freshB (g := gb936) (o := .cells #[.slice Ao19 t928.length co19, .slice Ao23 t931.length co23] 40 (0, 0)) (zK BK936) k_ hk_), (Kd.freshB (g := gb950) (o := .cells #[.slice Ao28 t937.length co28, .slice Ao35 t940.length co35] 28 (0, 0)) (zK BK950) k_ hk_), (Kd.freshB (g := gb951) (o := .cells #[.slice Ao36 t943.length co36, .slice Ao42 t946.length co42] 40 (0, 0)) (zK BK951) k_ hk_), (Kd.freshB (g := gb962) (o := .cells #[.slice Ao119 t955.length co119, .slice Ao127 t958.length co127] 28 (0, 0)) (zK BK962) k_ hk_)⟩)) (za (zB HB)))
      have n11_ := zA (Kd.zbi (Kd.zak (ok' := fun k_ => some k_ ≠ (.slice Ao19 t928.length co19 : Value).ownBlock ∧ some k_ ≠ (.slice Ao23 t931.length co23 : Value).ownBlock ∧ some k_ ≠ (.slice Ao36 t943.length co36 : Value).ownBlock ∧ some k_ ≠ (.slice Ao42 t946.length co42 : Value).ownBlock ∧ k_ ≠ gb920 ∧ k_ ≠ gb921 ∧ k_ ≠ gb935 ∧ k_ ≠ gb936 ∧ k_ ≠ gb950 ∧ k_ ≠ gb951 ∧ k_ ≠ gb962) ho1 (fun k_ hk_ => ⟨(Kd.fresh' (Kd.R_lt (zR HO_937000)) k_ hk_), (Kd.fresh' (Kd.R_lt (zR HO_937001)) k_ hk_), (Kd.fresh' (Kd.R_lt (zR HO_952000)) k_ hk_), (Kd.fresh' (Kd.R_lt (zR HO_952001)) k_ hk_), (Kd.freshB (g := gb920) (o := .cells #[.slice A0_0 l0_0.length c0_0, .slice A0_1 l0_1.length c0_1] 24 (0, 0)) (zK BK920) k_ hk_), (Kd.freshB (g := gb921) (o := .cells #[.slice A1_0 l1_0.length c1_0, .slice A1_1 l1_1.length c1_1] 24 (0, 0)) (zK BK921) k_ hk_), (Kd.freshB (g := gb935) (o := .cells #[.slice Ao13 t922.length co13, .slice Ao18 t925.length co18] 28 (0, 0)) (zK BK935) k_ hk_), (Kd.freshB (g := gb936) (o := .cells #[.slice Ao19 t928.length co19, .slice Ao23 t931.length co23] 40 (0, 0)) (zK BK936) k_ hk_), (Kd.freshB (g := gb950) (o := .cells #[.slice Ao28 t937.length co28, .slice Ao35 t940.length co35] 28 (0, 0)) (zK BK950) k_ hk_), (Kd.freshB (g := gb951) (o := .cells #[.slice Ao36 t943.length co36, .slice Ao42 t946.length co42] 40 (0, 0)) (zK BK951) k_ hk_), (Kd.freshB (g := gb962) (o := .cells #[.slice Ao119 t955.length co119, .slice Ao127 t958.length co127] 28 (0, 0)) (zK BK962) k_ hk_)⟩)) (za (zB HB)))
      have n12_ := zA (zaa (g := gb920) (o := .cells #[.slice A0_0 l0_0.length c0_0, .slice A0_1 l0_1.length c0_1] 24 (0, 0)) (zK BK920) hb)
      have n13_ := zA (zaa (g := gb921) (o := .cells #[.slice A1_0 l1_0.length c1_0, .slice A1_1 l1_1.length c1_1] 24 (0, 0)) (zK BK921) hb)
      have n14_ := zA (zaa (g := gb935) (o := .cells #[.slice Ao13 t922.length co13, .slice Ao18 t925.length co18] 28 (0, 0)) (zK BK935) hb)
      have n15_ := zA (zaa (g := gb936) (o := .cells #[.slice Ao19 t928.length co19, .slice Ao23 t931.length co23] 40 (0, 0)) (zK BK936) hb)
      have n16_ := zA (zaa (g := gb950) (o := .cells #[.slice Ao28 t937.length co28, .slice Ao35 t940.length co35] 28 (0, 0)) (zK BK950) hb)
      have n17_ := zA (zaa (g := gb951) (o := .cells #[.slice Ao36 t943.length co36, .slice Ao42 t946.length co42] 40 (0, 0)) (zK BK951) hb)
      have n18_ := zA (zaa (g := gb962) (o := .cells #[.slice Ao119 t955.length co119, .slice Ao127 t958.length co127] 28 (0, 0)) (zK BK962) hb)
      have n19_ := zA (zaf (zB HB) hb)
      clear HO_936000 HO_936001 HO_937000 HO_937001 HO_951000 HO_951001 HO_952000 HO_952001 HO957 HO960 BK920 BK921 BK935 BK936 BK950 BK951 BK962 HB
      have HO_936000 := n0_
      have HO_936001 := n1_
      have HO_937000 := n2_
      have HO_937001 := n3_
      have HO_951000 := n4_
      have HO_951001 := n5_
      have HO_952000 := n6_
      have HO_952001 := n7_
      have HO957 := n8_
      have HO960 := n9_
      have HO966 := n10_
      have HO969 := n11_
      have BK920 := n12_
      have BK921 := n13_
      have BK935 := n14_
      have BK936 := n15_
      have BK950 := n16_
      have BK951 := n17_
      have BK962 := n18_
      have HB := n19_
      clear n0_ n1_ n2_ n3_ n4_ n5_ n6_ n7_ n8_ n9_ n10_ n11_ n12_ n13_ n14_ n15_ n16_ n17_ n18_ n19_
      (try clear hb)
      (try clear hb2)
      (try clear hk)
      (try clear hi)
      (try clear ho0)
      (try clear ho1)
      refine hK.out _ _ ⟨(zad BK935.out 0).trans rfl, (zad BK935.out 1).trans rfl, (zad BK950.out 0).trans rfl, (zad BK950.out 1).trans rfl, (zad BK936.out 0).trans rfl, (zad BK936.out 1).trans rfl, (zad BK951.out 0).trans rfl, (zad BK951.out 1).trans rfl⟩ (fun hHeld => ?_)
      clear hK K
      refine norm_ (a' := ?_) ?_ ?_
      rotate_left
      ·
       show Act.put _ (some 66) _ = _
       simp only [Act.put, zs1, zs2, zs3, i64_w, i32_w]
       rfl
      refine one_ (i := 11) (N := some 69) #[true, true, true, true, true, true, true, true, true, true, true, true, false, false, false] rfl rfl (zcf HT_.out (by kernel_rfl)) (by decide) (fun K hK => ?_)
      refine goes_ Tryd.func38 (by kernel_rfl) rfl #[.agg #[.slice Ao19 t928.length co19, .slice Ao23 t931.length co23], .agg #[.slice Ao36 t943.length co36, .slice Ao42 t946.length co42]] (by rfl) rfl rfl (zE) ?_
      with_reducible refine (zb2.calls kj4 _ _ t928 _ _ t931 _ _ t943 _ _ t946 t970 t973 _ ?side1 ?side2 ?side3 ?side4 ?side5 ?side6 ?side7 ?side8 A131.out).mono ?_
      (case side1 => exact zJ (Kd.zat HO_937000.out).2.2)
      (case side2 => exact (Kd.zat HO_937000.out).2.1)
      (case side3 => exact zJ (Kd.zat HO_937001.out).2.2)
      (case side4 => exact (Kd.zat HO_937001.out).2.1)
      (case side5 => exact zJ (Kd.zat HO_952000.out).2.2)
      (case side6 => exact (Kd.zat HO_952000.out).2.1)
      (case side7 => exact zJ (Kd.zat HO_952001.out).2.2)
      (case side8 => exact (Kd.zat HO_952001.out).2.1)
      rintro e w137 ⟨v971, v974, rfl, ho0, ho1, hb⟩
      refine ⟨_, rfl, ?_⟩
      have n0_ := zA (Kd.zak (Kd.zch (Kd.zch (Kd.V_old (zV HO_936000) hb) (Kd.za1 ho0)) (Kd.za1 ho1)) (fun _ h_ => h_.1))
      have n1_ := zA (Kd.zak (Kd.zch (Kd.zch (Kd.V_old (zV HO_936001) hb) (Kd.za1 ho0)) (Kd.za1 ho1)) (fun _ h_ => h_.1))
      have n2_ := zA (Kd.zav (Kd.zci (Kd.zci (Kd.R_old (zR HO_937000) hb) (Kd.za1 ho0)) (Kd.za1 ho1)) (fun _ h_ => h_.1))
      have n3_ := zA (Kd.zav (Kd.zci (Kd.zci (Kd.R_old (zR HO_937001) hb) (Kd.za1 ho0)) (Kd.za1 ho1)) (fun _ h_ => h_.1))
      have n4_ := zA (Kd.zak (Kd.zch (Kd.zch (Kd.V_old (zV HO_951000) hb) (Kd.za1 ho0)) (Kd.za1 ho1)) (fun _ h_ => h_.1))
      have n5_ := zA (Kd.zak (Kd.zch (Kd.zch (Kd.V_old (zV HO_951001) hb) (Kd.za1 ho0)) (Kd.za1 ho1)) (fun _ h_ => h_.1))
      have n6_ := zA (Kd.zav (Kd.zci (Kd.zci (Kd.R_old (zR HO_952000) hb) (Kd.za1 ho0)) (Kd.za1 ho1)) (fun _ h_ => h_.1))
      have n7_ := zA (Kd.zav (Kd.zci (Kd.zci (Kd.R_old (zR HO_952001) hb) (Kd.za1 ho0)) (Kd.za1 ho1)) (fun _ h_ => h_.1))
      have n8_ := zA (Kd.zak (Kd.zch (Kd.zch (Kd.V_old (zV HO957) hb) (Kd.za1 ho0)) (Kd.za1 ho1)) (fun _ h_ => h_.1))
      have n9_ := zA (Kd.zak (Kd.zch (Kd.zch (Kd.V_old (zV HO960) hb) (Kd.za1 ho0)) (Kd.za1 ho1)) (fun _ h_ => h_.1))
      have n10_ := zA (Kd.zak (Kd.zch (Kd.zch (Kd.V_old (zV HO966) hb) (Kd.za1 ho0)) (Kd.za1 ho1)) (fun _ h_ => h_.1))
      have n11_ := zA (Kd.zak (Kd.zch (Kd.zch (Kd.V_old (zV HO969) hb) (Kd.za1 ho0)) (Kd.za1 ho1)) (fun _ h_ => h_.1))
      have n12_ := zA (Kd.zbm (Kd.zbk (Kd.zbk (Kd.zbk (Kd.zbk ho0 (Kd.R_lt (zR HO_937000))) (Kd.R_lt (zR HO_937001))) (Kd.R_lt (zR HO_952000))) (Kd.R_lt (zR HO_952001))) (za (zB HB)))
      have n13_ := zA (Kd.zbm (Kd.zbk (Kd.zbk (Kd.zbk (Kd.zbk ho1 (Kd.R_lt (zR HO_937000))) (Kd.R_lt (zR HO_937001))) (Kd.R_lt (zR HO_952000))) (Kd.R_lt (zR HO_952001))) (za (zB HB)))
      have n14_ := zA (zaa (g := gb920) (o := .cells #[.slice A0_0 l0_0.length c0_0, .slice A0_1 l0_1.length c0_1] 24 (0, 0)) (zK BK920) hb)
      have n15_ := zA (zaa (g := gb921) (o := .cells #[.slice A1_0 l1_0.length c1_0, .slice A1_1 l1_1.length c1_1] 24 (0, 0)) (zK BK921) hb)
      have n16_ := zA (zaa (g := gb935) (o := .cells #[.slice Ao13 t922.length co13, .slice Ao18 t925.length co18] 28 (0, 0)) (zK BK935) hb)
      have n17_ := zA (zaa (g := gb936) (o := .cells #[.slice Ao19 t928.length co19, .slice Ao23 t931.length co23] 40 (0, 0)) (zK BK936) hb)
      have n18_ := zA (zaa (g := gb950) (o := .cells #[.slice Ao28 t937.length co28, .slice Ao35 t940.length co35] 28 (0, 0)) (zK BK950) hb)
      have n19_ := zA (zaa (g := gb951) (o := .cells #[.slice Ao36 t943.length co36, .slice Ao42 t946.length co42] 40 (0, 0)) (zK BK951) hb)
      have n20_ := zA (zaa (g := gb962) (o := .cells #[.slice Ao119 t955.length co119, .slice Ao127 t958.length co127] 28 (0, 0)) (zK BK962) hb)
      have n21_ := zA (zaf (zB HB) hb)
      clear HO_936000 HO_936001 HO_937000 HO_937001 HO_951000 HO_951001 HO_952000 HO_952001 HO957 HO960 HO966 HO969 BK920 BK921 BK935 BK936 BK950 BK951 BK962 HB
      have HO_936000 := n0_
      have HO_936001 := n1_
      have HO_937000 := n2_
      have HO_937001 := n3_
      have HO_951000 := n4_
      have HO_951001 := n5_
      have HO_952000 := n6_
      have HO_952001 := n7_
      have HO957 := n8_
      have HO960 := n9_
      have HO966 := n10_
      have HO969 := n11_
      have HO972 := n12_
      have HO975 := n13_
      have BK920 := n14_
      have BK921 := n15_
      have BK935 := n16_
      have BK936 := n17_
      have BK950 := n18_
      have BK951 := n19_
      have BK962 := n20_
      have HB := n21_
      clear n0_ n1_ n2_ n3_ n4_ n5_ n6_ n7_ n8_ n9_ n10_ n11_ n12_ n13_ n14_ n15_ n16_ n17_ n18_ n19_ n20_ n21_
      (try clear hb)
      (try clear hb2)
      (try clear hk)
      (try clear hi)
      (try clear ho0)
      (try clear ho1)
      obtain ⟨Ao138, co138, eo138⟩ := Kd.zbt HO966.out
      (first | subst eo138 | (injection eo138 with f1_ f2_ f3_; have f4_ := f1_.symm; have f5_ := f3_.symm; clear f1_ f2_ f3_; subst f4_; subst f5_))
      obtain ⟨Ao139, co139, eo139⟩ := Kd.zbt HO969.out
      (first | subst eo139 | (injection eo139 with f1_ f2_ f3_; have f4_ := f1_.symm; have f5_ := f3_.symm; clear f1_ f2_ f3_; subst f4_; subst f5_))
      obtain ⟨Ao140, co140, eo140⟩ := Kd.zbn HO972.out
      (first | subst eo140 | (injection eo140 with f1_ f2_ f3_; have f4_ := f1_.symm; have f5_ := f3_.symm; clear f1_ f2_ f3_; subst f4_; subst f5_))
      obtain ⟨Ao141, co141, eo141⟩ := Kd.zbn HO975.out
      (first | subst eo141 | (injection eo141 with f1_ f2_ f3_; have f4_ := f1_.symm; have f5_ := f3_.symm; clear f1_ f2_ f3_; subst f4_; subst f5_))
      refine hK.out _ _ ⟨(zad BK935.out 0).trans rfl, (zad BK935.out 1).trans rfl, (zad BK950.out 0).trans rfl, (zad BK950.out 1).trans rfl, (zad BK936.out 0).trans rfl, (zad BK936.out 1).trans rfl, (zad BK951.out 0).trans rfl, (zad BK951.out 1).trans rfl⟩ (fun hHeld => ?_)
      clear hK K
      refine norm_ (a' := ?_) ?_ ?_
      rotate_left
      ·
       show Act.put _ (some 69) _ = _
       simp only [Act.put, zs1, zs2, zs3, i64_w, i32_w]
       rfl
      refine one_ (i := 12) (N := some 70) #[true, true, true, true, true, true, true, true, true, true, true, true, true, false, false] rfl rfl (zcf HT_.out (by kernel_rfl)) (by decide) (fun K hK => ?_)
      refine goes_ Tryd.func21 (by kernel_rfl) rfl #[.agg #[.slice Ao138 t964.length co138, .slice Ao139 t967.length co139], .agg #[.slice Ao140 t970.length co140, .slice Ao141 t973.length co141]] (by rfl) rfl rfl (zE) ?_
      with_reducible refine (zcr.calls kj4 _ _ t964 _ _ t967 _ _ t970 _ _ t973 t976 _ ?side1 ?side2 ?side3 ?side4 ?side5 ?side6 ?side7 ?side8 A132.out).mono ?_
      (case side1 => exact zJ (Kd.zas HO966.out).2.2)
      (case side2 => exact (Kd.zas HO966.out).2.1)
      (case side3 => exact zJ (Kd.zas HO969.out).2.2)
      (case side4 => exact (Kd.zas HO969.out).2.1)
      (case side5 => exact zJ (Kd.zat HO972.out).2.2)
      (case side6 => exact (Kd.zat HO972.out).2.1)
      (case side7 => exact zJ (Kd.zat HO975.out).2.2)
      (case side8 => exact (Kd.zat HO975.out).2.1)
      rintro e w142 ⟨rfl, hb⟩
      refine ⟨_, rfl, ?_⟩
      have n0_ := zA (Kd.zao (zV HO_936000) hb)
      have n1_ := zA (Kd.zao (zV HO_936001) hb)
      have n2_ := zA (Kd.zax (zR HO_937000) hb)
      have n3_ := zA (Kd.zax (zR HO_937001) hb)
      have n4_ := zA (Kd.zao (zV HO_951000) hb)
      have n5_ := zA (Kd.zao (zV HO_951001) hb)
      have n6_ := zA (Kd.zax (zR HO_952000) hb)
      have n7_ := zA (Kd.zax (zR HO_952001) hb)
      have n8_ := zA (Kd.zao (zV HO957) hb)
      have n9_ := zA (Kd.zao (zV HO960) hb)
      have n10_ := zA (Kd.zao (zV HO966) hb)
      have n11_ := zA (Kd.zao (zV HO969) hb)
      have n12_ := zA (Kd.zax (zR HO972) hb)
      have n13_ := zA (Kd.zax (zR HO975) hb)
      have n14_ := zA (zaa (g := gb920) (o := .cells #[.slice A0_0 l0_0.length c0_0, .slice A0_1 l0_1.length c0_1] 24 (0, 0)) (zK BK920) hb)
      have n15_ := zA (zaa (g := gb921) (o := .cells #[.slice A1_0 l1_0.length c1_0, .slice A1_1 l1_1.length c1_1] 24 (0, 0)) (zK BK921) hb)
      have n16_ := zA (zaa (g := gb935) (o := .cells #[.slice Ao13 t922.length co13, .slice Ao18 t925.length co18] 28 (0, 0)) (zK BK935) hb)
      have n17_ := zA (zaa (g := gb936) (o := .cells #[.slice Ao19 t928.length co19, .slice Ao23 t931.length co23] 40 (0, 0)) (zK BK936) hb)
      have n18_ := zA (zaa (g := gb950) (o := .cells #[.slice Ao28 t937.length co28, .slice Ao35 t940.length co35] 28 (0, 0)) (zK BK950) hb)
      have n19_ := zA (zaa (g := gb951) (o := .cells #[.slice Ao36 t943.length co36, .slice Ao42 t946.length co42] 40 (0, 0)) (zK BK951) hb)
      have n20_ := zA (zaa (g := gb962) (o := .cells #[.slice Ao119 t955.length co119, .slice Ao127 t958.length co127] 28 (0, 0)) (zK BK962) hb)
      have n21_ := zA (zaf (zB HB) hb)
      clear HO_936000 HO_936001 HO_937000 HO_937001 HO_951000 HO_951001 HO_952000 HO_952001 HO957 HO960 HO966 HO969 HO972 HO975 BK920 BK921 BK935 BK936 BK950 BK951 BK962 HB
      have HO_936000 := n0_
      have HO_936001 := n1_
      have HO_937000 := n2_
      have HO_937001 := n3_
      have HO_951000 := n4_
      have HO_951001 := n5_
      have HO_952000 := n6_
      have HO_952001 := n7_
      have HO957 := n8_
      have HO960 := n9_
      have HO966 := n10_
      have HO969 := n11_
      have HO972 := n12_
      have HO975 := n13_
      have BK920 := n14_
      have BK921 := n15_
      have BK935 := n16_
      have BK936 := n17_
      have BK950 := n18_
      have BK951 := n19_
      have BK962 := n20_
      have HB := n21_
      clear n0_ n1_ n2_ n3_ n4_ n5_ n6_ n7_ n8_ n9_ n10_ n11_ n12_ n13_ n14_ n15_ n16_ n17_ n18_ n19_ n20_ n21_
      (try clear hb)
      (try clear hb2)
      (try clear hk)
      (try clear hi)
      refine hK.out _ _ ⟨(zad BK935.out 0).trans rfl, (zad BK935.out 1).trans rfl, (zad BK950.out 0).trans rfl, (zad BK950.out 1).trans rfl, (zad BK936.out 0).trans rfl, (zad BK936.out 1).trans rfl, (zad BK951.out 0).trans rfl, (zad BK951.out 1).trans rfl⟩ (fun hHeld => ?_)
      clear hK K
      refine norm_ (a' := ?_) ?_ ?_
      rotate_left
      ·
       show Act.put _ (some 70) _ = _
       simp only [Act.put, zs1, zs2, zs3, i64_w, i32_w]
       rfl
      refine pure_ (i := 13) (N := some 71) (v := ?_) (a' := ?_) #[true, true, true, true, true, true, true, true, true, true, true, true, true, true, false] rfl rfl (zbf HT_.out (by kernel_rfl)) (fun _ _ _ h => h) (Or.inl ⟨by rfl, ?_⟩) ?_ ?_
      rotate_left
      ·
       intro w'
       go_simp
       with_reducible rfl
      rotate_left
      ·
       simp only [Act.put, zs1, zs2, zs3, i64_w, i32_w]
       rfl
      refine pure_ (i := 14) (N := some 72) (v := ?_) (a' := ?_) #[true, true, true, true, true, true, true, true, true, true, true, true, true, true, true] rfl rfl (zbf HT_.out (by kernel_rfl)) (fun _ _ _ h => h) (Or.inl ⟨by rfl, ?_⟩) ?_ ?_
      rotate_left
      ·
       intro w'
       go_simp
       with_reducible rfl
      rotate_left
      ·
       simp only [Act.put, zs1, zs2, zs3, i64_w, i32_w]
       rfl
      refine done_ (done_of HT_.out (by kernel_rfl)) ?_
      try go_wp2
      go_meet
      case rel => exact ⟨_, (!t976), (zF), H', ⟨by have := HJ4.out; first | omega | exact Nat.le_refl _⟩, ⟨by (with_reducible repeat (first | apply Kd.za8 | apply Kd.za9 | apply Kd.zbc)); exact Kd.zak HO_936000.out (fun _ hk => ⟨hk.1.1.1, ⟨hk.1.1.2.1, ⟨hk.1.1.2.2.1, ⟨hk.1.1.2.2.2.1, ⟨hk.1.1.2.2.2.2.1, ⟨hk.1.1.2.2.2.2.2.1, ⟨hk.1.1.2.2.2.2.2.2.1, ⟨hk.1.1.2.2.2.2.2.2.2.1, ⟨hk.1.1.2.2.2.2.2.2.2.2.1, ⟨hk.1.1.2.2.2.2.2.2.2.2.2.1, hk.1.1.2.2.2.2.2.2.2.2.2.2⟩⟩⟩⟩⟩⟩⟩⟩⟩⟩)⟩, ⟨by (with_reducible repeat (first | apply Kd.za8 | apply Kd.za9 | apply Kd.zbc)); exact Kd.zak HO_936001.out (fun _ hk => ⟨hk.1.1.1, ⟨hk.1.1.2.1, ⟨hk.1.1.2.2.1, ⟨hk.1.1.2.2.2.1, ⟨hk.1.1.2.2.2.2.1, ⟨hk.1.1.2.2.2.2.2.1, ⟨hk.1.1.2.2.2.2.2.2.1, ⟨hk.1.1.2.2.2.2.2.2.2.1, ⟨hk.1.1.2.2.2.2.2.2.2.2.1, ⟨hk.1.1.2.2.2.2.2.2.2.2.2.1, hk.1.1.2.2.2.2.2.2.2.2.2.2⟩⟩⟩⟩⟩⟩⟩⟩⟩⟩)⟩, ⟨by (with_reducible repeat (first | apply Kd.za3 | apply Kd.za4 | apply Kd.zbb)); exact Kd.zav HO_937000.out (fun _ hk => ⟨hk.1.1.1, ⟨hk.1.1.2.1, hk.1.1.2.2⟩⟩)⟩, ⟨by (with_reducible repeat (first | apply Kd.za3 | apply Kd.za4 | apply Kd.zbb)); exact Kd.zav HO_937001.out (fun _ hk => ⟨hk.1.1.1, ⟨hk.1.1.2.1, hk.1.1.2.2⟩⟩)⟩, ⟨by (with_reducible repeat (first | apply Kd.za8 | apply Kd.za9 | apply Kd.zbc)); exact Kd.zak HO_951000.out (fun _ hk => ⟨hk.1.1.1, ⟨hk.1.1.2.1, ⟨hk.1.1.2.2.1, ⟨hk.1.1.2.2.2.1, ⟨hk.1.1.2.2.2.2.1, ⟨hk.1.1.2.2.2.2.2.1, ⟨hk.1.1.2.2.2.2.2.2.1, ⟨hk.1.1.2.2.2.2.2.2.2.1, ⟨hk.1.1.2.2.2.2.2.2.2.2.1, ⟨hk.1.1.2.2.2.2.2.2.2.2.2.1, hk.1.1.2.2.2.2.2.2.2.2.2.2⟩⟩⟩⟩⟩⟩⟩⟩⟩⟩)⟩, ⟨by (with_reducible repeat (first | apply Kd.za8 | apply Kd.za9 | apply Kd.zbc)); exact Kd.zak HO_951001.out (fun _ hk => ⟨hk.1.1.1, ⟨hk.1.1.2.1, ⟨hk.1.1.2.2.1, ⟨hk.1.1.2.2.2.1, ⟨hk.1.1.2.2.2.2.1, ⟨hk.1.1.2.2.2.2.2.1, ⟨hk.1.1.2.2.2.2.2.2.1, ⟨hk.1.1.2.2.2.2.2.2.2.1, ⟨hk.1.1.2.2.2.2.2.2.2.2.1, ⟨hk.1.1.2.2.2.2.2.2.2.2.2.1, hk.1.1.2.2.2.2.2.2.2.2.2.2⟩⟩⟩⟩⟩⟩⟩⟩⟩⟩)⟩, ⟨by (with_reducible repeat (first | apply Kd.za3 | apply Kd.za4 | apply Kd.zbb)); exact Kd.zav HO_952000.out (fun _ hk => ⟨hk.1.1.1, ⟨hk.1.1.2.1, hk.1.1.2.2⟩⟩)⟩, ⟨by (with_reducible repeat (first | apply Kd.za3 | apply Kd.za4 | apply Kd.zbb)); exact Kd.zav HO_952001.out (fun _ hk => ⟨hk.1.1.1, ⟨hk.1.1.2.1, hk.1.1.2.2⟩⟩)⟩, ⟨by (with_reducible repeat (first | apply Kd.za8 | apply Kd.za9 | apply Kd.zbc)); exact Kd.zak HO957.out (fun _ hk => ⟨hk.1.1.1, ⟨hk.1.1.2.1, ⟨hk.1.1.2.2.1, ⟨hk.1.1.2.2.2.1, ⟨hk.1.1.2.2.2.2.1, ⟨hk.1.1.2.2.2.2.2.1, ⟨hk.1.1.2.2.2.2.2.2.1, ⟨hk.1.1.2.2.2.2.2.2.2.1, ⟨hk.1.1.2.2.2.2.2.2.2.2.1, ⟨hk.1.1.2.2.2.2.2.2.2.2.2.1, hk.1.1.2.2.2.2.2.2.2.2.2.2⟩⟩⟩⟩⟩⟩⟩⟩⟩⟩)⟩, ⟨by (with_reducible repeat (first | apply Kd.za8 | apply Kd.za9 | apply Kd.zbc)); exact Kd.zak HO960.out (fun _ hk => ⟨hk.1.1.1, ⟨hk.1.1.2.1, ⟨hk.1.1.2.2.1, ⟨hk.1.1.2.2.2.1, ⟨hk.1.1.2.2.2.2.1, ⟨hk.1.1.2.2.2.2.2.1, ⟨hk.1.1.2.2.2.2.2.2.1, ⟨hk.1.1.2.2.2.2.2.2.2.1, ⟨hk.1.1.2.2.2.2.2.2.2.2.1, ⟨hk.1.1.2.2.2.2.2.2.2.2.2.1, hk.1.1.2.2.2.2.2.2.2.2.2.2⟩⟩⟩⟩⟩⟩⟩⟩⟩⟩)⟩, ⟨zK BK920⟩, ⟨zK BK921⟩, ⟨zK BK935⟩, ⟨zK BK936⟩, ⟨zK BK950⟩, ⟨zK BK951⟩, ⟨zK BK962⟩, ⟨zB HB⟩⟩
     ·
      rw [if_neg c129] at H
      have c129b0 : (t963 == t954) = false := beq_eq_false_iff_ne.mpr c129
      have c129b1 : (t963 != t954) = true := bne_iff_ne.mpr c129
      (first | rw [c129b0] | (simp only [i64_w, i32_w]; rw [c129b0]) | skip)
      have H' := zA H
      clear H
      try go_wp2
      have n0_ : Aside0 (Kd.V (Kd.int .u64) 57 ((w118.setCell ⟨gb962, 0, none⟩ (.slice Ao119 t955.length co119)).setCell ⟨gb962, 1, none⟩ (.slice Ao127 t958.length co127)) w.heap.size (fun k_ => some k_ ≠ (.slice Ao19 t928.length co19 : Value).ownBlock ∧ some k_ ≠ (.slice Ao23 t931.length co23 : Value).ownBlock ∧ some k_ ≠ (.slice Ao36 t943.length co36 : Value).ownBlock ∧ some k_ ≠ (.slice Ao42 t946.length co42 : Value).ownBlock ∧ k_ ≠ gb920 ∧ k_ ≠ gb921 ∧ k_ ≠ gb935 ∧ k_ ≠ gb936 ∧ k_ ≠ gb950 ∧ k_ ≠ gb951 ∧ k_ ≠ gb962) (.slice Ao13 t922.length co13) t922) := ⟨by (with_reducible repeat (first | apply Kd.za8 | apply Kd.za9 | apply Kd.zbc)); exact Kd.zak (Kd.V_far (p := ⟨gb962, 1, none⟩) (Kd.V_far (p := ⟨gb962, 0, none⟩) (Kd.zak HO_936000.out (fun k_ hk => (⟨hk, hk.2⟩ : _ ∧ k_ ≠ gb962))) (fun _ hk => hk.2) (.slice Ao119 t955.length co119)) (fun _ hk => hk.2) (.slice Ao127 t958.length co127)) (fun _ hk => ⟨hk.1.1.1, ⟨hk.1.1.2.1, ⟨hk.1.1.2.2.1, ⟨hk.1.1.2.2.2.1, ⟨hk.1.1.2.2.2.2.1, ⟨hk.1.1.2.2.2.2.2.1, ⟨hk.1.1.2.2.2.2.2.2.1, ⟨hk.1.1.2.2.2.2.2.2.2.1, ⟨hk.1.1.2.2.2.2.2.2.2.2.1, ⟨hk.1.1.2.2.2.2.2.2.2.2.2, hk.1.2⟩⟩⟩⟩⟩⟩⟩⟩⟩⟩)⟩
      have n1_ : Aside0 (Kd.V (Kd.int .u64) 57 ((w118.setCell ⟨gb962, 0, none⟩ (.slice Ao119 t955.length co119)).setCell ⟨gb962, 1, none⟩ (.slice Ao127 t958.length co127)) w.heap.size (fun k_ => some k_ ≠ (.slice Ao19 t928.length co19 : Value).ownBlock ∧ some k_ ≠ (.slice Ao23 t931.length co23 : Value).ownBlock ∧ some k_ ≠ (.slice Ao36 t943.length co36 : Value).ownBlock ∧ some k_ ≠ (.slice Ao42 t946.length co42 : Value).ownBlock ∧ k_ ≠ gb920 ∧ k_ ≠ gb921 ∧ k_ ≠ gb935 ∧ k_ ≠ gb936 ∧ k_ ≠ gb950 ∧ k_ ≠ gb951 ∧ k_ ≠ gb962) (.slice Ao18 t925.length co18) t925) := ⟨by (with_reducible repeat (first | apply Kd.za8 | apply Kd.za9 | apply Kd.zbc)); exact Kd.zak (Kd.V_far (p := ⟨gb962, 1, none⟩) (Kd.V_far (p := ⟨gb962, 0, none⟩) (Kd.zak HO_936001.out (fun k_ hk => (⟨hk, hk.2⟩ : _ ∧ k_ ≠ gb962))) (fun _ hk => hk.2) (.slice Ao119 t955.length co119)) (fun _ hk => hk.2) (.slice Ao127 t958.length co127)) (fun _ hk => ⟨hk.1.1.1, ⟨hk.1.1.2.1, ⟨hk.1.1.2.2.1, ⟨hk.1.1.2.2.2.1, ⟨hk.1.1.2.2.2.2.1, ⟨hk.1.1.2.2.2.2.2.1, ⟨hk.1.1.2.2.2.2.2.2.1, ⟨hk.1.1.2.2.2.2.2.2.2.1, ⟨hk.1.1.2.2.2.2.2.2.2.2.1, ⟨hk.1.1.2.2.2.2.2.2.2.2.2, hk.1.2⟩⟩⟩⟩⟩⟩⟩⟩⟩⟩)⟩
      have n2_ : Aside0 (Kd.R (Kd.int .i64) 3 ((w118.setCell ⟨gb962, 0, none⟩ (.slice Ao119 t955.length co119)).setCell ⟨gb962, 1, none⟩ (.slice Ao127 t958.length co127)) w.heap.size (fun k_ => some k_ ≠ (.slice Ao23 t931.length co23 : Value).ownBlock ∧ some k_ ≠ (.slice Ao36 t943.length co36 : Value).ownBlock ∧ some k_ ≠ (.slice Ao42 t946.length co42 : Value).ownBlock) (.slice Ao19 t928.length co19) t928) := ⟨by (with_reducible repeat (first | apply Kd.za3 | apply Kd.za4 | apply Kd.zbb)); exact Kd.zav (Kd.R_far (p := ⟨gb962, 1, none⟩) (Kd.R_far (p := ⟨gb962, 0, none⟩) (Kd.zbe HO_937000.out BK962.out (by decide)) (fun _ hk => hk.2) (.slice Ao119 t955.length co119)) (fun _ hk => hk.2) (.slice Ao127 t958.length co127)) (fun _ hk => ⟨hk.1.1, ⟨hk.1.2.1, hk.1.2.2⟩⟩)⟩
      have n3_ : Aside0 (Kd.R (Kd.int .i64) 3 ((w118.setCell ⟨gb962, 0, none⟩ (.slice Ao119 t955.length co119)).setCell ⟨gb962, 1, none⟩ (.slice Ao127 t958.length co127)) w.heap.size (fun k_ => some k_ ≠ (.slice Ao19 t928.length co19 : Value).ownBlock ∧ some k_ ≠ (.slice Ao36 t943.length co36 : Value).ownBlock ∧ some k_ ≠ (.slice Ao42 t946.length co42 : Value).ownBlock) (.slice Ao23 t931.length co23) t931) := ⟨by (with_reducible repeat (first | apply Kd.za3 | apply Kd.za4 | apply Kd.zbb)); exact Kd.zav (Kd.R_far (p := ⟨gb962, 1, none⟩) (Kd.R_far (p := ⟨gb962, 0, none⟩) (Kd.zbe HO_937001.out BK962.out (by decide)) (fun _ hk => hk.2) (.slice Ao119 t955.length co119)) (fun _ hk => hk.2) (.slice Ao127 t958.length co127)) (fun _ hk => ⟨hk.1.1, ⟨hk.1.2.1, hk.1.2.2⟩⟩)⟩
      have n4_ : Aside0 (Kd.V (Kd.int .u64) 57 ((w118.setCell ⟨gb962, 0, none⟩ (.slice Ao119 t955.length co119)).setCell ⟨gb962, 1, none⟩ (.slice Ao127 t958.length co127)) w.heap.size (fun k_ => some k_ ≠ (.slice Ao19 t928.length co19 : Value).ownBlock ∧ some k_ ≠ (.slice Ao23 t931.length co23 : Value).ownBlock ∧ some k_ ≠ (.slice Ao36 t943.length co36 : Value).ownBlock ∧ some k_ ≠ (.slice Ao42 t946.length co42 : Value).ownBlock ∧ k_ ≠ gb920 ∧ k_ ≠ gb921 ∧ k_ ≠ gb935 ∧ k_ ≠ gb936 ∧ k_ ≠ gb950 ∧ k_ ≠ gb951 ∧ k_ ≠ gb962) (.slice Ao28 t937.length co28) t937) := ⟨by (with_reducible repeat (first | apply Kd.za8 | apply Kd.za9 | apply Kd.zbc)); exact Kd.zak (Kd.V_far (p := ⟨gb962, 1, none⟩) (Kd.V_far (p := ⟨gb962, 0, none⟩) (Kd.zak HO_951000.out (fun k_ hk => (⟨hk, hk.2⟩ : _ ∧ k_ ≠ gb962))) (fun _ hk => hk.2) (.slice Ao119 t955.length co119)) (fun _ hk => hk.2) (.slice Ao127 t958.length co127)) (fun _ hk => ⟨hk.1.1.1, ⟨hk.1.1.2.1, ⟨hk.1.1.2.2.1, ⟨hk.1.1.2.2.2.1, ⟨hk.1.1.2.2.2.2.1, ⟨hk.1.1.2.2.2.2.2.1, ⟨hk.1.1.2.2.2.2.2.2.1, ⟨hk.1.1.2.2.2.2.2.2.2.1, ⟨hk.1.1.2.2.2.2.2.2.2.2.1, ⟨hk.1.1.2.2.2.2.2.2.2.2.2, hk.1.2⟩⟩⟩⟩⟩⟩⟩⟩⟩⟩)⟩
      have n5_ : Aside0 (Kd.V (Kd.int .u64) 57 ((w118.setCell ⟨gb962, 0, none⟩ (.slice Ao119 t955.length co119)).setCell ⟨gb962, 1, none⟩ (.slice Ao127 t958.length co127)) w.heap.size (fun k_ => some k_ ≠ (.slice Ao19 t928.length co19 : Value).ownBlock ∧ some k_ ≠ (.slice Ao23 t931.length co23 : Value).ownBlock ∧ some k_ ≠ (.slice Ao36 t943.length co36 : Value).ownBlock ∧ some k_ ≠ (.slice Ao42 t946.length co42 : Value).ownBlock ∧ k_ ≠ gb920 ∧ k_ ≠ gb921 ∧ k_ ≠ gb935 ∧ k_ ≠ gb936 ∧ k_ ≠ gb950 ∧ k_ ≠ gb951 ∧ k_ ≠ gb962) (.slice Ao35 t940.length co35) t940) := ⟨by (with_reducible repeat (first | apply Kd.za8 | apply Kd.za9 | apply Kd.zbc)); exact Kd.zak (Kd.V_far (p := ⟨gb962, 1, none⟩) (Kd.V_far (p := ⟨gb962, 0, none⟩) (Kd.zak HO_951001.out (fun k_ hk => (⟨hk, hk.2⟩ : _ ∧ k_ ≠ gb962))) (fun _ hk => hk.2) (.slice Ao119 t955.length co119)) (fun _ hk => hk.2) (.slice Ao127 t958.length co127)) (fun _ hk => ⟨hk.1.1.1, ⟨hk.1.1.2.1, ⟨hk.1.1.2.2.1, ⟨hk.1.1.2.2.2.1, ⟨hk.1.1.2.2.2.2.1, ⟨hk.1.1.2.2.2.2.2.1, ⟨hk.1.1.2.2.2.2.2.2.1, ⟨hk.1.1.2.2.2.2.2.2.2.1, ⟨hk.1.1.2.2.2.2.2.2.2.2.1, ⟨hk.1.1.2.2.2.2.2.2.2.2.2, hk.1.2⟩⟩⟩⟩⟩⟩⟩⟩⟩⟩)⟩
      have n6_ : Aside0 (Kd.R (Kd.int .i64) 3 ((w118.setCell ⟨gb962, 0, none⟩ (.slice Ao119 t955.length co119)).setCell ⟨gb962, 1, none⟩ (.slice Ao127 t958.length co127)) w.heap.size (fun k_ => some k_ ≠ (.slice Ao19 t928.length co19 : Value).ownBlock ∧ some k_ ≠ (.slice Ao23 t931.length co23 : Value).ownBlock ∧ some k_ ≠ (.slice Ao42 t946.length co42 : Value).ownBlock) (.slice Ao36 t943.length co36) t943) := ⟨by (with_reducible repeat (first | apply Kd.za3 | apply Kd.za4 | apply Kd.zbb)); exact Kd.zav (Kd.R_far (p := ⟨gb962, 1, none⟩) (Kd.R_far (p := ⟨gb962, 0, none⟩) (Kd.zbe HO_952000.out BK962.out (by decide)) (fun _ hk => hk.2) (.slice Ao119 t955.length co119)) (fun _ hk => hk.2) (.slice Ao127 t958.length co127)) (fun _ hk => ⟨hk.1.1, ⟨hk.1.2.1, hk.1.2.2⟩⟩)⟩
      have n7_ : Aside0 (Kd.R (Kd.int .i64) 3 ((w118.setCell ⟨gb962, 0, none⟩ (.slice Ao119 t955.length co119)).setCell ⟨gb962, 1, none⟩ (.slice Ao127 t958.length co127)) w.heap.size (fun k_ => some k_ ≠ (.slice Ao19 t928.length co19 : Value).ownBlock ∧ some k_ ≠ (.slice Ao23 t931.length co23 : Value).ownBlock ∧ some k_ ≠ (.slice Ao36 t943.length co36 : Value).ownBlock) (.slice Ao42 t946.length co42) t946) := ⟨by (with_reducible repeat (first | apply Kd.za3 | apply Kd.za4 | apply Kd.zbb)); exact Kd.zav (Kd.R_far (p := ⟨gb962, 1, none⟩) (Kd.R_far (p := ⟨gb962, 0, none⟩) (Kd.zbe HO_952001.out BK962.out (by decide)) (fun _ hk => hk.2) (.slice Ao119 t955.length co119)) (fun _ hk => hk.2) (.slice Ao127 t958.length co127)) (fun _ hk => ⟨hk.1.1, ⟨hk.1.2.1, hk.1.2.2⟩⟩)⟩
      have n8_ : Aside0 (Kd.V (Kd.int .u64) 57 ((w118.setCell ⟨gb962, 0, none⟩ (.slice Ao119 t955.length co119)).setCell ⟨gb962, 1, none⟩ (.slice Ao127 t958.length co127)) w.heap.size (fun k_ => some k_ ≠ (.slice Ao19 t928.length co19 : Value).ownBlock ∧ some k_ ≠ (.slice Ao23 t931.length co23 : Value).ownBlock ∧ some k_ ≠ (.slice Ao36 t943.length co36 : Value).ownBlock ∧ some k_ ≠ (.slice Ao42 t946.length co42 : Value).ownBlock ∧ k_ ≠ gb920 ∧ k_ ≠ gb921 ∧ k_ ≠ gb935 ∧ k_ ≠ gb936 ∧ k_ ≠ gb950 ∧ k_ ≠ gb951 ∧ k_ ≠ gb962) (.slice Ao119 t955.length co119) t955) := ⟨by (with_reducible repeat (first | apply Kd.za8 | apply Kd.za9 | apply Kd.zbc)); exact Kd.zak (Kd.V_far (p := ⟨gb962, 1, none⟩) (Kd.V_far (p := ⟨gb962, 0, none⟩) (Kd.zak HO957.out (fun k_ hk => (⟨hk, hk.2⟩ : _ ∧ k_ ≠ gb962))) (fun _ hk => hk.2) (.slice Ao119 t955.length co119)) (fun _ hk => hk.2) (.slice Ao127 t958.length co127)) (fun _ hk => ⟨hk.1.1.1, ⟨hk.1.1.2.1, ⟨hk.1.1.2.2.1, ⟨hk.1.1.2.2.2.1, ⟨hk.1.1.2.2.2.2.1, ⟨hk.1.1.2.2.2.2.2.1, ⟨hk.1.1.2.2.2.2.2.2.1, ⟨hk.1.1.2.2.2.2.2.2.2.1, ⟨hk.1.1.2.2.2.2.2.2.2.2.1, ⟨hk.1.1.2.2.2.2.2.2.2.2.2, hk.1.2⟩⟩⟩⟩⟩⟩⟩⟩⟩⟩)⟩
      have n9_ : Aside0 (Kd.V (Kd.int .u64) 57 ((w118.setCell ⟨gb962, 0, none⟩ (.slice Ao119 t955.length co119)).setCell ⟨gb962, 1, none⟩ (.slice Ao127 t958.length co127)) w.heap.size (fun k_ => some k_ ≠ (.slice Ao19 t928.length co19 : Value).ownBlock ∧ some k_ ≠ (.slice Ao23 t931.length co23 : Value).ownBlock ∧ some k_ ≠ (.slice Ao36 t943.length co36 : Value).ownBlock ∧ some k_ ≠ (.slice Ao42 t946.length co42 : Value).ownBlock ∧ k_ ≠ gb920 ∧ k_ ≠ gb921 ∧ k_ ≠ gb935 ∧ k_ ≠ gb936 ∧ k_ ≠ gb950 ∧ k_ ≠ gb951 ∧ k_ ≠ gb962) (.slice Ao127 t958.length co127) t958) := ⟨by (with_reducible repeat (first | apply Kd.za8 | apply Kd.za9 | apply Kd.zbc)); exact Kd.zak (Kd.V_far (p := ⟨gb962, 1, none⟩) (Kd.V_far (p := ⟨gb962, 0, none⟩) (Kd.zak HO960.out (fun k_ hk => (⟨hk, hk.2⟩ : _ ∧ k_ ≠ gb962))) (fun _ hk => hk.2) (.slice Ao119 t955.length co119)) (fun _ hk => hk.2) (.slice Ao127 t958.length co127)) (fun _ hk => ⟨hk.1.1.1, ⟨hk.1.1.2.1, ⟨hk.1.1.2.2.1, ⟨hk.1.1.2.2.2.1, ⟨hk.1.1.2.2.2.2.1, ⟨hk.1.1.2.2.2.2.2.1, ⟨hk.1.1.2.2.2.2.2.2.1, ⟨hk.1.1.2.2.2.2.2.2.2.1, ⟨hk.1.1.2.2.2.2.2.2.2.2.1, ⟨hk.1.1.2.2.2.2.2.2.2.2.2, hk.1.2⟩⟩⟩⟩⟩⟩⟩⟩⟩⟩)⟩
      have n10_ : Aside0 (((w118.setCell ⟨gb962, 0, none⟩ (.slice Ao119 t955.length co119)).setCell ⟨gb962, 1, none⟩ (.slice Ao127 t958.length co127)).heap[gb920]? = some (.cells #[.slice A0_0 l0_0.length c0_0, .slice A0_1 l0_1.length c0_1] 24 (0, 0))) := ⟨by (with_reducible repeat (first | refine zab ?_ _ | refine zae ?_ | refine zac ?_ _)); refine zaq ?_ NB920_962.out _; (with_reducible repeat (first | refine zab ?_ _ | refine zae ?_ | refine zac ?_ _)); refine zaq ?_ NB920_962.out _; (with_reducible repeat (first | refine zab ?_ _ | refine zae ?_ | refine zac ?_ _)); exact BK920.out⟩
      have n11_ : Aside0 (((w118.setCell ⟨gb962, 0, none⟩ (.slice Ao119 t955.length co119)).setCell ⟨gb962, 1, none⟩ (.slice Ao127 t958.length co127)).heap[gb921]? = some (.cells #[.slice A1_0 l1_0.length c1_0, .slice A1_1 l1_1.length c1_1] 24 (0, 0))) := ⟨by (with_reducible repeat (first | refine zab ?_ _ | refine zae ?_ | refine zac ?_ _)); refine zaq ?_ NB921_962.out _; (with_reducible repeat (first | refine zab ?_ _ | refine zae ?_ | refine zac ?_ _)); refine zaq ?_ NB921_962.out _; (with_reducible repeat (first | refine zab ?_ _ | refine zae ?_ | refine zac ?_ _)); exact BK921.out⟩
      have n12_ : Aside0 (((w118.setCell ⟨gb962, 0, none⟩ (.slice Ao119 t955.length co119)).setCell ⟨gb962, 1, none⟩ (.slice Ao127 t958.length co127)).heap[gb935]? = some (.cells #[.slice Ao13 t922.length co13, .slice Ao18 t925.length co18] 28 (0, 0))) := ⟨by (with_reducible repeat (first | refine zab ?_ _ | refine zae ?_ | refine zac ?_ _)); refine zaq ?_ NB935_962.out _; (with_reducible repeat (first | refine zab ?_ _ | refine zae ?_ | refine zac ?_ _)); refine zaq ?_ NB935_962.out _; (with_reducible repeat (first | refine zab ?_ _ | refine zae ?_ | refine zac ?_ _)); exact BK935.out⟩
      have n13_ : Aside0 (((w118.setCell ⟨gb962, 0, none⟩ (.slice Ao119 t955.length co119)).setCell ⟨gb962, 1, none⟩ (.slice Ao127 t958.length co127)).heap[gb936]? = some (.cells #[.slice Ao19 t928.length co19, .slice Ao23 t931.length co23] 40 (0, 0))) := ⟨by (with_reducible repeat (first | refine zab ?_ _ | refine zae ?_ | refine zac ?_ _)); refine zaq ?_ NB936_962.out _; (with_reducible repeat (first | refine zab ?_ _ | refine zae ?_ | refine zac ?_ _)); refine zaq ?_ NB936_962.out _; (with_reducible repeat (first | refine zab ?_ _ | refine zae ?_ | refine zac ?_ _)); exact BK936.out⟩
      have n14_ : Aside0 (((w118.setCell ⟨gb962, 0, none⟩ (.slice Ao119 t955.length co119)).setCell ⟨gb962, 1, none⟩ (.slice Ao127 t958.length co127)).heap[gb950]? = some (.cells #[.slice Ao28 t937.length co28, .slice Ao35 t940.length co35] 28 (0, 0))) := ⟨by (with_reducible repeat (first | refine zab ?_ _ | refine zae ?_ | refine zac ?_ _)); refine zaq ?_ NB950_962.out _; (with_reducible repeat (first | refine zab ?_ _ | refine zae ?_ | refine zac ?_ _)); refine zaq ?_ NB950_962.out _; (with_reducible repeat (first | refine zab ?_ _ | refine zae ?_ | refine zac ?_ _)); exact BK950.out⟩
      have n15_ : Aside0 (((w118.setCell ⟨gb962, 0, none⟩ (.slice Ao119 t955.length co119)).setCell ⟨gb962, 1, none⟩ (.slice Ao127 t958.length co127)).heap[gb951]? = some (.cells #[.slice Ao36 t943.length co36, .slice Ao42 t946.length co42] 40 (0, 0))) := ⟨by (with_reducible repeat (first | refine zab ?_ _ | refine zae ?_ | refine zac ?_ _)); refine zaq ?_ NB951_962.out _; (with_reducible repeat (first | refine zab ?_ _ | refine zae ?_ | refine zac ?_ _)); refine zaq ?_ NB951_962.out _; (with_reducible repeat (first | refine zab ?_ _ | refine zae ?_ | refine zac ?_ _)); exact BK951.out⟩
      have n16_ : Aside0 (((w118.setCell ⟨gb962, 0, none⟩ (.slice Ao119 t955.length co119)).setCell ⟨gb962, 1, none⟩ (.slice Ao127 t958.length co127)).heap[gb962]? = some (.cells #[.slice Ao119 t955.length co119, .slice Ao127 t958.length co127] 28 (0, 0))) := ⟨by (with_reducible repeat (first | refine zab ?_ _ | refine zae ?_ | refine zac ?_ _)); refine zbo (cs := #[.slice Ao119 t955.length co119, .slice none 0 0]) ?_ 1 _ rfl; (with_reducible repeat (first | refine zab ?_ _ | refine zae ?_ | refine zac ?_ _)); refine zbo (cs := #[.slice none 0 0, .slice none 0 0]) ?_ 0 _ rfl; (with_reducible repeat (first | refine zab ?_ _ | refine zae ?_ | refine zac ?_ _)); exact BK962.out⟩
      have n17_ : Aside0 (Below w.heap.size w ((w118.setCell ⟨gb962, 0, none⟩ (.slice Ao119 t955.length co119)).setCell ⟨gb962, 1, none⟩ (.slice Ao127 t958.length co127))) := ⟨zB HB⟩
      (try clear HO_936000)
      (try clear HO_936001)
      (try clear HO_937000)
      (try clear HO_937001)
      (try clear HO_951000)
      (try clear HO_951001)
      (try clear HO_952000)
      (try clear HO_952001)
      (try clear HO957)
      (try clear HO960)
      (try clear BK920)
      (try clear BK921)
      (try clear BK935)
      (try clear BK936)
      (try clear BK950)
      (try clear BK951)
      (try clear BK962)
      (try clear HB)
      generalize ((w118.setCell ⟨gb962, 0, none⟩ (.slice Ao119 t955.length co119)).setCell ⟨gb962, 1, none⟩ (.slice Ao127 t958.length co127)) = w143 at n0_ n1_ n2_ n3_ n4_ n5_ n6_ n7_ n8_ n9_ n10_ n11_ n12_ n13_ n14_ n15_ n16_ n17_ ⊢
      have HO_936000 := n0_
      have HO_936001 := n1_
      have HO_937000 := n2_
      have HO_937001 := n3_
      have HO_951000 := n4_
      have HO_951001 := n5_
      have HO_952000 := n6_
      have HO_952001 := n7_
      have HO957 := n8_
      have HO960 := n9_
      have BK920 := n10_
      have BK921 := n11_
      have BK935 := n12_
      have BK936 := n13_
      have BK950 := n14_
      have BK951 := n15_
      have BK962 := n16_
      have HB := n17_
      clear n0_ n1_ n2_ n3_ n4_ n5_ n6_ n7_ n8_ n9_ n10_ n11_ n12_ n13_ n14_ n15_ n16_ n17_
      have n0_ := zA (Kd.zbc HO_936000.out)
      have n1_ := zA (Kd.zbc HO_936001.out)
      have n2_ := zA (Kd.zbb HO_937000.out)
      have n3_ := zA (Kd.zbb HO_937001.out)
      have n4_ := zA (Kd.zbc HO_951000.out)
      have n5_ := zA (Kd.zbc HO_951001.out)
      have n6_ := zA (Kd.zbb HO_952000.out)
      have n7_ := zA (Kd.zbb HO_952001.out)
      have n8_ := zA (Kd.zbc HO957.out)
      have n9_ := zA (Kd.zbc HO960.out)
      have n10_ := zA (zae BK920.out)
      have n11_ := zA (zae BK921.out)
      have n12_ := zA (zae BK935.out)
      have n13_ := zA (zae BK936.out)
      have n14_ := zA (zae BK950.out)
      have n15_ := zA (zae BK951.out)
      have n16_ := zA (zae BK962.out)
      have n17_ := zA (zb0 HB.out)
      clear HO_936000 HO_936001 HO_937000 HO_937001 HO_951000 HO_951001 HO_952000 HO_952001 HO957 HO960 BK920 BK921 BK935 BK936 BK950 BK951 BK962 HB
      have HO_936000 := n0_
      have HO_936001 := n1_
      have HO_937000 := n2_
      have HO_937001 := n3_
      have HO_951000 := n4_
      have HO_951001 := n5_
      have HO_952000 := n6_
      have HO_952001 := n7_
      have HO957 := n8_
      have HO960 := n9_
      have BK920 := n10_
      have BK921 := n11_
      have BK935 := n12_
      have BK936 := n13_
      have BK950 := n14_
      have BK951 := n15_
      have BK962 := n16_
      have HB := n17_
      clear n0_ n1_ n2_ n3_ n4_ n5_ n6_ n7_ n8_ n9_ n10_ n11_ n12_ n13_ n14_ n15_ n16_ n17_
      refine start_ (n := 15) (S := fun w' => w'.cell? ⟨gb935, 0, none⟩ = some (.slice Ao13 t922.length co13) ∧ w'.cell? ⟨gb935, 1, none⟩ = some (.slice Ao18 t925.length co18) ∧ w'.cell? ⟨gb950, 0, none⟩ = some (.slice Ao28 t937.length co28) ∧ w'.cell? ⟨gb950, 1, none⟩ = some (.slice Ao35 t940.length co35)) (ds := []) #[false, false, false, false, false, false, false, false, false, false, false, false, false, false, false] (by kernel_rfl) rfl rfl ⟨(zad BK935.out 0).trans rfl, (zad BK935.out 1).trans rfl, (zad BK950.out 0).trans rfl, (zad BK950.out 1).trans rfl⟩ (fun hHeld => ?_); refine zc0 zaj.tab7 zaj.bits7 (fun HT_ HW_ => ?_)
      generalize w143.drew = w144 at HO_936000 HO_936001 HO_937000 HO_937001 HO_951000 HO_951001 HO_952000 HO_952001 HO957 HO960 BK920 BK921 BK935 BK936 BK950 BK951 BK962 HB hHeld ⊢
      refine pure_ (i := 3) (N := some 61) (v := ?_) (a' := ?_) #[false, false, false, true, false, false, false, false, false, false, false, false, false, false, false] rfl rfl (zbf HT_.out (by kernel_rfl)) (fun _ _ _ h => h) (Or.inl ⟨by rfl, ?_⟩) ?_ ?_
      rotate_left
      ·
       intro w'
       go_simp
       with_reducible rfl
      rotate_left
      ·
       simp only [Act.put, zs1, zs2, zs3, i64_w, i32_w]
       rfl
      refine take_ (i := 0) (N := some 58) (v := ?_) (a' := ?_) #[true, false, false, true, false, false, false, false, false, false, false, false, false, false, false] rfl rfl (zbx HT_.out HW_.out (by kernel_rfl)) (fun _ _ _ h => h) (Or.inl ⟨by rfl, ?_⟩) hHeld ?_ ?_
      rotate_left
      ·
       rintro w' ⟨s0, s1, s2, s3⟩
       go_simp
       with_reducible rfl
      rotate_left
      ·
       simp only [Act.put, zs1, zs2, zs3, i64_w, i32_w]
       rfl
      refine take_ (i := 1) (N := some 59) (v := ?_) (a' := ?_) #[true, true, false, true, false, false, false, false, false, false, false, false, false, false, false] rfl rfl (zbx HT_.out HW_.out (by kernel_rfl)) (fun _ _ _ h => h) (Or.inl ⟨by rfl, ?_⟩) hHeld ?_ ?_
      rotate_left
      ·
       rintro w' ⟨s0, s1, s2, s3⟩
       go_simp
       with_reducible rfl
      rotate_left
      ·
       simp only [Act.put, zs1, zs2, zs3, i64_w, i32_w]
       rfl
      refine one_ (i := 2) (N := some 60) #[true, true, true, true, false, false, false, false, false, false, false, false, false, false, false] rfl rfl (zcf HT_.out (by kernel_rfl)) (by decide) (fun K hK => ?_)
      refine goes_ Tryd.func35 (by kernel_rfl) rfl #[.agg #[.slice Ao13 t922.length co13, .slice Ao18 t925.length co18], .agg #[.slice Ao28 t937.length co28, .slice Ao35 t940.length co35]] (by rfl) rfl rfl (zE) ?_
      with_reducible refine (ratio_Cmp.calls kj4 _ _ t922 _ _ t925 _ _ t937 _ _ t940 t963 _ ?side1 ?side2 ?side3 ?side4 ?side5 ?side6 ?side7 ?side8 A128.out).mono ?_
      (case side1 => exact zJ (Kd.zas HO_936000.out).2.2)
      (case side2 => exact (Kd.zas HO_936000.out).2.1)
      (case side3 => exact zJ (Kd.zas HO_936001.out).2.2)
      (case side4 => exact (Kd.zas HO_936001.out).2.1)
      (case side5 => exact zJ (Kd.zas HO_951000.out).2.2)
      (case side6 => exact (Kd.zas HO_951000.out).2.1)
      (case side7 => exact zJ (Kd.zas HO_951001.out).2.2)
      (case side8 => exact (Kd.zas HO_951001.out).2.1)
      rintro e w145 ⟨rfl, hb⟩
      refine ⟨_, rfl, ?_⟩
      have n0_ := zA (Kd.zao (zV HO_936000) hb)
      have n1_ := zA (Kd.zao (zV HO_936001) hb)
      have n2_ := zA (Kd.zax (zR HO_937000) hb)
      have n3_ := zA (Kd.zax (zR HO_937001) hb)
      have n4_ := zA (Kd.zao (zV HO_951000) hb)
      have n5_ := zA (Kd.zao (zV HO_951001) hb)
      have n6_ := zA (Kd.zax (zR HO_952000) hb)
      have n7_ := zA (Kd.zax (zR HO_952001) hb)
      have n8_ := zA (Kd.zao (zV HO957) hb)
      have n9_ := zA (Kd.zao (zV HO960) hb)
      have n10_ := zA (zaa (g := gb920) (o := .cells #[.slice A0_0 l0_0.length c0_0, .slice A0_1 l0_1.length c0_1] 24 (0, 0)) (zK BK920) hb)
      have n11_ := zA (zaa (g := gb921) (o := .cells #[.slice A1_0 l1_0.length c1_0, .slice A1_1 l1_1.length c1_1] 24 (0, 0)) (zK BK921) hb)
      have n12_ := zA (zaa (g := gb935) (o := .cells #[.slice Ao13 t922.length co13, .slice Ao18 t925.length co18] 28 (0, 0)) (zK BK935) hb)
      have n13_ := zA (zaa (g := gb936) (o := .cells #[.slice Ao19 t928.length co19, .slice Ao23 t931.length co23] 40 (0, 0)) (zK BK936) hb)
      have n14_ := zA (zaa (g := gb950) (o := .cells #[.slice Ao28 t937.length co28, .slice Ao35 t940.length co35] 28 (0, 0)) (zK BK950) hb)
      have n15_ := zA (zaa (g := gb951) (o := .cells #[.slice Ao36 t943.length co36, .slice Ao42 t946.length co42] 40 (0, 0)) (zK BK951) hb)
      have n16_ := zA (zaa (g := gb962) (o := .cells #[.slice Ao119 t955.length co119, .slice Ao127 t958.length co127] 28 (0, 0)) (zK BK962) hb)
      have n17_ := zA (zaf (zB HB) hb)
      clear HO_936000 HO_936001 HO_937000 HO_937001 HO_951000 HO_951001 HO_952000 HO_952001 HO957 HO960 BK920 BK921 BK935 BK936 BK950 BK951 BK962 HB
      have HO_936000 := n0_
      have HO_936001 := n1_
      have HO_937000 := n2_
      have HO_937001 := n3_
      have HO_951000 := n4_
      have HO_951001 := n5_
      have HO_952000 := n6_
      have HO_952001 := n7_
      have HO957 := n8_
      have HO960 := n9_
      have BK920 := n10_
      have BK921 := n11_
      have BK935 := n12_
      have BK936 := n13_
      have BK950 := n14_
      have BK951 := n15_
      have BK962 := n16_
      have HB := n17_
      clear n0_ n1_ n2_ n3_ n4_ n5_ n6_ n7_ n8_ n9_ n10_ n11_ n12_ n13_ n14_ n15_ n16_ n17_
      (try clear hb)
      (try clear hb2)
      (try clear hk)
      (try clear hi)
      refine hK.out _ _ ⟨(zad BK935.out 0).trans rfl, (zad BK935.out 1).trans rfl, (zad BK950.out 0).trans rfl, (zad BK950.out 1).trans rfl⟩ (fun hHeld => ?_)
      clear hK K
      refine norm_ (a' := ?_) ?_ ?_
      rotate_left
      ·
       show Act.put _ (some 60) _ = _
       simp only [Act.put, zs1, zs2, zs3, i64_w, i32_w]
       rfl
      refine pure_ (i := 4) (N := some 62) (v := ?_) (a' := ?_) #[true, true, true, true, true, false, false, false, false, false, false, false, false, false, false] rfl rfl (zbf HT_.out (by kernel_rfl)) (fun _ _ _ h => h) (Or.inl ⟨by rfl, ?_⟩) ?_ ?_
      rotate_left
      ·
       intro w'
       go_simp
       with_reducible rfl
      rotate_left
      ·
       simp only [Act.put, zs1, zs2, zs3, i64_w, i32_w]
       rfl
      refine pure_ (i := 5) (N := some 63) (v := ?_) (a' := ?_) #[true, true, true, true, true, true, false, false, false, false, false, false, false, false, false] rfl rfl (zbf HT_.out (by kernel_rfl)) (fun _ _ _ h => h) (Or.inl ⟨by rfl, ?_⟩) ?_ ?_
      rotate_left
      ·
       intro w'
       go_simp
       with_reducible rfl
      rotate_left
      ·
       simp only [Act.put, zs1, zs2, zs3, i64_w, i32_w]
       rfl
      refine pure_ (i := 6) (N := some 64) (v := undef) (a' := ?_) #[true, true, true, true, true, true, true, false, false, false, false, false, false, false, false] rfl rfl (zbf HT_.out (by kernel_rfl)) (fun _ _ _ h => h) (Or.inr ⟨by rfl, rfl⟩) ?_ ?_
      rotate_left
      ·
       simp only [Act.put, zs1, zs2, zs3, i64_w, i32_w]
       rfl
      refine pure_ (i := 7) (N := some 65) (v := undef) (a' := ?_) #[true, true, true, true, true, true, true, true, false, false, false, false, false, false, false] rfl rfl (zbf HT_.out (by kernel_rfl)) (fun _ _ _ h => h) (Or.inr ⟨by rfl, rfl⟩) ?_ ?_
      rotate_left
      ·
       simp only [Act.put, zs1, zs2, zs3, i64_w, i32_w]
       rfl
      refine pure_ (i := 8) (N := some 66) (v := undef) (a' := ?_) #[true, true, true, true, true, true, true, true, true, false, false, false, false, false, false] rfl rfl (zbf HT_.out (by kernel_rfl)) (fun _ _ _ h => h) (Or.inr ⟨by rfl, rfl⟩) ?_ ?_
      rotate_left
      ·
       simp only [Act.put, zs1, zs2, zs3, i64_w, i32_w]
       rfl
      refine pure_ (i := 9) (N := some 67) (v := undef) (a' := ?_) #[true, true, true, true, true, true, true, true, true, true, false, false, false, false, false] rfl rfl (zbf HT_.out (by kernel_rfl)) (fun _ _ _ h => h) (Or.inr ⟨by rfl, rfl⟩) ?_ ?_
      rotate_left
      ·
       simp only [Act.put, zs1, zs2, zs3, i64_w, i32_w]
       rfl
      refine pure_ (i := 10) (N := some 68) (v := undef) (a' := ?_) #[true, true, true, true, true, true, true, true, true, true, true, false, false, false, false] rfl rfl (zbf HT_.out (by kernel_rfl)) (fun _ _ _ h => h) (Or.inr ⟨by rfl, rfl⟩) ?_ ?_
      rotate_left
      ·
       simp only [Act.put, zs1, zs2, zs3, i64_w, i32_w]
       rfl
      refine pure_ (i := 11) (N := some 69) (v := undef) (a' := ?_) #[true, true, true, true, true, true, true, true, true, true, true, true, false, false, false] rfl rfl (zbf HT_.out (by kernel_rfl)) (fun _ _ _ h => h) (Or.inr ⟨by rfl, rfl⟩) ?_ ?_
      rotate_left
      ·
       simp only [Act.put, zs1, zs2, zs3, i64_w, i32_w]
       rfl
      refine pure_ (i := 12) (N := some 70) (v := undef) (a' := ?_) #[true, true, true, true, true, true, true, true, true, true, true, true, true, false, false] rfl rfl (zbf HT_.out (by kernel_rfl)) (fun _ _ _ h => h) (Or.inr ⟨by rfl, rfl⟩) ?_ ?_
      rotate_left
      ·
       simp only [Act.put, zs1, zs2, zs3, i64_w, i32_w]
       rfl
      refine pure_ (i := 13) (N := some 71) (v := undef) (a' := ?_) #[true, true, true, true, true, true, true, true, true, true, true, true, true, true, false] rfl rfl (zbf HT_.out (by kernel_rfl)) (fun _ _ _ h => h) (Or.inr ⟨by rfl, rfl⟩) ?_ ?_
      rotate_left
      ·
       simp only [Act.put, zs1, zs2, zs3, i64_w, i32_w]
       rfl
      refine pure_ (i := 14) (N := some 72) (v := ?_) (a' := ?_) #[true, true, true, true, true, true, true, true, true, true, true, true, true, true, true] rfl rfl (zbf HT_.out (by kernel_rfl)) (fun _ _ _ h => h) (Or.inl ⟨by rfl, ?_⟩) ?_ ?_
      rotate_left
      ·
       intro w'
       go_simp
       with_reducible rfl
      rotate_left
      ·
       simp only [Act.put, zs1, zs2, zs3, i64_w, i32_w]
       rfl
      refine done_ (done_of HT_.out (by kernel_rfl)) ?_
      try go_wp2
      go_meet
      case rel => exact ⟨_, (true), (zF), H', ⟨by have := HJ4.out; first | omega | exact Nat.le_refl _⟩, ⟨zV HO_936000⟩, ⟨zV HO_936001⟩, ⟨zR HO_937000⟩, ⟨zR HO_937001⟩, ⟨zV HO_951000⟩, ⟨zV HO_951001⟩, ⟨zR HO_952000⟩, ⟨zR HO_952001⟩, ⟨zV HO957⟩, ⟨zV HO960⟩, ⟨zK BK920⟩, ⟨zK BK921⟩, ⟨zK BK935⟩, ⟨zK BK936⟩, ⟨zK BK950⟩, ⟨zK BK951⟩, ⟨zK BK962⟩, ⟨zB HB⟩⟩
    case rest =>
     clear HC97
     try clear c1
     try clear c2
     try clear p2
     try clear c3
     try clear p6
     try clear c12
     try clear c21
     try clear c34
     try clear c35
     try clear c38
     try clear p64
     try clear c129
     try clear c129b0
     try clear c129b1
     obtain ⟨kq, x72_96, rfl, HA, HJ96, HO_936000, HO_936001, HO_937000, HO_937001, HO_951000, HO_951001, HO_952000, HO_952001, HO_963000, HO_963001, BK920, BK921, BK935, BK936, BK950, BK951, BK962, HB⟩ := hcut
     cases kq with
     | zero => exact absurd HA.out (by simp [zaj.j1])
     | succ kj96 =>
      have H := HA.out
      clear HA
      simp only [zaj.j1] at H
      by_cases c146 : x72_96 = true
      ·
       subst c146
       rw [if_pos rfl] at H
       exact absurd H (by simp)
      ·
       replace c146 := Bool.eq_false_iff.mpr c146
       subst c146
       rw [if_neg (show ¬ (false = true) by decide)] at H
       by_cases c147 : t954 < 0
       ·
        rw [if_pos c147] at H
        have c147b0 : decide (t954 < 0) = true := decide_eq_true c147
        clear c147
        by_cases c148 : t961 = 14
        ·
         rw [if_pos c148] at H
         have c148b0 : (t961 == 14) = true := beq_iff_eq.mpr c148
         have c148b1 : (t961 != 14) = false := bne_eq_false_iff_eq.mpr c148
         clear c148
         by_cases c149 : (t955.length : Int) = 0
         ·
          rw [if_pos c149] at H
          have c149b0 : ((t955.length : Int) == 0) = true := beq_iff_eq.mpr c149
          have c149b1 : ((t955.length : Int) != 0) = false := bne_eq_false_iff_eq.mpr c149
          clear c149
          obtain rfl := Option.some.inj H
          have hnb150 := NB962_920.out
          have hnc150 := NB920_962.out
          have hnb151 := NB962_921.out
          have hnc151 := NB921_962.out
          have hnb152 := NB962_935.out
          have hnc152 := NB935_962.out
          have hnb153 := NB962_936.out
          have hnc153 := NB936_962.out
          have hnb154 := NB962_950.out
          have hnc154 := NB950_962.out
          have hnb155 := NB962_951.out
          have hnc155 := NB951_962.out
          have hcz156_0 : wc.cell? ⟨gb962, 0, none⟩ = some (.slice Ao119 t955.length co119) := (zad BK962.out 0).trans rfl
          have hcz156_1 : wc.cell? ⟨gb962, 1, none⟩ = some (.slice Ao127 t958.length co127) := (zad BK962.out 1).trans rfl
          have hfz156_0 := zal BK962.out 0
          have hfz156_1 := zal BK962.out 1
          go_wp2
          go_ret
          exact ⟨zW, zB HB⟩
         ·
          rw [if_neg c149] at H
          exact absurd H (by simp)
        ·
         rw [if_neg c148] at H
         exact absurd H (by simp)
       ·
        rw [if_neg c147] at H
        have c147b0 : decide (t954 < 0) = false := decide_eq_false c147
        clear c147
        by_cases c157 : t961 = 0
        ·
         rw [if_pos c157] at H
         have c157b0 : (t961 == 0) = true := beq_iff_eq.mpr c157
         have c157b1 : (t961 != 0) = false := bne_eq_false_iff_eq.mpr c157
         clear c157
         replace H := zO H
         obtain ⟨⟨t977, t980⟩, A1580, H⟩ := H
         try dsimp only at H
         have A158 := zA A1580
         clear A1580
         replace H := zO H
         obtain ⟨t983, A1590, H⟩ := H
         try dsimp only at H
         have A159 := zA A1590
         clear A1590
         by_cases c160 : t983 = true
         ·
          subst c160
          rw [if_pos rfl] at H
          replace H := zO H
          obtain ⟨t984, A1610, H⟩ := H
          try dsimp only at H
          have A161 := zA A1610
          clear A1610
          obtain rfl := Option.some.inj H
          try go_wp2
          have n0_ := zA (Kd.zbc HO_936000.out)
          have n1_ := zA (Kd.zbc HO_936001.out)
          have n2_ := zA (Kd.zbb HO_937000.out)
          have n3_ := zA (Kd.zbb HO_937001.out)
          have n4_ := zA (Kd.zbc HO_951000.out)
          have n5_ := zA (Kd.zbc HO_951001.out)
          have n6_ := zA (Kd.zbb HO_952000.out)
          have n7_ := zA (Kd.zbb HO_952001.out)
          have n8_ := zA (Kd.zbc HO_963000.out)
          have n9_ := zA (Kd.zbc HO_963001.out)
          have n10_ := zA (zae BK920.out)
          have n11_ := zA (zae BK921.out)
          have n12_ := zA (zae BK935.out)
          have n13_ := zA (zae BK936.out)
          have n14_ := zA (zae BK950.out)
          have n15_ := zA (zae BK951.out)
          have n16_ := zA (zae BK962.out)
          have n17_ := zA (zb0 HB.out)
          clear HO_936000 HO_936001 HO_937000 HO_937001 HO_951000 HO_951001 HO_952000 HO_952001 HO_963000 HO_963001 BK920 BK921 BK935 BK936 BK950 BK951 BK962 HB
          have HO_936000 := n0_
          have HO_936001 := n1_
          have HO_937000 := n2_
          have HO_937001 := n3_
          have HO_951000 := n4_
          have HO_951001 := n5_
          have HO_952000 := n6_
          have HO_952001 := n7_
          have HO_963000 := n8_
          have HO_963001 := n9_
          have BK920 := n10_
          have BK921 := n11_
          have BK935 := n12_
          have BK936 := n13_
          have BK950 := n14_
          have BK951 := n15_
          have BK962 := n16_
          have HB := n17_
          clear n0_ n1_ n2_ n3_ n4_ n5_ n6_ n7_ n8_ n9_ n10_ n11_ n12_ n13_ n14_ n15_ n16_ n17_
          refine start_ (n := 14) (S := fun w' => w'.cell? ⟨gb962, 0, none⟩ = some (.slice Ao119 t955.length co119) ∧ w'.cell? ⟨gb962, 1, none⟩ = some (.slice Ao127 t958.length co127) ∧ w'.cell? ⟨gb936, 0, none⟩ = some (.slice Ao19 t928.length co19) ∧ w'.cell? ⟨gb936, 1, none⟩ = some (.slice Ao23 t931.length co23) ∧ w'.cell? ⟨gb951, 0, none⟩ = some (.slice Ao36 t943.length co36) ∧ w'.cell? ⟨gb951, 1, none⟩ = some (.slice Ao42 t946.length co42)) (ds := []) #[false, false, false, false, false, false, false, false, false, false, false, false, false, false] (by kernel_rfl) rfl rfl ⟨(zad BK962.out 0).trans rfl, (zad BK962.out 1).trans rfl, (zad BK936.out 0).trans rfl, (zad BK936.out 1).trans rfl, (zad BK951.out 0).trans rfl, (zad BK951.out 1).trans rfl⟩ (fun hHeld => ?_); refine zc0 zaj.tab11 zaj.bits11 (fun HT_ HW_ => ?_)
          generalize wc.drew = w162 at HO_936000 HO_936001 HO_937000 HO_937001 HO_951000 HO_951001 HO_952000 HO_952001 HO_963000 HO_963001 BK920 BK921 BK935 BK936 BK950 BK951 BK962 HB hHeld ⊢
          refine pure_ (i := 0) (N := some 89) (v := ?_) (a' := ?_) #[true, false, false, false, false, false, false, false, false, false, false, false, false, false] rfl rfl (zbf HT_.out (by kernel_rfl)) (fun _ _ _ h => h) (Or.inl ⟨by rfl, ?_⟩) ?_ ?_
          rotate_left
          ·
           intro w'
           go_simp
           with_reducible rfl
          rotate_left
          ·
           simp only [Act.put, zs1, zs2, zs3, i64_w, i32_w]
           rfl
          refine pure_ (i := 1) (N := some 90) (v := ?_) (a' := ?_) #[true, true, false, false, false, false, false, false, false, false, false, false, false, false] rfl rfl (zbf HT_.out (by kernel_rfl)) (fun _ _ _ h => h) (Or.inl ⟨by rfl, ?_⟩) ?_ ?_
          rotate_left
          ·
           intro w'
           go_simp
           with_reducible rfl
          rotate_left
          ·
           simp only [Act.put, zs1, zs2, zs3, i64_w, i32_w]
           rfl
          refine pure_ (i := 2) (N := some 91) (v := ?_) (a' := ?_) #[true, true, true, false, false, false, false, false, false, false, false, false, false, false] rfl rfl (zbf HT_.out (by kernel_rfl)) (fun _ _ _ h => h) (Or.inl ⟨by rfl, ?_⟩) ?_ ?_
          rotate_left
          ·
           intro w'
           go_simp
           with_reducible rfl
          rotate_left
          ·
           simp only [Act.put, zs1, zs2, zs3, i64_w, i32_w]
           rfl
          refine take_ (i := 3) (N := some 92) (v := ?_) (a' := ?_) #[true, true, true, true, false, false, false, false, false, false, false, false, false, false] rfl rfl (zbx HT_.out HW_.out (by kernel_rfl)) (fun _ _ _ h => h) (Or.inl ⟨by rfl, ?_⟩) hHeld ?_ ?_
          rotate_left
          ·
           rintro w' ⟨s0, s1, s2, s3, s4, s5⟩
           go_simp
           with_reducible rfl
          rotate_left
          ·
           simp only [Act.put, zs1, zs2, zs3, i64_w, i32_w]
           rfl
          refine take_ (i := 4) (N := some 93) (v := ?_) (a' := ?_) #[true, true, true, true, true, false, false, false, false, false, false, false, false, false] rfl rfl (zbx HT_.out HW_.out (by kernel_rfl)) (fun _ _ _ h => h) (Or.inl ⟨by rfl, ?_⟩) hHeld ?_ ?_
          rotate_left
          ·
           rintro w' ⟨s0, s1, s2, s3, s4, s5⟩
           go_simp
           with_reducible rfl
          rotate_left
          ·
           simp only [Act.put, zs1, zs2, zs3, i64_w, i32_w]
           rfl
          refine take_ (i := 5) (N := some 94) (v := ?_) (a' := ?_) #[true, true, true, true, true, true, false, false, false, false, false, false, false, false] rfl rfl (zbx HT_.out HW_.out (by kernel_rfl)) (fun _ _ _ h => h) (Or.inl ⟨by rfl, ?_⟩) hHeld ?_ ?_
          rotate_left
          ·
           rintro w' ⟨s0, s1, s2, s3, s4, s5⟩
           go_simp
           with_reducible rfl
          rotate_left
          ·
           simp only [Act.put, zs1, zs2, zs3, i64_w, i32_w]
           rfl
          refine one_ (i := 6) (N := some 95) #[true, true, true, true, true, true, true, false, false, false, false, false, false, false] rfl rfl (zcf HT_.out (by kernel_rfl)) (by decide) (fun K hK => ?_)
          refine goes_ Tryd.func39 (by kernel_rfl) rfl #[.agg #[.slice Ao19 t928.length co19, .slice Ao23 t931.length co23], .agg #[.slice Ao36 t943.length co36, .slice Ao42 t946.length co42]] (by rfl) rfl rfl (zE) ?_
          with_reducible refine (zb4.calls kj96 _ _ t928 _ _ t931 _ _ t943 _ _ t946 t977 t980 _ ?side1 ?side2 ?side3 ?side4 ?side5 ?side6 ?side7 ?side8 A158.out).mono ?_
          (case side1 => exact zJ (Kd.zat HO_937000.out).2.2)
          (case side2 => exact (Kd.zat HO_937000.out).2.1)
          (case side3 => exact zJ (Kd.zat HO_937001.out).2.2)
          (case side4 => exact (Kd.zat HO_937001.out).2.1)
          (case side5 => exact zJ (Kd.zat HO_952000.out).2.2)
          (case side6 => exact (Kd.zat HO_952000.out).2.1)
          (case side7 => exact zJ (Kd.zat HO_952001.out).2.2)
          (case side8 => exact (Kd.zat HO_952001.out).2.1)
          rintro e w163 ⟨v978, v981, rfl, ho0, ho1, hb⟩
          refine ⟨_, rfl, ?_⟩
          have n0_ := zA (Kd.zak (Kd.zch (Kd.zch (Kd.V_old (zV HO_936000) hb) (Kd.za1 ho0)) (Kd.za1 ho1)) (fun _ h_ => h_.1))
          have n1_ := zA (Kd.zak (Kd.zch (Kd.zch (Kd.V_old (zV HO_936001) hb) (Kd.za1 ho0)) (Kd.za1 ho1)) (fun _ h_ => h_.1))
          have n2_ := zA (Kd.zav (Kd.zci (Kd.zci (Kd.R_old (zR HO_937000) hb) (Kd.za1 ho0)) (Kd.za1 ho1)) (fun _ h_ => h_.1))
          have n3_ := zA (Kd.zav (Kd.zci (Kd.zci (Kd.R_old (zR HO_937001) hb) (Kd.za1 ho0)) (Kd.za1 ho1)) (fun _ h_ => h_.1))
          have n4_ := zA (Kd.zak (Kd.zch (Kd.zch (Kd.V_old (zV HO_951000) hb) (Kd.za1 ho0)) (Kd.za1 ho1)) (fun _ h_ => h_.1))
          have n5_ := zA (Kd.zak (Kd.zch (Kd.zch (Kd.V_old (zV HO_951001) hb) (Kd.za1 ho0)) (Kd.za1 ho1)) (fun _ h_ => h_.1))
          have n6_ := zA (Kd.zav (Kd.zci (Kd.zci (Kd.R_old (zR HO_952000) hb) (Kd.za1 ho0)) (Kd.za1 ho1)) (fun _ h_ => h_.1))
          have n7_ := zA (Kd.zav (Kd.zci (Kd.zci (Kd.R_old (zR HO_952001) hb) (Kd.za1 ho0)) (Kd.za1 ho1)) (fun _ h_ => h_.1))
          have n8_ := zA (Kd.zak (Kd.zch (Kd.zch (Kd.V_old (zV HO_963000) hb) (Kd.za1 ho0)) (Kd.za1 ho1)) (fun _ h_ => h_.1))
          have n9_ := zA (Kd.zak (Kd.zch (Kd.zch (Kd.V_old (zV HO_963001) hb) (Kd.za1 ho0)) (Kd.za1 ho1)) (fun _ h_ => h_.1))
          have n10_ := zA (Kd.zbm (Kd.zbk (Kd.zbk (Kd.zbk (Kd.zbk ho0 (Kd.R_lt (zR HO_937000))) (Kd.R_lt (zR HO_937001))) (Kd.R_lt (zR HO_952000))) (Kd.R_lt (zR HO_952001))) (za (zB HB)))
          have n11_ := zA (Kd.zbm (Kd.zbk (Kd.zbk (Kd.zbk (Kd.zbk ho1 (Kd.R_lt (zR HO_937000))) (Kd.R_lt (zR HO_937001))) (Kd.R_lt (zR HO_952000))) (Kd.R_lt (zR HO_952001))) (za (zB HB)))
          have n12_ := zA (zaa (g := gb920) (o := .cells #[.slice A0_0 l0_0.length c0_0, .slice A0_1 l0_1.length c0_1] 24 (0, 0)) (zK BK920) hb)
          have n13_ := zA (zaa (g := gb921) (o := .cells #[.slice A1_0 l1_0.length c1_0, .slice A1_1 l1_1.length c1_1] 24 (0, 0)) (zK BK921) hb)
          have n14_ := zA (zaa (g := gb935) (o := .cells #[.slice Ao13 t922.length co13, .slice Ao18 t925.length co18] 28 (0, 0)) (zK BK935) hb)
          have n15_ := zA (zaa (g := gb936) (o := .cells #[.slice Ao19 t928.length co19, .slice Ao23 t931.length co23] 40 (0, 0)) (zK BK936) hb)
          have n16_ := zA (zaa (g := gb950) (o := .cells #[.slice Ao28 t937.length co28, .slice Ao35 t940.length co35] 28 (0, 0)) (zK BK950) hb)
          have n17_ := zA (zaa (g := gb951) (o := .cells #[.slice Ao36 t943.length co36, .slice Ao42 t946.length co42] 40 (0, 0)) (zK BK951) hb)
          have n18_ := zA (zaa (g := gb962) (o := .cells #[.slice Ao119 t955.length co119, .slice Ao127 t958.length co127] 28 (0, 0)) (zK BK962) hb)
          have n19_ := zA (zaf (zB HB) hb)
          clear HO_936000 HO_936001 HO_937000 HO_937001 HO_951000 HO_951001 HO_952000 HO_952001 HO_963000 HO_963001 BK920 BK921 BK935 BK936 BK950 BK951 BK962 HB
          have HO_936000 := n0_
          have HO_936001 := n1_
          have HO_937000 := n2_
          have HO_937001 := n3_
          have HO_951000 := n4_
          have HO_951001 := n5_
          have HO_952000 := n6_
          have HO_952001 := n7_
          have HO_963000 := n8_
          have HO_963001 := n9_
          have HO979 := n10_
          have HO982 := n11_
          have BK920 := n12_
          have BK921 := n13_
          have BK935 := n14_
          have BK936 := n15_
          have BK950 := n16_
          have BK951 := n17_
          have BK962 := n18_
          have HB := n19_
          clear n0_ n1_ n2_ n3_ n4_ n5_ n6_ n7_ n8_ n9_ n10_ n11_ n12_ n13_ n14_ n15_ n16_ n17_ n18_ n19_
          (try clear hb)
          (try clear hb2)
          (try clear hk)
          (try clear hi)
          (try clear ho0)
          (try clear ho1)
          obtain ⟨Ao164, co164, eo164⟩ := Kd.zbn HO979.out
          (first | subst eo164 | (injection eo164 with f1_ f2_ f3_; have f4_ := f1_.symm; have f5_ := f3_.symm; clear f1_ f2_ f3_; subst f4_; subst f5_))
          obtain ⟨Ao165, co165, eo165⟩ := Kd.zbn HO982.out
          (first | subst eo165 | (injection eo165 with f1_ f2_ f3_; have f4_ := f1_.symm; have f5_ := f3_.symm; clear f1_ f2_ f3_; subst f4_; subst f5_))
          refine hK.out _ _ ⟨(zad BK962.out 0).trans rfl, (zad BK962.out 1).trans rfl, (zad BK936.out 0).trans rfl, (zad BK936.out 1).trans rfl, (zad BK951.out 0).trans rfl, (zad BK951.out 1).trans rfl⟩ (fun hHeld => ?_)
          clear hK K
          refine norm_ (a' := ?_) ?_ ?_
          rotate_left
          ·
           show Act.put _ (some 95) _ = _
           simp only [Act.put, zs1, zs2, zs3, i64_w, i32_w]
           rfl
          refine one_ (i := 7) (N := some 96) #[true, true, true, true, true, true, true, true, false, false, false, false, false, false] rfl rfl (zcf HT_.out (by kernel_rfl)) (by decide) (fun K hK => ?_)
          refine goes_ Tryd.func21 (by kernel_rfl) rfl #[.agg #[.slice Ao119 t955.length co119, .slice Ao127 t958.length co127], .agg #[.slice Ao164 t977.length co164, .slice Ao165 t980.length co165]] (by rfl) rfl rfl (zE) ?_
          with_reducible refine (zcr.calls kj96 _ _ t955 _ _ t958 _ _ t977 _ _ t980 true _ ?side1 ?side2 ?side3 ?side4 ?side5 ?side6 ?side7 ?side8 A159.out).mono ?_
          (case side1 => exact zJ (Kd.zas HO_963000.out).2.2)
          (case side2 => exact (Kd.zas HO_963000.out).2.1)
          (case side3 => exact zJ (Kd.zas HO_963001.out).2.2)
          (case side4 => exact (Kd.zas HO_963001.out).2.1)
          (case side5 => exact zJ (Kd.zat HO979.out).2.2)
          (case side6 => exact (Kd.zat HO979.out).2.1)
          (case side7 => exact zJ (Kd.zat HO982.out).2.2)
          (case side8 => exact (Kd.zat HO982.out).2.1)
          rintro e w166 ⟨rfl, hb⟩
          refine ⟨_, rfl, ?_⟩
          have n0_ := zA (Kd.zao (zV HO_936000) hb)
          have n1_ := zA (Kd.zao (zV HO_936001) hb)
          have n2_ := zA (Kd.zax (zR HO_937000) hb)
          have n3_ := zA (Kd.zax (zR HO_937001) hb)
          have n4_ := zA (Kd.zao (zV HO_951000) hb)
          have n5_ := zA (Kd.zao (zV HO_951001) hb)
          have n6_ := zA (Kd.zax (zR HO_952000) hb)
          have n7_ := zA (Kd.zax (zR HO_952001) hb)
          have n8_ := zA (Kd.zao (zV HO_963000) hb)
          have n9_ := zA (Kd.zao (zV HO_963001) hb)
          have n10_ := zA (Kd.zax (zR HO979) hb)
          have n11_ := zA (Kd.zax (zR HO982) hb)
          have n12_ := zA (zaa (g := gb920) (o := .cells #[.slice A0_0 l0_0.length c0_0, .slice A0_1 l0_1.length c0_1] 24 (0, 0)) (zK BK920) hb)
          have n13_ := zA (zaa (g := gb921) (o := .cells #[.slice A1_0 l1_0.length c1_0, .slice A1_1 l1_1.length c1_1] 24 (0, 0)) (zK BK921) hb)
          have n14_ := zA (zaa (g := gb935) (o := .cells #[.slice Ao13 t922.length co13, .slice Ao18 t925.length co18] 28 (0, 0)) (zK BK935) hb)
          have n15_ := zA (zaa (g := gb936) (o := .cells #[.slice Ao19 t928.length co19, .slice Ao23 t931.length co23] 40 (0, 0)) (zK BK936) hb)
          have n16_ := zA (zaa (g := gb950) (o := .cells #[.slice Ao28 t937.length co28, .slice Ao35 t940.length co35] 28 (0, 0)) (zK BK950) hb)
          have n17_ := zA (zaa (g := gb951) (o := .cells #[.slice Ao36 t943.length co36, .slice Ao42 t946.length co42] 40 (0, 0)) (zK BK951) hb)
          have n18_ := zA (zaa (g := gb962) (o := .cells #[.slice Ao119 t955.length co119, .slice Ao127 t958.length co127] 28 (0, 0)) (zK BK962) hb)
          have n19_ := zA (zaf (zB HB) hb)
          clear HO_936000 HO_936001 HO_937000 HO_937001 HO_951000 HO_951001 HO_952000 HO_952001 HO_963000 HO_963001 HO979 HO982 BK920 BK921 BK935 BK936 BK950 BK951 BK962 HB
          have HO_936000 := n0_
          have HO_936001 := n1_
          have HO_937000 := n2_
          have HO_937001 := n3_
          have HO_951000 := n4_
          have HO_951001 := n5_
          have HO_952000 := n6_
          have HO_952001 := n7_
          have HO_963000 := n8_
          have HO_963001 := n9_
          have HO979 := n10_
          have HO982 := n11_
          have BK920 := n12_
          have BK921 := n13_
          have BK935 := n14_
          have BK936 := n15_
          have BK950 := n16_
          have BK951 := n17_
          have BK962 := n18_
          have HB := n19_
          clear n0_ n1_ n2_ n3_ n4_ n5_ n6_ n7_ n8_ n9_ n10_ n11_ n12_ n13_ n14_ n15_ n16_ n17_ n18_ n19_
          (try clear hb)
          (try clear hb2)
          (try clear hk)
          (try clear hi)
          refine hK.out _ _ ⟨(zad BK962.out 0).trans rfl, (zad BK962.out 1).trans rfl, (zad BK936.out 0).trans rfl, (zad BK936.out 1).trans rfl, (zad BK951.out 0).trans rfl, (zad BK951.out 1).trans rfl⟩ (fun hHeld => ?_)
          clear hK K
          refine norm_ (a' := ?_) ?_ ?_
          rotate_left
          ·
           show Act.put _ (some 96) _ = _
           simp only [Act.put, zs1, zs2, zs3, i64_w, i32_w]
           rfl
          refine pure_ (i := 8) (N := some 97) (v := ?_) (a' := ?_) #[true, true, true, true, true, true, true, true, true, false, false, false, false, false] rfl rfl (zbf HT_.out (by kernel_rfl)) (fun _ _ _ h => h) (Or.inl ⟨by rfl, ?_⟩) ?_ ?_
          rotate_left
          ·
           intro w'
           go_simp
           with_reducible rfl
          rotate_left
          ·
           simp only [Act.put, zs1, zs2, zs3, i64_w, i32_w]
           rfl
          refine pure_ (i := 9) (N := some 98) (v := ?_) (a' := ?_) #[true, true, true, true, true, true, true, true, true, true, false, false, false, false] rfl rfl (zbf HT_.out (by kernel_rfl)) (fun _ _ _ h => h) (Or.inl ⟨by rfl, ?_⟩) ?_ ?_
          rotate_left
          ·
           intro w'
           go_simp
           with_reducible rfl
          rotate_left
          ·
           simp only [Act.put, zs1, zs2, zs3, i64_w, i32_w]
           rfl
          refine take_ (i := 10) (N := some 99) (v := ?_) (a' := ?_) #[true, true, true, true, true, true, true, true, true, true, true, false, false, false] rfl rfl (zbx HT_.out HW_.out (by kernel_rfl)) (fun _ _ _ h => h) (Or.inl ⟨by rfl, ?_⟩) hHeld ?_ ?_
          rotate_left
          ·
           rintro w' ⟨s0, s1, s2, s3, s4, s5⟩
           go_simp
           with_reducible rfl
          rotate_left
          ·
           simp only [Act.put, zs1, zs2, zs3, i64_w, i32_w]
           rfl
          refine one_ (i := 11) (N := some 100) #[true, true, true, true, true, true, true, true, true, true, true, true, false, false] rfl rfl (zcf HT_.out (by kernel_rfl)) (by decide) (fun K hK => ?_)
          refine goes_ Tryd.func16 (by kernel_rfl) rfl #[.agg #[.slice Ao119 t955.length co119, .slice Ao127 t958.length co127]] (by rfl) rfl rfl (zE) ?_
          with_reducible refine (zcy.calls kj96 _ _ t955 _ _ t958 t984 _ ?side1 ?side2 ?side3 ?side4 A161.out).mono ?_
          (case side1 => exact zJ (Kd.zas HO_963000.out).2.2)
          (case side2 => exact (Kd.zas HO_963000.out).2.1)
          (case side3 => exact zJ (Kd.zas HO_963001.out).2.2)
          (case side4 => exact (Kd.zas HO_963001.out).2.1)
          rintro e w167 ⟨rfl, hb⟩
          refine ⟨_, rfl, ?_⟩
          have n0_ := zA (Kd.zao (zV HO_936000) hb)
          have n1_ := zA (Kd.zao (zV HO_936001) hb)
          have n2_ := zA (Kd.zax (zR HO_937000) hb)
          have n3_ := zA (Kd.zax (zR HO_937001) hb)
          have n4_ := zA (Kd.zao (zV HO_951000) hb)
          have n5_ := zA (Kd.zao (zV HO_951001) hb)
          have n6_ := zA (Kd.zax (zR HO_952000) hb)
          have n7_ := zA (Kd.zax (zR HO_952001) hb)
          have n8_ := zA (Kd.zao (zV HO_963000) hb)
          have n9_ := zA (Kd.zao (zV HO_963001) hb)
          have n10_ := zA (Kd.zax (zR HO979) hb)
          have n11_ := zA (Kd.zax (zR HO982) hb)
          have n12_ := zA (zaa (g := gb920) (o := .cells #[.slice A0_0 l0_0.length c0_0, .slice A0_1 l0_1.length c0_1] 24 (0, 0)) (zK BK920) hb)
          have n13_ := zA (zaa (g := gb921) (o := .cells #[.slice A1_0 l1_0.length c1_0, .slice A1_1 l1_1.length c1_1] 24 (0, 0)) (zK BK921) hb)
          have n14_ := zA (zaa (g := gb935) (o := .cells #[.slice Ao13 t922.length co13, .slice Ao18 t925.length co18] 28 (0, 0)) (zK BK935) hb)
          have n15_ := zA (zaa (g := gb936) (o := .cells #[.slice Ao19 t928.length co19, .slice Ao23 t931.length co23] 40 (0, 0)) (zK BK936) hb)
          have n16_ := zA (zaa (g := gb950) (o := .cells #[.slice Ao28 t937.length co28, .slice Ao35 t940.length co35] 28 (0, 0)) (zK BK950) hb)
          have n17_ := zA (zaa (g := gb951) (o := .cells #[.slice Ao36 t943.length co36, .slice Ao42 t946.length co42] 40 (0, 0)) (zK BK951) hb)
          have n18_ := zA (zaa (g := gb962) (o := .cells #[.slice Ao119 t955.length co119, .slice Ao127 t958.length co127] 28 (0, 0)) (zK BK962) hb)
          have n19_ := zA (zaf (zB HB) hb)
          clear HO_936000 HO_936001 HO_937000 HO_937001 HO_951000 HO_951001 HO_952000 HO_952001 HO_963000 HO_963001 HO979 HO982 BK920 BK921 BK935 BK936 BK950 BK951 BK962 HB
          have HO_936000 := n0_
          have HO_936001 := n1_
          have HO_937000 := n2_
          have HO_937001 := n3_
          have HO_951000 := n4_
          have HO_951001 := n5_
          have HO_952000 := n6_
          have HO_952001 := n7_
          have HO_963000 := n8_
          have HO_963001 := n9_
          have HO979 := n10_
          have HO982 := n11_
          have BK920 := n12_
          have BK921 := n13_
          have BK935 := n14_
          have BK936 := n15_
          have BK950 := n16_
          have BK951 := n17_
          have BK962 := n18_
          have HB := n19_
          clear n0_ n1_ n2_ n3_ n4_ n5_ n6_ n7_ n8_ n9_ n10_ n11_ n12_ n13_ n14_ n15_ n16_ n17_ n18_ n19_
          (try clear hb)
          (try clear hb2)
          (try clear hk)
          (try clear hi)
          refine hK.out _ _ ⟨(zad BK962.out 0).trans rfl, (zad BK962.out 1).trans rfl, (zad BK936.out 0).trans rfl, (zad BK936.out 1).trans rfl, (zad BK951.out 0).trans rfl, (zad BK951.out 1).trans rfl⟩ (fun hHeld => ?_)
          clear hK K
          refine norm_ (a' := ?_) ?_ ?_
          rotate_left
          ·
           show Act.put _ (some 100) _ = _
           simp only [Act.put, zs1, zs2, zs3, i64_w, i32_w]
           rfl
          refine pure_ (i := 12) (N := some 101) (v := ?_) (a' := ?_) #[true, true, true, true, true, true, true, true, true, true, true, true, true, false] rfl rfl (zbf HT_.out (by kernel_rfl)) (fun _ _ _ h => h) (Or.inl ⟨by rfl, ?_⟩) ?_ ?_
          rotate_left
          ·
           intro w'
           go_simp
           with_reducible rfl
          rotate_left
          ·
           simp only [Act.put, zs1, zs2, zs3, i64_w, i32_w]
           rfl
          refine pure_ (i := 13) (N := some 4) (v := ?_) (a' := ?_) #[true, true, true, true, true, true, true, true, true, true, true, true, true, true] rfl rfl (zbf HT_.out (by kernel_rfl)) (fun _ _ _ h => h) (Or.inl ⟨by rfl, ?_⟩) ?_ ?_
          rotate_left
          ·
           intro w'
           go_simp
           with_reducible rfl
          rotate_left
          ·
           simp only [Act.put, zs1, zs2, zs3, i64_w, i32_w]
           rfl
          refine done_ (done_of HT_.out (by kernel_rfl)) ?_
          try go_wp2
          go_ret
          exact ⟨zW, zB HB⟩
         ·
          replace c160 := Bool.eq_false_iff.mpr c160
          subst c160
          rw [if_neg (show ¬ (false = true) by decide)] at H
          exact absurd H (by simp)
        ·
         rw [if_neg c157] at H
         have c157b0 : (t961 == 0) = false := beq_eq_false_iff_ne.mpr c157
         have c157b1 : (t961 != 0) = true := bne_iff_ne.mpr c157
         exact absurd H (by simp)
end Go.Proofs.YtfjkamhcabckeaaDoor.P
end
