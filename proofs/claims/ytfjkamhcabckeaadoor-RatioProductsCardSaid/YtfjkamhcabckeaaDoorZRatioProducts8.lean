-- Written by a program of this session (wip/tools/shake.py) out of its own texts and of the kit's printed ones; not trusted: Lean checks it.
import Derived.Test.YtfjkamhcabckeaaDoorZRatioProducts7
set_option maxHeartbeats 8000000
set_option maxRecDepth 100000
set_option linter.unusedVariables false
set_option linter.unusedSimpArgs false
section
namespace Go.Proofs.YtfjkamhcabckeaaDoor.P
open Go.RowKit Go.Proofs.YtfjkamhcabckeaaDoorW.PrintWords Go.Proofs.YtfjkamhcabckeaaDoorW.PrintLast Go.Proofs.YtfjkamhcabckeaaDoorW.PrintMore
attribute [local go_sem] max2_int min2_int max_two min_two zc9 zdb max_four min_four
mutual
def zah.j0 : Nat → Bool → List Int → List Int → List Int → List Int → List Int → List Int → List Int → List Int → Option (Bool)
 | 0, _, _, _, _, _, _, _, _, _ => none
 | k + 1, x34, x640000, x640001, x641000, x641001, x655000, x655001, x656000, x656001 => if x34 = true then ((zbr.f k).bind fun t657 => (some t657)) else ((zcs.f k x640000 x640001 x655000 x655001).bind fun bt658 => ((zb0.f k x641000 x641001 x656000 x656001).bind fun bt664 => ((zck.f k bt658.1 bt658.2 bt664.1 bt664.2).bind fun t670 => (if t670 = true then ((zcs.f k x640000 x640001 x655000 x655001).bind fun bt671 => ((zco.f k bt671.1 bt671.2).bind fun t677 => (zah.j1 k (!t677) x640000 x640001 x641000 x641001 x655000 x655001 x656000 x656001))) else (zah.j1 k true x640000 x640001 x641000 x641001 x655000 x655001 x656000 x656001)))))
def zah.j1 : Nat → Bool → List Int → List Int → List Int → List Int → List Int → List Int → List Int → List Int → Option (Bool)
 | 0, _, _, _, _, _, _, _, _, _ => none
 | k + 1, x50, x640000, x640001, x641000, x641001, x655000, x655001, x656000, x656001 => if x50 = true then (none) else ((zcu.f k x640000 x640001 x655000 x655001).bind fun bt678 => (if (x656000.length : Int) = 0 then (if bt678.2.2 = 16 then (if (bt678.1.length : Int) = 0 then (some ((bt678.2.1.length : Int) == 0)) else (none)) else (none)) else (if bt678.2.2 = 0 then ((zb2.f k x641000 x641001 x656000 x656001).bind fun bt686 => ((zck.f k bt678.1 bt678.2.1 bt686.1 bt686.2).bind fun t692 => (if t692 = true then ((zco.f k bt678.1 bt678.2.1).bind fun t693 => (some t693)) else (none)))) else (none))))
end
def zah.f (k : Nat) (l0_0 : List Int) (l0_1 : List Int) (l1_0 : List Int) (l1_1 : List Int) : Option (Bool) := (zan.f k l0_0 l0_1).bind fun bt626 => ((zan.f k l1_0 l1_1).bind fun bt641 => ((zbr.f k).bind fun t656 => (if t656 = true then (if bt626.2.2.2.2 = true then (zah.j0 k (!bt641.2.2.2.2) bt626.1 bt626.2.1 bt626.2.2.1 bt626.2.2.2.1 bt641.1 bt641.2.1 bt641.2.2.1 bt641.2.2.2.1) else (zah.j0 k true bt626.1 bt626.2.1 bt626.2.2.1 bt626.2.2.2.1 bt641.1 bt641.2.1 bt641.2.2.1 bt641.2.2.2.1)) else (zah.j0 k true bt626.1 bt626.2.1 bt626.2.2.1 bt626.2.2.2.1 bt641.1 bt641.2.1 bt641.2.2.1 bt641.2.2.2.1))))
def zah.T5 : Bool × List (List Nat × List Nat) := (true, [([], []), ([], []), ([0, 1], [0, 1]), ([], []), ([], []), ([3, 4, 2], [3, 4]), ([2, 5, 5], [2, 5]), ([6], [6]), ([7, 6], [7]), ([8], [8]), ([8], [8]), ([9, 10, 8, 8], [8, 9, 10]), ([11, 11, 8], [8, 11]), ([12, 8], [8, 12]), ([8, 13], [8, 13])])
def zah.B5 : List Nat := [0, 0, 3, 0, 0, 31, 63, 127, 255, 511, 511, 2047, 4095, 8191, 16383]
theorem zah.tab5 : rtab .any (opsOf Tryd.f5 5) = zah.T5 := by kernel_rfl
theorem zah.bits5 : waitsOk zah.T5.2 zah.B5 = true := by kernel_rfl
def zah.T10 : Bool × List (List Nat × List Nat) := (true, [([], []), ([0], [0]), ([1], [1]), ([2], [2]), ([2], [2]), ([2], [2]), ([4, 5, 2, 2], [2, 4, 5]), ([3, 6, 6, 2], [2, 3, 6]), ([2, 7], [2, 7]), ([8, 7], [8]), ([9], [9]), ([10, 9, 9], [9, 10]), ([9, 11], [9, 11]), ([12, 11, 0, 1, 2, 3, 4, 5, 6, 7, 8, 9, 10, 11, 12], [12])])
def zah.B10 : List Nat := [0, 1, 3, 7, 7, 7, 55, 127, 255, 511, 1023, 2047, 4095, 8191]
theorem zah.tab10 : rtab .any (opsOf Tryd.f5 10) = zah.T10 := by kernel_rfl
theorem zah.bits10 : waitsOk zah.T10.2 zah.B10 = true := by kernel_rfl
theorem zah.calls (k : Nat) (A0_0 : Option Addr) (c0_0 : Nat) (l0_0 : List Int) (A0_1 : Option Addr) (c0_1 : Nat) (l0_1 : List Int) (A1_0 : Option Addr) (c1_0 : Nat) (l1_0 : List Int) (A1_1 : Option Addr) (c1_1 : Nat) (l1_1 : List Int) (r : Bool) (w : World) (hr0_0 : Kd.C (Kd.int .u64) w A0_0 l0_0.length l0_0) (hc0_0 : l0_0.length ≤ c0_0) (hr0_1 : Kd.C (Kd.int .u64) w A0_1 l0_1.length l0_1) (hc0_1 : l0_1.length ≤ c0_1) (hr1_0 : Kd.C (Kd.int .u64) w A1_0 l1_0.length l1_0) (hc1_0 : l1_0.length ≤ c1_0) (hr1_1 : Kd.C (Kd.int .u64) w A1_1 l1_1.length l1_1) (hc1_1 : l1_1.length ≤ c1_1) (hG : Glob w) (h : zah.f k l0_0 l0_1 l1_0 l1_1 = some r) :
  Calls Tryd.prog 5 #[.agg #[.slice A0_0 l0_0.length c0_0, .slice A0_1 l0_1.length c0_1], .agg #[.slice A1_0 l1_0.length c1_0, .slice A1_1 l1_1.length c1_1]] w fun e w' => e = .returned (.bool r) ∧ Below w.heap.size w w' := by
 have hu24 := Tryd.underlying24
 have hu28 := Tryd.underlying28
 have hu40 := Tryd.underlying40
 have HR0_0 := zA hr0_0
 have HC0_0 := zA hc0_0
 clear hr0_0 hc0_0
 have HR0_1 := zA hr0_1
 have HC0_1 := zA hc0_1
 clear hr0_1 hc0_1
 have HR1_0 := zA hr1_0
 have HC1_0 := zA hc1_0
 clear hr1_0 hc1_0
 have HR1_1 := zA hr1_1
 have HC1_1 := zA hc1_1
 clear hr1_1 hc1_1
 have HG := zA hG
 clear hG
 have HB := zA (Below.refl w.heap.size w)
 have H : ((zan.f k l0_0 l0_1).bind fun bt626 => ((zan.f k l1_0 l1_1).bind fun bt641 => ((zbr.f k).bind fun t656 => (if t656 = true then (if bt626.2.2.2.2 = true then (zah.j0 k (!bt641.2.2.2.2) bt626.1 bt626.2.1 bt626.2.2.1 bt626.2.2.2.1 bt641.1 bt641.2.1 bt641.2.2.1 bt641.2.2.2.1) else (zah.j0 k true bt626.1 bt626.2.1 bt626.2.2.1 bt626.2.2.2.1 bt641.1 bt641.2.1 bt641.2.2.1 bt641.2.2.2.1)) else (zah.j0 k true bt626.1 bt626.2.1 bt626.2.2.1 bt626.2.2.2.1 bt641.1 bt641.2.1 bt641.2.2.1 bt641.2.2.2.1))))) = some r := h
 clear h
 replace H := zO H
 obtain ⟨⟨t626, t629, t632, t635, t638⟩, A30, H⟩ := H
 try dsimp only at H
 have A3 := zA A30
 clear A30
 replace H := zO H
 obtain ⟨⟨t641, t644, t647, t650, t653⟩, A40, H⟩ := H
 try dsimp only at H
 have A4 := zA A40
 clear A40
 have HC5 := zA H
 clear H
 go_enter Tryd.func5, Tryd.ntmps5
 go_upto_region 3 with (first | ((with_reducible refine zbj (N := 2) rfl ?_); (try (refine zcl (by rfl) ?_; dsimp only)); refine zbo ?hg (N := 2) ?hd (cs := #[.slice A0_0 l0_0.length c0_0, .slice A0_1 l0_1.length c0_1]) (t := 24) ?hr ?_; (case hd => rfl); (case hg => rfl); (case hr => first | (go_simp; done) | (go_simp; rfl)); intro gb624 hg w6 hbox hb; have n0_ := zA (zaf (zB HB) hb); have n1_ := zA (hbox); have n2_ := zA ((by rw [hg]; exact (za (zB HB)) : w.heap.size ≤ gb624)); have n3_ := zA ((by rw [hg]; exact (za (zB HB)) : w.heap.size ≤ gb624)); clear HB; have HB := n0_; have BK624 := n1_; have GW624 := n2_; have GE624 := n3_; clear n0_ n1_ n2_ n3_ hb hbox hg) | ((with_reducible refine zbj (N := 3) rfl ?_); (try (refine zcl (by rfl) ?_; dsimp only)); refine zbo ?hg (N := 3) ?hd (cs := #[.slice A1_0 l1_0.length c1_0, .slice A1_1 l1_1.length c1_1]) (t := 24) ?hr ?_; (case hd => rfl); (case hg => rfl); (case hr => first | (go_simp; done) | (go_simp; rfl)); intro gb625 hg w7 hbox hb; have n0_ := zA (zaa (g := gb624) (o := .cells #[.slice A0_0 l0_0.length c0_0, .slice A0_1 l0_1.length c0_1] 24 (0, 0)) (zK BK624) hb); have n1_ := zA (zaf (zB HB) hb); have n2_ := zA (hbox); have n3_ := zA ((by rw [hg]; exact (za (zB HB)) : w.heap.size ≤ gb625)); have n4_ := zA ((by rw [hg]; exact (za (zB HB)) : w.heap.size ≤ gb625)); have n5_ := zA ((by rw [hg]; exact Nat.ne_of_lt (za2 (g := gb624) (o := .cells #[.slice A0_0 l0_0.length c0_0, .slice A0_1 l0_1.length c0_1] 24 (0, 0)) (zK BK624)) : gb624 ≠ gb625)); have n6_ := zA ((by rw [hg]; exact Nat.ne_of_gt (za2 (g := gb624) (o := .cells #[.slice A0_0 l0_0.length c0_0, .slice A0_1 l0_1.length c0_1] 24 (0, 0)) (zK BK624)) : gb625 ≠ gb624)); clear BK624 HB; have BK624 := n0_; have HB := n1_; have BK625 := n2_; have GW625 := n3_; have GE625 := n4_; have NB624_625 := n5_; have NB625_624 := n6_; clear n0_ n1_ n2_ n3_ n4_ n5_ n6_ hb hbox hg; have hnb8 := NB624_625.out; have hnc8 := NB625_624.out; have hcz9_0 : w7.cell? ⟨gb624, 0, none⟩ = some (.slice A0_0 l0_0.length c0_0) := (zab BK624.out 0).trans rfl; have hcz9_1 : w7.cell? ⟨gb624, 1, none⟩ = some (.slice A0_1 l0_1.length c0_1) := (zab BK624.out 1).trans rfl; have hfz9_0 := zao BK624.out 0; have hfz9_1 := zao BK624.out 1) | ((with_reducible refine zaj (f := 25) rfl ?_); refine zba (some 15) rfl rfl Tryd.func25 (by kernel_rfl) rfl #[.agg #[.slice A0_0 l0_0.length c0_0, .slice A0_1 l0_1.length c0_1]] rfl (zE) ?_; (with_reducible refine (zan.calls k _ _ l0_0 _ _ l0_1 t626 t629 t632 t635 t638 _ ?side1 ?side2 ?side3 ?side4 A3.out).mono ?_); (case side1 => exact zJ (Kd.zb HR0_0.out HB.out)); (case side2 => exact HC0_0.out); (case side3 => exact zJ (Kd.zb HR0_1.out HB.out)); (case side4 => exact HC0_1.out); rintro e w10 ⟨v627, v630, v633, v636, rfl, ho0, ho1, ho2, ho3, hb⟩; refine ⟨_, rfl, ?_⟩; have n0_ := zA (Kd.zbl (Kd.zal (ok' := fun k_ => some k_ ≠ (v633 : Value).ownBlock ∧ some k_ ≠ (v636 : Value).ownBlock ∧ k_ ≠ gb624 ∧ k_ ≠ gb625) ho0 (fun k_ hk_ => ⟨hk_.2.1, hk_.2.2, (Kd.freshB (g := gb624) (o := .cells #[.slice A0_0 l0_0.length c0_0, .slice A0_1 l0_1.length c0_1] 24 (0, 0)) (zK BK624) k_ hk_.1), (Kd.freshB (g := gb625) (o := .cells #[.slice A1_0 l1_0.length c1_0, .slice A1_1 l1_1.length c1_1] 24 (0, 0)) (zK BK625) k_ hk_.1)⟩)) (za (zB HB))); have n1_ := zA (Kd.zbl (Kd.zal (ok' := fun k_ => some k_ ≠ (v633 : Value).ownBlock ∧ some k_ ≠ (v636 : Value).ownBlock ∧ k_ ≠ gb624 ∧ k_ ≠ gb625) ho1 (fun k_ hk_ => ⟨hk_.2.1, hk_.2.2, (Kd.freshB (g := gb624) (o := .cells #[.slice A0_0 l0_0.length c0_0, .slice A0_1 l0_1.length c0_1] 24 (0, 0)) (zK BK624) k_ hk_.1), (Kd.freshB (g := gb625) (o := .cells #[.slice A1_0 l1_0.length c1_0, .slice A1_1 l1_1.length c1_1] 24 (0, 0)) (zK BK625) k_ hk_.1)⟩)) (za (zB HB))); have n2_ := zA (Kd.zbh (Kd.zaz (ok' := fun k_ => some k_ ≠ (v636 : Value).ownBlock) ho2 (fun _ hk_ => hk_.2)) (za (zB HB))); have n3_ := zA (Kd.zbh (Kd.zaz (ok' := fun k_ => some k_ ≠ (v633 : Value).ownBlock) ho3 (fun _ hk_ => hk_.2)) (za (zB HB))); have n4_ := zA (zaa (g := gb624) (o := .cells #[.slice A0_0 l0_0.length c0_0, .slice A0_1 l0_1.length c0_1] 24 (0, 0)) (zK BK624) hb); have n5_ := zA (zaa (g := gb625) (o := .cells #[.slice A1_0 l1_0.length c1_0, .slice A1_1 l1_1.length c1_1] 24 (0, 0)) (zK BK625) hb); have n6_ := zA (zaf (zB HB) hb); clear BK624 BK625 HB; have HO628 := n0_; have HO631 := n1_; have HO634 := n2_; have HO637 := n3_; have BK624 := n4_; have BK625 := n5_; have HB := n6_; clear n0_ n1_ n2_ n3_ n4_ n5_ n6_; (try clear hb); (try clear hb2); (try clear hk); (try clear hi); (try clear ho0); (try clear ho1); (try clear ho2); (try clear ho3)) | ((with_reducible refine zbj (N := 5) rfl ?_); (try (refine zcl (by rfl) ?_; dsimp only)); refine zbo ?hg (N := 5) ?hd (cs := #[.slice none 0 0, .slice none 0 0]) (t := 28) ?hr ?_; (case hd => rfl); (case hg => rfl); (case hr => first | (go_simp; done) | (go_simp; rfl)); intro gb639 hg w11 hbox hb; have n0_ := zA (Kd.zaq (Kd.zb3 (zV HO628) gb639 (Nat.le_of_eq hg.symm)) hb); have n1_ := zA (Kd.zaq (Kd.zb3 (zV HO631) gb639 (Nat.le_of_eq hg.symm)) hb); have n2_ := zA (Kd.zau (zR HO634) hb); have n3_ := zA (Kd.zau (zR HO637) hb); have n4_ := zA (zaa (g := gb624) (o := .cells #[.slice A0_0 l0_0.length c0_0, .slice A0_1 l0_1.length c0_1] 24 (0, 0)) (zK BK624) hb); have n5_ := zA (zaa (g := gb625) (o := .cells #[.slice A1_0 l1_0.length c1_0, .slice A1_1 l1_1.length c1_1] 24 (0, 0)) (zK BK625) hb); have n6_ := zA (zaf (zB HB) hb); have n7_ := zA (hbox); have n8_ := zA ((by rw [hg]; exact (za (zB HB)) : w.heap.size ≤ gb639)); have n9_ := zA ((by rw [hg]; exact (za (zB HB)) : w.heap.size ≤ gb639)); have n10_ := zA ((by rw [hg]; exact Nat.ne_of_lt (za2 (g := gb624) (o := .cells #[.slice A0_0 l0_0.length c0_0, .slice A0_1 l0_1.length c0_1] 24 (0, 0)) (zK BK624)) : gb624 ≠ gb639)); have n11_ := zA ((by rw [hg]; exact Nat.ne_of_gt (za2 (g := gb624) (o := .cells #[.slice A0_0 l0_0.length c0_0, .slice A0_1 l0_1.length c0_1] 24 (0, 0)) (zK BK624)) : gb639 ≠ gb624)); have n12_ := zA ((by rw [hg]; exact Nat.ne_of_lt (za2 (g := gb625) (o := .cells #[.slice A1_0 l1_0.length c1_0, .slice A1_1 l1_1.length c1_1] 24 (0, 0)) (zK BK625)) : gb625 ≠ gb639)); have n13_ := zA ((by rw [hg]; exact Nat.ne_of_gt (za2 (g := gb625) (o := .cells #[.slice A1_0 l1_0.length c1_0, .slice A1_1 l1_1.length c1_1] 24 (0, 0)) (zK BK625)) : gb639 ≠ gb625)); clear HO628 HO631 HO634 HO637 BK624 BK625 HB; have HO628 := n0_; have HO631 := n1_; have HO634 := n2_; have HO637 := n3_; have BK624 := n4_; have BK625 := n5_; have HB := n6_; have BK639 := n7_; have GW639 := n8_; have GE639 := n9_; have NB624_639 := n10_; have NB639_624 := n11_; have NB625_639 := n12_; have NB639_625 := n13_; clear n0_ n1_ n2_ n3_ n4_ n5_ n6_ n7_ n8_ n9_ n10_ n11_ n12_ n13_ hb hbox hg) | ((with_reducible refine zbj (N := 6) rfl ?_); (try (refine zcl (by rfl) ?_; dsimp only)); refine zbo ?hg (N := 6) ?hd (cs := #[.slice none 0 0, .slice none 0 0]) (t := 40) ?hr ?_; (case hd => rfl); (case hg => rfl); (case hr => first | (go_simp; done) | (go_simp; rfl)); intro gb640 hg w12 hbox hb; have n0_ := zA (Kd.zaq (Kd.zb3 (zV HO628) gb640 (Nat.le_of_eq hg.symm)) hb); have n1_ := zA (Kd.zaq (Kd.zb3 (zV HO631) gb640 (Nat.le_of_eq hg.symm)) hb); have n2_ := zA (Kd.zau (zR HO634) hb); have n3_ := zA (Kd.zau (zR HO637) hb); have n4_ := zA (zaa (g := gb624) (o := .cells #[.slice A0_0 l0_0.length c0_0, .slice A0_1 l0_1.length c0_1] 24 (0, 0)) (zK BK624) hb); have n5_ := zA (zaa (g := gb625) (o := .cells #[.slice A1_0 l1_0.length c1_0, .slice A1_1 l1_1.length c1_1] 24 (0, 0)) (zK BK625) hb); have n6_ := zA (zaa (g := gb639) (o := .cells #[.slice none 0 0, .slice none 0 0] 28 (0, 0)) (zK BK639) hb); have n7_ := zA (zaf (zB HB) hb); have n8_ := zA (hbox); have n9_ := zA ((by rw [hg]; exact (za (zB HB)) : w.heap.size ≤ gb640)); have n10_ := zA ((by rw [hg]; exact (za (zB HB)) : w.heap.size ≤ gb640)); have n11_ := zA ((by rw [hg]; exact Nat.ne_of_lt (za2 (g := gb624) (o := .cells #[.slice A0_0 l0_0.length c0_0, .slice A0_1 l0_1.length c0_1] 24 (0, 0)) (zK BK624)) : gb624 ≠ gb640)); have n12_ := zA ((by rw [hg]; exact Nat.ne_of_gt (za2 (g := gb624) (o := .cells #[.slice A0_0 l0_0.length c0_0, .slice A0_1 l0_1.length c0_1] 24 (0, 0)) (zK BK624)) : gb640 ≠ gb624)); have n13_ := zA ((by rw [hg]; exact Nat.ne_of_lt (za2 (g := gb625) (o := .cells #[.slice A1_0 l1_0.length c1_0, .slice A1_1 l1_1.length c1_1] 24 (0, 0)) (zK BK625)) : gb625 ≠ gb640)); have n14_ := zA ((by rw [hg]; exact Nat.ne_of_gt (za2 (g := gb625) (o := .cells #[.slice A1_0 l1_0.length c1_0, .slice A1_1 l1_1.length c1_1] 24 (0, 0)) (zK BK625)) : gb640 ≠ gb625)); have n15_ := zA ((by rw [hg]; exact Nat.ne_of_lt (za2 (g := gb639) (o := .cells #[.slice none 0 0, .slice none 0 0] 28 (0, 0)) (zK BK639)) : gb639 ≠ gb640)); have n16_ := zA ((by rw [hg]; exact Nat.ne_of_gt (za2 (g := gb639) (o := .cells #[.slice none 0 0, .slice none 0 0] 28 (0, 0)) (zK BK639)) : gb640 ≠ gb639)); clear HO628 HO631 HO634 HO637 BK624 BK625 BK639 HB; have HO628 := n0_; have HO631 := n1_; have HO634 := n2_; have HO637 := n3_; have BK624 := n4_; have BK625 := n5_; have BK639 := n6_; have HB := n7_; have BK640 := n8_; have GW640 := n9_; have GE640 := n10_; have NB624_640 := n11_; have NB640_624 := n12_; have NB625_640 := n13_; have NB640_625 := n14_; have NB639_640 := n15_; have NB640_639 := n16_; clear n0_ n1_ n2_ n3_ n4_ n5_ n6_ n7_ n8_ n9_ n10_ n11_ n12_ n13_ n14_ n15_ n16_ hb hbox hg; obtain ⟨Ao13, co13, eo13⟩ := Kd.zbp HO628.out; subst eo13; have hnb14 := NB639_624.out; have hnc14 := NB624_639.out; have hnb15 := NB639_625.out; have hnc15 := NB625_639.out; have hnb16 := NB639_640.out; have hnc16 := NB640_639.out; have hcz17_0 : w12.cell? ⟨gb639, 0, none⟩ = some (.slice none 0 0) := (zab BK639.out 0).trans rfl; have hcz17_1 : w12.cell? ⟨gb639, 1, none⟩ = some (.slice none 0 0) := (zab BK639.out 1).trans rfl; have hfz17_0 := zao BK639.out 0; have hfz17_1 := zao BK639.out 1; obtain ⟨Ao18, co18, eo18⟩ := Kd.zbp HO631.out; subst eo18; obtain ⟨Ao19, co19, eo19⟩ := Kd.zbn HO634.out; subst eo19; have hnb20 := NB640_624.out; have hnc20 := NB624_640.out; have hnb21 := NB640_625.out; have hnc21 := NB625_640.out; have hcz22_0 : w12.cell? ⟨gb640, 0, none⟩ = some (.slice none 0 0) := (zab BK640.out 0).trans rfl; have hcz22_1 : w12.cell? ⟨gb640, 1, none⟩ = some (.slice none 0 0) := (zab BK640.out 1).trans rfl; have hfz22_0 := zao BK640.out 0; have hfz22_1 := zao BK640.out 1; obtain ⟨Ao23, co23, eo23⟩ := Kd.zbn HO637.out; subst eo23; have hcz24_0 : w12.cell? ⟨gb625, 0, none⟩ = some (.slice A1_0 l1_0.length c1_0) := (zab BK625.out 0).trans rfl; have hcz24_1 : w12.cell? ⟨gb625, 1, none⟩ = some (.slice A1_1 l1_1.length c1_1) := (zab BK625.out 1).trans rfl; have hfz24_0 := zao BK625.out 0; have hfz24_1 := zao BK625.out 1) | ((with_reducible refine zaj (f := 25) rfl ?_); refine zba (some 21) rfl rfl Tryd.func25 (by kernel_rfl) rfl #[.agg #[.slice A1_0 l1_0.length c1_0, .slice A1_1 l1_1.length c1_1]] rfl (zE) ?_; (with_reducible refine (zan.calls k _ _ l1_0 _ _ l1_1 t641 t644 t647 t650 t653 _ ?side1 ?side2 ?side3 ?side4 A4.out).mono ?_); (case side1 => exact Kd.zb HR1_0.out (zB HB)); (case side2 => exact HC1_0.out); (case side3 => exact Kd.zb HR1_1.out (zB HB)); (case side4 => exact HC1_1.out); rintro e w25 ⟨v642, v645, v648, v651, rfl, ho0, ho1, ho2, ho3, hb⟩; refine ⟨_, rfl, ?_⟩; have n0_ := zA (Kd.zal (Kd.zca (Kd.zca (Kd.V_old (by (with_reducible repeat (first | apply Kd.zbc | apply Kd.zbb | apply Kd.zbe)); exact (Kd.zal (Kd.zal (Kd.V_far (p := ⟨gb640, 1, none⟩) (Kd.V_far (p := ⟨gb640, 0, none⟩) (Kd.V_far (p := ⟨gb639, 1, none⟩) (Kd.V_far (p := ⟨gb639, 0, none⟩) (Kd.zal (Kd.zal HO628.out (fun k_ hk => (⟨hk, hk.1.2⟩ : _ ∧ k_ ≠ gb639))) (fun k_ hk => (⟨hk, hk.1.2⟩ : _ ∧ k_ ≠ gb640))) (fun _ hk => hk.1.2) (.slice Ao13 t626.length co13)) (fun _ hk => hk.1.2) (.slice Ao18 t629.length co18)) (fun _ hk => hk.2) (.slice Ao19 t632.length co19)) (fun _ hk => hk.2) (.slice Ao23 t635.length co23)) (fun _ h_ => h_.1)) (fun _ h_ => h_.1))) hb) (Kd.za1 ho2)) (Kd.za1 ho3)) (fun _ h_ => h_.1)); have n1_ := zA (Kd.zal (Kd.zca (Kd.zca (Kd.V_old (by (with_reducible repeat (first | apply Kd.zbc | apply Kd.zbb | apply Kd.zbe)); exact (Kd.zal (Kd.zal (Kd.V_far (p := ⟨gb640, 1, none⟩) (Kd.V_far (p := ⟨gb640, 0, none⟩) (Kd.V_far (p := ⟨gb639, 1, none⟩) (Kd.V_far (p := ⟨gb639, 0, none⟩) (Kd.zal (Kd.zal HO631.out (fun k_ hk => (⟨hk, hk.1.2⟩ : _ ∧ k_ ≠ gb639))) (fun k_ hk => (⟨hk, hk.1.2⟩ : _ ∧ k_ ≠ gb640))) (fun _ hk => hk.1.2) (.slice Ao13 t626.length co13)) (fun _ hk => hk.1.2) (.slice Ao18 t629.length co18)) (fun _ hk => hk.2) (.slice Ao19 t632.length co19)) (fun _ hk => hk.2) (.slice Ao23 t635.length co23)) (fun _ h_ => h_.1)) (fun _ h_ => h_.1))) hb) (Kd.za1 ho2)) (Kd.za1 ho3)) (fun _ h_ => h_.1)); have n2_ := zA (Kd.zaz (Kd.zcg (Kd.zcg (Kd.R_old (by (with_reducible repeat (first | apply Kd.za6 | apply Kd.za7 | apply Kd.za9)); exact (Kd.zaz (Kd.zaz (Kd.R_far (p := ⟨gb640, 1, none⟩) (Kd.R_far (p := ⟨gb640, 0, none⟩) (Kd.R_far (p := ⟨gb639, 1, none⟩) (Kd.R_far (p := ⟨gb639, 0, none⟩) (Kd.zbq (Kd.zbq HO634.out BK639.out (by decide)) BK640.out (by decide)) (fun _ hk => hk.1.2) (.slice Ao13 t626.length co13)) (fun _ hk => hk.1.2) (.slice Ao18 t629.length co18)) (fun _ hk => hk.2) (.slice Ao19 t632.length co19)) (fun _ hk => hk.2) (.slice Ao23 t635.length co23)) (fun _ h_ => h_.1)) (fun _ h_ => h_.1))) hb) (Kd.za1 ho2)) (Kd.za1 ho3)) (fun _ h_ => h_.1)); have n3_ := zA (Kd.zaz (Kd.zcg (Kd.zcg (Kd.R_old (by (with_reducible repeat (first | apply Kd.za6 | apply Kd.za7 | apply Kd.za9)); exact (Kd.zaz (Kd.zaz (Kd.R_far (p := ⟨gb640, 1, none⟩) (Kd.R_far (p := ⟨gb640, 0, none⟩) (Kd.R_far (p := ⟨gb639, 1, none⟩) (Kd.R_far (p := ⟨gb639, 0, none⟩) (Kd.zbq (Kd.zbq HO637.out BK639.out (by decide)) BK640.out (by decide)) (fun _ hk => hk.1.2) (.slice Ao13 t626.length co13)) (fun _ hk => hk.1.2) (.slice Ao18 t629.length co18)) (fun _ hk => hk.2) (.slice Ao19 t632.length co19)) (fun _ hk => hk.2) (.slice Ao23 t635.length co23)) (fun _ h_ => h_.1)) (fun _ h_ => h_.1))) hb) (Kd.za1 ho2)) (Kd.za1 ho3)) (fun _ h_ => h_.1)); have n4_ := zA (Kd.zbl (Kd.zal (ok' := fun k_ => some k_ ≠ (v648 : Value).ownBlock ∧ some k_ ≠ (v651 : Value).ownBlock ∧ some k_ ≠ (.slice Ao19 t632.length co19 : Value).ownBlock ∧ some k_ ≠ (.slice Ao23 t635.length co23 : Value).ownBlock ∧ k_ ≠ gb624 ∧ k_ ≠ gb625 ∧ k_ ≠ gb639 ∧ k_ ≠ gb640) ho0 (fun k_ hk_ => ⟨hk_.2.1, hk_.2.2, (Kd.fresh' (Kd.R_lt (by (with_reducible repeat (first | apply Kd.za6 | apply Kd.za7 | apply Kd.za9)); exact (Kd.zaz (Kd.zaz (Kd.R_far (p := ⟨gb640, 1, none⟩) (Kd.R_far (p := ⟨gb640, 0, none⟩) (Kd.R_far (p := ⟨gb639, 1, none⟩) (Kd.R_far (p := ⟨gb639, 0, none⟩) (Kd.zbq (Kd.zbq HO634.out BK639.out (by decide)) BK640.out (by decide)) (fun _ hk => hk.1.2) (.slice Ao13 t626.length co13)) (fun _ hk => hk.1.2) (.slice Ao18 t629.length co18)) (fun _ hk => hk.2) (.slice Ao19 t632.length co19)) (fun _ hk => hk.2) (.slice Ao23 t635.length co23)) (fun _ h_ => h_.1)) (fun _ h_ => h_.1)))) k_ hk_.1), (Kd.fresh' (Kd.R_lt (by (with_reducible repeat (first | apply Kd.za6 | apply Kd.za7 | apply Kd.za9)); exact (Kd.zaz (Kd.zaz (Kd.R_far (p := ⟨gb640, 1, none⟩) (Kd.R_far (p := ⟨gb640, 0, none⟩) (Kd.R_far (p := ⟨gb639, 1, none⟩) (Kd.R_far (p := ⟨gb639, 0, none⟩) (Kd.zbq (Kd.zbq HO637.out BK639.out (by decide)) BK640.out (by decide)) (fun _ hk => hk.1.2) (.slice Ao13 t626.length co13)) (fun _ hk => hk.1.2) (.slice Ao18 t629.length co18)) (fun _ hk => hk.2) (.slice Ao19 t632.length co19)) (fun _ hk => hk.2) (.slice Ao23 t635.length co23)) (fun _ h_ => h_.1)) (fun _ h_ => h_.1)))) k_ hk_.1), (Kd.freshB (g := gb624) (o := .cells #[.slice A0_0 l0_0.length c0_0, .slice A0_1 l0_1.length c0_1] 24 (0, 0)) (by (with_reducible repeat (first | refine zad ?_ _ | refine zae ?_ | refine zac ?_ _)); refine zay ?_ NB624_640.out _; (with_reducible repeat (first | refine zad ?_ _ | refine zae ?_ | refine zac ?_ _)); refine zay ?_ NB624_640.out _; (with_reducible repeat (first | refine zad ?_ _ | refine zae ?_ | refine zac ?_ _)); refine zay ?_ NB624_639.out _; (with_reducible repeat (first | refine zad ?_ _ | refine zae ?_ | refine zac ?_ _)); refine zay ?_ NB624_639.out _; (with_reducible repeat (first | refine zad ?_ _ | refine zae ?_ | refine zac ?_ _)); exact BK624.out) k_ hk_.1), (Kd.freshB (g := gb625) (o := .cells #[.slice A1_0 l1_0.length c1_0, .slice A1_1 l1_1.length c1_1] 24 (0, 0)) (by (with_reducible repeat (first | refine zad ?_ _ | refine zae ?_ | refine zac ?_ _)); refine zay ?_ NB625_640.out _; (with_reducible repeat (first | refine zad ?_ _ | refine zae ?_ | refine zac ?_ _)); refine zay ?_ NB625_640.out _; (with_reducible repeat (first | refine zad ?_ _ | refine zae ?_ | refine zac ?_ _)); refine zay ?_ NB625_639.out _; (with_reducible repeat (first | refine zad ?_ _ | refine zae ?_ | refine zac ?_ _)); refine zay ?_ NB625_639.out _; (with_reducible repeat (first | refine zad ?_ _ | refine zae ?_ | refine zac ?_ _)); exact BK625.out) k_ hk_.1), (Kd.freshB (g := gb639) (o := .cells #[.slice Ao13 t626.length co13, .slice Ao18 t629.length co18] 28 (0, 0)) (by (with_reducible repeat (first | refine zad ?_ _ | refine zae ?_ | refine zac ?_ _)); refine zay ?_ NB639_640.out _; (with_reducible repeat (first | refine zad ?_ _ | refine zae ?_ | refine zac ?_ _)); refine zay ?_ NB639_640.out _; (with_reducible repeat (first | refine zad ?_ _ | refine zae ?_ | refine zac ?_ _)); refine zbt (cs := #[.slice Ao13 t626.length co13, .slice none 0 0]) ?_ 1 _ rfl; (with_reducible repeat (first | refine zad ?_ _ | refine zae ?_ | refine zac ?_ _)); refine zbt (cs := #[.slice none 0 0, .slice none 0 0]) ?_ 0 _ rfl; (with_reducible repeat (first | refine zad ?_ _ | refine zae ?_ | refine zac ?_ _)); exact BK639.out) k_ hk_.1), (Kd.freshB (g := gb640) (o := .cells #[.slice Ao19 t632.length co19, .slice Ao23 t635.length co23] 40 (0, 0)) (by (with_reducible repeat (first | refine zad ?_ _ | refine zae ?_ | refine zac ?_ _)); refine zbt (cs := #[.slice Ao19 t632.length co19, .slice none 0 0]) ?_ 1 _ rfl; (with_reducible repeat (first | refine zad ?_ _ | refine zae ?_ | refine zac ?_ _)); refine zbt (cs := #[.slice none 0 0, .slice none 0 0]) ?_ 0 _ rfl; (with_reducible repeat (first | refine zad ?_ _ | refine zae ?_ | refine zac ?_ _)); refine zay ?_ NB640_639.out _; (with_reducible repeat (first | refine zad ?_ _ | refine zae ?_ | refine zac ?_ _)); refine zay ?_ NB640_639.out _; (with_reducible repeat (first | refine zad ?_ _ | refine zae ?_ | refine zac ?_ _)); exact BK640.out) k_ hk_.1)⟩)) (za (zB HB))); have n5_ := zA (Kd.zbl (Kd.zal (ok' := fun k_ => some k_ ≠ (v648 : Value).ownBlock ∧ some k_ ≠ (v651 : Value).ownBlock ∧ some k_ ≠ (.slice Ao19 t632.length co19 : Value).ownBlock ∧ some k_ ≠ (.slice Ao23 t635.length co23 : Value).ownBlock ∧ k_ ≠ gb624 ∧ k_ ≠ gb625 ∧ k_ ≠ gb639 ∧ k_ ≠ gb640) ho1 (fun k_ hk_ => ⟨hk_.2.1, hk_.2.2, (Kd.fresh' (Kd.R_lt (by (with_reducible repeat (first | apply Kd.za6 | apply Kd.za7 | apply Kd.za9)); exact (Kd.zaz (Kd.zaz (Kd.R_far (p := ⟨gb640, 1, none⟩) (Kd.R_far (p := ⟨gb640, 0, none⟩) (Kd.R_far (p := ⟨gb639, 1, none⟩) (Kd.R_far (p := ⟨gb639, 0, none⟩) (Kd.zbq (Kd.zbq HO634.out BK639.out (by decide)) BK640.out (by decide)) (fun _ hk => hk.1.2) (.slice Ao13 t626.length co13)) (fun _ hk => hk.1.2) (.slice Ao18 t629.length co18)) (fun _ hk => hk.2) (.slice Ao19 t632.length co19)) (fun _ hk => hk.2) (.slice Ao23 t635.length co23)) (fun _ h_ => h_.1)) (fun _ h_ => h_.1)))) k_ hk_.1), (Kd.fresh' (Kd.R_lt (by (with_reducible repeat (first | apply Kd.za6 | apply Kd.za7 | apply Kd.za9)); exact (Kd.zaz (Kd.zaz (Kd.R_far (p := ⟨gb640, 1, none⟩) (Kd.R_far (p := ⟨gb640, 0, none⟩) (Kd.R_far (p := ⟨gb639, 1, none⟩) (Kd.R_far (p := ⟨gb639, 0, none⟩) (Kd.zbq (Kd.zbq HO637.out BK639.out (by decide)) BK640.out (by decide)) (fun _ hk => hk.1.2) (.slice Ao13 t626.length co13)) (fun _ hk => hk.1.2) (.slice Ao18 t629.length co18)) (fun _ hk => hk.2) (.slice Ao19 t632.length co19)) (fun _ hk => hk.2) (.slice Ao23 t635.length co23)) (fun _ h_ => h_.1)) (fun _ h_ => h_.1)))) k_ hk_.1), (Kd.freshB (g := gb624) (o := .cells #[.slice A0_0 l0_0.length c0_0, .slice A0_1 l0_1.length c0_1] 24 (0, 0)) (by (with_reducible repeat (first | refine zad ?_ _ | refine zae ?_ | refine zac ?_ _)); refine zay ?_ NB624_640.out _; (with_reducible repeat (first | refine zad ?_ _ | refine zae ?_ | refine zac ?_ _)); refine zay ?_ NB624_640.out _; (with_reducible repeat (first | refine zad ?_ _ | refine zae ?_ | refine zac ?_ _)); refine zay ?_ NB624_639.out _; (with_reducible repeat (first | refine zad ?_ _ | refine zae ?_ | refine zac ?_ _)); refine zay ?_ NB624_639.out _; (with_reducible repeat (first | refine zad ?_ _ | refine zae ?_ | refine zac ?_ _)); exact BK624.out) k_ hk_.1), (Kd.freshB (g := gb625) (o := .cells #[.slice A1_0 l1_0.length c1_0, .slice A1_1 l1_1.length c1_1] 24 (0, 0)) (by (with_reducible repeat (first | refine zad ?_ _ | refine zae ?_ | refine zac ?_ _)); refine zay ?_ NB625_640.out _; (with_reducible repeat (first | refine zad ?_ _ | refine zae ?_ | refine zac ?_ _)); refine zay ?_ NB625_640.out _; (with_reducible repeat (first | refine zad ?_ _ | refine zae ?_ | refine zac ?_ _)); refine zay ?_ NB625_639.out _; (with_reducible repeat (first | refine zad ?_ _ | refine zae ?_ | refine zac ?_ _)); refine zay ?_ NB625_639.out _; (with_reducible repeat (first | refine zad ?_ _ | refine zae ?_ | refine zac ?_ _)); exact BK625.out) k_ hk_.1), (Kd.freshB (g := gb639) (o := .cells #[.slice Ao13 t626.length co13, .slice Ao18 t629.length co18] 28 (0, 0)) (by (with_reducible repeat (first | refine zad ?_ _ | refine zae ?_ | refine zac ?_ _)); refine zay ?_ NB639_640.out _; (with_reducible repeat (first | refine zad ?_ _ | refine zae ?_ | refine zac ?_ _)); refine zay ?_ NB639_640.out _; (with_reducible repeat (first | refine zad ?_ _ | refine zae ?_ | refine zac ?_ _)); refine zbt (cs := #[.slice Ao13 t626.length co13, .slice none 0 0]) ?_ 1 _ rfl; (with_reducible repeat (first | refine zad ?_ _ | refine zae ?_ | refine zac ?_ _)); refine zbt (cs := #[.slice none 0 0, .slice none 0 0]) ?_ 0 _ rfl; (with_reducible repeat (first | refine zad ?_ _ | refine zae ?_ | refine zac ?_ _)); exact BK639.out) k_ hk_.1), (Kd.freshB (g := gb640) (o := .cells #[.slice Ao19 t632.length co19, .slice Ao23 t635.length co23] 40 (0, 0)) (by (with_reducible repeat (first | refine zad ?_ _ | refine zae ?_ | refine zac ?_ _)); refine zbt (cs := #[.slice Ao19 t632.length co19, .slice none 0 0]) ?_ 1 _ rfl; (with_reducible repeat (first | refine zad ?_ _ | refine zae ?_ | refine zac ?_ _)); refine zbt (cs := #[.slice none 0 0, .slice none 0 0]) ?_ 0 _ rfl; (with_reducible repeat (first | refine zad ?_ _ | refine zae ?_ | refine zac ?_ _)); refine zay ?_ NB640_639.out _; (with_reducible repeat (first | refine zad ?_ _ | refine zae ?_ | refine zac ?_ _)); refine zay ?_ NB640_639.out _; (with_reducible repeat (first | refine zad ?_ _ | refine zae ?_ | refine zac ?_ _)); exact BK640.out) k_ hk_.1)⟩)) (za (zB HB))); have n6_ := zA (Kd.zbh (Kd.zbk (Kd.zbk (Kd.zaz (ok' := fun k_ => some k_ ≠ (v651 : Value).ownBlock) ho2 (fun _ hk_ => hk_.2)) (Kd.R_lt (by (with_reducible repeat (first | apply Kd.za6 | apply Kd.za7 | apply Kd.za9)); exact (Kd.zaz (Kd.zaz (Kd.R_far (p := ⟨gb640, 1, none⟩) (Kd.R_far (p := ⟨gb640, 0, none⟩) (Kd.R_far (p := ⟨gb639, 1, none⟩) (Kd.R_far (p := ⟨gb639, 0, none⟩) (Kd.zbq (Kd.zbq HO634.out BK639.out (by decide)) BK640.out (by decide)) (fun _ hk => hk.1.2) (.slice Ao13 t626.length co13)) (fun _ hk => hk.1.2) (.slice Ao18 t629.length co18)) (fun _ hk => hk.2) (.slice Ao19 t632.length co19)) (fun _ hk => hk.2) (.slice Ao23 t635.length co23)) (fun _ h_ => h_.1)) (fun _ h_ => h_.1))))) (Kd.R_lt (by (with_reducible repeat (first | apply Kd.za6 | apply Kd.za7 | apply Kd.za9)); exact (Kd.zaz (Kd.zaz (Kd.R_far (p := ⟨gb640, 1, none⟩) (Kd.R_far (p := ⟨gb640, 0, none⟩) (Kd.R_far (p := ⟨gb639, 1, none⟩) (Kd.R_far (p := ⟨gb639, 0, none⟩) (Kd.zbq (Kd.zbq HO637.out BK639.out (by decide)) BK640.out (by decide)) (fun _ hk => hk.1.2) (.slice Ao13 t626.length co13)) (fun _ hk => hk.1.2) (.slice Ao18 t629.length co18)) (fun _ hk => hk.2) (.slice Ao19 t632.length co19)) (fun _ hk => hk.2) (.slice Ao23 t635.length co23)) (fun _ h_ => h_.1)) (fun _ h_ => h_.1))))) (za (zB HB))); have n7_ := zA (Kd.zbh (Kd.zbk (Kd.zbk (Kd.zaz (ok' := fun k_ => some k_ ≠ (v648 : Value).ownBlock) ho3 (fun _ hk_ => hk_.2)) (Kd.R_lt (by (with_reducible repeat (first | apply Kd.za6 | apply Kd.za7 | apply Kd.za9)); exact (Kd.zaz (Kd.zaz (Kd.R_far (p := ⟨gb640, 1, none⟩) (Kd.R_far (p := ⟨gb640, 0, none⟩) (Kd.R_far (p := ⟨gb639, 1, none⟩) (Kd.R_far (p := ⟨gb639, 0, none⟩) (Kd.zbq (Kd.zbq HO634.out BK639.out (by decide)) BK640.out (by decide)) (fun _ hk => hk.1.2) (.slice Ao13 t626.length co13)) (fun _ hk => hk.1.2) (.slice Ao18 t629.length co18)) (fun _ hk => hk.2) (.slice Ao19 t632.length co19)) (fun _ hk => hk.2) (.slice Ao23 t635.length co23)) (fun _ h_ => h_.1)) (fun _ h_ => h_.1))))) (Kd.R_lt (by (with_reducible repeat (first | apply Kd.za6 | apply Kd.za7 | apply Kd.za9)); exact (Kd.zaz (Kd.zaz (Kd.R_far (p := ⟨gb640, 1, none⟩) (Kd.R_far (p := ⟨gb640, 0, none⟩) (Kd.R_far (p := ⟨gb639, 1, none⟩) (Kd.R_far (p := ⟨gb639, 0, none⟩) (Kd.zbq (Kd.zbq HO637.out BK639.out (by decide)) BK640.out (by decide)) (fun _ hk => hk.1.2) (.slice Ao13 t626.length co13)) (fun _ hk => hk.1.2) (.slice Ao18 t629.length co18)) (fun _ hk => hk.2) (.slice Ao19 t632.length co19)) (fun _ hk => hk.2) (.slice Ao23 t635.length co23)) (fun _ h_ => h_.1)) (fun _ h_ => h_.1))))) (za (zB HB))); have n8_ := zA (zaa (g := gb624) (o := .cells #[.slice A0_0 l0_0.length c0_0, .slice A0_1 l0_1.length c0_1] 24 (0, 0)) (by (with_reducible repeat (first | refine zad ?_ _ | refine zae ?_ | refine zac ?_ _)); refine zay ?_ NB624_640.out _; (with_reducible repeat (first | refine zad ?_ _ | refine zae ?_ | refine zac ?_ _)); refine zay ?_ NB624_640.out _; (with_reducible repeat (first | refine zad ?_ _ | refine zae ?_ | refine zac ?_ _)); refine zay ?_ NB624_639.out _; (with_reducible repeat (first | refine zad ?_ _ | refine zae ?_ | refine zac ?_ _)); refine zay ?_ NB624_639.out _; (with_reducible repeat (first | refine zad ?_ _ | refine zae ?_ | refine zac ?_ _)); exact BK624.out) hb); have n9_ := zA (zaa (g := gb625) (o := .cells #[.slice A1_0 l1_0.length c1_0, .slice A1_1 l1_1.length c1_1] 24 (0, 0)) (by (with_reducible repeat (first | refine zad ?_ _ | refine zae ?_ | refine zac ?_ _)); refine zay ?_ NB625_640.out _; (with_reducible repeat (first | refine zad ?_ _ | refine zae ?_ | refine zac ?_ _)); refine zay ?_ NB625_640.out _; (with_reducible repeat (first | refine zad ?_ _ | refine zae ?_ | refine zac ?_ _)); refine zay ?_ NB625_639.out _; (with_reducible repeat (first | refine zad ?_ _ | refine zae ?_ | refine zac ?_ _)); refine zay ?_ NB625_639.out _; (with_reducible repeat (first | refine zad ?_ _ | refine zae ?_ | refine zac ?_ _)); exact BK625.out) hb); have n10_ := zA (zaa (g := gb639) (o := .cells #[.slice Ao13 t626.length co13, .slice Ao18 t629.length co18] 28 (0, 0)) (by (with_reducible repeat (first | refine zad ?_ _ | refine zae ?_ | refine zac ?_ _)); refine zay ?_ NB639_640.out _; (with_reducible repeat (first | refine zad ?_ _ | refine zae ?_ | refine zac ?_ _)); refine zay ?_ NB639_640.out _; (with_reducible repeat (first | refine zad ?_ _ | refine zae ?_ | refine zac ?_ _)); refine zbt (cs := #[.slice Ao13 t626.length co13, .slice none 0 0]) ?_ 1 _ rfl; (with_reducible repeat (first | refine zad ?_ _ | refine zae ?_ | refine zac ?_ _)); refine zbt (cs := #[.slice none 0 0, .slice none 0 0]) ?_ 0 _ rfl; (with_reducible repeat (first | refine zad ?_ _ | refine zae ?_ | refine zac ?_ _)); exact BK639.out) hb); have n11_ := zA (zaa (g := gb640) (o := .cells #[.slice Ao19 t632.length co19, .slice Ao23 t635.length co23] 40 (0, 0)) (by (with_reducible repeat (first | refine zad ?_ _ | refine zae ?_ | refine zac ?_ _)); refine zbt (cs := #[.slice Ao19 t632.length co19, .slice none 0 0]) ?_ 1 _ rfl; (with_reducible repeat (first | refine zad ?_ _ | refine zae ?_ | refine zac ?_ _)); refine zbt (cs := #[.slice none 0 0, .slice none 0 0]) ?_ 0 _ rfl; (with_reducible repeat (first | refine zad ?_ _ | refine zae ?_ | refine zac ?_ _)); refine zay ?_ NB640_639.out _; (with_reducible repeat (first | refine zad ?_ _ | refine zae ?_ | refine zac ?_ _)); refine zay ?_ NB640_639.out _; (with_reducible repeat (first | refine zad ?_ _ | refine zae ?_ | refine zac ?_ _)); exact BK640.out) hb); have n12_ := zA (zaf (zB HB) hb); clear HO628 HO631 HO634 HO637 BK624 BK625 BK639 BK640 HB; have HO628 := n0_; have HO631 := n1_; have HO634 := n2_; have HO637 := n3_; have HO643 := n4_; have HO646 := n5_; have HO649 := n6_; have HO652 := n7_; have BK624 := n8_; have BK625 := n9_; have BK639 := n10_; have BK640 := n11_; have HB := n12_; clear n0_ n1_ n2_ n3_ n4_ n5_ n6_ n7_ n8_ n9_ n10_ n11_ n12_; (try clear hb); (try clear hb2); (try clear hk); (try clear hi); (try clear ho0); (try clear ho1); (try clear ho2); (try clear ho3)) | ((with_reducible refine zbj (N := 8) rfl ?_); (try (refine zcl (by rfl) ?_; dsimp only)); refine zbo ?hg (N := 8) ?hd (cs := #[.slice none 0 0, .slice none 0 0]) (t := 28) ?hr ?_; (case hd => rfl); (case hg => rfl); (case hr => first | (go_simp; done) | (go_simp; rfl)); intro gb654 hg w26 hbox hb; have n0_ := zA (Kd.zaq (Kd.zb3 (zV HO628) gb654 (Nat.le_of_eq hg.symm)) hb); have n1_ := zA (Kd.zaq (Kd.zb3 (zV HO631) gb654 (Nat.le_of_eq hg.symm)) hb); have n2_ := zA (Kd.zau (zR HO634) hb); have n3_ := zA (Kd.zau (zR HO637) hb); have n4_ := zA (Kd.zaq (Kd.zb3 (zV HO643) gb654 (Nat.le_of_eq hg.symm)) hb); have n5_ := zA (Kd.zaq (Kd.zb3 (zV HO646) gb654 (Nat.le_of_eq hg.symm)) hb); have n6_ := zA (Kd.zau (zR HO649) hb); have n7_ := zA (Kd.zau (zR HO652) hb); have n8_ := zA (zaa (g := gb624) (o := .cells #[.slice A0_0 l0_0.length c0_0, .slice A0_1 l0_1.length c0_1] 24 (0, 0)) (zK BK624) hb); have n9_ := zA (zaa (g := gb625) (o := .cells #[.slice A1_0 l1_0.length c1_0, .slice A1_1 l1_1.length c1_1] 24 (0, 0)) (zK BK625) hb); have n10_ := zA (zaa (g := gb639) (o := .cells #[.slice Ao13 t626.length co13, .slice Ao18 t629.length co18] 28 (0, 0)) (zK BK639) hb); have n11_ := zA (zaa (g := gb640) (o := .cells #[.slice Ao19 t632.length co19, .slice Ao23 t635.length co23] 40 (0, 0)) (zK BK640) hb); have n12_ := zA (zaf (zB HB) hb); have n13_ := zA (hbox); have n14_ := zA ((by rw [hg]; exact (za (zB HB)) : w.heap.size ≤ gb654)); have n15_ := zA ((by rw [hg]; exact (za (zB HB)) : w.heap.size ≤ gb654)); have n16_ := zA ((by rw [hg]; exact Nat.ne_of_lt (za2 (g := gb624) (o := .cells #[.slice A0_0 l0_0.length c0_0, .slice A0_1 l0_1.length c0_1] 24 (0, 0)) (zK BK624)) : gb624 ≠ gb654)); have n17_ := zA ((by rw [hg]; exact Nat.ne_of_gt (za2 (g := gb624) (o := .cells #[.slice A0_0 l0_0.length c0_0, .slice A0_1 l0_1.length c0_1] 24 (0, 0)) (zK BK624)) : gb654 ≠ gb624)); have n18_ := zA ((by rw [hg]; exact Nat.ne_of_lt (za2 (g := gb625) (o := .cells #[.slice A1_0 l1_0.length c1_0, .slice A1_1 l1_1.length c1_1] 24 (0, 0)) (zK BK625)) : gb625 ≠ gb654)); have n19_ := zA ((by rw [hg]; exact Nat.ne_of_gt (za2 (g := gb625) (o := .cells #[.slice A1_0 l1_0.length c1_0, .slice A1_1 l1_1.length c1_1] 24 (0, 0)) (zK BK625)) : gb654 ≠ gb625)); have n20_ := zA ((by rw [hg]; exact Nat.ne_of_lt (za2 (g := gb639) (o := .cells #[.slice Ao13 t626.length co13, .slice Ao18 t629.length co18] 28 (0, 0)) (zK BK639)) : gb639 ≠ gb654)); have n21_ := zA ((by rw [hg]; exact Nat.ne_of_gt (za2 (g := gb639) (o := .cells #[.slice Ao13 t626.length co13, .slice Ao18 t629.length co18] 28 (0, 0)) (zK BK639)) : gb654 ≠ gb639)); have n22_ := zA ((by rw [hg]; exact Nat.ne_of_lt (za2 (g := gb640) (o := .cells #[.slice Ao19 t632.length co19, .slice Ao23 t635.length co23] 40 (0, 0)) (zK BK640)) : gb640 ≠ gb654)); have n23_ := zA ((by rw [hg]; exact Nat.ne_of_gt (za2 (g := gb640) (o := .cells #[.slice Ao19 t632.length co19, .slice Ao23 t635.length co23] 40 (0, 0)) (zK BK640)) : gb654 ≠ gb640)); clear HO628 HO631 HO634 HO637 HO643 HO646 HO649 HO652 BK624 BK625 BK639 BK640 HB; have HO628 := n0_; have HO631 := n1_; have HO634 := n2_; have HO637 := n3_; have HO643 := n4_; have HO646 := n5_; have HO649 := n6_; have HO652 := n7_; have BK624 := n8_; have BK625 := n9_; have BK639 := n10_; have BK640 := n11_; have HB := n12_; have BK654 := n13_; have GW654 := n14_; have GE654 := n15_; have NB624_654 := n16_; have NB654_624 := n17_; have NB625_654 := n18_; have NB654_625 := n19_; have NB639_654 := n20_; have NB654_639 := n21_; have NB640_654 := n22_; have NB654_640 := n23_; clear n0_ n1_ n2_ n3_ n4_ n5_ n6_ n7_ n8_ n9_ n10_ n11_ n12_ n13_ n14_ n15_ n16_ n17_ n18_ n19_ n20_ n21_ n22_ n23_ hb hbox hg) | ((with_reducible refine zbj (N := 9) rfl ?_); (try (refine zcl (by rfl) ?_; dsimp only)); refine zbo ?hg (N := 9) ?hd (cs := #[.slice none 0 0, .slice none 0 0]) (t := 40) ?hr ?_; (case hd => rfl); (case hg => rfl); (case hr => first | (go_simp; done) | (go_simp; rfl)); intro gb655 hg w27 hbox hb; have n0_ := zA (Kd.zaq (Kd.zb3 (zV HO628) gb655 (Nat.le_of_eq hg.symm)) hb); have n1_ := zA (Kd.zaq (Kd.zb3 (zV HO631) gb655 (Nat.le_of_eq hg.symm)) hb); have n2_ := zA (Kd.zau (zR HO634) hb); have n3_ := zA (Kd.zau (zR HO637) hb); have n4_ := zA (Kd.zaq (Kd.zb3 (zV HO643) gb655 (Nat.le_of_eq hg.symm)) hb); have n5_ := zA (Kd.zaq (Kd.zb3 (zV HO646) gb655 (Nat.le_of_eq hg.symm)) hb); have n6_ := zA (Kd.zau (zR HO649) hb); have n7_ := zA (Kd.zau (zR HO652) hb); have n8_ := zA (zaa (g := gb624) (o := .cells #[.slice A0_0 l0_0.length c0_0, .slice A0_1 l0_1.length c0_1] 24 (0, 0)) (zK BK624) hb); have n9_ := zA (zaa (g := gb625) (o := .cells #[.slice A1_0 l1_0.length c1_0, .slice A1_1 l1_1.length c1_1] 24 (0, 0)) (zK BK625) hb); have n10_ := zA (zaa (g := gb639) (o := .cells #[.slice Ao13 t626.length co13, .slice Ao18 t629.length co18] 28 (0, 0)) (zK BK639) hb); have n11_ := zA (zaa (g := gb640) (o := .cells #[.slice Ao19 t632.length co19, .slice Ao23 t635.length co23] 40 (0, 0)) (zK BK640) hb); have n12_ := zA (zaa (g := gb654) (o := .cells #[.slice none 0 0, .slice none 0 0] 28 (0, 0)) (zK BK654) hb); have n13_ := zA (zaf (zB HB) hb); have n14_ := zA (hbox); have n15_ := zA ((by rw [hg]; exact (za (zB HB)) : w.heap.size ≤ gb655)); have n16_ := zA ((by rw [hg]; exact (za (zB HB)) : w.heap.size ≤ gb655)); have n17_ := zA ((by rw [hg]; exact Nat.ne_of_lt (za2 (g := gb624) (o := .cells #[.slice A0_0 l0_0.length c0_0, .slice A0_1 l0_1.length c0_1] 24 (0, 0)) (zK BK624)) : gb624 ≠ gb655)); have n18_ := zA ((by rw [hg]; exact Nat.ne_of_gt (za2 (g := gb624) (o := .cells #[.slice A0_0 l0_0.length c0_0, .slice A0_1 l0_1.length c0_1] 24 (0, 0)) (zK BK624)) : gb655 ≠ gb624)); have n19_ := zA ((by rw [hg]; exact Nat.ne_of_lt (za2 (g := gb625) (o := .cells #[.slice A1_0 l1_0.length c1_0, .slice A1_1 l1_1.length c1_1] 24 (0, 0)) (zK BK625)) : gb625 ≠ gb655)); have n20_ := zA ((by rw [hg]; exact Nat.ne_of_gt (za2 (g := gb625) (o := .cells #[.slice A1_0 l1_0.length c1_0, .slice A1_1 l1_1.length c1_1] 24 (0, 0)) (zK BK625)) : gb655 ≠ gb625)); have n21_ := zA ((by rw [hg]; exact Nat.ne_of_lt (za2 (g := gb639) (o := .cells #[.slice Ao13 t626.length co13, .slice Ao18 t629.length co18] 28 (0, 0)) (zK BK639)) : gb639 ≠ gb655)); have n22_ := zA ((by rw [hg]; exact Nat.ne_of_gt (za2 (g := gb639) (o := .cells #[.slice Ao13 t626.length co13, .slice Ao18 t629.length co18] 28 (0, 0)) (zK BK639)) : gb655 ≠ gb639)); have n23_ := zA ((by rw [hg]; exact Nat.ne_of_lt (za2 (g := gb640) (o := .cells #[.slice Ao19 t632.length co19, .slice Ao23 t635.length co23] 40 (0, 0)) (zK BK640)) : gb640 ≠ gb655)); have n24_ := zA ((by rw [hg]; exact Nat.ne_of_gt (za2 (g := gb640) (o := .cells #[.slice Ao19 t632.length co19, .slice Ao23 t635.length co23] 40 (0, 0)) (zK BK640)) : gb655 ≠ gb640)); have n25_ := zA ((by rw [hg]; exact Nat.ne_of_lt (za2 (g := gb654) (o := .cells #[.slice none 0 0, .slice none 0 0] 28 (0, 0)) (zK BK654)) : gb654 ≠ gb655)); have n26_ := zA ((by rw [hg]; exact Nat.ne_of_gt (za2 (g := gb654) (o := .cells #[.slice none 0 0, .slice none 0 0] 28 (0, 0)) (zK BK654)) : gb655 ≠ gb654)); clear HO628 HO631 HO634 HO637 HO643 HO646 HO649 HO652 BK624 BK625 BK639 BK640 BK654 HB; have HO628 := n0_; have HO631 := n1_; have HO634 := n2_; have HO637 := n3_; have HO643 := n4_; have HO646 := n5_; have HO649 := n6_; have HO652 := n7_; have BK624 := n8_; have BK625 := n9_; have BK639 := n10_; have BK640 := n11_; have BK654 := n12_; have HB := n13_; have BK655 := n14_; have GW655 := n15_; have GE655 := n16_; have NB624_655 := n17_; have NB655_624 := n18_; have NB625_655 := n19_; have NB655_625 := n20_; have NB639_655 := n21_; have NB655_639 := n22_; have NB640_655 := n23_; have NB655_640 := n24_; have NB654_655 := n25_; have NB655_654 := n26_; clear n0_ n1_ n2_ n3_ n4_ n5_ n6_ n7_ n8_ n9_ n10_ n11_ n12_ n13_ n14_ n15_ n16_ n17_ n18_ n19_ n20_ n21_ n22_ n23_ n24_ n25_ n26_ hb hbox hg; obtain ⟨Ao28, co28, eo28⟩ := Kd.zbp HO643.out; subst eo28; have hnb29 := NB654_624.out; have hnc29 := NB624_654.out; have hnb30 := NB654_625.out; have hnc30 := NB625_654.out; have hnb31 := NB654_639.out; have hnc31 := NB639_654.out; have hnb32 := NB654_640.out; have hnc32 := NB640_654.out; have hnb33 := NB654_655.out; have hnc33 := NB655_654.out; have hcz34_0 : w27.cell? ⟨gb654, 0, none⟩ = some (.slice none 0 0) := (zab BK654.out 0).trans rfl; have hcz34_1 : w27.cell? ⟨gb654, 1, none⟩ = some (.slice none 0 0) := (zab BK654.out 1).trans rfl; have hfz34_0 := zao BK654.out 0; have hfz34_1 := zao BK654.out 1; obtain ⟨Ao35, co35, eo35⟩ := Kd.zbp HO646.out; subst eo35; obtain ⟨Ao36, co36, eo36⟩ := Kd.zbn HO649.out; subst eo36; have hnb37 := NB655_624.out; have hnc37 := NB624_655.out; have hnb38 := NB655_625.out; have hnc38 := NB625_655.out; have hnb39 := NB655_639.out; have hnc39 := NB639_655.out; have hnb40 := NB655_640.out; have hnc40 := NB640_655.out; have hcz41_0 : w27.cell? ⟨gb655, 0, none⟩ = some (.slice none 0 0) := (zab BK655.out 0).trans rfl; have hcz41_1 : w27.cell? ⟨gb655, 1, none⟩ = some (.slice none 0 0) := (zab BK655.out 1).trans rfl; have hfz41_0 := zao BK655.out 0; have hfz41_1 := zao BK655.out 1; obtain ⟨Ao42, co42, eo42⟩ := Kd.zbn HO652.out; subst eo42))
 (try simp only [Act.put, zs1, zs2, zs3])
 go_cut [34] (fun v34 wc => ∃ (kq : Nat) (x34_4 : Bool), v34 = .bool x34_4 ∧ Aside0 (zah.j0 kq x34_4 t626 t629 t632 t635 t641 t644 t647 t650 = some r) ∧ Aside0 (kq ≤ k) ∧ Aside0 (Kd.V (Kd.int .u64) 57 wc w.heap.size (fun k_ => some k_ ≠ ((.slice Ao19 t632.length co19) : Value).ownBlock ∧ some k_ ≠ ((.slice Ao23 t635.length co23) : Value).ownBlock ∧ some k_ ≠ ((.slice Ao36 t647.length co36) : Value).ownBlock ∧ some k_ ≠ ((.slice Ao42 t650.length co42) : Value).ownBlock ∧ k_ ≠ gb624 ∧ k_ ≠ gb625 ∧ k_ ≠ gb639 ∧ k_ ≠ gb640 ∧ k_ ≠ gb654 ∧ k_ ≠ gb655) (.slice Ao13 t626.length co13) t626) ∧ Aside0 (Kd.V (Kd.int .u64) 57 wc w.heap.size (fun k_ => some k_ ≠ ((.slice Ao19 t632.length co19) : Value).ownBlock ∧ some k_ ≠ ((.slice Ao23 t635.length co23) : Value).ownBlock ∧ some k_ ≠ ((.slice Ao36 t647.length co36) : Value).ownBlock ∧ some k_ ≠ ((.slice Ao42 t650.length co42) : Value).ownBlock ∧ k_ ≠ gb624 ∧ k_ ≠ gb625 ∧ k_ ≠ gb639 ∧ k_ ≠ gb640 ∧ k_ ≠ gb654 ∧ k_ ≠ gb655) (.slice Ao18 t629.length co18) t629) ∧ Aside0 (Kd.R (Kd.int .i64) 3 wc w.heap.size (fun k_ => some k_ ≠ ((.slice Ao23 t635.length co23) : Value).ownBlock ∧ some k_ ≠ ((.slice Ao36 t647.length co36) : Value).ownBlock ∧ some k_ ≠ ((.slice Ao42 t650.length co42) : Value).ownBlock) (.slice Ao19 t632.length co19) t632) ∧ Aside0 (Kd.R (Kd.int .i64) 3 wc w.heap.size (fun k_ => some k_ ≠ ((.slice Ao19 t632.length co19) : Value).ownBlock ∧ some k_ ≠ ((.slice Ao36 t647.length co36) : Value).ownBlock ∧ some k_ ≠ ((.slice Ao42 t650.length co42) : Value).ownBlock) (.slice Ao23 t635.length co23) t635) ∧ Aside0 (Kd.V (Kd.int .u64) 57 wc w.heap.size (fun k_ => some k_ ≠ ((.slice Ao19 t632.length co19) : Value).ownBlock ∧ some k_ ≠ ((.slice Ao23 t635.length co23) : Value).ownBlock ∧ some k_ ≠ ((.slice Ao36 t647.length co36) : Value).ownBlock ∧ some k_ ≠ ((.slice Ao42 t650.length co42) : Value).ownBlock ∧ k_ ≠ gb624 ∧ k_ ≠ gb625 ∧ k_ ≠ gb639 ∧ k_ ≠ gb640 ∧ k_ ≠ gb654 ∧ k_ ≠ gb655) (.slice Ao28 t641.length co28) t641) ∧ Aside0 (Kd.V (Kd.int .u64) 57 wc w.heap.size (fun k_ => some k_ ≠ ((.slice Ao19 t632.length co19) : Value).ownBlock ∧ some k_ ≠ ((.slice Ao23 t635.length co23) : Value).ownBlock ∧ some k_ ≠ ((.slice Ao36 t647.length co36) : Value).ownBlock ∧ some k_ ≠ ((.slice Ao42 t650.length co42) : Value).ownBlock ∧ k_ ≠ gb624 ∧ k_ ≠ gb625 ∧ k_ ≠ gb639 ∧ k_ ≠ gb640 ∧ k_ ≠ gb654 ∧ k_ ≠ gb655) (.slice Ao35 t644.length co35) t644) ∧ Aside0 (Kd.R (Kd.int .i64) 3 wc w.heap.size (fun k_ => some k_ ≠ ((.slice Ao19 t632.length co19) : Value).ownBlock ∧ some k_ ≠ ((.slice Ao23 t635.length co23) : Value).ownBlock ∧ some k_ ≠ ((.slice Ao42 t650.length co42) : Value).ownBlock) (.slice Ao36 t647.length co36) t647) ∧ Aside0 (Kd.R (Kd.int .i64) 3 wc w.heap.size (fun k_ => some k_ ≠ ((.slice Ao19 t632.length co19) : Value).ownBlock ∧ some k_ ≠ ((.slice Ao23 t635.length co23) : Value).ownBlock ∧ some k_ ≠ ((.slice Ao36 t647.length co36) : Value).ownBlock) (.slice Ao42 t650.length co42) t650) ∧ Aside0 (wc.heap[gb624]? = some (.cells #[(.slice A0_0 l0_0.length c0_0), (.slice A0_1 l0_1.length c0_1)] 24 (0, 0))) ∧ Aside0 (wc.heap[gb625]? = some (.cells #[(.slice A1_0 l1_0.length c1_0), (.slice A1_1 l1_1.length c1_1)] 24 (0, 0))) ∧ Aside0 (wc.heap[gb639]? = some (.cells #[(.slice Ao13 t626.length co13), (.slice Ao18 t629.length co18)] 28 (0, 0))) ∧ Aside0 (wc.heap[gb640]? = some (.cells #[(.slice Ao19 t632.length co19), (.slice Ao23 t635.length co23)] 40 (0, 0))) ∧ Aside0 (wc.heap[gb654]? = some (.cells #[(.slice Ao28 t641.length co28), (.slice Ao35 t644.length co35)] 28 (0, 0))) ∧ Aside0 (wc.heap[gb655]? = some (.cells #[(.slice Ao36 t647.length co36), (.slice Ao42 t650.length co42)] 40 (0, 0))) ∧ Aside0 (Below w.heap.size w wc))
 case first =>
  have H := HC5.out
  clear HC5
  replace H := zO H
  obtain ⟨t656, A430, H⟩ := H
  try dsimp only at H
  have A43 := zA A430
  clear A430
  by_cases c44 : t656 = true
  ·
   subst c44
   rw [if_pos rfl] at H
   by_cases c45 : t638 = true
   ·
    subst c45
    rw [if_pos rfl] at H
    have H' := zA H
    clear H
    go_wp2_with (first | ((with_reducible refine zaj (f := 14) rfl ?_); refine zba (some 25) rfl rfl Tryd.func14 (by kernel_rfl) rfl #[] rfl (zE) ?_; (with_reducible refine (zbr.calls k  true _ ?side1 A43.out).mono ?_); (case side1 => exact Glob.below HG.out (zB HB)); rintro e w46 ⟨rfl, hb⟩; refine ⟨_, rfl, ?_⟩; have n0_ := zA (Kd.zaq (by (with_reducible repeat (first | apply Kd.zbc | apply Kd.zbb | apply Kd.zbe)); exact (Kd.zal (Kd.zal (Kd.V_far (p := ⟨gb655, 1, none⟩) (Kd.V_far (p := ⟨gb655, 0, none⟩) (Kd.V_far (p := ⟨gb654, 1, none⟩) (Kd.V_far (p := ⟨gb654, 0, none⟩) (Kd.zal (Kd.zal HO628.out (fun k_ hk => (⟨hk, hk.1.2⟩ : _ ∧ k_ ≠ gb654))) (fun k_ hk => (⟨hk, hk.1.2⟩ : _ ∧ k_ ≠ gb655))) (fun _ hk => hk.1.2) (.slice Ao28 t641.length co28)) (fun _ hk => hk.1.2) (.slice Ao35 t644.length co35)) (fun _ hk => hk.2) (.slice Ao36 t647.length co36)) (fun _ hk => hk.2) (.slice Ao42 t650.length co42)) (fun _ h_ => h_.1)) (fun _ h_ => h_.1))) hb); have n1_ := zA (Kd.zaq (by (with_reducible repeat (first | apply Kd.zbc | apply Kd.zbb | apply Kd.zbe)); exact (Kd.zal (Kd.zal (Kd.V_far (p := ⟨gb655, 1, none⟩) (Kd.V_far (p := ⟨gb655, 0, none⟩) (Kd.V_far (p := ⟨gb654, 1, none⟩) (Kd.V_far (p := ⟨gb654, 0, none⟩) (Kd.zal (Kd.zal HO631.out (fun k_ hk => (⟨hk, hk.1.2⟩ : _ ∧ k_ ≠ gb654))) (fun k_ hk => (⟨hk, hk.1.2⟩ : _ ∧ k_ ≠ gb655))) (fun _ hk => hk.1.2) (.slice Ao28 t641.length co28)) (fun _ hk => hk.1.2) (.slice Ao35 t644.length co35)) (fun _ hk => hk.2) (.slice Ao36 t647.length co36)) (fun _ hk => hk.2) (.slice Ao42 t650.length co42)) (fun _ h_ => h_.1)) (fun _ h_ => h_.1))) hb); have n2_ := zA (Kd.zau (by (with_reducible repeat (first | apply Kd.za6 | apply Kd.za7 | apply Kd.za9)); exact (Kd.zaz (Kd.zaz (Kd.R_far (p := ⟨gb655, 1, none⟩) (Kd.R_far (p := ⟨gb655, 0, none⟩) (Kd.R_far (p := ⟨gb654, 1, none⟩) (Kd.R_far (p := ⟨gb654, 0, none⟩) (Kd.zbq (Kd.zbq HO634.out BK654.out (by decide)) BK655.out (by decide)) (fun _ hk => hk.1.2) (.slice Ao28 t641.length co28)) (fun _ hk => hk.1.2) (.slice Ao35 t644.length co35)) (fun _ hk => hk.2) (.slice Ao36 t647.length co36)) (fun _ hk => hk.2) (.slice Ao42 t650.length co42)) (fun _ h_ => h_.1)) (fun _ h_ => h_.1))) hb); have n3_ := zA (Kd.zau (by (with_reducible repeat (first | apply Kd.za6 | apply Kd.za7 | apply Kd.za9)); exact (Kd.zaz (Kd.zaz (Kd.R_far (p := ⟨gb655, 1, none⟩) (Kd.R_far (p := ⟨gb655, 0, none⟩) (Kd.R_far (p := ⟨gb654, 1, none⟩) (Kd.R_far (p := ⟨gb654, 0, none⟩) (Kd.zbq (Kd.zbq HO637.out BK654.out (by decide)) BK655.out (by decide)) (fun _ hk => hk.1.2) (.slice Ao28 t641.length co28)) (fun _ hk => hk.1.2) (.slice Ao35 t644.length co35)) (fun _ hk => hk.2) (.slice Ao36 t647.length co36)) (fun _ hk => hk.2) (.slice Ao42 t650.length co42)) (fun _ h_ => h_.1)) (fun _ h_ => h_.1))) hb); have n4_ := zA (Kd.zaq (by (with_reducible repeat (first | apply Kd.zbc | apply Kd.zbb | apply Kd.zbe)); exact (Kd.zal (Kd.zal (Kd.V_far (p := ⟨gb655, 1, none⟩) (Kd.V_far (p := ⟨gb655, 0, none⟩) (Kd.V_far (p := ⟨gb654, 1, none⟩) (Kd.V_far (p := ⟨gb654, 0, none⟩) (Kd.zal (Kd.zal HO643.out (fun k_ hk => (⟨hk, hk.1.2⟩ : _ ∧ k_ ≠ gb654))) (fun k_ hk => (⟨hk, hk.1.2⟩ : _ ∧ k_ ≠ gb655))) (fun _ hk => hk.1.2) (.slice Ao28 t641.length co28)) (fun _ hk => hk.1.2) (.slice Ao35 t644.length co35)) (fun _ hk => hk.2) (.slice Ao36 t647.length co36)) (fun _ hk => hk.2) (.slice Ao42 t650.length co42)) (fun _ h_ => h_.1)) (fun _ h_ => h_.1))) hb); have n5_ := zA (Kd.zaq (by (with_reducible repeat (first | apply Kd.zbc | apply Kd.zbb | apply Kd.zbe)); exact (Kd.zal (Kd.zal (Kd.V_far (p := ⟨gb655, 1, none⟩) (Kd.V_far (p := ⟨gb655, 0, none⟩) (Kd.V_far (p := ⟨gb654, 1, none⟩) (Kd.V_far (p := ⟨gb654, 0, none⟩) (Kd.zal (Kd.zal HO646.out (fun k_ hk => (⟨hk, hk.1.2⟩ : _ ∧ k_ ≠ gb654))) (fun k_ hk => (⟨hk, hk.1.2⟩ : _ ∧ k_ ≠ gb655))) (fun _ hk => hk.1.2) (.slice Ao28 t641.length co28)) (fun _ hk => hk.1.2) (.slice Ao35 t644.length co35)) (fun _ hk => hk.2) (.slice Ao36 t647.length co36)) (fun _ hk => hk.2) (.slice Ao42 t650.length co42)) (fun _ h_ => h_.1)) (fun _ h_ => h_.1))) hb); have n6_ := zA (Kd.zau (by (with_reducible repeat (first | apply Kd.za6 | apply Kd.za7 | apply Kd.za9)); exact (Kd.zaz (Kd.zaz (Kd.R_far (p := ⟨gb655, 1, none⟩) (Kd.R_far (p := ⟨gb655, 0, none⟩) (Kd.R_far (p := ⟨gb654, 1, none⟩) (Kd.R_far (p := ⟨gb654, 0, none⟩) (Kd.zbq (Kd.zbq HO649.out BK654.out (by decide)) BK655.out (by decide)) (fun _ hk => hk.1.2) (.slice Ao28 t641.length co28)) (fun _ hk => hk.1.2) (.slice Ao35 t644.length co35)) (fun _ hk => hk.2) (.slice Ao36 t647.length co36)) (fun _ hk => hk.2) (.slice Ao42 t650.length co42)) (fun _ h_ => h_.1)) (fun _ h_ => h_.1))) hb); have n7_ := zA (Kd.zau (by (with_reducible repeat (first | apply Kd.za6 | apply Kd.za7 | apply Kd.za9)); exact (Kd.zaz (Kd.zaz (Kd.R_far (p := ⟨gb655, 1, none⟩) (Kd.R_far (p := ⟨gb655, 0, none⟩) (Kd.R_far (p := ⟨gb654, 1, none⟩) (Kd.R_far (p := ⟨gb654, 0, none⟩) (Kd.zbq (Kd.zbq HO652.out BK654.out (by decide)) BK655.out (by decide)) (fun _ hk => hk.1.2) (.slice Ao28 t641.length co28)) (fun _ hk => hk.1.2) (.slice Ao35 t644.length co35)) (fun _ hk => hk.2) (.slice Ao36 t647.length co36)) (fun _ hk => hk.2) (.slice Ao42 t650.length co42)) (fun _ h_ => h_.1)) (fun _ h_ => h_.1))) hb); have n8_ := zA (zaa (g := gb624) (o := .cells #[.slice A0_0 l0_0.length c0_0, .slice A0_1 l0_1.length c0_1] 24 (0, 0)) (by (with_reducible repeat (first | refine zad ?_ _ | refine zae ?_ | refine zac ?_ _)); refine zay ?_ NB624_655.out _; (with_reducible repeat (first | refine zad ?_ _ | refine zae ?_ | refine zac ?_ _)); refine zay ?_ NB624_655.out _; (with_reducible repeat (first | refine zad ?_ _ | refine zae ?_ | refine zac ?_ _)); refine zay ?_ NB624_654.out _; (with_reducible repeat (first | refine zad ?_ _ | refine zae ?_ | refine zac ?_ _)); refine zay ?_ NB624_654.out _; (with_reducible repeat (first | refine zad ?_ _ | refine zae ?_ | refine zac ?_ _)); exact BK624.out) hb); have n9_ := zA (zaa (g := gb625) (o := .cells #[.slice A1_0 l1_0.length c1_0, .slice A1_1 l1_1.length c1_1] 24 (0, 0)) (by (with_reducible repeat (first | refine zad ?_ _ | refine zae ?_ | refine zac ?_ _)); refine zay ?_ NB625_655.out _; (with_reducible repeat (first | refine zad ?_ _ | refine zae ?_ | refine zac ?_ _)); refine zay ?_ NB625_655.out _; (with_reducible repeat (first | refine zad ?_ _ | refine zae ?_ | refine zac ?_ _)); refine zay ?_ NB625_654.out _; (with_reducible repeat (first | refine zad ?_ _ | refine zae ?_ | refine zac ?_ _)); refine zay ?_ NB625_654.out _; (with_reducible repeat (first | refine zad ?_ _ | refine zae ?_ | refine zac ?_ _)); exact BK625.out) hb); have n10_ := zA (zaa (g := gb639) (o := .cells #[.slice Ao13 t626.length co13, .slice Ao18 t629.length co18] 28 (0, 0)) (by (with_reducible repeat (first | refine zad ?_ _ | refine zae ?_ | refine zac ?_ _)); refine zay ?_ NB639_655.out _; (with_reducible repeat (first | refine zad ?_ _ | refine zae ?_ | refine zac ?_ _)); refine zay ?_ NB639_655.out _; (with_reducible repeat (first | refine zad ?_ _ | refine zae ?_ | refine zac ?_ _)); refine zay ?_ NB639_654.out _; (with_reducible repeat (first | refine zad ?_ _ | refine zae ?_ | refine zac ?_ _)); refine zay ?_ NB639_654.out _; (with_reducible repeat (first | refine zad ?_ _ | refine zae ?_ | refine zac ?_ _)); exact BK639.out) hb); have n11_ := zA (zaa (g := gb640) (o := .cells #[.slice Ao19 t632.length co19, .slice Ao23 t635.length co23] 40 (0, 0)) (by (with_reducible repeat (first | refine zad ?_ _ | refine zae ?_ | refine zac ?_ _)); refine zay ?_ NB640_655.out _; (with_reducible repeat (first | refine zad ?_ _ | refine zae ?_ | refine zac ?_ _)); refine zay ?_ NB640_655.out _; (with_reducible repeat (first | refine zad ?_ _ | refine zae ?_ | refine zac ?_ _)); refine zay ?_ NB640_654.out _; (with_reducible repeat (first | refine zad ?_ _ | refine zae ?_ | refine zac ?_ _)); refine zay ?_ NB640_654.out _; (with_reducible repeat (first | refine zad ?_ _ | refine zae ?_ | refine zac ?_ _)); exact BK640.out) hb); have n12_ := zA (zaa (g := gb654) (o := .cells #[.slice Ao28 t641.length co28, .slice Ao35 t644.length co35] 28 (0, 0)) (by (with_reducible repeat (first | refine zad ?_ _ | refine zae ?_ | refine zac ?_ _)); refine zay ?_ NB654_655.out _; (with_reducible repeat (first | refine zad ?_ _ | refine zae ?_ | refine zac ?_ _)); refine zay ?_ NB654_655.out _; (with_reducible repeat (first | refine zad ?_ _ | refine zae ?_ | refine zac ?_ _)); refine zbt (cs := #[.slice Ao28 t641.length co28, .slice none 0 0]) ?_ 1 _ rfl; (with_reducible repeat (first | refine zad ?_ _ | refine zae ?_ | refine zac ?_ _)); refine zbt (cs := #[.slice none 0 0, .slice none 0 0]) ?_ 0 _ rfl; (with_reducible repeat (first | refine zad ?_ _ | refine zae ?_ | refine zac ?_ _)); exact BK654.out) hb); have n13_ := zA (zaa (g := gb655) (o := .cells #[.slice Ao36 t647.length co36, .slice Ao42 t650.length co42] 40 (0, 0)) (by (with_reducible repeat (first | refine zad ?_ _ | refine zae ?_ | refine zac ?_ _)); refine zbt (cs := #[.slice Ao36 t647.length co36, .slice none 0 0]) ?_ 1 _ rfl; (with_reducible repeat (first | refine zad ?_ _ | refine zae ?_ | refine zac ?_ _)); refine zbt (cs := #[.slice none 0 0, .slice none 0 0]) ?_ 0 _ rfl; (with_reducible repeat (first | refine zad ?_ _ | refine zae ?_ | refine zac ?_ _)); refine zay ?_ NB655_654.out _; (with_reducible repeat (first | refine zad ?_ _ | refine zae ?_ | refine zac ?_ _)); refine zay ?_ NB655_654.out _; (with_reducible repeat (first | refine zad ?_ _ | refine zae ?_ | refine zac ?_ _)); exact BK655.out) hb); have n14_ := zA (zaf (zB HB) hb); clear HO628 HO631 HO634 HO637 HO643 HO646 HO649 HO652 BK624 BK625 BK639 BK640 BK654 BK655 HB; have HO628 := n0_; have HO631 := n1_; have HO634 := n2_; have HO637 := n3_; have HO643 := n4_; have HO646 := n5_; have HO649 := n6_; have HO652 := n7_; have BK624 := n8_; have BK625 := n9_; have BK639 := n10_; have BK640 := n11_; have BK654 := n12_; have BK655 := n13_; have HB := n14_; clear n0_ n1_ n2_ n3_ n4_ n5_ n6_ n7_ n8_ n9_ n10_ n11_ n12_ n13_ n14_; (try clear hb); (try clear hb2); (try clear hk); (try clear hi)))
    go_meet
    case rel => exact ⟨_, (!t653), (zF), H', ⟨by first | omega | exact Nat.le_refl _⟩, ⟨by (with_reducible repeat (first | apply Kd.zbc | apply Kd.zbb | apply Kd.zbe)); exact Kd.zal HO628.out (fun _ hk => ⟨hk.1.1.1.1.1.1.1, ⟨hk.1.1.1.1.1.1.2.1, ⟨hk.1.1.1.2, ⟨hk.1.1.2, ⟨hk.1.1.1.1.1.1.2.2.1, ⟨hk.1.1.1.1.1.1.2.2.2, ⟨hk.1.1.1.1.1.2, ⟨hk.1.1.1.1.2, ⟨hk.1.2, hk.2⟩⟩⟩⟩⟩⟩⟩⟩⟩)⟩, ⟨by (with_reducible repeat (first | apply Kd.zbc | apply Kd.zbb | apply Kd.zbe)); exact Kd.zal HO631.out (fun _ hk => ⟨hk.1.1.1.1.1.1.1, ⟨hk.1.1.1.1.1.1.2.1, ⟨hk.1.1.1.2, ⟨hk.1.1.2, ⟨hk.1.1.1.1.1.1.2.2.1, ⟨hk.1.1.1.1.1.1.2.2.2, ⟨hk.1.1.1.1.1.2, ⟨hk.1.1.1.1.2, ⟨hk.1.2, hk.2⟩⟩⟩⟩⟩⟩⟩⟩⟩)⟩, ⟨by (with_reducible repeat (first | apply Kd.za6 | apply Kd.za7 | apply Kd.za9)); exact Kd.zaz HO634.out (fun _ hk => ⟨hk.1.1, ⟨hk.1.2, hk.2⟩⟩)⟩, ⟨by (with_reducible repeat (first | apply Kd.za6 | apply Kd.za7 | apply Kd.za9)); exact Kd.zaz HO637.out (fun _ hk => ⟨hk.1.1, ⟨hk.1.2, hk.2⟩⟩)⟩, ⟨by (with_reducible repeat (first | apply Kd.zbc | apply Kd.zbb | apply Kd.zbe)); exact Kd.zal HO643.out (fun _ hk => ⟨hk.1.1.2.2.1, ⟨hk.1.1.2.2.2.1, ⟨hk.1.1.1, ⟨hk.1.1.2.1, ⟨hk.1.1.2.2.2.2.1, ⟨hk.1.1.2.2.2.2.2.1, ⟨hk.1.1.2.2.2.2.2.2.1, ⟨hk.1.1.2.2.2.2.2.2.2, ⟨hk.1.2, hk.2⟩⟩⟩⟩⟩⟩⟩⟩⟩)⟩, ⟨by (with_reducible repeat (first | apply Kd.zbc | apply Kd.zbb | apply Kd.zbe)); exact Kd.zal HO646.out (fun _ hk => ⟨hk.1.1.2.2.1, ⟨hk.1.1.2.2.2.1, ⟨hk.1.1.1, ⟨hk.1.1.2.1, ⟨hk.1.1.2.2.2.2.1, ⟨hk.1.1.2.2.2.2.2.1, ⟨hk.1.1.2.2.2.2.2.2.1, ⟨hk.1.1.2.2.2.2.2.2.2, ⟨hk.1.2, hk.2⟩⟩⟩⟩⟩⟩⟩⟩⟩)⟩, ⟨by (with_reducible repeat (first | apply Kd.za6 | apply Kd.za7 | apply Kd.za9)); exact Kd.zaz HO649.out (fun _ hk => ⟨hk.1.2, ⟨hk.2, hk.1.1⟩⟩)⟩, ⟨by (with_reducible repeat (first | apply Kd.za6 | apply Kd.za7 | apply Kd.za9)); exact Kd.zaz HO652.out (fun _ hk => ⟨hk.1.2, ⟨hk.2, hk.1.1⟩⟩)⟩, ⟨zK BK624⟩, ⟨zK BK625⟩, ⟨zK BK639⟩, ⟨zK BK640⟩, ⟨zK BK654⟩, ⟨zK BK655⟩, ⟨zB HB⟩⟩
   ·
    replace c45 := Bool.eq_false_iff.mpr c45
    subst c45
    rw [if_neg (show ¬ (false = true) by decide)] at H
    have H' := zA H
    clear H
    go_wp2_with (first | ((with_reducible refine zaj (f := 14) rfl ?_); refine zba (some 25) rfl rfl Tryd.func14 (by kernel_rfl) rfl #[] rfl (zE) ?_; (with_reducible refine (zbr.calls k  true _ ?side1 A43.out).mono ?_); (case side1 => exact Glob.below HG.out (zB HB)); rintro e w47 ⟨rfl, hb⟩; refine ⟨_, rfl, ?_⟩; have n0_ := zA (Kd.zaq (by (with_reducible repeat (first | apply Kd.zbc | apply Kd.zbb | apply Kd.zbe)); exact (Kd.zal (Kd.zal (Kd.V_far (p := ⟨gb655, 1, none⟩) (Kd.V_far (p := ⟨gb655, 0, none⟩) (Kd.V_far (p := ⟨gb654, 1, none⟩) (Kd.V_far (p := ⟨gb654, 0, none⟩) (Kd.zal (Kd.zal HO628.out (fun k_ hk => (⟨hk, hk.1.2⟩ : _ ∧ k_ ≠ gb654))) (fun k_ hk => (⟨hk, hk.1.2⟩ : _ ∧ k_ ≠ gb655))) (fun _ hk => hk.1.2) (.slice Ao28 t641.length co28)) (fun _ hk => hk.1.2) (.slice Ao35 t644.length co35)) (fun _ hk => hk.2) (.slice Ao36 t647.length co36)) (fun _ hk => hk.2) (.slice Ao42 t650.length co42)) (fun _ h_ => h_.1)) (fun _ h_ => h_.1))) hb); have n1_ := zA (Kd.zaq (by (with_reducible repeat (first | apply Kd.zbc | apply Kd.zbb | apply Kd.zbe)); exact (Kd.zal (Kd.zal (Kd.V_far (p := ⟨gb655, 1, none⟩) (Kd.V_far (p := ⟨gb655, 0, none⟩) (Kd.V_far (p := ⟨gb654, 1, none⟩) (Kd.V_far (p := ⟨gb654, 0, none⟩) (Kd.zal (Kd.zal HO631.out (fun k_ hk => (⟨hk, hk.1.2⟩ : _ ∧ k_ ≠ gb654))) (fun k_ hk => (⟨hk, hk.1.2⟩ : _ ∧ k_ ≠ gb655))) (fun _ hk => hk.1.2) (.slice Ao28 t641.length co28)) (fun _ hk => hk.1.2) (.slice Ao35 t644.length co35)) (fun _ hk => hk.2) (.slice Ao36 t647.length co36)) (fun _ hk => hk.2) (.slice Ao42 t650.length co42)) (fun _ h_ => h_.1)) (fun _ h_ => h_.1))) hb); have n2_ := zA (Kd.zau (by (with_reducible repeat (first | apply Kd.za6 | apply Kd.za7 | apply Kd.za9)); exact (Kd.zaz (Kd.zaz (Kd.R_far (p := ⟨gb655, 1, none⟩) (Kd.R_far (p := ⟨gb655, 0, none⟩) (Kd.R_far (p := ⟨gb654, 1, none⟩) (Kd.R_far (p := ⟨gb654, 0, none⟩) (Kd.zbq (Kd.zbq HO634.out BK654.out (by decide)) BK655.out (by decide)) (fun _ hk => hk.1.2) (.slice Ao28 t641.length co28)) (fun _ hk => hk.1.2) (.slice Ao35 t644.length co35)) (fun _ hk => hk.2) (.slice Ao36 t647.length co36)) (fun _ hk => hk.2) (.slice Ao42 t650.length co42)) (fun _ h_ => h_.1)) (fun _ h_ => h_.1))) hb); have n3_ := zA (Kd.zau (by (with_reducible repeat (first | apply Kd.za6 | apply Kd.za7 | apply Kd.za9)); exact (Kd.zaz (Kd.zaz (Kd.R_far (p := ⟨gb655, 1, none⟩) (Kd.R_far (p := ⟨gb655, 0, none⟩) (Kd.R_far (p := ⟨gb654, 1, none⟩) (Kd.R_far (p := ⟨gb654, 0, none⟩) (Kd.zbq (Kd.zbq HO637.out BK654.out (by decide)) BK655.out (by decide)) (fun _ hk => hk.1.2) (.slice Ao28 t641.length co28)) (fun _ hk => hk.1.2) (.slice Ao35 t644.length co35)) (fun _ hk => hk.2) (.slice Ao36 t647.length co36)) (fun _ hk => hk.2) (.slice Ao42 t650.length co42)) (fun _ h_ => h_.1)) (fun _ h_ => h_.1))) hb); have n4_ := zA (Kd.zaq (by (with_reducible repeat (first | apply Kd.zbc | apply Kd.zbb | apply Kd.zbe)); exact (Kd.zal (Kd.zal (Kd.V_far (p := ⟨gb655, 1, none⟩) (Kd.V_far (p := ⟨gb655, 0, none⟩) (Kd.V_far (p := ⟨gb654, 1, none⟩) (Kd.V_far (p := ⟨gb654, 0, none⟩) (Kd.zal (Kd.zal HO643.out (fun k_ hk => (⟨hk, hk.1.2⟩ : _ ∧ k_ ≠ gb654))) (fun k_ hk => (⟨hk, hk.1.2⟩ : _ ∧ k_ ≠ gb655))) (fun _ hk => hk.1.2) (.slice Ao28 t641.length co28)) (fun _ hk => hk.1.2) (.slice Ao35 t644.length co35)) (fun _ hk => hk.2) (.slice Ao36 t647.length co36)) (fun _ hk => hk.2) (.slice Ao42 t650.length co42)) (fun _ h_ => h_.1)) (fun _ h_ => h_.1))) hb); have n5_ := zA (Kd.zaq (by (with_reducible repeat (first | apply Kd.zbc | apply Kd.zbb | apply Kd.zbe)); exact (Kd.zal (Kd.zal (Kd.V_far (p := ⟨gb655, 1, none⟩) (Kd.V_far (p := ⟨gb655, 0, none⟩) (Kd.V_far (p := ⟨gb654, 1, none⟩) (Kd.V_far (p := ⟨gb654, 0, none⟩) (Kd.zal (Kd.zal HO646.out (fun k_ hk => (⟨hk, hk.1.2⟩ : _ ∧ k_ ≠ gb654))) (fun k_ hk => (⟨hk, hk.1.2⟩ : _ ∧ k_ ≠ gb655))) (fun _ hk => hk.1.2) (.slice Ao28 t641.length co28)) (fun _ hk => hk.1.2) (.slice Ao35 t644.length co35)) (fun _ hk => hk.2) (.slice Ao36 t647.length co36)) (fun _ hk => hk.2) (.slice Ao42 t650.length co42)) (fun _ h_ => h_.1)) (fun _ h_ => h_.1))) hb); have n6_ := zA (Kd.zau (by (with_reducible repeat (first | apply Kd.za6 | apply Kd.za7 | apply Kd.za9)); exact (Kd.zaz (Kd.zaz (Kd.R_far (p := ⟨gb655, 1, none⟩) (Kd.R_far (p := ⟨gb655, 0, none⟩) (Kd.R_far (p := ⟨gb654, 1, none⟩) (Kd.R_far (p := ⟨gb654, 0, none⟩) (Kd.zbq (Kd.zbq HO649.out BK654.out (by decide)) BK655.out (by decide)) (fun _ hk => hk.1.2) (.slice Ao28 t641.length co28)) (fun _ hk => hk.1.2) (.slice Ao35 t644.length co35)) (fun _ hk => hk.2) (.slice Ao36 t647.length co36)) (fun _ hk => hk.2) (.slice Ao42 t650.length co42)) (fun _ h_ => h_.1)) (fun _ h_ => h_.1))) hb); have n7_ := zA (Kd.zau (by (with_reducible repeat (first | apply Kd.za6 | apply Kd.za7 | apply Kd.za9)); exact (Kd.zaz (Kd.zaz (Kd.R_far (p := ⟨gb655, 1, none⟩) (Kd.R_far (p := ⟨gb655, 0, none⟩) (Kd.R_far (p := ⟨gb654, 1, none⟩) (Kd.R_far (p := ⟨gb654, 0, none⟩) (Kd.zbq (Kd.zbq HO652.out BK654.out (by decide)) BK655.out (by decide)) (fun _ hk => hk.1.2) (.slice Ao28 t641.length co28)) (fun _ hk => hk.1.2) (.slice Ao35 t644.length co35)) (fun _ hk => hk.2) (.slice Ao36 t647.length co36)) (fun _ hk => hk.2) (.slice Ao42 t650.length co42)) (fun _ h_ => h_.1)) (fun _ h_ => h_.1))) hb); have n8_ := zA (zaa (g := gb624) (o := .cells #[.slice A0_0 l0_0.length c0_0, .slice A0_1 l0_1.length c0_1] 24 (0, 0)) (by (with_reducible repeat (first | refine zad ?_ _ | refine zae ?_ | refine zac ?_ _)); refine zay ?_ NB624_655.out _; (with_reducible repeat (first | refine zad ?_ _ | refine zae ?_ | refine zac ?_ _)); refine zay ?_ NB624_655.out _; (with_reducible repeat (first | refine zad ?_ _ | refine zae ?_ | refine zac ?_ _)); refine zay ?_ NB624_654.out _; (with_reducible repeat (first | refine zad ?_ _ | refine zae ?_ | refine zac ?_ _)); refine zay ?_ NB624_654.out _; (with_reducible repeat (first | refine zad ?_ _ | refine zae ?_ | refine zac ?_ _)); exact BK624.out) hb); have n9_ := zA (zaa (g := gb625) (o := .cells #[.slice A1_0 l1_0.length c1_0, .slice A1_1 l1_1.length c1_1] 24 (0, 0)) (by (with_reducible repeat (first | refine zad ?_ _ | refine zae ?_ | refine zac ?_ _)); refine zay ?_ NB625_655.out _; (with_reducible repeat (first | refine zad ?_ _ | refine zae ?_ | refine zac ?_ _)); refine zay ?_ NB625_655.out _; (with_reducible repeat (first | refine zad ?_ _ | refine zae ?_ | refine zac ?_ _)); refine zay ?_ NB625_654.out _; (with_reducible repeat (first | refine zad ?_ _ | refine zae ?_ | refine zac ?_ _)); refine zay ?_ NB625_654.out _; (with_reducible repeat (first | refine zad ?_ _ | refine zae ?_ | refine zac ?_ _)); exact BK625.out) hb); have n10_ := zA (zaa (g := gb639) (o := .cells #[.slice Ao13 t626.length co13, .slice Ao18 t629.length co18] 28 (0, 0)) (by (with_reducible repeat (first | refine zad ?_ _ | refine zae ?_ | refine zac ?_ _)); refine zay ?_ NB639_655.out _; (with_reducible repeat (first | refine zad ?_ _ | refine zae ?_ | refine zac ?_ _)); refine zay ?_ NB639_655.out _; (with_reducible repeat (first | refine zad ?_ _ | refine zae ?_ | refine zac ?_ _)); refine zay ?_ NB639_654.out _; (with_reducible repeat (first | refine zad ?_ _ | refine zae ?_ | refine zac ?_ _)); refine zay ?_ NB639_654.out _; (with_reducible repeat (first | refine zad ?_ _ | refine zae ?_ | refine zac ?_ _)); exact BK639.out) hb); have n11_ := zA (zaa (g := gb640) (o := .cells #[.slice Ao19 t632.length co19, .slice Ao23 t635.length co23] 40 (0, 0)) (by (with_reducible repeat (first | refine zad ?_ _ | refine zae ?_ | refine zac ?_ _)); refine zay ?_ NB640_655.out _; (with_reducible repeat (first | refine zad ?_ _ | refine zae ?_ | refine zac ?_ _)); refine zay ?_ NB640_655.out _; (with_reducible repeat (first | refine zad ?_ _ | refine zae ?_ | refine zac ?_ _)); refine zay ?_ NB640_654.out _; (with_reducible repeat (first | refine zad ?_ _ | refine zae ?_ | refine zac ?_ _)); refine zay ?_ NB640_654.out _; (with_reducible repeat (first | refine zad ?_ _ | refine zae ?_ | refine zac ?_ _)); exact BK640.out) hb); have n12_ := zA (zaa (g := gb654) (o := .cells #[.slice Ao28 t641.length co28, .slice Ao35 t644.length co35] 28 (0, 0)) (by (with_reducible repeat (first | refine zad ?_ _ | refine zae ?_ | refine zac ?_ _)); refine zay ?_ NB654_655.out _; (with_reducible repeat (first | refine zad ?_ _ | refine zae ?_ | refine zac ?_ _)); refine zay ?_ NB654_655.out _; (with_reducible repeat (first | refine zad ?_ _ | refine zae ?_ | refine zac ?_ _)); refine zbt (cs := #[.slice Ao28 t641.length co28, .slice none 0 0]) ?_ 1 _ rfl; (with_reducible repeat (first | refine zad ?_ _ | refine zae ?_ | refine zac ?_ _)); refine zbt (cs := #[.slice none 0 0, .slice none 0 0]) ?_ 0 _ rfl; (with_reducible repeat (first | refine zad ?_ _ | refine zae ?_ | refine zac ?_ _)); exact BK654.out) hb); have n13_ := zA (zaa (g := gb655) (o := .cells #[.slice Ao36 t647.length co36, .slice Ao42 t650.length co42] 40 (0, 0)) (by (with_reducible repeat (first | refine zad ?_ _ | refine zae ?_ | refine zac ?_ _)); refine zbt (cs := #[.slice Ao36 t647.length co36, .slice none 0 0]) ?_ 1 _ rfl; (with_reducible repeat (first | refine zad ?_ _ | refine zae ?_ | refine zac ?_ _)); refine zbt (cs := #[.slice none 0 0, .slice none 0 0]) ?_ 0 _ rfl; (with_reducible repeat (first | refine zad ?_ _ | refine zae ?_ | refine zac ?_ _)); refine zay ?_ NB655_654.out _; (with_reducible repeat (first | refine zad ?_ _ | refine zae ?_ | refine zac ?_ _)); refine zay ?_ NB655_654.out _; (with_reducible repeat (first | refine zad ?_ _ | refine zae ?_ | refine zac ?_ _)); exact BK655.out) hb); have n14_ := zA (zaf (zB HB) hb); clear HO628 HO631 HO634 HO637 HO643 HO646 HO649 HO652 BK624 BK625 BK639 BK640 BK654 BK655 HB; have HO628 := n0_; have HO631 := n1_; have HO634 := n2_; have HO637 := n3_; have HO643 := n4_; have HO646 := n5_; have HO649 := n6_; have HO652 := n7_; have BK624 := n8_; have BK625 := n9_; have BK639 := n10_; have BK640 := n11_; have BK654 := n12_; have BK655 := n13_; have HB := n14_; clear n0_ n1_ n2_ n3_ n4_ n5_ n6_ n7_ n8_ n9_ n10_ n11_ n12_ n13_ n14_; (try clear hb); (try clear hb2); (try clear hk); (try clear hi)))
    go_meet
    case rel => exact ⟨_, (true), (zF), H', ⟨by first | omega | exact Nat.le_refl _⟩, ⟨by (with_reducible repeat (first | apply Kd.zbc | apply Kd.zbb | apply Kd.zbe)); exact Kd.zal HO628.out (fun _ hk => ⟨hk.1.1.1.1.1.1.1, ⟨hk.1.1.1.1.1.1.2.1, ⟨hk.1.1.1.2, ⟨hk.1.1.2, ⟨hk.1.1.1.1.1.1.2.2.1, ⟨hk.1.1.1.1.1.1.2.2.2, ⟨hk.1.1.1.1.1.2, ⟨hk.1.1.1.1.2, ⟨hk.1.2, hk.2⟩⟩⟩⟩⟩⟩⟩⟩⟩)⟩, ⟨by (with_reducible repeat (first | apply Kd.zbc | apply Kd.zbb | apply Kd.zbe)); exact Kd.zal HO631.out (fun _ hk => ⟨hk.1.1.1.1.1.1.1, ⟨hk.1.1.1.1.1.1.2.1, ⟨hk.1.1.1.2, ⟨hk.1.1.2, ⟨hk.1.1.1.1.1.1.2.2.1, ⟨hk.1.1.1.1.1.1.2.2.2, ⟨hk.1.1.1.1.1.2, ⟨hk.1.1.1.1.2, ⟨hk.1.2, hk.2⟩⟩⟩⟩⟩⟩⟩⟩⟩)⟩, ⟨by (with_reducible repeat (first | apply Kd.za6 | apply Kd.za7 | apply Kd.za9)); exact Kd.zaz HO634.out (fun _ hk => ⟨hk.1.1, ⟨hk.1.2, hk.2⟩⟩)⟩, ⟨by (with_reducible repeat (first | apply Kd.za6 | apply Kd.za7 | apply Kd.za9)); exact Kd.zaz HO637.out (fun _ hk => ⟨hk.1.1, ⟨hk.1.2, hk.2⟩⟩)⟩, ⟨by (with_reducible repeat (first | apply Kd.zbc | apply Kd.zbb | apply Kd.zbe)); exact Kd.zal HO643.out (fun _ hk => ⟨hk.1.1.2.2.1, ⟨hk.1.1.2.2.2.1, ⟨hk.1.1.1, ⟨hk.1.1.2.1, ⟨hk.1.1.2.2.2.2.1, ⟨hk.1.1.2.2.2.2.2.1, ⟨hk.1.1.2.2.2.2.2.2.1, ⟨hk.1.1.2.2.2.2.2.2.2, ⟨hk.1.2, hk.2⟩⟩⟩⟩⟩⟩⟩⟩⟩)⟩, ⟨by (with_reducible repeat (first | apply Kd.zbc | apply Kd.zbb | apply Kd.zbe)); exact Kd.zal HO646.out (fun _ hk => ⟨hk.1.1.2.2.1, ⟨hk.1.1.2.2.2.1, ⟨hk.1.1.1, ⟨hk.1.1.2.1, ⟨hk.1.1.2.2.2.2.1, ⟨hk.1.1.2.2.2.2.2.1, ⟨hk.1.1.2.2.2.2.2.2.1, ⟨hk.1.1.2.2.2.2.2.2.2, ⟨hk.1.2, hk.2⟩⟩⟩⟩⟩⟩⟩⟩⟩)⟩, ⟨by (with_reducible repeat (first | apply Kd.za6 | apply Kd.za7 | apply Kd.za9)); exact Kd.zaz HO649.out (fun _ hk => ⟨hk.1.2, ⟨hk.2, hk.1.1⟩⟩)⟩, ⟨by (with_reducible repeat (first | apply Kd.za6 | apply Kd.za7 | apply Kd.za9)); exact Kd.zaz HO652.out (fun _ hk => ⟨hk.1.2, ⟨hk.2, hk.1.1⟩⟩)⟩, ⟨zK BK624⟩, ⟨zK BK625⟩, ⟨zK BK639⟩, ⟨zK BK640⟩, ⟨zK BK654⟩, ⟨zK BK655⟩, ⟨zB HB⟩⟩
  ·
   replace c44 := Bool.eq_false_iff.mpr c44
   subst c44
   rw [if_neg (show ¬ (false = true) by decide)] at H
   have H' := zA H
   clear H
   go_wp2_with (first | ((with_reducible refine zaj (f := 14) rfl ?_); refine zba (some 25) rfl rfl Tryd.func14 (by kernel_rfl) rfl #[] rfl (zE) ?_; (with_reducible refine (zbr.calls k  false _ ?side1 A43.out).mono ?_); (case side1 => exact Glob.below HG.out (zB HB)); rintro e w48 ⟨rfl, hb⟩; refine ⟨_, rfl, ?_⟩; have n0_ := zA (Kd.zaq (by (with_reducible repeat (first | apply Kd.zbc | apply Kd.zbb | apply Kd.zbe)); exact (Kd.zal (Kd.zal (Kd.V_far (p := ⟨gb655, 1, none⟩) (Kd.V_far (p := ⟨gb655, 0, none⟩) (Kd.V_far (p := ⟨gb654, 1, none⟩) (Kd.V_far (p := ⟨gb654, 0, none⟩) (Kd.zal (Kd.zal HO628.out (fun k_ hk => (⟨hk, hk.1.2⟩ : _ ∧ k_ ≠ gb654))) (fun k_ hk => (⟨hk, hk.1.2⟩ : _ ∧ k_ ≠ gb655))) (fun _ hk => hk.1.2) (.slice Ao28 t641.length co28)) (fun _ hk => hk.1.2) (.slice Ao35 t644.length co35)) (fun _ hk => hk.2) (.slice Ao36 t647.length co36)) (fun _ hk => hk.2) (.slice Ao42 t650.length co42)) (fun _ h_ => h_.1)) (fun _ h_ => h_.1))) hb); have n1_ := zA (Kd.zaq (by (with_reducible repeat (first | apply Kd.zbc | apply Kd.zbb | apply Kd.zbe)); exact (Kd.zal (Kd.zal (Kd.V_far (p := ⟨gb655, 1, none⟩) (Kd.V_far (p := ⟨gb655, 0, none⟩) (Kd.V_far (p := ⟨gb654, 1, none⟩) (Kd.V_far (p := ⟨gb654, 0, none⟩) (Kd.zal (Kd.zal HO631.out (fun k_ hk => (⟨hk, hk.1.2⟩ : _ ∧ k_ ≠ gb654))) (fun k_ hk => (⟨hk, hk.1.2⟩ : _ ∧ k_ ≠ gb655))) (fun _ hk => hk.1.2) (.slice Ao28 t641.length co28)) (fun _ hk => hk.1.2) (.slice Ao35 t644.length co35)) (fun _ hk => hk.2) (.slice Ao36 t647.length co36)) (fun _ hk => hk.2) (.slice Ao42 t650.length co42)) (fun _ h_ => h_.1)) (fun _ h_ => h_.1))) hb); have n2_ := zA (Kd.zau (by (with_reducible repeat (first | apply Kd.za6 | apply Kd.za7 | apply Kd.za9)); exact (Kd.zaz (Kd.zaz (Kd.R_far (p := ⟨gb655, 1, none⟩) (Kd.R_far (p := ⟨gb655, 0, none⟩) (Kd.R_far (p := ⟨gb654, 1, none⟩) (Kd.R_far (p := ⟨gb654, 0, none⟩) (Kd.zbq (Kd.zbq HO634.out BK654.out (by decide)) BK655.out (by decide)) (fun _ hk => hk.1.2) (.slice Ao28 t641.length co28)) (fun _ hk => hk.1.2) (.slice Ao35 t644.length co35)) (fun _ hk => hk.2) (.slice Ao36 t647.length co36)) (fun _ hk => hk.2) (.slice Ao42 t650.length co42)) (fun _ h_ => h_.1)) (fun _ h_ => h_.1))) hb); have n3_ := zA (Kd.zau (by (with_reducible repeat (first | apply Kd.za6 | apply Kd.za7 | apply Kd.za9)); exact (Kd.zaz (Kd.zaz (Kd.R_far (p := ⟨gb655, 1, none⟩) (Kd.R_far (p := ⟨gb655, 0, none⟩) (Kd.R_far (p := ⟨gb654, 1, none⟩) (Kd.R_far (p := ⟨gb654, 0, none⟩) (Kd.zbq (Kd.zbq HO637.out BK654.out (by decide)) BK655.out (by decide)) (fun _ hk => hk.1.2) (.slice Ao28 t641.length co28)) (fun _ hk => hk.1.2) (.slice Ao35 t644.length co35)) (fun _ hk => hk.2) (.slice Ao36 t647.length co36)) (fun _ hk => hk.2) (.slice Ao42 t650.length co42)) (fun _ h_ => h_.1)) (fun _ h_ => h_.1))) hb); have n4_ := zA (Kd.zaq (by (with_reducible repeat (first | apply Kd.zbc | apply Kd.zbb | apply Kd.zbe)); exact (Kd.zal (Kd.zal (Kd.V_far (p := ⟨gb655, 1, none⟩) (Kd.V_far (p := ⟨gb655, 0, none⟩) (Kd.V_far (p := ⟨gb654, 1, none⟩) (Kd.V_far (p := ⟨gb654, 0, none⟩) (Kd.zal (Kd.zal HO643.out (fun k_ hk => (⟨hk, hk.1.2⟩ : _ ∧ k_ ≠ gb654))) (fun k_ hk => (⟨hk, hk.1.2⟩ : _ ∧ k_ ≠ gb655))) (fun _ hk => hk.1.2) (.slice Ao28 t641.length co28)) (fun _ hk => hk.1.2) (.slice Ao35 t644.length co35)) (fun _ hk => hk.2) (.slice Ao36 t647.length co36)) (fun _ hk => hk.2) (.slice Ao42 t650.length co42)) (fun _ h_ => h_.1)) (fun _ h_ => h_.1))) hb); have n5_ := zA (Kd.zaq (by (with_reducible repeat (first | apply Kd.zbc | apply Kd.zbb | apply Kd.zbe)); exact (Kd.zal (Kd.zal (Kd.V_far (p := ⟨gb655, 1, none⟩) (Kd.V_far (p := ⟨gb655, 0, none⟩) (Kd.V_far (p := ⟨gb654, 1, none⟩) (Kd.V_far (p := ⟨gb654, 0, none⟩) (Kd.zal (Kd.zal HO646.out (fun k_ hk => (⟨hk, hk.1.2⟩ : _ ∧ k_ ≠ gb654))) (fun k_ hk => (⟨hk, hk.1.2⟩ : _ ∧ k_ ≠ gb655))) (fun _ hk => hk.1.2) (.slice Ao28 t641.length co28)) (fun _ hk => hk.1.2) (.slice Ao35 t644.length co35)) (fun _ hk => hk.2) (.slice Ao36 t647.length co36)) (fun _ hk => hk.2) (.slice Ao42 t650.length co42)) (fun _ h_ => h_.1)) (fun _ h_ => h_.1))) hb); have n6_ := zA (Kd.zau (by (with_reducible repeat (first | apply Kd.za6 | apply Kd.za7 | apply Kd.za9)); exact (Kd.zaz (Kd.zaz (Kd.R_far (p := ⟨gb655, 1, none⟩) (Kd.R_far (p := ⟨gb655, 0, none⟩) (Kd.R_far (p := ⟨gb654, 1, none⟩) (Kd.R_far (p := ⟨gb654, 0, none⟩) (Kd.zbq (Kd.zbq HO649.out BK654.out (by decide)) BK655.out (by decide)) (fun _ hk => hk.1.2) (.slice Ao28 t641.length co28)) (fun _ hk => hk.1.2) (.slice Ao35 t644.length co35)) (fun _ hk => hk.2) (.slice Ao36 t647.length co36)) (fun _ hk => hk.2) (.slice Ao42 t650.length co42)) (fun _ h_ => h_.1)) (fun _ h_ => h_.1))) hb); have n7_ := zA (Kd.zau (by (with_reducible repeat (first | apply Kd.za6 | apply Kd.za7 | apply Kd.za9)); exact (Kd.zaz (Kd.zaz (Kd.R_far (p := ⟨gb655, 1, none⟩) (Kd.R_far (p := ⟨gb655, 0, none⟩) (Kd.R_far (p := ⟨gb654, 1, none⟩) (Kd.R_far (p := ⟨gb654, 0, none⟩) (Kd.zbq (Kd.zbq HO652.out BK654.out (by decide)) BK655.out (by decide)) (fun _ hk => hk.1.2) (.slice Ao28 t641.length co28)) (fun _ hk => hk.1.2) (.slice Ao35 t644.length co35)) (fun _ hk => hk.2) (.slice Ao36 t647.length co36)) (fun _ hk => hk.2) (.slice Ao42 t650.length co42)) (fun _ h_ => h_.1)) (fun _ h_ => h_.1))) hb); have n8_ := zA (zaa (g := gb624) (o := .cells #[.slice A0_0 l0_0.length c0_0, .slice A0_1 l0_1.length c0_1] 24 (0, 0)) (by (with_reducible repeat (first | refine zad ?_ _ | refine zae ?_ | refine zac ?_ _)); refine zay ?_ NB624_655.out _; (with_reducible repeat (first | refine zad ?_ _ | refine zae ?_ | refine zac ?_ _)); refine zay ?_ NB624_655.out _; (with_reducible repeat (first | refine zad ?_ _ | refine zae ?_ | refine zac ?_ _)); refine zay ?_ NB624_654.out _; (with_reducible repeat (first | refine zad ?_ _ | refine zae ?_ | refine zac ?_ _)); refine zay ?_ NB624_654.out _; (with_reducible repeat (first | refine zad ?_ _ | refine zae ?_ | refine zac ?_ _)); exact BK624.out) hb); have n9_ := zA (zaa (g := gb625) (o := .cells #[.slice A1_0 l1_0.length c1_0, .slice A1_1 l1_1.length c1_1] 24 (0, 0)) (by (with_reducible repeat (first | refine zad ?_ _ | refine zae ?_ | refine zac ?_ _)); refine zay ?_ NB625_655.out _; (with_reducible repeat (first | refine zad ?_ _ | refine zae ?_ | refine zac ?_ _)); refine zay ?_ NB625_655.out _; (with_reducible repeat (first | refine zad ?_ _ | refine zae ?_ | refine zac ?_ _)); refine zay ?_ NB625_654.out _; (with_reducible repeat (first | refine zad ?_ _ | refine zae ?_ | refine zac ?_ _)); refine zay ?_ NB625_654.out _; (with_reducible repeat (first | refine zad ?_ _ | refine zae ?_ | refine zac ?_ _)); exact BK625.out) hb); have n10_ := zA (zaa (g := gb639) (o := .cells #[.slice Ao13 t626.length co13, .slice Ao18 t629.length co18] 28 (0, 0)) (by (with_reducible repeat (first | refine zad ?_ _ | refine zae ?_ | refine zac ?_ _)); refine zay ?_ NB639_655.out _; (with_reducible repeat (first | refine zad ?_ _ | refine zae ?_ | refine zac ?_ _)); refine zay ?_ NB639_655.out _; (with_reducible repeat (first | refine zad ?_ _ | refine zae ?_ | refine zac ?_ _)); refine zay ?_ NB639_654.out _; (with_reducible repeat (first | refine zad ?_ _ | refine zae ?_ | refine zac ?_ _)); refine zay ?_ NB639_654.out _; (with_reducible repeat (first | refine zad ?_ _ | refine zae ?_ | refine zac ?_ _)); exact BK639.out) hb); have n11_ := zA (zaa (g := gb640) (o := .cells #[.slice Ao19 t632.length co19, .slice Ao23 t635.length co23] 40 (0, 0)) (by (with_reducible repeat (first | refine zad ?_ _ | refine zae ?_ | refine zac ?_ _)); refine zay ?_ NB640_655.out _; (with_reducible repeat (first | refine zad ?_ _ | refine zae ?_ | refine zac ?_ _)); refine zay ?_ NB640_655.out _; (with_reducible repeat (first | refine zad ?_ _ | refine zae ?_ | refine zac ?_ _)); refine zay ?_ NB640_654.out _; (with_reducible repeat (first | refine zad ?_ _ | refine zae ?_ | refine zac ?_ _)); refine zay ?_ NB640_654.out _; (with_reducible repeat (first | refine zad ?_ _ | refine zae ?_ | refine zac ?_ _)); exact BK640.out) hb); have n12_ := zA (zaa (g := gb654) (o := .cells #[.slice Ao28 t641.length co28, .slice Ao35 t644.length co35] 28 (0, 0)) (by (with_reducible repeat (first | refine zad ?_ _ | refine zae ?_ | refine zac ?_ _)); refine zay ?_ NB654_655.out _; (with_reducible repeat (first | refine zad ?_ _ | refine zae ?_ | refine zac ?_ _)); refine zay ?_ NB654_655.out _; (with_reducible repeat (first | refine zad ?_ _ | refine zae ?_ | refine zac ?_ _)); refine zbt (cs := #[.slice Ao28 t641.length co28, .slice none 0 0]) ?_ 1 _ rfl; (with_reducible repeat (first | refine zad ?_ _ | refine zae ?_ | refine zac ?_ _)); refine zbt (cs := #[.slice none 0 0, .slice none 0 0]) ?_ 0 _ rfl; (with_reducible repeat (first | refine zad ?_ _ | refine zae ?_ | refine zac ?_ _)); exact BK654.out) hb); have n13_ := zA (zaa (g := gb655) (o := .cells #[.slice Ao36 t647.length co36, .slice Ao42 t650.length co42] 40 (0, 0)) (by (with_reducible repeat (first | refine zad ?_ _ | refine zae ?_ | refine zac ?_ _)); refine zbt (cs := #[.slice Ao36 t647.length co36, .slice none 0 0]) ?_ 1 _ rfl; (with_reducible repeat (first | refine zad ?_ _ | refine zae ?_ | refine zac ?_ _)); refine zbt (cs := #[.slice none 0 0, .slice none 0 0]) ?_ 0 _ rfl; (with_reducible repeat (first | refine zad ?_ _ | refine zae ?_ | refine zac ?_ _)); refine zay ?_ NB655_654.out _; (with_reducible repeat (first | refine zad ?_ _ | refine zae ?_ | refine zac ?_ _)); refine zay ?_ NB655_654.out _; (with_reducible repeat (first | refine zad ?_ _ | refine zae ?_ | refine zac ?_ _)); exact BK655.out) hb); have n14_ := zA (zaf (zB HB) hb); clear HO628 HO631 HO634 HO637 HO643 HO646 HO649 HO652 BK624 BK625 BK639 BK640 BK654 BK655 HB; have HO628 := n0_; have HO631 := n1_; have HO634 := n2_; have HO637 := n3_; have HO643 := n4_; have HO646 := n5_; have HO649 := n6_; have HO652 := n7_; have BK624 := n8_; have BK625 := n9_; have BK639 := n10_; have BK640 := n11_; have BK654 := n12_; have BK655 := n13_; have HB := n14_; clear n0_ n1_ n2_ n3_ n4_ n5_ n6_ n7_ n8_ n9_ n10_ n11_ n12_ n13_ n14_; (try clear hb); (try clear hb2); (try clear hk); (try clear hi)))
   go_meet
   case rel => exact ⟨_, (true), (zF), H', ⟨by first | omega | exact Nat.le_refl _⟩, ⟨by (with_reducible repeat (first | apply Kd.zbc | apply Kd.zbb | apply Kd.zbe)); exact Kd.zal HO628.out (fun _ hk => ⟨hk.1.1.1.1.1.1.1, ⟨hk.1.1.1.1.1.1.2.1, ⟨hk.1.1.1.2, ⟨hk.1.1.2, ⟨hk.1.1.1.1.1.1.2.2.1, ⟨hk.1.1.1.1.1.1.2.2.2, ⟨hk.1.1.1.1.1.2, ⟨hk.1.1.1.1.2, ⟨hk.1.2, hk.2⟩⟩⟩⟩⟩⟩⟩⟩⟩)⟩, ⟨by (with_reducible repeat (first | apply Kd.zbc | apply Kd.zbb | apply Kd.zbe)); exact Kd.zal HO631.out (fun _ hk => ⟨hk.1.1.1.1.1.1.1, ⟨hk.1.1.1.1.1.1.2.1, ⟨hk.1.1.1.2, ⟨hk.1.1.2, ⟨hk.1.1.1.1.1.1.2.2.1, ⟨hk.1.1.1.1.1.1.2.2.2, ⟨hk.1.1.1.1.1.2, ⟨hk.1.1.1.1.2, ⟨hk.1.2, hk.2⟩⟩⟩⟩⟩⟩⟩⟩⟩)⟩, ⟨by (with_reducible repeat (first | apply Kd.za6 | apply Kd.za7 | apply Kd.za9)); exact Kd.zaz HO634.out (fun _ hk => ⟨hk.1.1, ⟨hk.1.2, hk.2⟩⟩)⟩, ⟨by (with_reducible repeat (first | apply Kd.za6 | apply Kd.za7 | apply Kd.za9)); exact Kd.zaz HO637.out (fun _ hk => ⟨hk.1.1, ⟨hk.1.2, hk.2⟩⟩)⟩, ⟨by (with_reducible repeat (first | apply Kd.zbc | apply Kd.zbb | apply Kd.zbe)); exact Kd.zal HO643.out (fun _ hk => ⟨hk.1.1.2.2.1, ⟨hk.1.1.2.2.2.1, ⟨hk.1.1.1, ⟨hk.1.1.2.1, ⟨hk.1.1.2.2.2.2.1, ⟨hk.1.1.2.2.2.2.2.1, ⟨hk.1.1.2.2.2.2.2.2.1, ⟨hk.1.1.2.2.2.2.2.2.2, ⟨hk.1.2, hk.2⟩⟩⟩⟩⟩⟩⟩⟩⟩)⟩, ⟨by (with_reducible repeat (first | apply Kd.zbc | apply Kd.zbb | apply Kd.zbe)); exact Kd.zal HO646.out (fun _ hk => ⟨hk.1.1.2.2.1, ⟨hk.1.1.2.2.2.1, ⟨hk.1.1.1, ⟨hk.1.1.2.1, ⟨hk.1.1.2.2.2.2.1, ⟨hk.1.1.2.2.2.2.2.1, ⟨hk.1.1.2.2.2.2.2.2.1, ⟨hk.1.1.2.2.2.2.2.2.2, ⟨hk.1.2, hk.2⟩⟩⟩⟩⟩⟩⟩⟩⟩)⟩, ⟨by (with_reducible repeat (first | apply Kd.za6 | apply Kd.za7 | apply Kd.za9)); exact Kd.zaz HO649.out (fun _ hk => ⟨hk.1.2, ⟨hk.2, hk.1.1⟩⟩)⟩, ⟨by (with_reducible repeat (first | apply Kd.za6 | apply Kd.za7 | apply Kd.za9)); exact Kd.zaz HO652.out (fun _ hk => ⟨hk.1.2, ⟨hk.2, hk.1.1⟩⟩)⟩, ⟨zK BK624⟩, ⟨zK BK625⟩, ⟨zK BK639⟩, ⟨zK BK640⟩, ⟨zK BK654⟩, ⟨zK BK655⟩, ⟨zB HB⟩⟩
 case rest =>
  clear HC5
  try clear c1
  try clear c2
  try clear p2
  try clear c3
  try clear c4
  try clear c5
  try clear p6
  try clear c8
  try clear c14
  try clear c15
  try clear c16
  try clear c20
  try clear c21
  try clear c25
  try clear c29
  try clear c30
  try clear c31
  try clear c32
  try clear c33
  try clear c37
  try clear c38
  try clear c39
  try clear c40
  try clear c44
  try clear c45
  try clear hcz17_0
  try clear hcz17_1
  try clear hcz22_0
  try clear hcz22_1
  try clear hcz24_0
  try clear hcz24_1
  try clear hcz34_0
  try clear hcz34_1
  try clear hcz41_0
  try clear hcz41_1
  try clear hcz9_0
  try clear hcz9_1
  try clear hfz17_0
  try clear hfz17_1
  try clear hfz22_0
  try clear hfz22_1
  try clear hfz24_0
  try clear hfz24_1
  try clear hfz34_0
  try clear hfz34_1
  try clear hfz41_0
  try clear hfz41_1
  try clear hfz9_0
  try clear hfz9_1
  obtain ⟨kq, x34_4, rfl, HA, HJ4, HO_640000, HO_640001, HO_641000, HO_641001, HO_655000, HO_655001, HO_656000, HO_656001, BK624, BK625, BK639, BK640, BK654, BK655, HB⟩ := hcut
  cases kq with
  | zero => exact absurd HA.out (by simp [zah.j0])
  | succ kj4 =>
   have H := HA.out
   clear HA
   simp only [zah.j0] at H
   by_cases c49 : x34_4 = true
   ·
    subst c49
    rw [if_pos rfl] at H
    replace H := zO H
    obtain ⟨t657, A500, H⟩ := H
    try dsimp only at H
    have A50 := zA A500
    clear A500
    obtain rfl := Option.some.inj H
    go_wp2_with (first | ((with_reducible refine zaj (f := 14) rfl ?_); refine zba (some 35) rfl rfl Tryd.func14 (by kernel_rfl) rfl #[] rfl (zE) ?_; (with_reducible refine (zbr.calls kj4  t657 _ ?side1 A50.out).mono ?_); (case side1 => exact Glob.below HG.out (zB HB)); rintro e w51 ⟨rfl, hb⟩; refine ⟨_, rfl, ?_⟩; have n0_ := zA (Kd.zaq (zV HO_640000) hb); have n1_ := zA (Kd.zaq (zV HO_640001) hb); have n2_ := zA (Kd.zau (zR HO_641000) hb); have n3_ := zA (Kd.zau (zR HO_641001) hb); have n4_ := zA (Kd.zaq (zV HO_655000) hb); have n5_ := zA (Kd.zaq (zV HO_655001) hb); have n6_ := zA (Kd.zau (zR HO_656000) hb); have n7_ := zA (Kd.zau (zR HO_656001) hb); have n8_ := zA (zaa (g := gb624) (o := .cells #[.slice A0_0 l0_0.length c0_0, .slice A0_1 l0_1.length c0_1] 24 (0, 0)) (zK BK624) hb); have n9_ := zA (zaa (g := gb625) (o := .cells #[.slice A1_0 l1_0.length c1_0, .slice A1_1 l1_1.length c1_1] 24 (0, 0)) (zK BK625) hb); have n10_ := zA (zaa (g := gb639) (o := .cells #[.slice Ao13 t626.length co13, .slice Ao18 t629.length co18] 28 (0, 0)) (zK BK639) hb); have n11_ := zA (zaa (g := gb640) (o := .cells #[.slice Ao19 t632.length co19, .slice Ao23 t635.length co23] 40 (0, 0)) (zK BK640) hb); have n12_ := zA (zaa (g := gb654) (o := .cells #[.slice Ao28 t641.length co28, .slice Ao35 t644.length co35] 28 (0, 0)) (zK BK654) hb); have n13_ := zA (zaa (g := gb655) (o := .cells #[.slice Ao36 t647.length co36, .slice Ao42 t650.length co42] 40 (0, 0)) (zK BK655) hb); have n14_ := zA (zaf (zB HB) hb); clear HO_640000 HO_640001 HO_641000 HO_641001 HO_655000 HO_655001 HO_656000 HO_656001 BK624 BK625 BK639 BK640 BK654 BK655 HB; have HO_640000 := n0_; have HO_640001 := n1_; have HO_641000 := n2_; have HO_641001 := n3_; have HO_655000 := n4_; have HO_655001 := n5_; have HO_656000 := n6_; have HO_656001 := n7_; have BK624 := n8_; have BK625 := n9_; have BK639 := n10_; have BK640 := n11_; have BK654 := n12_; have BK655 := n13_; have HB := n14_; clear n0_ n1_ n2_ n3_ n4_ n5_ n6_ n7_ n8_ n9_ n10_ n11_ n12_ n13_ n14_; (try clear hb); (try clear hb2); (try clear hk); (try clear hi)))
    go_ret
    exact ⟨zW, zB HB⟩
   ·
    replace c49 := Bool.eq_false_iff.mpr c49
    subst c49
    rw [if_neg (show ¬ (false = true) by decide)] at H
    have HC52 := zA H
    clear H
    go_upto_region 5 with (fail)
    go_cut [50] (fun v50 wc => ∃ (kq : Nat) (x50_51 : Bool), v50 = .bool x50_51 ∧ Aside0 (zah.j1 kq x50_51 t626 t629 t632 t635 t641 t644 t647 t650 = some r) ∧ Aside0 (kq ≤ kj4) ∧ Aside0 (Kd.V (Kd.int .u64) 57 wc w.heap.size (fun k_ => some k_ ≠ ((.slice Ao19 t632.length co19) : Value).ownBlock ∧ some k_ ≠ ((.slice Ao23 t635.length co23) : Value).ownBlock ∧ some k_ ≠ ((.slice Ao36 t647.length co36) : Value).ownBlock ∧ some k_ ≠ ((.slice Ao42 t650.length co42) : Value).ownBlock ∧ k_ ≠ gb624 ∧ k_ ≠ gb625 ∧ k_ ≠ gb639 ∧ k_ ≠ gb640 ∧ k_ ≠ gb654 ∧ k_ ≠ gb655) (.slice Ao13 t626.length co13) t626) ∧ Aside0 (Kd.V (Kd.int .u64) 57 wc w.heap.size (fun k_ => some k_ ≠ ((.slice Ao19 t632.length co19) : Value).ownBlock ∧ some k_ ≠ ((.slice Ao23 t635.length co23) : Value).ownBlock ∧ some k_ ≠ ((.slice Ao36 t647.length co36) : Value).ownBlock ∧ some k_ ≠ ((.slice Ao42 t650.length co42) : Value).ownBlock ∧ k_ ≠ gb624 ∧ k_ ≠ gb625 ∧ k_ ≠ gb639 ∧ k_ ≠ gb640 ∧ k_ ≠ gb654 ∧ k_ ≠ gb655) (.slice Ao18 t629.length co18) t629) ∧ Aside0 (Kd.R (Kd.int .i64) 3 wc w.heap.size (fun k_ => some k_ ≠ ((.slice Ao23 t635.length co23) : Value).ownBlock ∧ some k_ ≠ ((.slice Ao36 t647.length co36) : Value).ownBlock ∧ some k_ ≠ ((.slice Ao42 t650.length co42) : Value).ownBlock) (.slice Ao19 t632.length co19) t632) ∧ Aside0 (Kd.R (Kd.int .i64) 3 wc w.heap.size (fun k_ => some k_ ≠ ((.slice Ao19 t632.length co19) : Value).ownBlock ∧ some k_ ≠ ((.slice Ao36 t647.length co36) : Value).ownBlock ∧ some k_ ≠ ((.slice Ao42 t650.length co42) : Value).ownBlock) (.slice Ao23 t635.length co23) t635) ∧ Aside0 (Kd.V (Kd.int .u64) 57 wc w.heap.size (fun k_ => some k_ ≠ ((.slice Ao19 t632.length co19) : Value).ownBlock ∧ some k_ ≠ ((.slice Ao23 t635.length co23) : Value).ownBlock ∧ some k_ ≠ ((.slice Ao36 t647.length co36) : Value).ownBlock ∧ some k_ ≠ ((.slice Ao42 t650.length co42) : Value).ownBlock ∧ k_ ≠ gb624 ∧ k_ ≠ gb625 ∧ k_ ≠ gb639 ∧ k_ ≠ gb640 ∧ k_ ≠ gb654 ∧ k_ ≠ gb655) (.slice Ao28 t641.length co28) t641) ∧ Aside0 (Kd.V (Kd.int .u64) 57 wc w.heap.size (fun k_ => some k_ ≠ ((.slice Ao19 t632.length co19) : Value).ownBlock ∧ some k_ ≠ ((.slice Ao23 t635.length co23) : Value).ownBlock ∧ some k_ ≠ ((.slice Ao36 t647.length co36) : Value).ownBlock ∧ some k_ ≠ ((.slice Ao42 t650.length co42) : Value).ownBlock ∧ k_ ≠ gb624 ∧ k_ ≠ gb625 ∧ k_ ≠ gb639 ∧ k_ ≠ gb640 ∧ k_ ≠ gb654 ∧ k_ ≠ gb655) (.slice Ao35 t644.length co35) t644) ∧ Aside0 (Kd.R (Kd.int .i64) 3 wc w.heap.size (fun k_ => some k_ ≠ ((.slice Ao19 t632.length co19) : Value).ownBlock ∧ some k_ ≠ ((.slice Ao23 t635.length co23) : Value).ownBlock ∧ some k_ ≠ ((.slice Ao42 t650.length co42) : Value).ownBlock) (.slice Ao36 t647.length co36) t647) ∧ Aside0 (Kd.R (Kd.int .i64) 3 wc w.heap.size (fun k_ => some k_ ≠ ((.slice Ao19 t632.length co19) : Value).ownBlock ∧ some k_ ≠ ((.slice Ao23 t635.length co23) : Value).ownBlock ∧ some k_ ≠ ((.slice Ao36 t647.length co36) : Value).ownBlock) (.slice Ao42 t650.length co42) t650) ∧ Aside0 (wc.heap[gb624]? = some (.cells #[(.slice A0_0 l0_0.length c0_0), (.slice A0_1 l0_1.length c0_1)] 24 (0, 0))) ∧ Aside0 (wc.heap[gb625]? = some (.cells #[(.slice A1_0 l1_0.length c1_0), (.slice A1_1 l1_1.length c1_1)] 24 (0, 0))) ∧ Aside0 (wc.heap[gb639]? = some (.cells #[(.slice Ao13 t626.length co13), (.slice Ao18 t629.length co18)] 28 (0, 0))) ∧ Aside0 (wc.heap[gb640]? = some (.cells #[(.slice Ao19 t632.length co19), (.slice Ao23 t635.length co23)] 40 (0, 0))) ∧ Aside0 (wc.heap[gb654]? = some (.cells #[(.slice Ao28 t641.length co28), (.slice Ao35 t644.length co35)] 28 (0, 0))) ∧ Aside0 (wc.heap[gb655]? = some (.cells #[(.slice Ao36 t647.length co36), (.slice Ao42 t650.length co42)] 40 (0, 0))) ∧ Aside0 (Below w.heap.size w wc))
    case first =>
     have H := HC52.out
     clear HC52
     replace H := zO H
     obtain ⟨⟨t658, t661⟩, A530, H⟩ := H
     try dsimp only at H
     have A53 := zA A530
     clear A530
     replace H := zO H
     obtain ⟨⟨t664, t667⟩, A540, H⟩ := H
     try dsimp only at H
     have A54 := zA A540
     clear A540
     replace H := zO H
     obtain ⟨t670, A550, H⟩ := H
     try dsimp only at H
     have A55 := zA A550
     clear A550
     by_cases c56 : t670 = true
     ·
      subst c56
      rw [if_pos rfl] at H
      replace H := zO H
      obtain ⟨⟨t671, t674⟩, A570, H⟩ := H
      try dsimp only at H
      have A57 := zA A570
      clear A570
      replace H := zO H
      obtain ⟨t677, A580, H⟩ := H
      try dsimp only at H
      have A58 := zA A580
      clear A580
      have H' := zA H
      clear H
      try go_wp2
      have n0_ := zA (Kd.zbe HO_640000.out)
      have n1_ := zA (Kd.zbe HO_640001.out)
      have n2_ := zA (Kd.za9 HO_641000.out)
      have n3_ := zA (Kd.za9 HO_641001.out)
      have n4_ := zA (Kd.zbe HO_655000.out)
      have n5_ := zA (Kd.zbe HO_655001.out)
      have n6_ := zA (Kd.za9 HO_656000.out)
      have n7_ := zA (Kd.za9 HO_656001.out)
      have n8_ := zA (zae BK624.out)
      have n9_ := zA (zae BK625.out)
      have n10_ := zA (zae BK639.out)
      have n11_ := zA (zae BK640.out)
      have n12_ := zA (zae BK654.out)
      have n13_ := zA (zae BK655.out)
      have n14_ := zA (zbz HB.out)
      clear HO_640000 HO_640001 HO_641000 HO_641001 HO_655000 HO_655001 HO_656000 HO_656001 BK624 BK625 BK639 BK640 BK654 BK655 HB
      have HO_640000 := n0_
      have HO_640001 := n1_
      have HO_641000 := n2_
      have HO_641001 := n3_
      have HO_655000 := n4_
      have HO_655001 := n5_
      have HO_656000 := n6_
      have HO_656001 := n7_
      have BK624 := n8_
      have BK625 := n9_
      have BK639 := n10_
      have BK640 := n11_
      have BK654 := n12_
      have BK655 := n13_
      have HB := n14_
      clear n0_ n1_ n2_ n3_ n4_ n5_ n6_ n7_ n8_ n9_ n10_ n11_ n12_ n13_ n14_
      refine start_ (n := 15) (S := fun w' => w'.cell? ⟨gb639, 0, none⟩ = some (.slice Ao13 t626.length co13) ∧ w'.cell? ⟨gb639, 1, none⟩ = some (.slice Ao18 t629.length co18) ∧ w'.cell? ⟨gb654, 0, none⟩ = some (.slice Ao28 t641.length co28) ∧ w'.cell? ⟨gb654, 1, none⟩ = some (.slice Ao35 t644.length co35) ∧ w'.cell? ⟨gb640, 0, none⟩ = some (.slice Ao19 t632.length co19) ∧ w'.cell? ⟨gb640, 1, none⟩ = some (.slice Ao23 t635.length co23) ∧ w'.cell? ⟨gb655, 0, none⟩ = some (.slice Ao36 t647.length co36) ∧ w'.cell? ⟨gb655, 1, none⟩ = some (.slice Ao42 t650.length co42)) (ds := []) #[false, false, false, false, false, false, false, false, false, false, false, false, false, false, false] (by kernel_rfl) rfl rfl ⟨(zab BK639.out 0).trans rfl, (zab BK639.out 1).trans rfl, (zab BK654.out 0).trans rfl, (zab BK654.out 1).trans rfl, (zab BK640.out 0).trans rfl, (zab BK640.out 1).trans rfl, (zab BK655.out 0).trans rfl, (zab BK655.out 1).trans rfl⟩ (fun hHeld => ?_); refine zcz zah.tab5 zah.bits5 (fun HT_ HW_ => ?_)
      generalize wc.drew = w59 at HO_640000 HO_640001 HO_641000 HO_641001 HO_655000 HO_655001 HO_656000 HO_656001 BK624 BK625 BK639 BK640 BK654 BK655 HB hHeld ⊢
      refine take_ (i := 0) (N := some 36) (v := ?_) (a' := ?_) #[true, false, false, false, false, false, false, false, false, false, false, false, false, false, false] rfl rfl (zby HT_.out HW_.out (by kernel_rfl)) (fun _ _ _ h => h) (Or.inl ⟨by rfl, ?_⟩) hHeld ?_ ?_
      rotate_left
      ·
       rintro w' ⟨s0, s1, s2, s3, s4, s5, s6, s7⟩
       go_simp
       with_reducible rfl
      rotate_left
      ·
       simp only [Act.put, zs1, zs2, zs3, i64_w, i32_w]
       rfl
      refine take_ (i := 1) (N := some 37) (v := ?_) (a' := ?_) #[true, true, false, false, false, false, false, false, false, false, false, false, false, false, false] rfl rfl (zby HT_.out HW_.out (by kernel_rfl)) (fun _ _ _ h => h) (Or.inl ⟨by rfl, ?_⟩) hHeld ?_ ?_
      rotate_left
      ·
       rintro w' ⟨s0, s1, s2, s3, s4, s5, s6, s7⟩
       go_simp
       with_reducible rfl
      rotate_left
      ·
       simp only [Act.put, zs1, zs2, zs3, i64_w, i32_w]
       rfl
      refine take_ (i := 3) (N := some 39) (v := ?_) (a' := ?_) #[true, true, false, true, false, false, false, false, false, false, false, false, false, false, false] rfl rfl (zby HT_.out HW_.out (by kernel_rfl)) (fun _ _ _ h => h) (Or.inl ⟨by rfl, ?_⟩) hHeld ?_ ?_
      rotate_left
      ·
       rintro w' ⟨s0, s1, s2, s3, s4, s5, s6, s7⟩
       go_simp
       with_reducible rfl
      rotate_left
      ·
       simp only [Act.put, zs1, zs2, zs3, i64_w, i32_w]
       rfl
      refine take_ (i := 4) (N := some 40) (v := ?_) (a' := ?_) #[true, true, false, true, true, false, false, false, false, false, false, false, false, false, false] rfl rfl (zby HT_.out HW_.out (by kernel_rfl)) (fun _ _ _ h => h) (Or.inl ⟨by rfl, ?_⟩) hHeld ?_ ?_
      rotate_left
      ·
       rintro w' ⟨s0, s1, s2, s3, s4, s5, s6, s7⟩
       go_simp
       with_reducible rfl
      rotate_left
      ·
       simp only [Act.put, zs1, zs2, zs3, i64_w, i32_w]
       rfl
      refine one_ (i := 2) (N := some 38) #[true, true, true, true, true, false, false, false, false, false, false, false, false, false, false] rfl rfl (zcd HT_.out (by kernel_rfl)) (by decide) (fun K hK => ?_)
      refine goes_ Tryd.func29 (by kernel_rfl) rfl #[.agg #[.slice Ao13 t626.length co13, .slice Ao18 t629.length co18], .agg #[.slice Ao28 t641.length co28, .slice Ao35 t644.length co35]] (by rfl) rfl rfl (zE) ?_
      with_reducible refine (zcs.calls kj4 _ _ t626 _ _ t629 _ _ t641 _ _ t644 t658 t661 _ ?side1 ?side2 ?side3 ?side4 ?side5 ?side6 ?side7 ?side8 A53.out).mono ?_
      (case side1 => exact zJ (Kd.zar HO_640000.out).2.2)
      (case side2 => exact (Kd.zar HO_640000.out).2.1)
      (case side3 => exact zJ (Kd.zar HO_640001.out).2.2)
      (case side4 => exact (Kd.zar HO_640001.out).2.1)
      (case side5 => exact zJ (Kd.zar HO_655000.out).2.2)
      (case side6 => exact (Kd.zar HO_655000.out).2.1)
      (case side7 => exact zJ (Kd.zar HO_655001.out).2.2)
      (case side8 => exact (Kd.zar HO_655001.out).2.1)
      rintro e w60 ⟨v659, v662, rfl, ho0, ho1, hb⟩
      refine ⟨_, rfl, ?_⟩
      have n0_ := zA (Kd.zaq (zV HO_640000) hb)
      have n1_ := zA (Kd.zaq (zV HO_640001) hb)
      have n2_ := zA (Kd.zau (zR HO_641000) hb)
      have n3_ := zA (Kd.zau (zR HO_641001) hb)
      have n4_ := zA (Kd.zaq (zV HO_655000) hb)
      have n5_ := zA (Kd.zaq (zV HO_655001) hb)
      have n6_ := zA (Kd.zau (zR HO_656000) hb)
      have n7_ := zA (Kd.zau (zR HO_656001) hb)
      have n8_ := zA (Kd.zbl (Kd.zal (ok' := fun k_ => some k_ ≠ (.slice Ao19 t632.length co19 : Value).ownBlock ∧ some k_ ≠ (.slice Ao23 t635.length co23 : Value).ownBlock ∧ some k_ ≠ (.slice Ao36 t647.length co36 : Value).ownBlock ∧ some k_ ≠ (.slice Ao42 t650.length co42 : Value).ownBlock ∧ k_ ≠ gb624 ∧ k_ ≠ gb625 ∧ k_ ≠ gb639 ∧ k_ ≠ gb640 ∧ k_ ≠ gb654 ∧ k_ ≠ gb655) ho0 (fun k_ hk_ => ⟨(Kd.fresh' (Kd.R_lt (zR HO_641000)) k_ hk_), (Kd.fresh' (Kd.R_lt (zR HO_641001)) k_ hk_), (Kd.fresh' (Kd.R_lt (zR HO_656000)) k_ hk_), (Kd.fresh' (Kd.R_lt (zR HO_656001)) k_ hk_), (Kd.freshB (g := gb624) (o := .cells #[.slice A0_0 l0_0.length c0_0, .slice A0_1 l0_1.length c0_1] 24 (0, 0)) (zK BK624) k_ hk_), (Kd.freshB (g := gb625) (o := .cells #[.slice A1_0 l1_0.length c1_0, .slice A1_1 l1_1.length c1_1] 24 (0, 0)) (zK BK625) k_ hk_), (Kd.freshB (g := gb639) (o := .cells #[.slice Ao13 t626.length co13, .slice Ao18 t629.length co18] 28 (0, 0)) (zK BK639) k_ hk_), (Kd.freshB (g := gb640) (o := .cells #[.slice Ao19 t632.length co19, .slice Ao23 t635.length co23] 40 (0, 0)) (zK BK640) k_ hk_), (Kd.freshB (g := gb654) (o := .cells #[.slice Ao28 t641.length co28, .slice Ao35 t644.length co35] 28 (0, 0)) (zK BK654) k_ hk_), (Kd.freshB (g := gb655) (o := .cells #[.slice Ao36 t647.length co36, .slice Ao42 t650.length co42] 40 (0, 0)) (zK BK655) k_ hk_)⟩)) (za (zB HB)))
      have n9_ := zA (Kd.zbl (Kd.zal (ok' := fun k_ => some k_ ≠ (.slice Ao19 t632.length co19 : Value).ownBlock ∧ some k_ ≠ (.slice Ao23 t635.length co23 : Value).ownBlock ∧ some k_ ≠ (.slice Ao36 t647.length co36 : Value).ownBlock ∧ some k_ ≠ (.slice Ao42 t650.length co42 : Value).ownBlock ∧ k_ ≠ gb624 ∧ k_ ≠ gb625 ∧ k_ ≠ gb639 ∧ k_ ≠ gb640 ∧ k_ ≠ gb654 ∧ k_ ≠ gb655) ho1 (fun k_ hk_ => ⟨(Kd.fresh' (Kd.R_lt (zR HO_641000)) k_ hk_), (Kd.fresh' (Kd.R_lt (zR HO_641001)) k_ hk_), (Kd.fresh' (Kd.R_lt (zR HO_656000)) k_ hk_), (Kd.fresh' (Kd.R_lt (zR HO_656001)) k_ hk_), (Kd.freshB (g := gb624) (o := .cells #[.slice A0_0 l0_0.length c0_0, .slice A0_1 l0_1.length c0_1] 24 (0, 0)) (zK BK624) k_ hk_), (Kd.freshB (g := gb625) (o := .cells #[.slice A1_0 l1_0.length c1_0, .slice A1_1 l1_1.length c1_1] 24 (0, 0)) (zK BK625) k_ hk_), (Kd.freshB (g := gb639) (o := .cells #[.slice Ao13 t626.length co13, .slice Ao18 t629.length co18] 28 (0, 0)) (zK BK639) k_ hk_), (Kd.freshB (g := gb640) (o := .cells #[.slice Ao19 t632.length co19, .slice Ao23 t635.length co23] 40 (0, 0)) (zK BK640) k_ hk_), (Kd.freshB (g := gb654) (o := .cells #[.slice Ao28 t641.length co28, .slice Ao35 t644.length co35] 28 (0, 0)) (zK BK654) k_ hk_), (Kd.freshB (g := gb655) (o := .cells #[.slice Ao36 t647.length co36, .slice Ao42 t650.length co42] 40 (0, 0)) (zK BK655) k_ hk_)⟩)) (za (zB HB)))
      have n10_ := zA (zaa (g := gb624) (o := .cells #[.slice A0_0 l0_0.length c0_0, .slice A0_1 l0_1.length c0_1] 24 (0, 0)) (zK BK624) hb)
      have n11_ := zA (zaa (g := gb625) (o := .cells #[.slice A1_0 l1_0.length c1_0, .slice A1_1 l1_1.length c1_1] 24 (0, 0)) (zK BK625) hb)
      have n12_ := zA (zaa (g := gb639) (o := .cells #[.slice Ao13 t626.length co13, .slice Ao18 t629.length co18] 28 (0, 0)) (zK BK639) hb)
      have n13_ := zA (zaa (g := gb640) (o := .cells #[.slice Ao19 t632.length co19, .slice Ao23 t635.length co23] 40 (0, 0)) (zK BK640) hb)
      have n14_ := zA (zaa (g := gb654) (o := .cells #[.slice Ao28 t641.length co28, .slice Ao35 t644.length co35] 28 (0, 0)) (zK BK654) hb)
      have n15_ := zA (zaa (g := gb655) (o := .cells #[.slice Ao36 t647.length co36, .slice Ao42 t650.length co42] 40 (0, 0)) (zK BK655) hb)
      have n16_ := zA (zaf (zB HB) hb)
      clear HO_640000 HO_640001 HO_641000 HO_641001 HO_655000 HO_655001 HO_656000 HO_656001 BK624 BK625 BK639 BK640 BK654 BK655 HB
      have HO_640000 := n0_
      have HO_640001 := n1_
      have HO_641000 := n2_
      have HO_641001 := n3_
      have HO_655000 := n4_
      have HO_655001 := n5_
      have HO_656000 := n6_
      have HO_656001 := n7_
      have HO660 := n8_
      have HO663 := n9_
      have BK624 := n10_
      have BK625 := n11_
      have BK639 := n12_
      have BK640 := n13_
      have BK654 := n14_
      have BK655 := n15_
      have HB := n16_
      clear n0_ n1_ n2_ n3_ n4_ n5_ n6_ n7_ n8_ n9_ n10_ n11_ n12_ n13_ n14_ n15_ n16_
      (try clear hb)
      (try clear hb2)
      (try clear hk)
      (try clear hi)
      (try clear ho0)
      (try clear ho1)
      refine hK.out _ _ ⟨(zab BK639.out 0).trans rfl, (zab BK639.out 1).trans rfl, (zab BK654.out 0).trans rfl, (zab BK654.out 1).trans rfl, (zab BK640.out 0).trans rfl, (zab BK640.out 1).trans rfl, (zab BK655.out 0).trans rfl, (zab BK655.out 1).trans rfl⟩ (fun hHeld => ?_)
      clear hK K
      refine norm_ (a' := ?_) ?_ ?_
      rotate_left
      ·
       show Act.put _ (some 38) _ = _
       simp only [Act.put, zs1, zs2, zs3, i64_w, i32_w]
       rfl
      refine one_ (i := 5) (N := some 41) #[true, true, true, true, true, true, false, false, false, false, false, false, false, false, false] rfl rfl (zcd HT_.out (by kernel_rfl)) (by decide) (fun K hK => ?_)
      refine goes_ Tryd.func30 (by kernel_rfl) rfl #[.agg #[.slice Ao19 t632.length co19, .slice Ao23 t635.length co23], .agg #[.slice Ao36 t647.length co36, .slice Ao42 t650.length co42]] (by rfl) rfl rfl (zE) ?_
      with_reducible refine (zb0.calls kj4 _ _ t632 _ _ t635 _ _ t647 _ _ t650 t664 t667 _ ?side1 ?side2 ?side3 ?side4 ?side5 ?side6 ?side7 ?side8 A54.out).mono ?_
      (case side1 => exact zJ (Kd.zat HO_641000.out).2.2)
      (case side2 => exact (Kd.zat HO_641000.out).2.1)
      (case side3 => exact zJ (Kd.zat HO_641001.out).2.2)
      (case side4 => exact (Kd.zat HO_641001.out).2.1)
      (case side5 => exact zJ (Kd.zat HO_656000.out).2.2)
      (case side6 => exact (Kd.zat HO_656000.out).2.1)
      (case side7 => exact zJ (Kd.zat HO_656001.out).2.2)
      (case side8 => exact (Kd.zat HO_656001.out).2.1)
      rintro e w61 ⟨v665, v668, rfl, ho0, ho1, hb⟩
      refine ⟨_, rfl, ?_⟩
      have n0_ := zA (Kd.zal (Kd.zca (Kd.zca (Kd.V_old (zV HO_640000) hb) (Kd.za1 ho0)) (Kd.za1 ho1)) (fun _ h_ => h_.1))
      have n1_ := zA (Kd.zal (Kd.zca (Kd.zca (Kd.V_old (zV HO_640001) hb) (Kd.za1 ho0)) (Kd.za1 ho1)) (fun _ h_ => h_.1))
      have n2_ := zA (Kd.zaz (Kd.zcg (Kd.zcg (Kd.R_old (zR HO_641000) hb) (Kd.za1 ho0)) (Kd.za1 ho1)) (fun _ h_ => h_.1))
      have n3_ := zA (Kd.zaz (Kd.zcg (Kd.zcg (Kd.R_old (zR HO_641001) hb) (Kd.za1 ho0)) (Kd.za1 ho1)) (fun _ h_ => h_.1))
      have n4_ := zA (Kd.zal (Kd.zca (Kd.zca (Kd.V_old (zV HO_655000) hb) (Kd.za1 ho0)) (Kd.za1 ho1)) (fun _ h_ => h_.1))
      have n5_ := zA (Kd.zal (Kd.zca (Kd.zca (Kd.V_old (zV HO_655001) hb) (Kd.za1 ho0)) (Kd.za1 ho1)) (fun _ h_ => h_.1))
      have n6_ := zA (Kd.zaz (Kd.zcg (Kd.zcg (Kd.R_old (zR HO_656000) hb) (Kd.za1 ho0)) (Kd.za1 ho1)) (fun _ h_ => h_.1))
      have n7_ := zA (Kd.zaz (Kd.zcg (Kd.zcg (Kd.R_old (zR HO_656001) hb) (Kd.za1 ho0)) (Kd.za1 ho1)) (fun _ h_ => h_.1))
      have n8_ := zA (Kd.zal (Kd.zca (Kd.zca (Kd.V_old (zV HO660) hb) (Kd.za1 ho0)) (Kd.za1 ho1)) (fun _ h_ => h_.1))
      have n9_ := zA (Kd.zal (Kd.zca (Kd.zca (Kd.V_old (zV HO663) hb) (Kd.za1 ho0)) (Kd.za1 ho1)) (fun _ h_ => h_.1))
      have n10_ := zA (Kd.zbh (Kd.zbk (Kd.zbk (Kd.zbk (Kd.zbk ho0 (Kd.R_lt (zR HO_641000))) (Kd.R_lt (zR HO_641001))) (Kd.R_lt (zR HO_656000))) (Kd.R_lt (zR HO_656001))) (za (zB HB)))
      have n11_ := zA (Kd.zbh (Kd.zbk (Kd.zbk (Kd.zbk (Kd.zbk ho1 (Kd.R_lt (zR HO_641000))) (Kd.R_lt (zR HO_641001))) (Kd.R_lt (zR HO_656000))) (Kd.R_lt (zR HO_656001))) (za (zB HB)))
      have n12_ := zA (zaa (g := gb624) (o := .cells #[.slice A0_0 l0_0.length c0_0, .slice A0_1 l0_1.length c0_1] 24 (0, 0)) (zK BK624) hb)
      have n13_ := zA (zaa (g := gb625) (o := .cells #[.slice A1_0 l1_0.length c1_0, .slice A1_1 l1_1.length c1_1] 24 (0, 0)) (zK BK625) hb)
      have n14_ := zA (zaa (g := gb639) (o := .cells #[.slice Ao13 t626.length co13, .slice Ao18 t629.length co18] 28 (0, 0)) (zK BK639) hb)
      have n15_ := zA (zaa (g := gb640) (o := .cells #[.slice Ao19 t632.length co19, .slice Ao23 t635.length co23] 40 (0, 0)) (zK BK640) hb)
      have n16_ := zA (zaa (g := gb654) (o := .cells #[.slice Ao28 t641.length co28, .slice Ao35 t644.length co35] 28 (0, 0)) (zK BK654) hb)
      have n17_ := zA (zaa (g := gb655) (o := .cells #[.slice Ao36 t647.length co36, .slice Ao42 t650.length co42] 40 (0, 0)) (zK BK655) hb)
      have n18_ := zA (zaf (zB HB) hb)
      clear HO_640000 HO_640001 HO_641000 HO_641001 HO_655000 HO_655001 HO_656000 HO_656001 HO660 HO663 BK624 BK625 BK639 BK640 BK654 BK655 HB
      have HO_640000 := n0_
      have HO_640001 := n1_
      have HO_641000 := n2_
      have HO_641001 := n3_
      have HO_655000 := n4_
      have HO_655001 := n5_
      have HO_656000 := n6_
      have HO_656001 := n7_
      have HO660 := n8_
      have HO663 := n9_
      have HO666 := n10_
      have HO669 := n11_
      have BK624 := n12_
      have BK625 := n13_
      have BK639 := n14_
      have BK640 := n15_
      have BK654 := n16_
      have BK655 := n17_
      have HB := n18_
      clear n0_ n1_ n2_ n3_ n4_ n5_ n6_ n7_ n8_ n9_ n10_ n11_ n12_ n13_ n14_ n15_ n16_ n17_ n18_
      (try clear hb)
      (try clear hb2)
      (try clear hk)
      (try clear hi)
      (try clear ho0)
      (try clear ho1)
      obtain ⟨Ao62, co62, eo62⟩ := Kd.zbp HO660.out
      (first | subst eo62 | (injection eo62 with f1_ f2_ f3_; have f4_ := f1_.symm; have f5_ := f3_.symm; clear f1_ f2_ f3_; subst f4_; subst f5_))
      obtain ⟨Ao63, co63, eo63⟩ := Kd.zbp HO663.out
      (first | subst eo63 | (injection eo63 with f1_ f2_ f3_; have f4_ := f1_.symm; have f5_ := f3_.symm; clear f1_ f2_ f3_; subst f4_; subst f5_))
      obtain ⟨Ao64, co64, eo64⟩ := Kd.zbn HO666.out
      (first | subst eo64 | (injection eo64 with f1_ f2_ f3_; have f4_ := f1_.symm; have f5_ := f3_.symm; clear f1_ f2_ f3_; subst f4_; subst f5_))
      obtain ⟨Ao65, co65, eo65⟩ := Kd.zbn HO669.out
      (first | subst eo65 | (injection eo65 with f1_ f2_ f3_; have f4_ := f1_.symm; have f5_ := f3_.symm; clear f1_ f2_ f3_; subst f4_; subst f5_))
      refine hK.out _ _ ⟨(zab BK639.out 0).trans rfl, (zab BK639.out 1).trans rfl, (zab BK654.out 0).trans rfl, (zab BK654.out 1).trans rfl, (zab BK640.out 0).trans rfl, (zab BK640.out 1).trans rfl, (zab BK655.out 0).trans rfl, (zab BK655.out 1).trans rfl⟩ (fun hHeld => ?_)
      clear hK K
      refine norm_ (a' := ?_) ?_ ?_
      rotate_left
      ·
       show Act.put _ (some 41) _ = _
       simp only [Act.put, zs1, zs2, zs3, i64_w, i32_w]
       rfl
      refine one_ (i := 6) (N := some 42) #[true, true, true, true, true, true, true, false, false, false, false, false, false, false, false] rfl rfl (zcd HT_.out (by kernel_rfl)) (by decide) (fun K hK => ?_)
      refine goes_ Tryd.func21 (by kernel_rfl) rfl #[.agg #[.slice Ao62 t658.length co62, .slice Ao63 t661.length co63], .agg #[.slice Ao64 t664.length co64, .slice Ao65 t667.length co65]] (by rfl) rfl rfl (zE) ?_
      with_reducible refine (zck.calls kj4 _ _ t658 _ _ t661 _ _ t664 _ _ t667 true _ ?side1 ?side2 ?side3 ?side4 ?side5 ?side6 ?side7 ?side8 A55.out).mono ?_
      (case side1 => exact zJ (Kd.zar HO660.out).2.2)
      (case side2 => exact (Kd.zar HO660.out).2.1)
      (case side3 => exact zJ (Kd.zar HO663.out).2.2)
      (case side4 => exact (Kd.zar HO663.out).2.1)
      (case side5 => exact zJ (Kd.zat HO666.out).2.2)
      (case side6 => exact (Kd.zat HO666.out).2.1)
      (case side7 => exact zJ (Kd.zat HO669.out).2.2)
      (case side8 => exact (Kd.zat HO669.out).2.1)
      rintro e w66 ⟨rfl, hb⟩
      refine ⟨_, rfl, ?_⟩
      have n0_ := zA (Kd.zaq (zV HO_640000) hb)
      have n1_ := zA (Kd.zaq (zV HO_640001) hb)
      have n2_ := zA (Kd.zau (zR HO_641000) hb)
      have n3_ := zA (Kd.zau (zR HO_641001) hb)
      have n4_ := zA (Kd.zaq (zV HO_655000) hb)
      have n5_ := zA (Kd.zaq (zV HO_655001) hb)
      have n6_ := zA (Kd.zau (zR HO_656000) hb)
      have n7_ := zA (Kd.zau (zR HO_656001) hb)
      have n8_ := zA (Kd.zaq (zV HO660) hb)
      have n9_ := zA (Kd.zaq (zV HO663) hb)
      have n10_ := zA (Kd.zau (zR HO666) hb)
      have n11_ := zA (Kd.zau (zR HO669) hb)
      have n12_ := zA (zaa (g := gb624) (o := .cells #[.slice A0_0 l0_0.length c0_0, .slice A0_1 l0_1.length c0_1] 24 (0, 0)) (zK BK624) hb)
      have n13_ := zA (zaa (g := gb625) (o := .cells #[.slice A1_0 l1_0.length c1_0, .slice A1_1 l1_1.length c1_1] 24 (0, 0)) (zK BK625) hb)
      have n14_ := zA (zaa (g := gb639) (o := .cells #[.slice Ao13 t626.length co13, .slice Ao18 t629.length co18] 28 (0, 0)) (zK BK639) hb)
      have n15_ := zA (zaa (g := gb640) (o := .cells #[.slice Ao19 t632.length co19, .slice Ao23 t635.length co23] 40 (0, 0)) (zK BK640) hb)
      have n16_ := zA (zaa (g := gb654) (o := .cells #[.slice Ao28 t641.length co28, .slice Ao35 t644.length co35] 28 (0, 0)) (zK BK654) hb)
      have n17_ := zA (zaa (g := gb655) (o := .cells #[.slice Ao36 t647.length co36, .slice Ao42 t650.length co42] 40 (0, 0)) (zK BK655) hb)
      have n18_ := zA (zaf (zB HB) hb)
      clear HO_640000 HO_640001 HO_641000 HO_641001 HO_655000 HO_655001 HO_656000 HO_656001 HO660 HO663 HO666 HO669 BK624 BK625 BK639 BK640 BK654 BK655 HB
      have HO_640000 := n0_
      have HO_640001 := n1_
      have HO_641000 := n2_
      have HO_641001 := n3_
      have HO_655000 := n4_
      have HO_655001 := n5_
      have HO_656000 := n6_
      have HO_656001 := n7_
      have HO660 := n8_
      have HO663 := n9_
      have HO666 := n10_
      have HO669 := n11_
      have BK624 := n12_
      have BK625 := n13_
      have BK639 := n14_
      have BK640 := n15_
      have BK654 := n16_
      have BK655 := n17_
      have HB := n18_
      clear n0_ n1_ n2_ n3_ n4_ n5_ n6_ n7_ n8_ n9_ n10_ n11_ n12_ n13_ n14_ n15_ n16_ n17_ n18_
      (try clear hb)
      (try clear hb2)
      (try clear hk)
      (try clear hi)
      refine hK.out _ _ ⟨(zab BK639.out 0).trans rfl, (zab BK639.out 1).trans rfl, (zab BK654.out 0).trans rfl, (zab BK654.out 1).trans rfl, (zab BK640.out 0).trans rfl, (zab BK640.out 1).trans rfl, (zab BK655.out 0).trans rfl, (zab BK655.out 1).trans rfl⟩ (fun hHeld => ?_)
      clear hK K
      refine norm_ (a' := ?_) ?_ ?_
      rotate_left
      ·
       show Act.put _ (some 42) _ = _
       simp only [Act.put, zs1, zs2, zs3, i64_w, i32_w]
       rfl
      refine pure_ (i := 7) (N := some 43) (v := ?_) (a' := ?_) #[true, true, true, true, true, true, true, true, false, false, false, false, false, false, false] rfl rfl (zbf HT_.out (by kernel_rfl)) (fun _ _ _ h => h) (Or.inl ⟨by rfl, ?_⟩) ?_ ?_
      rotate_left
      ·
       intro w'
       go_simp
       with_reducible rfl
      rotate_left
      ·
       simp only [Act.put, zs1, zs2, zs3, i64_w, i32_w]
       rfl
      refine pure_ (i := 8) (N := some 44) (v := ?_) (a' := ?_) #[true, true, true, true, true, true, true, true, true, false, false, false, false, false, false] rfl rfl (zbf HT_.out (by kernel_rfl)) (fun _ _ _ h => h) (Or.inl ⟨by rfl, ?_⟩) ?_ ?_
      rotate_left
      ·
       intro w'
       go_simp
       with_reducible rfl
      rotate_left
      ·
       simp only [Act.put, zs1, zs2, zs3, i64_w, i32_w]
       rfl
      refine take_ (i := 9) (N := some 45) (v := ?_) (a' := ?_) #[true, true, true, true, true, true, true, true, true, true, false, false, false, false, false] rfl rfl (zby HT_.out HW_.out (by kernel_rfl)) (fun _ _ _ h => h) (Or.inl ⟨by rfl, ?_⟩) hHeld ?_ ?_
      rotate_left
      ·
       rintro w' ⟨s0, s1, s2, s3, s4, s5, s6, s7⟩
       go_simp
       with_reducible rfl
      rotate_left
      ·
       simp only [Act.put, zs1, zs2, zs3, i64_w, i32_w]
       rfl
      refine take_ (i := 10) (N := some 46) (v := ?_) (a' := ?_) #[true, true, true, true, true, true, true, true, true, true, true, false, false, false, false] rfl rfl (zby HT_.out HW_.out (by kernel_rfl)) (fun _ _ _ h => h) (Or.inl ⟨by rfl, ?_⟩) hHeld ?_ ?_
      rotate_left
      ·
       rintro w' ⟨s0, s1, s2, s3, s4, s5, s6, s7⟩
       go_simp
       with_reducible rfl
      rotate_left
      ·
       simp only [Act.put, zs1, zs2, zs3, i64_w, i32_w]
       rfl
      refine one_ (i := 11) (N := some 47) #[true, true, true, true, true, true, true, true, true, true, true, true, false, false, false] rfl rfl (zcd HT_.out (by kernel_rfl)) (by decide) (fun K hK => ?_)
      refine goes_ Tryd.func29 (by kernel_rfl) rfl #[.agg #[.slice Ao13 t626.length co13, .slice Ao18 t629.length co18], .agg #[.slice Ao28 t641.length co28, .slice Ao35 t644.length co35]] (by rfl) rfl rfl (zE) ?_
      with_reducible refine (zcs.calls kj4 _ _ t626 _ _ t629 _ _ t641 _ _ t644 t671 t674 _ ?side1 ?side2 ?side3 ?side4 ?side5 ?side6 ?side7 ?side8 A57.out).mono ?_
      (case side1 => exact zJ (Kd.zar HO_640000.out).2.2)
      (case side2 => exact (Kd.zar HO_640000.out).2.1)
      (case side3 => exact zJ (Kd.zar HO_640001.out).2.2)
      (case side4 => exact (Kd.zar HO_640001.out).2.1)
      (case side5 => exact zJ (Kd.zar HO_655000.out).2.2)
      (case side6 => exact (Kd.zar HO_655000.out).2.1)
      (case side7 => exact zJ (Kd.zar HO_655001.out).2.2)
      (case side8 => exact (Kd.zar HO_655001.out).2.1)
      rintro e w67 ⟨v672, v675, rfl, ho0, ho1, hb⟩
      refine ⟨_, rfl, ?_⟩
      have n0_ := zA (Kd.zaq (zV HO_640000) hb)
      have n1_ := zA (Kd.zaq (zV HO_640001) hb)
      have n2_ := zA (Kd.zau (zR HO_641000) hb)
      have n3_ := zA (Kd.zau (zR HO_641001) hb)
      have n4_ := zA (Kd.zaq (zV HO_655000) hb)
      have n5_ := zA (Kd.zaq (zV HO_655001) hb)
      have n6_ := zA (Kd.zau (zR HO_656000) hb)
      have n7_ := zA (Kd.zau (zR HO_656001) hb)
      have n8_ := zA (Kd.zaq (zV HO660) hb)
      have n9_ := zA (Kd.zaq (zV HO663) hb)
      have n10_ := zA (Kd.zau (zR HO666) hb)
      have n11_ := zA (Kd.zau (zR HO669) hb)
      have n12_ := zA (Kd.zbl (Kd.zal (ok' := fun k_ => some k_ ≠ (.slice Ao19 t632.length co19 : Value).ownBlock ∧ some k_ ≠ (.slice Ao23 t635.length co23 : Value).ownBlock ∧ some k_ ≠ (.slice Ao36 t647.length co36 : Value).ownBlock ∧ some k_ ≠ (.slice Ao42 t650.length co42 : Value).ownBlock ∧ some k_ ≠ (.slice Ao64 t664.length co64 : Value).ownBlock ∧ some k_ ≠ (.slice Ao65 t667.length co65 : Value).ownBlock ∧ k_ ≠ gb624 ∧ k_ ≠ gb625 ∧ k_ ≠ gb639 ∧ k_ ≠ gb640 ∧ k_ ≠ gb654 ∧ k_ ≠ gb655) ho0 (fun k_ hk_ => ⟨(Kd.fresh' (Kd.R_lt (zR HO_641000)) k_ hk_), (Kd.fresh' (Kd.R_lt (zR HO_641001)) k_ hk_), (Kd.fresh' (Kd.R_lt (zR HO_656000)) k_ hk_), (Kd.fresh' (Kd.R_lt (zR HO_656001)) k_ hk_), (Kd.fresh' (Kd.R_lt (zR HO666)) k_ hk_), (Kd.fresh' (Kd.R_lt (zR HO669)) k_ hk_), (Kd.freshB (g := gb624) (o := .cells #[.slice A0_0 l0_0.length c0_0, .slice A0_1 l0_1.length c0_1] 24 (0, 0)) (zK BK624) k_ hk_), (Kd.freshB (g := gb625) (o := .cells #[.slice A1_0 l1_0.length c1_0, .slice A1_1 l1_1.length c1_1] 24 (0, 0)) (zK BK625) k_ hk_), (Kd.freshB (g := gb639) (o := .cells #[.slice Ao13 t626.length co13, .slice Ao18 t629.length co18] 28 (0, 0)) (zK BK639) k_ hk_), (Kd.freshB (g := gb640) (o := .cells #[.slice Ao19 t632.length co19, .slice Ao23 t635.length co23] 40 (0, 0)) (zK BK640) k_ hk_), (Kd.freshB (g := gb654) (o := .cells #[.slice Ao28 t641.length co28, .slice Ao35 t644.length co35] 28 (0, 0)) (zK BK654) k_ hk_), (Kd.freshB (g := gb655) (o := .cells #[.slice Ao36 t647.length co36, .slice Ao42 t650.length co42] 40 (0, 0)) (zK BK655) k_ hk_)⟩)) (za (zB HB)))
      have n13_ := zA (Kd.zbl (Kd.zal (ok' := fun k_ => some k_ ≠ (.slice Ao19 t632.length co19 : Value).ownBlock ∧ some k_ ≠ (.slice Ao23 t635.length co23 : Value).ownBlock ∧ some k_ ≠ (.slice Ao36 t647.length co36 : Value).ownBlock ∧ some k_ ≠ (.slice Ao42 t650.length co42 : Value).ownBlock ∧ some k_ ≠ (.slice Ao64 t664.length co64 : Value).ownBlock ∧ some k_ ≠ (.slice Ao65 t667.length co65 : Value).ownBlock ∧ k_ ≠ gb624 ∧ k_ ≠ gb625 ∧ k_ ≠ gb639 ∧ k_ ≠ gb640 ∧ k_ ≠ gb654 ∧ k_ ≠ gb655) ho1 (fun k_ hk_ => ⟨(Kd.fresh' (Kd.R_lt (zR HO_641000)) k_ hk_), (Kd.fresh' (Kd.R_lt (zR HO_641001)) k_ hk_), (Kd.fresh' (Kd.R_lt (zR HO_656000)) k_ hk_), (Kd.fresh' (Kd.R_lt (zR HO_656001)) k_ hk_), (Kd.fresh' (Kd.R_lt (zR HO666)) k_ hk_), (Kd.fresh' (Kd.R_lt (zR HO669)) k_ hk_), (Kd.freshB (g := gb624) (o := .cells #[.slice A0_0 l0_0.length c0_0, .slice A0_1 l0_1.length c0_1] 24 (0, 0)) (zK BK624) k_ hk_), (Kd.freshB (g := gb625) (o := .cells #[.slice A1_0 l1_0.length c1_0, .slice A1_1 l1_1.length c1_1] 24 (0, 0)) (zK BK625) k_ hk_), (Kd.freshB (g := gb639) (o := .cells #[.slice Ao13 t626.length co13, .slice Ao18 t629.length co18] 28 (0, 0)) (zK BK639) k_ hk_), (Kd.freshB (g := gb640) (o := .cells #[.slice Ao19 t632.length co19, .slice Ao23 t635.length co23] 40 (0, 0)) (zK BK640) k_ hk_), (Kd.freshB (g := gb654) (o := .cells #[.slice Ao28 t641.length co28, .slice Ao35 t644.length co35] 28 (0, 0)) (zK BK654) k_ hk_), (Kd.freshB (g := gb655) (o := .cells #[.slice Ao36 t647.length co36, .slice Ao42 t650.length co42] 40 (0, 0)) (zK BK655) k_ hk_)⟩)) (za (zB HB)))
      have n14_ := zA (zaa (g := gb624) (o := .cells #[.slice A0_0 l0_0.length c0_0, .slice A0_1 l0_1.length c0_1] 24 (0, 0)) (zK BK624) hb)
      have n15_ := zA (zaa (g := gb625) (o := .cells #[.slice A1_0 l1_0.length c1_0, .slice A1_1 l1_1.length c1_1] 24 (0, 0)) (zK BK625) hb)
      have n16_ := zA (zaa (g := gb639) (o := .cells #[.slice Ao13 t626.length co13, .slice Ao18 t629.length co18] 28 (0, 0)) (zK BK639) hb)
      have n17_ := zA (zaa (g := gb640) (o := .cells #[.slice Ao19 t632.length co19, .slice Ao23 t635.length co23] 40 (0, 0)) (zK BK640) hb)
      have n18_ := zA (zaa (g := gb654) (o := .cells #[.slice Ao28 t641.length co28, .slice Ao35 t644.length co35] 28 (0, 0)) (zK BK654) hb)
      have n19_ := zA (zaa (g := gb655) (o := .cells #[.slice Ao36 t647.length co36, .slice Ao42 t650.length co42] 40 (0, 0)) (zK BK655) hb)
      have n20_ := zA (zaf (zB HB) hb)
      clear HO_640000 HO_640001 HO_641000 HO_641001 HO_655000 HO_655001 HO_656000 HO_656001 HO660 HO663 HO666 HO669 BK624 BK625 BK639 BK640 BK654 BK655 HB
      have HO_640000 := n0_
      have HO_640001 := n1_
      have HO_641000 := n2_
      have HO_641001 := n3_
      have HO_655000 := n4_
      have HO_655001 := n5_
      have HO_656000 := n6_
      have HO_656001 := n7_
      have HO660 := n8_
      have HO663 := n9_
      have HO666 := n10_
      have HO669 := n11_
      have HO673 := n12_
      have HO676 := n13_
      have BK624 := n14_
      have BK625 := n15_
      have BK639 := n16_
      have BK640 := n17_
      have BK654 := n18_
      have BK655 := n19_
      have HB := n20_
      clear n0_ n1_ n2_ n3_ n4_ n5_ n6_ n7_ n8_ n9_ n10_ n11_ n12_ n13_ n14_ n15_ n16_ n17_ n18_ n19_ n20_
      (try clear hb)
      (try clear hb2)
      (try clear hk)
      (try clear hi)
      (try clear ho0)
      (try clear ho1)
      obtain ⟨Ao68, co68, eo68⟩ := Kd.zbp HO673.out
      (first | subst eo68 | (injection eo68 with f1_ f2_ f3_; have f4_ := f1_.symm; have f5_ := f3_.symm; clear f1_ f2_ f3_; subst f4_; subst f5_))
      obtain ⟨Ao69, co69, eo69⟩ := Kd.zbp HO676.out
      (first | subst eo69 | (injection eo69 with f1_ f2_ f3_; have f4_ := f1_.symm; have f5_ := f3_.symm; clear f1_ f2_ f3_; subst f4_; subst f5_))
      refine hK.out _ _ ⟨(zab BK639.out 0).trans rfl, (zab BK639.out 1).trans rfl, (zab BK654.out 0).trans rfl, (zab BK654.out 1).trans rfl, (zab BK640.out 0).trans rfl, (zab BK640.out 1).trans rfl, (zab BK655.out 0).trans rfl, (zab BK655.out 1).trans rfl⟩ (fun hHeld => ?_)
      clear hK K
      refine norm_ (a' := ?_) ?_ ?_
      rotate_left
      ·
       show Act.put _ (some 47) _ = _
       simp only [Act.put, zs1, zs2, zs3, i64_w, i32_w]
       rfl
      refine one_ (i := 12) (N := some 48) #[true, true, true, true, true, true, true, true, true, true, true, true, true, false, false] rfl rfl (zcd HT_.out (by kernel_rfl)) (by decide) (fun K hK => ?_)
      refine goes_ Tryd.func16 (by kernel_rfl) rfl #[.agg #[.slice Ao68 t671.length co68, .slice Ao69 t674.length co69]] (by rfl) rfl rfl (zE) ?_
      with_reducible refine (zco.calls kj4 _ _ t671 _ _ t674 t677 _ ?side1 ?side2 ?side3 ?side4 A58.out).mono ?_
      (case side1 => exact zJ (Kd.zar HO673.out).2.2)
      (case side2 => exact (Kd.zar HO673.out).2.1)
      (case side3 => exact zJ (Kd.zar HO676.out).2.2)
      (case side4 => exact (Kd.zar HO676.out).2.1)
      rintro e w70 ⟨rfl, hb⟩
      refine ⟨_, rfl, ?_⟩
      have n0_ := zA (Kd.zaq (zV HO_640000) hb)
      have n1_ := zA (Kd.zaq (zV HO_640001) hb)
      have n2_ := zA (Kd.zau (zR HO_641000) hb)
      have n3_ := zA (Kd.zau (zR HO_641001) hb)
      have n4_ := zA (Kd.zaq (zV HO_655000) hb)
      have n5_ := zA (Kd.zaq (zV HO_655001) hb)
      have n6_ := zA (Kd.zau (zR HO_656000) hb)
      have n7_ := zA (Kd.zau (zR HO_656001) hb)
      have n8_ := zA (Kd.zaq (zV HO660) hb)
      have n9_ := zA (Kd.zaq (zV HO663) hb)
      have n10_ := zA (Kd.zau (zR HO666) hb)
      have n11_ := zA (Kd.zau (zR HO669) hb)
      have n12_ := zA (Kd.zaq (zV HO673) hb)
      have n13_ := zA (Kd.zaq (zV HO676) hb)
      have n14_ := zA (zaa (g := gb624) (o := .cells #[.slice A0_0 l0_0.length c0_0, .slice A0_1 l0_1.length c0_1] 24 (0, 0)) (zK BK624) hb)
      have n15_ := zA (zaa (g := gb625) (o := .cells #[.slice A1_0 l1_0.length c1_0, .slice A1_1 l1_1.length c1_1] 24 (0, 0)) (zK BK625) hb)
      have n16_ := zA (zaa (g := gb639) (o := .cells #[.slice Ao13 t626.length co13, .slice Ao18 t629.length co18] 28 (0, 0)) (zK BK639) hb)
      have n17_ := zA (zaa (g := gb640) (o := .cells #[.slice Ao19 t632.length co19, .slice Ao23 t635.length co23] 40 (0, 0)) (zK BK640) hb)
      have n18_ := zA (zaa (g := gb654) (o := .cells #[.slice Ao28 t641.length co28, .slice Ao35 t644.length co35] 28 (0, 0)) (zK BK654) hb)
      have n19_ := zA (zaa (g := gb655) (o := .cells #[.slice Ao36 t647.length co36, .slice Ao42 t650.length co42] 40 (0, 0)) (zK BK655) hb)
      have n20_ := zA (zaf (zB HB) hb)
      clear HO_640000 HO_640001 HO_641000 HO_641001 HO_655000 HO_655001 HO_656000 HO_656001 HO660 HO663 HO666 HO669 HO673 HO676 BK624 BK625 BK639 BK640 BK654 BK655 HB
      have HO_640000 := n0_
      have HO_640001 := n1_
      have HO_641000 := n2_
      have HO_641001 := n3_
      have HO_655000 := n4_
      have HO_655001 := n5_
      have HO_656000 := n6_
      have HO_656001 := n7_
      have HO660 := n8_
      have HO663 := n9_
      have HO666 := n10_
      have HO669 := n11_
      have HO673 := n12_
      have HO676 := n13_
      have BK624 := n14_
      have BK625 := n15_
      have BK639 := n16_
      have BK640 := n17_
      have BK654 := n18_
      have BK655 := n19_
      have HB := n20_
      clear n0_ n1_ n2_ n3_ n4_ n5_ n6_ n7_ n8_ n9_ n10_ n11_ n12_ n13_ n14_ n15_ n16_ n17_ n18_ n19_ n20_
      (try clear hb)
      (try clear hb2)
      (try clear hk)
      (try clear hi)
      refine hK.out _ _ ⟨(zab BK639.out 0).trans rfl, (zab BK639.out 1).trans rfl, (zab BK654.out 0).trans rfl, (zab BK654.out 1).trans rfl, (zab BK640.out 0).trans rfl, (zab BK640.out 1).trans rfl, (zab BK655.out 0).trans rfl, (zab BK655.out 1).trans rfl⟩ (fun hHeld => ?_)
      clear hK K
      refine norm_ (a' := ?_) ?_ ?_
      rotate_left
      ·
       show Act.put _ (some 48) _ = _
       simp only [Act.put, zs1, zs2, zs3, i64_w, i32_w]
       rfl
      refine pure_ (i := 13) (N := some 49) (v := ?_) (a' := ?_) #[true, true, true, true, true, true, true, true, true, true, true, true, true, true, false] rfl rfl (zbf HT_.out (by kernel_rfl)) (fun _ _ _ h => h) (Or.inl ⟨by rfl, ?_⟩) ?_ ?_
      rotate_left
      ·
       intro w'
       go_simp
       with_reducible rfl
      rotate_left
      ·
       simp only [Act.put, zs1, zs2, zs3, i64_w, i32_w]
       rfl
      refine pure_ (i := 14) (N := some 50) (v := ?_) (a' := ?_) #[true, true, true, true, true, true, true, true, true, true, true, true, true, true, true] rfl rfl (zbf HT_.out (by kernel_rfl)) (fun _ _ _ h => h) (Or.inl ⟨by rfl, ?_⟩) ?_ ?_
      rotate_left
      ·
       intro w'
       go_simp
       with_reducible rfl
      rotate_left
      ·
       simp only [Act.put, zs1, zs2, zs3, i64_w, i32_w]
       rfl
      refine done_ (done_of HT_.out (by kernel_rfl)) ?_
      try go_wp2
      go_meet
      case rel => exact ⟨_, (!t677), (zF), H', ⟨by have := HJ4.out; first | omega | exact Nat.le_refl _⟩, ⟨by (with_reducible repeat (first | apply Kd.zbc | apply Kd.zbb | apply Kd.zbe)); exact Kd.zal HO_640000.out (fun _ hk => ⟨hk.1.1.1, ⟨hk.1.1.2.1, ⟨hk.1.1.2.2.1, ⟨hk.1.1.2.2.2.1, ⟨hk.1.1.2.2.2.2.1, ⟨hk.1.1.2.2.2.2.2.1, ⟨hk.1.1.2.2.2.2.2.2.1, ⟨hk.1.1.2.2.2.2.2.2.2.1, ⟨hk.1.1.2.2.2.2.2.2.2.2.1, hk.1.1.2.2.2.2.2.2.2.2.2⟩⟩⟩⟩⟩⟩⟩⟩⟩)⟩, ⟨by (with_reducible repeat (first | apply Kd.zbc | apply Kd.zbb | apply Kd.zbe)); exact Kd.zal HO_640001.out (fun _ hk => ⟨hk.1.1.1, ⟨hk.1.1.2.1, ⟨hk.1.1.2.2.1, ⟨hk.1.1.2.2.2.1, ⟨hk.1.1.2.2.2.2.1, ⟨hk.1.1.2.2.2.2.2.1, ⟨hk.1.1.2.2.2.2.2.2.1, ⟨hk.1.1.2.2.2.2.2.2.2.1, ⟨hk.1.1.2.2.2.2.2.2.2.2.1, hk.1.1.2.2.2.2.2.2.2.2.2⟩⟩⟩⟩⟩⟩⟩⟩⟩)⟩, ⟨by (with_reducible repeat (first | apply Kd.za6 | apply Kd.za7 | apply Kd.za9)); exact Kd.zaz HO_641000.out (fun _ hk => ⟨hk.1.1.1, ⟨hk.1.1.2.1, hk.1.1.2.2⟩⟩)⟩, ⟨by (with_reducible repeat (first | apply Kd.za6 | apply Kd.za7 | apply Kd.za9)); exact Kd.zaz HO_641001.out (fun _ hk => ⟨hk.1.1.1, ⟨hk.1.1.2.1, hk.1.1.2.2⟩⟩)⟩, ⟨by (with_reducible repeat (first | apply Kd.zbc | apply Kd.zbb | apply Kd.zbe)); exact Kd.zal HO_655000.out (fun _ hk => ⟨hk.1.1.1, ⟨hk.1.1.2.1, ⟨hk.1.1.2.2.1, ⟨hk.1.1.2.2.2.1, ⟨hk.1.1.2.2.2.2.1, ⟨hk.1.1.2.2.2.2.2.1, ⟨hk.1.1.2.2.2.2.2.2.1, ⟨hk.1.1.2.2.2.2.2.2.2.1, ⟨hk.1.1.2.2.2.2.2.2.2.2.1, hk.1.1.2.2.2.2.2.2.2.2.2⟩⟩⟩⟩⟩⟩⟩⟩⟩)⟩, ⟨by (with_reducible repeat (first | apply Kd.zbc | apply Kd.zbb | apply Kd.zbe)); exact Kd.zal HO_655001.out (fun _ hk => ⟨hk.1.1.1, ⟨hk.1.1.2.1, ⟨hk.1.1.2.2.1, ⟨hk.1.1.2.2.2.1, ⟨hk.1.1.2.2.2.2.1, ⟨hk.1.1.2.2.2.2.2.1, ⟨hk.1.1.2.2.2.2.2.2.1, ⟨hk.1.1.2.2.2.2.2.2.2.1, ⟨hk.1.1.2.2.2.2.2.2.2.2.1, hk.1.1.2.2.2.2.2.2.2.2.2⟩⟩⟩⟩⟩⟩⟩⟩⟩)⟩, ⟨by (with_reducible repeat (first | apply Kd.za6 | apply Kd.za7 | apply Kd.za9)); exact Kd.zaz HO_656000.out (fun _ hk => ⟨hk.1.1.1, ⟨hk.1.1.2.1, hk.1.1.2.2⟩⟩)⟩, ⟨by (with_reducible repeat (first | apply Kd.za6 | apply Kd.za7 | apply Kd.za9)); exact Kd.zaz HO_656001.out (fun _ hk => ⟨hk.1.1.1, ⟨hk.1.1.2.1, hk.1.1.2.2⟩⟩)⟩, ⟨zK BK624⟩, ⟨zK BK625⟩, ⟨zK BK639⟩, ⟨zK BK640⟩, ⟨zK BK654⟩, ⟨zK BK655⟩, ⟨zB HB⟩⟩
     ·
      replace c56 := Bool.eq_false_iff.mpr c56
      subst c56
      rw [if_neg (show ¬ (false = true) by decide)] at H
      have H' := zA H
      clear H
      try go_wp2
      have n0_ := zA (Kd.zbe HO_640000.out)
      have n1_ := zA (Kd.zbe HO_640001.out)
      have n2_ := zA (Kd.za9 HO_641000.out)
      have n3_ := zA (Kd.za9 HO_641001.out)
      have n4_ := zA (Kd.zbe HO_655000.out)
      have n5_ := zA (Kd.zbe HO_655001.out)
      have n6_ := zA (Kd.za9 HO_656000.out)
      have n7_ := zA (Kd.za9 HO_656001.out)
      have n8_ := zA (zae BK624.out)
      have n9_ := zA (zae BK625.out)
      have n10_ := zA (zae BK639.out)
      have n11_ := zA (zae BK640.out)
      have n12_ := zA (zae BK654.out)
      have n13_ := zA (zae BK655.out)
      have n14_ := zA (zbz HB.out)
      clear HO_640000 HO_640001 HO_641000 HO_641001 HO_655000 HO_655001 HO_656000 HO_656001 BK624 BK625 BK639 BK640 BK654 BK655 HB
      have HO_640000 := n0_
      have HO_640001 := n1_
      have HO_641000 := n2_
      have HO_641001 := n3_
      have HO_655000 := n4_
      have HO_655001 := n5_
      have HO_656000 := n6_
      have HO_656001 := n7_
      have BK624 := n8_
      have BK625 := n9_
      have BK639 := n10_
      have BK640 := n11_
      have BK654 := n12_
      have BK655 := n13_
      have HB := n14_
      clear n0_ n1_ n2_ n3_ n4_ n5_ n6_ n7_ n8_ n9_ n10_ n11_ n12_ n13_ n14_
      refine start_ (n := 15) (S := fun w' => w'.cell? ⟨gb639, 0, none⟩ = some (.slice Ao13 t626.length co13) ∧ w'.cell? ⟨gb639, 1, none⟩ = some (.slice Ao18 t629.length co18) ∧ w'.cell? ⟨gb654, 0, none⟩ = some (.slice Ao28 t641.length co28) ∧ w'.cell? ⟨gb654, 1, none⟩ = some (.slice Ao35 t644.length co35) ∧ w'.cell? ⟨gb640, 0, none⟩ = some (.slice Ao19 t632.length co19) ∧ w'.cell? ⟨gb640, 1, none⟩ = some (.slice Ao23 t635.length co23) ∧ w'.cell? ⟨gb655, 0, none⟩ = some (.slice Ao36 t647.length co36) ∧ w'.cell? ⟨gb655, 1, none⟩ = some (.slice Ao42 t650.length co42)) (ds := []) #[false, false, false, false, false, false, false, false, false, false, false, false, false, false, false] (by kernel_rfl) rfl rfl ⟨(zab BK639.out 0).trans rfl, (zab BK639.out 1).trans rfl, (zab BK654.out 0).trans rfl, (zab BK654.out 1).trans rfl, (zab BK640.out 0).trans rfl, (zab BK640.out 1).trans rfl, (zab BK655.out 0).trans rfl, (zab BK655.out 1).trans rfl⟩ (fun hHeld => ?_); refine zcz zah.tab5 zah.bits5 (fun HT_ HW_ => ?_)
      generalize wc.drew = w71 at HO_640000 HO_640001 HO_641000 HO_641001 HO_655000 HO_655001 HO_656000 HO_656001 BK624 BK625 BK639 BK640 BK654 BK655 HB hHeld ⊢
      refine take_ (i := 0) (N := some 36) (v := ?_) (a' := ?_) #[true, false, false, false, false, false, false, false, false, false, false, false, false, false, false] rfl rfl (zby HT_.out HW_.out (by kernel_rfl)) (fun _ _ _ h => h) (Or.inl ⟨by rfl, ?_⟩) hHeld ?_ ?_
      rotate_left
      ·
       rintro w' ⟨s0, s1, s2, s3, s4, s5, s6, s7⟩
       go_simp
       with_reducible rfl
      rotate_left
      ·
       simp only [Act.put, zs1, zs2, zs3, i64_w, i32_w]
       rfl
      refine take_ (i := 1) (N := some 37) (v := ?_) (a' := ?_) #[true, true, false, false, false, false, false, false, false, false, false, false, false, false, false] rfl rfl (zby HT_.out HW_.out (by kernel_rfl)) (fun _ _ _ h => h) (Or.inl ⟨by rfl, ?_⟩) hHeld ?_ ?_
      rotate_left
      ·
       rintro w' ⟨s0, s1, s2, s3, s4, s5, s6, s7⟩
       go_simp
       with_reducible rfl
      rotate_left
      ·
       simp only [Act.put, zs1, zs2, zs3, i64_w, i32_w]
       rfl
      refine take_ (i := 3) (N := some 39) (v := ?_) (a' := ?_) #[true, true, false, true, false, false, false, false, false, false, false, false, false, false, false] rfl rfl (zby HT_.out HW_.out (by kernel_rfl)) (fun _ _ _ h => h) (Or.inl ⟨by rfl, ?_⟩) hHeld ?_ ?_
      rotate_left
      ·
       rintro w' ⟨s0, s1, s2, s3, s4, s5, s6, s7⟩
       go_simp
       with_reducible rfl
      rotate_left
      ·
       simp only [Act.put, zs1, zs2, zs3, i64_w, i32_w]
       rfl
      refine take_ (i := 4) (N := some 40) (v := ?_) (a' := ?_) #[true, true, false, true, true, false, false, false, false, false, false, false, false, false, false] rfl rfl (zby HT_.out HW_.out (by kernel_rfl)) (fun _ _ _ h => h) (Or.inl ⟨by rfl, ?_⟩) hHeld ?_ ?_
      rotate_left
      ·
       rintro w' ⟨s0, s1, s2, s3, s4, s5, s6, s7⟩
       go_simp
       with_reducible rfl
      rotate_left
      ·
       simp only [Act.put, zs1, zs2, zs3, i64_w, i32_w]
       rfl
      refine one_ (i := 2) (N := some 38) #[true, true, true, true, true, false, false, false, false, false, false, false, false, false, false] rfl rfl (zcd HT_.out (by kernel_rfl)) (by decide) (fun K hK => ?_)
      refine goes_ Tryd.func29 (by kernel_rfl) rfl #[.agg #[.slice Ao13 t626.length co13, .slice Ao18 t629.length co18], .agg #[.slice Ao28 t641.length co28, .slice Ao35 t644.length co35]] (by rfl) rfl rfl (zE) ?_
      with_reducible refine (zcs.calls kj4 _ _ t626 _ _ t629 _ _ t641 _ _ t644 t658 t661 _ ?side1 ?side2 ?side3 ?side4 ?side5 ?side6 ?side7 ?side8 A53.out).mono ?_
      (case side1 => exact zJ (Kd.zar HO_640000.out).2.2)
      (case side2 => exact (Kd.zar HO_640000.out).2.1)
      (case side3 => exact zJ (Kd.zar HO_640001.out).2.2)
      (case side4 => exact (Kd.zar HO_640001.out).2.1)
      (case side5 => exact zJ (Kd.zar HO_655000.out).2.2)
      (case side6 => exact (Kd.zar HO_655000.out).2.1)
      (case side7 => exact zJ (Kd.zar HO_655001.out).2.2)
      (case side8 => exact (Kd.zar HO_655001.out).2.1)
      rintro e w72 ⟨v659, v662, rfl, ho0, ho1, hb⟩
      refine ⟨_, rfl, ?_⟩
      have n0_ := zA (Kd.zaq (zV HO_640000) hb)
      have n1_ := zA (Kd.zaq (zV HO_640001) hb)
      have n2_ := zA (Kd.zau (zR HO_641000) hb)
      have n3_ := zA (Kd.zau (zR HO_641001) hb)
      have n4_ := zA (Kd.zaq (zV HO_655000) hb)
      have n5_ := zA (Kd.zaq (zV HO_655001) hb)
      have n6_ := zA (Kd.zau (zR HO_656000) hb)
      have n7_ := zA (Kd.zau (zR HO_656001) hb)
      have n8_ := zA (Kd.zbl (Kd.zal (ok' := fun k_ => some k_ ≠ (.slice Ao19 t632.length co19 : Value).ownBlock ∧ some k_ ≠ (.slice Ao23 t635.length co23 : Value).ownBlock ∧ some k_ ≠ (.slice Ao36 t647.length co36 : Value).ownBlock ∧ some k_ ≠ (.slice Ao42 t650.length co42 : Value).ownBlock ∧ k_ ≠ gb624 ∧ k_ ≠ gb625 ∧ k_ ≠ gb639 ∧ k_ ≠ gb640 ∧ k_ ≠ gb654 ∧ k_ ≠ gb655) ho0 (fun k_ hk_ => ⟨(Kd.fresh' (Kd.R_lt (zR HO_641000)) k_ hk_), (Kd.fresh' (Kd.R_lt (zR HO_641001)) k_ hk_), (Kd.fresh' (Kd.R_lt (zR HO_656000)) k_ hk_), (Kd.fresh' (Kd.R_lt (zR HO_656001)) k_ hk_), (Kd.freshB (g := gb624) (o := .cells #[.slice A0_0 l0_0.length c0_0, .slice A0_1 l0_1.length c0_1] 24 (0, 0)) (zK BK624) k_ hk_), (Kd.freshB (g := gb625) (o := .cells #[.slice A1_0 l1_0.length c1_0, .slice A1_1 l1_1.length c1_1] 24 (0, 0)) (zK BK625) k_ hk_), (Kd.freshB (g := gb639) (o := .cells #[.slice Ao13 t626.length co13, .slice Ao18 t629.length co18] 28 (0, 0)) (zK BK639) k_ hk_), (Kd.freshB (g := gb640) (o := .cells #[.slice Ao19 t632.length co19, .slice Ao23 t635.length co23] 40 (0, 0)) (zK BK640) k_ hk_), (Kd.freshB (g := gb654) (o := .cells #[.slice Ao28 t641.length co28, .slice Ao35 t644.length co35] 28 (0, 0)) (zK BK654) k_ hk_), (Kd.freshB (g := gb655) (o := .cells #[.slice Ao36 t647.length co36, .slice Ao42 t650.length co42] 40 (0, 0)) (zK BK655) k_ hk_)⟩)) (za (zB HB)))
      have n9_ := zA (Kd.zbl (Kd.zal (ok' := fun k_ => some k_ ≠ (.slice Ao19 t632.length co19 : Value).ownBlock ∧ some k_ ≠ (.slice Ao23 t635.length co23 : Value).ownBlock ∧ some k_ ≠ (.slice Ao36 t647.length co36 : Value).ownBlock ∧ some k_ ≠ (.slice Ao42 t650.length co42 : Value).ownBlock ∧ k_ ≠ gb624 ∧ k_ ≠ gb625 ∧ k_ ≠ gb639 ∧ k_ ≠ gb640 ∧ k_ ≠ gb654 ∧ k_ ≠ gb655) ho1 (fun k_ hk_ => ⟨(Kd.fresh' (Kd.R_lt (zR HO_641000)) k_ hk_), (Kd.fresh' (Kd.R_lt (zR HO_641001)) k_ hk_), (Kd.fresh' (Kd.R_lt (zR HO_656000)) k_ hk_), (Kd.fresh' (Kd.R_lt (zR HO_656001)) k_ hk_), (Kd.freshB (g := gb624) (o := .cells #[.slice A0_0 l0_0.length c0_0, .slice A0_1 l0_1.length c0_1] 24 (0, 0)) (zK BK624) k_ hk_), (Kd.freshB (g := gb625) (o := .cells #[.slice A1_0 l1_0.length c1_0, .slice A1_1 l1_1.length c1_1] 24 (0, 0)) (zK BK625) k_ hk_), (Kd.freshB (g := gb639) (o := .cells #[.slice Ao13 t626.length co13, .slice Ao18 t629.length co18] 28 (0, 0)) (zK BK639) k_ hk_), (Kd.freshB (g := gb640) (o := .cells #[.slice Ao19 t632.length co19, .slice Ao23 t635.length co23] 40 (0, 0)) (zK BK640) k_ hk_), (Kd.freshB (g := gb654) (o := .cells #[.slice Ao28 t641.length co28, .slice Ao35 t644.length co35] 28 (0, 0)) (zK BK654) k_ hk_), (Kd.freshB (g := gb655) (o := .cells #[.slice Ao36 t647.length co36, .slice Ao42 t650.length co42] 40 (0, 0)) (zK BK655) k_ hk_)⟩)) (za (zB HB)))
      have n10_ := zA (zaa (g := gb624) (o := .cells #[.slice A0_0 l0_0.length c0_0, .slice A0_1 l0_1.length c0_1] 24 (0, 0)) (zK BK624) hb)
      have n11_ := zA (zaa (g := gb625) (o := .cells #[.slice A1_0 l1_0.length c1_0, .slice A1_1 l1_1.length c1_1] 24 (0, 0)) (zK BK625) hb)
      have n12_ := zA (zaa (g := gb639) (o := .cells #[.slice Ao13 t626.length co13, .slice Ao18 t629.length co18] 28 (0, 0)) (zK BK639) hb)
      have n13_ := zA (zaa (g := gb640) (o := .cells #[.slice Ao19 t632.length co19, .slice Ao23 t635.length co23] 40 (0, 0)) (zK BK640) hb)
      have n14_ := zA (zaa (g := gb654) (o := .cells #[.slice Ao28 t641.length co28, .slice Ao35 t644.length co35] 28 (0, 0)) (zK BK654) hb)
      have n15_ := zA (zaa (g := gb655) (o := .cells #[.slice Ao36 t647.length co36, .slice Ao42 t650.length co42] 40 (0, 0)) (zK BK655) hb)
      have n16_ := zA (zaf (zB HB) hb)
      clear HO_640000 HO_640001 HO_641000 HO_641001 HO_655000 HO_655001 HO_656000 HO_656001 BK624 BK625 BK639 BK640 BK654 BK655 HB
      have HO_640000 := n0_
      have HO_640001 := n1_
      have HO_641000 := n2_
      have HO_641001 := n3_
      have HO_655000 := n4_
      have HO_655001 := n5_
      have HO_656000 := n6_
      have HO_656001 := n7_
      have HO660 := n8_
      have HO663 := n9_
      have BK624 := n10_
      have BK625 := n11_
      have BK639 := n12_
      have BK640 := n13_
      have BK654 := n14_
      have BK655 := n15_
      have HB := n16_
      clear n0_ n1_ n2_ n3_ n4_ n5_ n6_ n7_ n8_ n9_ n10_ n11_ n12_ n13_ n14_ n15_ n16_
      (try clear hb)
      (try clear hb2)
      (try clear hk)
      (try clear hi)
      (try clear ho0)
      (try clear ho1)
      refine hK.out _ _ ⟨(zab BK639.out 0).trans rfl, (zab BK639.out 1).trans rfl, (zab BK654.out 0).trans rfl, (zab BK654.out 1).trans rfl, (zab BK640.out 0).trans rfl, (zab BK640.out 1).trans rfl, (zab BK655.out 0).trans rfl, (zab BK655.out 1).trans rfl⟩ (fun hHeld => ?_)
      clear hK K
      refine norm_ (a' := ?_) ?_ ?_
      rotate_left
      ·
       show Act.put _ (some 38) _ = _
       simp only [Act.put, zs1, zs2, zs3, i64_w, i32_w]
       rfl
      refine one_ (i := 5) (N := some 41) #[true, true, true, true, true, true, false, false, false, false, false, false, false, false, false] rfl rfl (zcd HT_.out (by kernel_rfl)) (by decide) (fun K hK => ?_)
      refine goes_ Tryd.func30 (by kernel_rfl) rfl #[.agg #[.slice Ao19 t632.length co19, .slice Ao23 t635.length co23], .agg #[.slice Ao36 t647.length co36, .slice Ao42 t650.length co42]] (by rfl) rfl rfl (zE) ?_
      with_reducible refine (zb0.calls kj4 _ _ t632 _ _ t635 _ _ t647 _ _ t650 t664 t667 _ ?side1 ?side2 ?side3 ?side4 ?side5 ?side6 ?side7 ?side8 A54.out).mono ?_
      (case side1 => exact zJ (Kd.zat HO_641000.out).2.2)
      (case side2 => exact (Kd.zat HO_641000.out).2.1)
      (case side3 => exact zJ (Kd.zat HO_641001.out).2.2)
      (case side4 => exact (Kd.zat HO_641001.out).2.1)
      (case side5 => exact zJ (Kd.zat HO_656000.out).2.2)
      (case side6 => exact (Kd.zat HO_656000.out).2.1)
      (case side7 => exact zJ (Kd.zat HO_656001.out).2.2)
      (case side8 => exact (Kd.zat HO_656001.out).2.1)
      rintro e w73 ⟨v665, v668, rfl, ho0, ho1, hb⟩
      refine ⟨_, rfl, ?_⟩
      have n0_ := zA (Kd.zal (Kd.zca (Kd.zca (Kd.V_old (zV HO_640000) hb) (Kd.za1 ho0)) (Kd.za1 ho1)) (fun _ h_ => h_.1))
      have n1_ := zA (Kd.zal (Kd.zca (Kd.zca (Kd.V_old (zV HO_640001) hb) (Kd.za1 ho0)) (Kd.za1 ho1)) (fun _ h_ => h_.1))
      have n2_ := zA (Kd.zaz (Kd.zcg (Kd.zcg (Kd.R_old (zR HO_641000) hb) (Kd.za1 ho0)) (Kd.za1 ho1)) (fun _ h_ => h_.1))
      have n3_ := zA (Kd.zaz (Kd.zcg (Kd.zcg (Kd.R_old (zR HO_641001) hb) (Kd.za1 ho0)) (Kd.za1 ho1)) (fun _ h_ => h_.1))
      have n4_ := zA (Kd.zal (Kd.zca (Kd.zca (Kd.V_old (zV HO_655000) hb) (Kd.za1 ho0)) (Kd.za1 ho1)) (fun _ h_ => h_.1))
      have n5_ := zA (Kd.zal (Kd.zca (Kd.zca (Kd.V_old (zV HO_655001) hb) (Kd.za1 ho0)) (Kd.za1 ho1)) (fun _ h_ => h_.1))
      have n6_ := zA (Kd.zaz (Kd.zcg (Kd.zcg (Kd.R_old (zR HO_656000) hb) (Kd.za1 ho0)) (Kd.za1 ho1)) (fun _ h_ => h_.1))
      have n7_ := zA (Kd.zaz (Kd.zcg (Kd.zcg (Kd.R_old (zR HO_656001) hb) (Kd.za1 ho0)) (Kd.za1 ho1)) (fun _ h_ => h_.1))
      have n8_ := zA (Kd.zal (Kd.zca (Kd.zca (Kd.V_old (zV HO660) hb) (Kd.za1 ho0)) (Kd.za1 ho1)) (fun _ h_ => h_.1))
      have n9_ := zA (Kd.zal (Kd.zca (Kd.zca (Kd.V_old (zV HO663) hb) (Kd.za1 ho0)) (Kd.za1 ho1)) (fun _ h_ => h_.1))
      have n10_ := zA (Kd.zbh (Kd.zbk (Kd.zbk (Kd.zbk (Kd.zbk ho0 (Kd.R_lt (zR HO_641000))) (Kd.R_lt (zR HO_641001))) (Kd.R_lt (zR HO_656000))) (Kd.R_lt (zR HO_656001))) (za (zB HB)))
      have n11_ := zA (Kd.zbh (Kd.zbk (Kd.zbk (Kd.zbk (Kd.zbk ho1 (Kd.R_lt (zR HO_641000))) (Kd.R_lt (zR HO_641001))) (Kd.R_lt (zR HO_656000))) (Kd.R_lt (zR HO_656001))) (za (zB HB)))
      have n12_ := zA (zaa (g := gb624) (o := .cells #[.slice A0_0 l0_0.length c0_0, .slice A0_1 l0_1.length c0_1] 24 (0, 0)) (zK BK624) hb)
      have n13_ := zA (zaa (g := gb625) (o := .cells #[.slice A1_0 l1_0.length c1_0, .slice A1_1 l1_1.length c1_1] 24 (0, 0)) (zK BK625) hb)
      have n14_ := zA (zaa (g := gb639) (o := .cells #[.slice Ao13 t626.length co13, .slice Ao18 t629.length co18] 28 (0, 0)) (zK BK639) hb)
      have n15_ := zA (zaa (g := gb640) (o := .cells #[.slice Ao19 t632.length co19, .slice Ao23 t635.length co23] 40 (0, 0)) (zK BK640) hb)
      have n16_ := zA (zaa (g := gb654) (o := .cells #[.slice Ao28 t641.length co28, .slice Ao35 t644.length co35] 28 (0, 0)) (zK BK654) hb)
      have n17_ := zA (zaa (g := gb655) (o := .cells #[.slice Ao36 t647.length co36, .slice Ao42 t650.length co42] 40 (0, 0)) (zK BK655) hb)
      have n18_ := zA (zaf (zB HB) hb)
      clear HO_640000 HO_640001 HO_641000 HO_641001 HO_655000 HO_655001 HO_656000 HO_656001 HO660 HO663 BK624 BK625 BK639 BK640 BK654 BK655 HB
      have HO_640000 := n0_
      have HO_640001 := n1_
      have HO_641000 := n2_
      have HO_641001 := n3_
      have HO_655000 := n4_
      have HO_655001 := n5_
      have HO_656000 := n6_
      have HO_656001 := n7_
      have HO660 := n8_
      have HO663 := n9_
      have HO666 := n10_
      have HO669 := n11_
      have BK624 := n12_
      have BK625 := n13_
      have BK639 := n14_
      have BK640 := n15_
      have BK654 := n16_
      have BK655 := n17_
      have HB := n18_
      clear n0_ n1_ n2_ n3_ n4_ n5_ n6_ n7_ n8_ n9_ n10_ n11_ n12_ n13_ n14_ n15_ n16_ n17_ n18_
      (try clear hb)
      (try clear hb2)
      (try clear hk)
      (try clear hi)
      (try clear ho0)
      (try clear ho1)
      obtain ⟨Ao74, co74, eo74⟩ := Kd.zbp HO660.out
      (first | subst eo74 | (injection eo74 with f1_ f2_ f3_; have f4_ := f1_.symm; have f5_ := f3_.symm; clear f1_ f2_ f3_; subst f4_; subst f5_))
      obtain ⟨Ao75, co75, eo75⟩ := Kd.zbp HO663.out
      (first | subst eo75 | (injection eo75 with f1_ f2_ f3_; have f4_ := f1_.symm; have f5_ := f3_.symm; clear f1_ f2_ f3_; subst f4_; subst f5_))
      obtain ⟨Ao76, co76, eo76⟩ := Kd.zbn HO666.out
      (first | subst eo76 | (injection eo76 with f1_ f2_ f3_; have f4_ := f1_.symm; have f5_ := f3_.symm; clear f1_ f2_ f3_; subst f4_; subst f5_))
      obtain ⟨Ao77, co77, eo77⟩ := Kd.zbn HO669.out
      (first | subst eo77 | (injection eo77 with f1_ f2_ f3_; have f4_ := f1_.symm; have f5_ := f3_.symm; clear f1_ f2_ f3_; subst f4_; subst f5_))
      refine hK.out _ _ ⟨(zab BK639.out 0).trans rfl, (zab BK639.out 1).trans rfl, (zab BK654.out 0).trans rfl, (zab BK654.out 1).trans rfl, (zab BK640.out 0).trans rfl, (zab BK640.out 1).trans rfl, (zab BK655.out 0).trans rfl, (zab BK655.out 1).trans rfl⟩ (fun hHeld => ?_)
      clear hK K
      refine norm_ (a' := ?_) ?_ ?_
      rotate_left
      ·
       show Act.put _ (some 41) _ = _
       simp only [Act.put, zs1, zs2, zs3, i64_w, i32_w]
       rfl
      refine one_ (i := 6) (N := some 42) #[true, true, true, true, true, true, true, false, false, false, false, false, false, false, false] rfl rfl (zcd HT_.out (by kernel_rfl)) (by decide) (fun K hK => ?_)
      refine goes_ Tryd.func21 (by kernel_rfl) rfl #[.agg #[.slice Ao74 t658.length co74, .slice Ao75 t661.length co75], .agg #[.slice Ao76 t664.length co76, .slice Ao77 t667.length co77]] (by rfl) rfl rfl (zE) ?_
      with_reducible refine (zck.calls kj4 _ _ t658 _ _ t661 _ _ t664 _ _ t667 false _ ?side1 ?side2 ?side3 ?side4 ?side5 ?side6 ?side7 ?side8 A55.out).mono ?_
      (case side1 => exact zJ (Kd.zar HO660.out).2.2)
      (case side2 => exact (Kd.zar HO660.out).2.1)
      (case side3 => exact zJ (Kd.zar HO663.out).2.2)
      (case side4 => exact (Kd.zar HO663.out).2.1)
      (case side5 => exact zJ (Kd.zat HO666.out).2.2)
      (case side6 => exact (Kd.zat HO666.out).2.1)
      (case side7 => exact zJ (Kd.zat HO669.out).2.2)
      (case side8 => exact (Kd.zat HO669.out).2.1)
      rintro e w78 ⟨rfl, hb⟩
      refine ⟨_, rfl, ?_⟩
      have n0_ := zA (Kd.zaq (zV HO_640000) hb)
      have n1_ := zA (Kd.zaq (zV HO_640001) hb)
      have n2_ := zA (Kd.zau (zR HO_641000) hb)
      have n3_ := zA (Kd.zau (zR HO_641001) hb)
      have n4_ := zA (Kd.zaq (zV HO_655000) hb)
      have n5_ := zA (Kd.zaq (zV HO_655001) hb)
      have n6_ := zA (Kd.zau (zR HO_656000) hb)
      have n7_ := zA (Kd.zau (zR HO_656001) hb)
      have n8_ := zA (Kd.zaq (zV HO660) hb)
      have n9_ := zA (Kd.zaq (zV HO663) hb)
      have n10_ := zA (Kd.zau (zR HO666) hb)
      have n11_ := zA (Kd.zau (zR HO669) hb)
      have n12_ := zA (zaa (g := gb624) (o := .cells #[.slice A0_0 l0_0.length c0_0, .slice A0_1 l0_1.length c0_1] 24 (0, 0)) (zK BK624) hb)
      have n13_ := zA (zaa (g := gb625) (o := .cells #[.slice A1_0 l1_0.length c1_0, .slice A1_1 l1_1.length c1_1] 24 (0, 0)) (zK BK625) hb)
      have n14_ := zA (zaa (g := gb639) (o := .cells #[.slice Ao13 t626.length co13, .slice Ao18 t629.length co18] 28 (0, 0)) (zK BK639) hb)
      have n15_ := zA (zaa (g := gb640) (o := .cells #[.slice Ao19 t632.length co19, .slice Ao23 t635.length co23] 40 (0, 0)) (zK BK640) hb)
      have n16_ := zA (zaa (g := gb654) (o := .cells #[.slice Ao28 t641.length co28, .slice Ao35 t644.length co35] 28 (0, 0)) (zK BK654) hb)
      have n17_ := zA (zaa (g := gb655) (o := .cells #[.slice Ao36 t647.length co36, .slice Ao42 t650.length co42] 40 (0, 0)) (zK BK655) hb)
      have n18_ := zA (zaf (zB HB) hb)
      clear HO_640000 HO_640001 HO_641000 HO_641001 HO_655000 HO_655001 HO_656000 HO_656001 HO660 HO663 HO666 HO669 BK624 BK625 BK639 BK640 BK654 BK655 HB
      have HO_640000 := n0_
      have HO_640001 := n1_
      have HO_641000 := n2_
      have HO_641001 := n3_
      have HO_655000 := n4_
      have HO_655001 := n5_
      have HO_656000 := n6_
      have HO_656001 := n7_
      have HO660 := n8_
      have HO663 := n9_
      have HO666 := n10_
      have HO669 := n11_
      have BK624 := n12_
      have BK625 := n13_
      have BK639 := n14_
      have BK640 := n15_
      have BK654 := n16_
      have BK655 := n17_
      have HB := n18_
      clear n0_ n1_ n2_ n3_ n4_ n5_ n6_ n7_ n8_ n9_ n10_ n11_ n12_ n13_ n14_ n15_ n16_ n17_ n18_
      (try clear hb)
      (try clear hb2)
      (try clear hk)
      (try clear hi)
      refine hK.out _ _ ⟨(zab BK639.out 0).trans rfl, (zab BK639.out 1).trans rfl, (zab BK654.out 0).trans rfl, (zab BK654.out 1).trans rfl, (zab BK640.out 0).trans rfl, (zab BK640.out 1).trans rfl, (zab BK655.out 0).trans rfl, (zab BK655.out 1).trans rfl⟩ (fun hHeld => ?_)
      clear hK K
      refine norm_ (a' := ?_) ?_ ?_
      rotate_left
      ·
       show Act.put _ (some 42) _ = _
       simp only [Act.put, zs1, zs2, zs3, i64_w, i32_w]
       rfl
      refine pure_ (i := 7) (N := some 43) (v := ?_) (a' := ?_) #[true, true, true, true, true, true, true, true, false, false, false, false, false, false, false] rfl rfl (zbf HT_.out (by kernel_rfl)) (fun _ _ _ h => h) (Or.inl ⟨by rfl, ?_⟩) ?_ ?_
      rotate_left
      ·
       intro w'
       go_simp
       with_reducible rfl
      rotate_left
      ·
       simp only [Act.put, zs1, zs2, zs3, i64_w, i32_w]
       rfl
      refine pure_ (i := 8) (N := some 44) (v := ?_) (a' := ?_) #[true, true, true, true, true, true, true, true, true, false, false, false, false, false, false] rfl rfl (zbf HT_.out (by kernel_rfl)) (fun _ _ _ h => h) (Or.inl ⟨by rfl, ?_⟩) ?_ ?_
      rotate_left
      ·
       intro w'
       go_simp
       with_reducible rfl
      rotate_left
      ·
       simp only [Act.put, zs1, zs2, zs3, i64_w, i32_w]
       rfl
      refine pure_ (i := 9) (N := some 45) (v := undef) (a' := ?_) #[true, true, true, true, true, true, true, true, true, true, false, false, false, false, false] rfl rfl (zbf HT_.out (by kernel_rfl)) (fun _ _ _ h => h) (Or.inr ⟨by rfl, rfl⟩) ?_ ?_
      rotate_left
      ·
       simp only [Act.put, zs1, zs2, zs3, i64_w, i32_w]
       rfl
      refine pure_ (i := 10) (N := some 46) (v := undef) (a' := ?_) #[true, true, true, true, true, true, true, true, true, true, true, false, false, false, false] rfl rfl (zbf HT_.out (by kernel_rfl)) (fun _ _ _ h => h) (Or.inr ⟨by rfl, rfl⟩) ?_ ?_
      rotate_left
      ·
       simp only [Act.put, zs1, zs2, zs3, i64_w, i32_w]
       rfl
      refine pure_ (i := 11) (N := some 47) (v := undef) (a' := ?_) #[true, true, true, true, true, true, true, true, true, true, true, true, false, false, false] rfl rfl (zbf HT_.out (by kernel_rfl)) (fun _ _ _ h => h) (Or.inr ⟨by rfl, rfl⟩) ?_ ?_
      rotate_left
      ·
       simp only [Act.put, zs1, zs2, zs3, i64_w, i32_w]
       rfl
      refine pure_ (i := 12) (N := some 48) (v := undef) (a' := ?_) #[true, true, true, true, true, true, true, true, true, true, true, true, true, false, false] rfl rfl (zbf HT_.out (by kernel_rfl)) (fun _ _ _ h => h) (Or.inr ⟨by rfl, rfl⟩) ?_ ?_
      rotate_left
      ·
       simp only [Act.put, zs1, zs2, zs3, i64_w, i32_w]
       rfl
      refine pure_ (i := 13) (N := some 49) (v := undef) (a' := ?_) #[true, true, true, true, true, true, true, true, true, true, true, true, true, true, false] rfl rfl (zbf HT_.out (by kernel_rfl)) (fun _ _ _ h => h) (Or.inr ⟨by rfl, rfl⟩) ?_ ?_
      rotate_left
      ·
       simp only [Act.put, zs1, zs2, zs3, i64_w, i32_w]
       rfl
      refine pure_ (i := 14) (N := some 50) (v := ?_) (a' := ?_) #[true, true, true, true, true, true, true, true, true, true, true, true, true, true, true] rfl rfl (zbf HT_.out (by kernel_rfl)) (fun _ _ _ h => h) (Or.inl ⟨by rfl, ?_⟩) ?_ ?_
      rotate_left
      ·
       intro w'
       go_simp
       with_reducible rfl
      rotate_left
      ·
       simp only [Act.put, zs1, zs2, zs3, i64_w, i32_w]
       rfl
      refine done_ (done_of HT_.out (by kernel_rfl)) ?_
      try go_wp2
      go_meet
      case rel => exact ⟨_, (true), (zF), H', ⟨by have := HJ4.out; first | omega | exact Nat.le_refl _⟩, ⟨by (with_reducible repeat (first | apply Kd.zbc | apply Kd.zbb | apply Kd.zbe)); exact Kd.zal HO_640000.out (fun _ hk => ⟨hk.1.1.1, ⟨hk.1.1.2.1, ⟨hk.1.1.2.2.1, ⟨hk.1.1.2.2.2.1, ⟨hk.1.1.2.2.2.2.1, ⟨hk.1.1.2.2.2.2.2.1, ⟨hk.1.1.2.2.2.2.2.2.1, ⟨hk.1.1.2.2.2.2.2.2.2.1, ⟨hk.1.1.2.2.2.2.2.2.2.2.1, hk.1.1.2.2.2.2.2.2.2.2.2⟩⟩⟩⟩⟩⟩⟩⟩⟩)⟩, ⟨by (with_reducible repeat (first | apply Kd.zbc | apply Kd.zbb | apply Kd.zbe)); exact Kd.zal HO_640001.out (fun _ hk => ⟨hk.1.1.1, ⟨hk.1.1.2.1, ⟨hk.1.1.2.2.1, ⟨hk.1.1.2.2.2.1, ⟨hk.1.1.2.2.2.2.1, ⟨hk.1.1.2.2.2.2.2.1, ⟨hk.1.1.2.2.2.2.2.2.1, ⟨hk.1.1.2.2.2.2.2.2.2.1, ⟨hk.1.1.2.2.2.2.2.2.2.2.1, hk.1.1.2.2.2.2.2.2.2.2.2⟩⟩⟩⟩⟩⟩⟩⟩⟩)⟩, ⟨by (with_reducible repeat (first | apply Kd.za6 | apply Kd.za7 | apply Kd.za9)); exact Kd.zaz HO_641000.out (fun _ hk => ⟨hk.1.1.1, ⟨hk.1.1.2.1, hk.1.1.2.2⟩⟩)⟩, ⟨by (with_reducible repeat (first | apply Kd.za6 | apply Kd.za7 | apply Kd.za9)); exact Kd.zaz HO_641001.out (fun _ hk => ⟨hk.1.1.1, ⟨hk.1.1.2.1, hk.1.1.2.2⟩⟩)⟩, ⟨by (with_reducible repeat (first | apply Kd.zbc | apply Kd.zbb | apply Kd.zbe)); exact Kd.zal HO_655000.out (fun _ hk => ⟨hk.1.1.1, ⟨hk.1.1.2.1, ⟨hk.1.1.2.2.1, ⟨hk.1.1.2.2.2.1, ⟨hk.1.1.2.2.2.2.1, ⟨hk.1.1.2.2.2.2.2.1, ⟨hk.1.1.2.2.2.2.2.2.1, ⟨hk.1.1.2.2.2.2.2.2.2.1, ⟨hk.1.1.2.2.2.2.2.2.2.2.1, hk.1.1.2.2.2.2.2.2.2.2.2⟩⟩⟩⟩⟩⟩⟩⟩⟩)⟩, ⟨by (with_reducible repeat (first | apply Kd.zbc | apply Kd.zbb | apply Kd.zbe)); exact Kd.zal HO_655001.out (fun _ hk => ⟨hk.1.1.1, ⟨hk.1.1.2.1, ⟨hk.1.1.2.2.1, ⟨hk.1.1.2.2.2.1, ⟨hk.1.1.2.2.2.2.1, ⟨hk.1.1.2.2.2.2.2.1, ⟨hk.1.1.2.2.2.2.2.2.1, ⟨hk.1.1.2.2.2.2.2.2.2.1, ⟨hk.1.1.2.2.2.2.2.2.2.2.1, hk.1.1.2.2.2.2.2.2.2.2.2⟩⟩⟩⟩⟩⟩⟩⟩⟩)⟩, ⟨by (with_reducible repeat (first | apply Kd.za6 | apply Kd.za7 | apply Kd.za9)); exact Kd.zaz HO_656000.out (fun _ hk => ⟨hk.1.1.1, ⟨hk.1.1.2.1, hk.1.1.2.2⟩⟩)⟩, ⟨by (with_reducible repeat (first | apply Kd.za6 | apply Kd.za7 | apply Kd.za9)); exact Kd.zaz HO_656001.out (fun _ hk => ⟨hk.1.1.1, ⟨hk.1.1.2.1, hk.1.1.2.2⟩⟩)⟩, ⟨zK BK624⟩, ⟨zK BK625⟩, ⟨zK BK639⟩, ⟨zK BK640⟩, ⟨zK BK654⟩, ⟨zK BK655⟩, ⟨zB HB⟩⟩
    case rest =>
     clear HC52
     try clear c1
     try clear c2
     try clear p2
     try clear c3
     try clear c5
     try clear p6
     try clear c16
     try clear c21
     try clear c29
     try clear c30
     try clear c56
     try clear p64
     obtain ⟨kq, x50_51, rfl, HA, HJ51, HO_640000, HO_640001, HO_641000, HO_641001, HO_655000, HO_655001, HO_656000, HO_656001, BK624, BK625, BK639, BK640, BK654, BK655, HB⟩ := hcut
     cases kq with
     | zero => exact absurd HA.out (by simp [zah.j1])
     | succ kj51 =>
      have H := HA.out
      clear HA
      simp only [zah.j1] at H
      by_cases c79 : x50_51 = true
      ·
       subst c79
       rw [if_pos rfl] at H
       exact absurd H (by simp)
      ·
       replace c79 := Bool.eq_false_iff.mpr c79
       subst c79
       rw [if_neg (show ¬ (false = true) by decide)] at H
       replace H := zO H
       obtain ⟨⟨t678, t681, t684⟩, A800, H⟩ := H
       try dsimp only at H
       have A80 := zA A800
       clear A800
       by_cases c81 : (t647.length : Int) = 0
       ·
        rw [if_pos c81] at H
        have c81b0 : ((t647.length : Int) == 0) = true := beq_iff_eq.mpr c81
        have c81b1 : ((t647.length : Int) != 0) = false := bne_eq_false_iff_eq.mpr c81
        clear c81
        by_cases c82 : t684 = 16
        ·
         rw [if_pos c82] at H
         have c82b0 : (t684 == 16) = true := beq_iff_eq.mpr c82
         have c82b1 : (t684 != 16) = false := bne_eq_false_iff_eq.mpr c82
         clear c82
         by_cases c83 : (t678.length : Int) = 0
         ·
          rw [if_pos c83] at H
          have c83b0 : ((t678.length : Int) == 0) = true := beq_iff_eq.mpr c83
          have c83b1 : ((t678.length : Int) != 0) = false := bne_eq_false_iff_eq.mpr c83
          clear c83
          obtain rfl := Option.some.inj H
          have hnb84 := NB639_624.out
          have hnc84 := NB624_639.out
          have hnb85 := NB639_625.out
          have hnc85 := NB625_639.out
          have hnb86 := NB639_640.out
          have hnc86 := NB640_639.out
          have hnb87 := NB639_654.out
          have hnc87 := NB654_639.out
          have hnb88 := NB639_655.out
          have hnc88 := NB655_639.out
          have hcz89_0 : wc.cell? ⟨gb639, 0, none⟩ = some (.slice Ao13 t626.length co13) := (zab BK639.out 0).trans rfl
          have hcz89_1 : wc.cell? ⟨gb639, 1, none⟩ = some (.slice Ao18 t629.length co18) := (zab BK639.out 1).trans rfl
          have hfz89_0 := zao BK639.out 0
          have hfz89_1 := zao BK639.out 1
          have hnb90 := NB654_624.out
          have hnc90 := NB624_654.out
          have hnb91 := NB654_625.out
          have hnc91 := NB625_654.out
          have hnb92 := NB654_640.out
          have hnc92 := NB640_654.out
          have hnb93 := NB654_655.out
          have hnc93 := NB655_654.out
          have hcz94_0 : wc.cell? ⟨gb654, 0, none⟩ = some (.slice Ao28 t641.length co28) := (zab BK654.out 0).trans rfl
          have hcz94_1 : wc.cell? ⟨gb654, 1, none⟩ = some (.slice Ao35 t644.length co35) := (zab BK654.out 1).trans rfl
          have hfz94_0 := zao BK654.out 0
          have hfz94_1 := zao BK654.out 1
          go_wp2_with (first | ((with_reducible refine zaj (f := 31) rfl ?_); refine zba (some 54) rfl rfl Tryd.func31 (by kernel_rfl) rfl #[.agg #[.slice Ao13 t626.length co13, .slice Ao18 t629.length co18], .agg #[.slice Ao28 t641.length co28, .slice Ao35 t644.length co35]] rfl (zE) ?_; (with_reducible refine (zcu.calls kj51 _ _ t626 _ _ t629 _ _ t641 _ _ t644 t678 t681 t684 _ ?side1 ?side2 ?side3 ?side4 ?side5 ?side6 ?side7 ?side8 A80.out).mono ?_); (case side1 => exact zJ (Kd.zar HO_640000.out).2.2); (case side2 => exact (Kd.zar HO_640000.out).2.1); (case side3 => exact zJ (Kd.zar HO_640001.out).2.2); (case side4 => exact (Kd.zar HO_640001.out).2.1); (case side5 => exact zJ (Kd.zar HO_655000.out).2.2); (case side6 => exact (Kd.zar HO_655000.out).2.1); (case side7 => exact zJ (Kd.zar HO_655001.out).2.2); (case side8 => exact (Kd.zar HO_655001.out).2.1); rintro e w95 ⟨v679, v682, rfl, ho0, ho1, hb⟩; refine ⟨_, rfl, ?_⟩; have n0_ := zA (Kd.zaq (zV HO_640000) hb); have n1_ := zA (Kd.zaq (zV HO_640001) hb); have n2_ := zA (Kd.zau (zR HO_641000) hb); have n3_ := zA (Kd.zau (zR HO_641001) hb); have n4_ := zA (Kd.zaq (zV HO_655000) hb); have n5_ := zA (Kd.zaq (zV HO_655001) hb); have n6_ := zA (Kd.zau (zR HO_656000) hb); have n7_ := zA (Kd.zau (zR HO_656001) hb); have n8_ := zA (Kd.zbl (Kd.zal (ok' := fun k_ => some k_ ≠ (.slice Ao19 t632.length co19 : Value).ownBlock ∧ some k_ ≠ (.slice Ao23 t635.length co23 : Value).ownBlock ∧ some k_ ≠ (.slice Ao36 t647.length co36 : Value).ownBlock ∧ some k_ ≠ (.slice Ao42 t650.length co42 : Value).ownBlock ∧ k_ ≠ gb624 ∧ k_ ≠ gb625 ∧ k_ ≠ gb639 ∧ k_ ≠ gb640 ∧ k_ ≠ gb654 ∧ k_ ≠ gb655) ho0 (fun k_ hk_ => ⟨(Kd.fresh' (Kd.R_lt (zR HO_641000)) k_ hk_), (Kd.fresh' (Kd.R_lt (zR HO_641001)) k_ hk_), (Kd.fresh' (Kd.R_lt (zR HO_656000)) k_ hk_), (Kd.fresh' (Kd.R_lt (zR HO_656001)) k_ hk_), (Kd.freshB (g := gb624) (o := .cells #[.slice A0_0 l0_0.length c0_0, .slice A0_1 l0_1.length c0_1] 24 (0, 0)) (zK BK624) k_ hk_), (Kd.freshB (g := gb625) (o := .cells #[.slice A1_0 l1_0.length c1_0, .slice A1_1 l1_1.length c1_1] 24 (0, 0)) (zK BK625) k_ hk_), (Kd.freshB (g := gb639) (o := .cells #[.slice Ao13 t626.length co13, .slice Ao18 t629.length co18] 28 (0, 0)) (zK BK639) k_ hk_), (Kd.freshB (g := gb640) (o := .cells #[.slice Ao19 t632.length co19, .slice Ao23 t635.length co23] 40 (0, 0)) (zK BK640) k_ hk_), (Kd.freshB (g := gb654) (o := .cells #[.slice Ao28 t641.length co28, .slice Ao35 t644.length co35] 28 (0, 0)) (zK BK654) k_ hk_), (Kd.freshB (g := gb655) (o := .cells #[.slice Ao36 t647.length co36, .slice Ao42 t650.length co42] 40 (0, 0)) (zK BK655) k_ hk_)⟩)) (za (zB HB))); have n9_ := zA (Kd.zbl (Kd.zal (ok' := fun k_ => some k_ ≠ (.slice Ao19 t632.length co19 : Value).ownBlock ∧ some k_ ≠ (.slice Ao23 t635.length co23 : Value).ownBlock ∧ some k_ ≠ (.slice Ao36 t647.length co36 : Value).ownBlock ∧ some k_ ≠ (.slice Ao42 t650.length co42 : Value).ownBlock ∧ k_ ≠ gb624 ∧ k_ ≠ gb625 ∧ k_ ≠ gb639 ∧ k_ ≠ gb640 ∧ k_ ≠ gb654 ∧ k_ ≠ gb655) ho1 (fun k_ hk_ => ⟨(Kd.fresh' (Kd.R_lt (zR HO_641000)) k_ hk_), (Kd.fresh' (Kd.R_lt (zR HO_641001)) k_ hk_), (Kd.fresh' (Kd.R_lt (zR HO_656000)) k_ hk_), (Kd.fresh' (Kd.R_lt (zR HO_656001)) k_ hk_), (Kd.freshB (g := gb624) (o := .cells #[.slice A0_0 l0_0.length c0_0, .slice A0_1 l0_1.length c0_1] 24 (0, 0)) (zK BK624) k_ hk_), (Kd.freshB (g := gb625) (o := .cells #[.slice A1_0 l1_0.length c1_0, .slice A1_1 l1_1.length c1_1] 24 (0, 0)) (zK BK625) k_ hk_), (Kd.freshB (g := gb639) (o := .cells #[.slice Ao13 t626.length co13, .slice Ao18 t629.length co18] 28 (0, 0)) (zK BK639) k_ hk_), (Kd.freshB (g := gb640) (o := .cells #[.slice Ao19 t632.length co19, .slice Ao23 t635.length co23] 40 (0, 0)) (zK BK640) k_ hk_), (Kd.freshB (g := gb654) (o := .cells #[.slice Ao28 t641.length co28, .slice Ao35 t644.length co35] 28 (0, 0)) (zK BK654) k_ hk_), (Kd.freshB (g := gb655) (o := .cells #[.slice Ao36 t647.length co36, .slice Ao42 t650.length co42] 40 (0, 0)) (zK BK655) k_ hk_)⟩)) (za (zB HB))); have n10_ := zA (zaa (g := gb624) (o := .cells #[.slice A0_0 l0_0.length c0_0, .slice A0_1 l0_1.length c0_1] 24 (0, 0)) (zK BK624) hb); have n11_ := zA (zaa (g := gb625) (o := .cells #[.slice A1_0 l1_0.length c1_0, .slice A1_1 l1_1.length c1_1] 24 (0, 0)) (zK BK625) hb); have n12_ := zA (zaa (g := gb639) (o := .cells #[.slice Ao13 t626.length co13, .slice Ao18 t629.length co18] 28 (0, 0)) (zK BK639) hb); have n13_ := zA (zaa (g := gb640) (o := .cells #[.slice Ao19 t632.length co19, .slice Ao23 t635.length co23] 40 (0, 0)) (zK BK640) hb); have n14_ := zA (zaa (g := gb654) (o := .cells #[.slice Ao28 t641.length co28, .slice Ao35 t644.length co35] 28 (0, 0)) (zK BK654) hb); have n15_ := zA (zaa (g := gb655) (o := .cells #[.slice Ao36 t647.length co36, .slice Ao42 t650.length co42] 40 (0, 0)) (zK BK655) hb); have n16_ := zA (zaf (zB HB) hb); clear HO_640000 HO_640001 HO_641000 HO_641001 HO_655000 HO_655001 HO_656000 HO_656001 BK624 BK625 BK639 BK640 BK654 BK655 HB; have HO_640000 := n0_; have HO_640001 := n1_; have HO_641000 := n2_; have HO_641001 := n3_; have HO_655000 := n4_; have HO_655001 := n5_; have HO_656000 := n6_; have HO_656001 := n7_; have HO680 := n8_; have HO683 := n9_; have BK624 := n10_; have BK625 := n11_; have BK639 := n12_; have BK640 := n13_; have BK654 := n14_; have BK655 := n15_; have HB := n16_; clear n0_ n1_ n2_ n3_ n4_ n5_ n6_ n7_ n8_ n9_ n10_ n11_ n12_ n13_ n14_ n15_ n16_; (try clear hb); (try clear hb2); (try clear hk); (try clear hi); (try clear ho0); (try clear ho1)) | ((with_reducible refine zbj (N := 11) rfl ?_); (try (refine zcl (by rfl) ?_; dsimp only)); refine zbo ?hg (N := 11) ?hd (cs := #[.slice none 0 0, .slice none 0 0]) (t := 28) ?hr ?_; (case hd => rfl); (case hg => rfl); (case hr => first | (go_simp; done) | (go_simp; rfl)); intro gb685 hg w96 hbox hb; have n0_ := zA (Kd.zaq (Kd.zb3 (zV HO_640000) gb685 (Nat.le_of_eq hg.symm)) hb); have n1_ := zA (Kd.zaq (Kd.zb3 (zV HO_640001) gb685 (Nat.le_of_eq hg.symm)) hb); have n2_ := zA (Kd.zau (zR HO_641000) hb); have n3_ := zA (Kd.zau (zR HO_641001) hb); have n4_ := zA (Kd.zaq (Kd.zb3 (zV HO_655000) gb685 (Nat.le_of_eq hg.symm)) hb); have n5_ := zA (Kd.zaq (Kd.zb3 (zV HO_655001) gb685 (Nat.le_of_eq hg.symm)) hb); have n6_ := zA (Kd.zau (zR HO_656000) hb); have n7_ := zA (Kd.zau (zR HO_656001) hb); have n8_ := zA (Kd.zaq (Kd.zb3 (zV HO680) gb685 (Nat.le_of_eq hg.symm)) hb); have n9_ := zA (Kd.zaq (Kd.zb3 (zV HO683) gb685 (Nat.le_of_eq hg.symm)) hb); have n10_ := zA (zaa (g := gb624) (o := .cells #[.slice A0_0 l0_0.length c0_0, .slice A0_1 l0_1.length c0_1] 24 (0, 0)) (zK BK624) hb); have n11_ := zA (zaa (g := gb625) (o := .cells #[.slice A1_0 l1_0.length c1_0, .slice A1_1 l1_1.length c1_1] 24 (0, 0)) (zK BK625) hb); have n12_ := zA (zaa (g := gb639) (o := .cells #[.slice Ao13 t626.length co13, .slice Ao18 t629.length co18] 28 (0, 0)) (zK BK639) hb); have n13_ := zA (zaa (g := gb640) (o := .cells #[.slice Ao19 t632.length co19, .slice Ao23 t635.length co23] 40 (0, 0)) (zK BK640) hb); have n14_ := zA (zaa (g := gb654) (o := .cells #[.slice Ao28 t641.length co28, .slice Ao35 t644.length co35] 28 (0, 0)) (zK BK654) hb); have n15_ := zA (zaa (g := gb655) (o := .cells #[.slice Ao36 t647.length co36, .slice Ao42 t650.length co42] 40 (0, 0)) (zK BK655) hb); have n16_ := zA (zaf (zB HB) hb); have n17_ := zA (hbox); have n18_ := zA ((by rw [hg]; exact (za (zB HB)) : w.heap.size ≤ gb685)); have n19_ := zA ((by rw [hg]; exact (za (zB HB)) : w.heap.size ≤ gb685)); have n20_ := zA ((by rw [hg]; exact Nat.ne_of_lt (za2 (g := gb624) (o := .cells #[.slice A0_0 l0_0.length c0_0, .slice A0_1 l0_1.length c0_1] 24 (0, 0)) (zK BK624)) : gb624 ≠ gb685)); have n21_ := zA ((by rw [hg]; exact Nat.ne_of_gt (za2 (g := gb624) (o := .cells #[.slice A0_0 l0_0.length c0_0, .slice A0_1 l0_1.length c0_1] 24 (0, 0)) (zK BK624)) : gb685 ≠ gb624)); have n22_ := zA ((by rw [hg]; exact Nat.ne_of_lt (za2 (g := gb625) (o := .cells #[.slice A1_0 l1_0.length c1_0, .slice A1_1 l1_1.length c1_1] 24 (0, 0)) (zK BK625)) : gb625 ≠ gb685)); have n23_ := zA ((by rw [hg]; exact Nat.ne_of_gt (za2 (g := gb625) (o := .cells #[.slice A1_0 l1_0.length c1_0, .slice A1_1 l1_1.length c1_1] 24 (0, 0)) (zK BK625)) : gb685 ≠ gb625)); have n24_ := zA ((by rw [hg]; exact Nat.ne_of_lt (za2 (g := gb639) (o := .cells #[.slice Ao13 t626.length co13, .slice Ao18 t629.length co18] 28 (0, 0)) (zK BK639)) : gb639 ≠ gb685)); have n25_ := zA ((by rw [hg]; exact Nat.ne_of_gt (za2 (g := gb639) (o := .cells #[.slice Ao13 t626.length co13, .slice Ao18 t629.length co18] 28 (0, 0)) (zK BK639)) : gb685 ≠ gb639)); have n26_ := zA ((by rw [hg]; exact Nat.ne_of_lt (za2 (g := gb640) (o := .cells #[.slice Ao19 t632.length co19, .slice Ao23 t635.length co23] 40 (0, 0)) (zK BK640)) : gb640 ≠ gb685)); have n27_ := zA ((by rw [hg]; exact Nat.ne_of_gt (za2 (g := gb640) (o := .cells #[.slice Ao19 t632.length co19, .slice Ao23 t635.length co23] 40 (0, 0)) (zK BK640)) : gb685 ≠ gb640)); have n28_ := zA ((by rw [hg]; exact Nat.ne_of_lt (za2 (g := gb654) (o := .cells #[.slice Ao28 t641.length co28, .slice Ao35 t644.length co35] 28 (0, 0)) (zK BK654)) : gb654 ≠ gb685)); have n29_ := zA ((by rw [hg]; exact Nat.ne_of_gt (za2 (g := gb654) (o := .cells #[.slice Ao28 t641.length co28, .slice Ao35 t644.length co35] 28 (0, 0)) (zK BK654)) : gb685 ≠ gb654)); have n30_ := zA ((by rw [hg]; exact Nat.ne_of_lt (za2 (g := gb655) (o := .cells #[.slice Ao36 t647.length co36, .slice Ao42 t650.length co42] 40 (0, 0)) (zK BK655)) : gb655 ≠ gb685)); have n31_ := zA ((by rw [hg]; exact Nat.ne_of_gt (za2 (g := gb655) (o := .cells #[.slice Ao36 t647.length co36, .slice Ao42 t650.length co42] 40 (0, 0)) (zK BK655)) : gb685 ≠ gb655)); clear HO_640000 HO_640001 HO_641000 HO_641001 HO_655000 HO_655001 HO_656000 HO_656001 HO680 HO683 BK624 BK625 BK639 BK640 BK654 BK655 HB; have HO_640000 := n0_; have HO_640001 := n1_; have HO_641000 := n2_; have HO_641001 := n3_; have HO_655000 := n4_; have HO_655001 := n5_; have HO_656000 := n6_; have HO_656001 := n7_; have HO680 := n8_; have HO683 := n9_; have BK624 := n10_; have BK625 := n11_; have BK639 := n12_; have BK640 := n13_; have BK654 := n14_; have BK655 := n15_; have HB := n16_; have BK685 := n17_; have GW685 := n18_; have GE685 := n19_; have NB624_685 := n20_; have NB685_624 := n21_; have NB625_685 := n22_; have NB685_625 := n23_; have NB639_685 := n24_; have NB685_639 := n25_; have NB640_685 := n26_; have NB685_640 := n27_; have NB654_685 := n28_; have NB685_654 := n29_; have NB655_685 := n30_; have NB685_655 := n31_; clear n0_ n1_ n2_ n3_ n4_ n5_ n6_ n7_ n8_ n9_ n10_ n11_ n12_ n13_ n14_ n15_ n16_ n17_ n18_ n19_ n20_ n21_ n22_ n23_ n24_ n25_ n26_ n27_ n28_ n29_ n30_ n31_ hb hbox hg; obtain ⟨Ao97, co97, eo97⟩ := Kd.zbp HO680.out; subst eo97; have hnb98 := NB685_624.out; have hnc98 := NB624_685.out; have hnb99 := NB685_625.out; have hnc99 := NB625_685.out; have hnb100 := NB685_639.out; have hnc100 := NB639_685.out; have hnb101 := NB685_640.out; have hnc101 := NB640_685.out; have hnb102 := NB685_654.out; have hnc102 := NB654_685.out; have hnb103 := NB685_655.out; have hnc103 := NB655_685.out; have hcz104_0 : w96.cell? ⟨gb685, 0, none⟩ = some (.slice none 0 0) := (zab BK685.out 0).trans rfl; have hcz104_1 : w96.cell? ⟨gb685, 1, none⟩ = some (.slice none 0 0) := (zab BK685.out 1).trans rfl; have hfz104_0 := zao BK685.out 0; have hfz104_1 := zao BK685.out 1; obtain ⟨Ao105, co105, eo105⟩ := Kd.zbp HO683.out; subst eo105; have hnb106 := NB655_624.out; have hnc106 := NB624_655.out; have hnb107 := NB655_625.out; have hnc107 := NB625_655.out; have hnb108 := NB655_640.out; have hnc108 := NB640_655.out; have hcz109_0 : w96.cell? ⟨gb655, 0, none⟩ = some (.slice Ao36 t647.length co36) := (zab BK655.out 0).trans rfl; have hcz109_1 : w96.cell? ⟨gb655, 1, none⟩ = some (.slice Ao42 t650.length co42) := (zab BK655.out 1).trans rfl; have hfz109_0 := zao BK655.out 0; have hfz109_1 := zao BK655.out 1))
          go_ret
          exact ⟨zW, zB HB⟩
         ·
          rw [if_neg c83] at H
          exact absurd H (by simp)
        ·
         rw [if_neg c82] at H
         exact absurd H (by simp)
       ·
        rw [if_neg c81] at H
        have c81b0 : ((t647.length : Int) == 0) = false := beq_eq_false_iff_ne.mpr c81
        have c81b1 : ((t647.length : Int) != 0) = true := bne_iff_ne.mpr c81
        have c81b2 : ¬ (t647 = []) := fun h_ => c81 (by rw [h_]; rfl)
        by_cases c110 : t684 = 0
        ·
         rw [if_pos c110] at H
         have c110b0 : (t684 == 0) = true := beq_iff_eq.mpr c110
         have c110b1 : (t684 != 0) = false := bne_eq_false_iff_eq.mpr c110
         clear c110
         replace H := zO H
         obtain ⟨⟨t686, t689⟩, A1110, H⟩ := H
         try dsimp only at H
         have A111 := zA A1110
         clear A1110
         replace H := zO H
         obtain ⟨t692, A1120, H⟩ := H
         try dsimp only at H
         have A112 := zA A1120
         clear A1120
         by_cases c113 : t692 = true
         ·
          subst c113
          rw [if_pos rfl] at H
          replace H := zO H
          obtain ⟨t693, A1140, H⟩ := H
          try dsimp only at H
          have A114 := zA A1140
          clear A1140
          obtain rfl := Option.some.inj H
          have hnb115 := NB639_624.out
          have hnc115 := NB624_639.out
          have hnb116 := NB639_625.out
          have hnc116 := NB625_639.out
          have hnb117 := NB639_640.out
          have hnc117 := NB640_639.out
          have hnb118 := NB639_654.out
          have hnc118 := NB654_639.out
          have hnb119 := NB639_655.out
          have hnc119 := NB655_639.out
          have hcz120_0 : wc.cell? ⟨gb639, 0, none⟩ = some (.slice Ao13 t626.length co13) := (zab BK639.out 0).trans rfl
          have hcz120_1 : wc.cell? ⟨gb639, 1, none⟩ = some (.slice Ao18 t629.length co18) := (zab BK639.out 1).trans rfl
          have hfz120_0 := zao BK639.out 0
          have hfz120_1 := zao BK639.out 1
          have hnb121 := NB654_624.out
          have hnc121 := NB624_654.out
          have hnb122 := NB654_625.out
          have hnc122 := NB625_654.out
          have hnb123 := NB654_640.out
          have hnc123 := NB640_654.out
          have hnb124 := NB654_655.out
          have hnc124 := NB655_654.out
          have hcz125_0 : wc.cell? ⟨gb654, 0, none⟩ = some (.slice Ao28 t641.length co28) := (zab BK654.out 0).trans rfl
          have hcz125_1 : wc.cell? ⟨gb654, 1, none⟩ = some (.slice Ao35 t644.length co35) := (zab BK654.out 1).trans rfl
          have hfz125_0 := zao BK654.out 0
          have hfz125_1 := zao BK654.out 1
          try go_wp2_with (first | ((with_reducible refine zaj (f := 31) rfl ?_); refine zba (some 54) rfl rfl Tryd.func31 (by kernel_rfl) rfl #[.agg #[.slice Ao13 t626.length co13, .slice Ao18 t629.length co18], .agg #[.slice Ao28 t641.length co28, .slice Ao35 t644.length co35]] rfl (zE) ?_; (with_reducible refine (zcu.calls kj51 _ _ t626 _ _ t629 _ _ t641 _ _ t644 t678 t681 t684 _ ?side1 ?side2 ?side3 ?side4 ?side5 ?side6 ?side7 ?side8 A80.out).mono ?_); (case side1 => exact zJ (Kd.zar HO_640000.out).2.2); (case side2 => exact (Kd.zar HO_640000.out).2.1); (case side3 => exact zJ (Kd.zar HO_640001.out).2.2); (case side4 => exact (Kd.zar HO_640001.out).2.1); (case side5 => exact zJ (Kd.zar HO_655000.out).2.2); (case side6 => exact (Kd.zar HO_655000.out).2.1); (case side7 => exact zJ (Kd.zar HO_655001.out).2.2); (case side8 => exact (Kd.zar HO_655001.out).2.1); rintro e w126 ⟨v679, v682, rfl, ho0, ho1, hb⟩; refine ⟨_, rfl, ?_⟩; have n0_ := zA (Kd.zaq (zV HO_640000) hb); have n1_ := zA (Kd.zaq (zV HO_640001) hb); have n2_ := zA (Kd.zau (zR HO_641000) hb); have n3_ := zA (Kd.zau (zR HO_641001) hb); have n4_ := zA (Kd.zaq (zV HO_655000) hb); have n5_ := zA (Kd.zaq (zV HO_655001) hb); have n6_ := zA (Kd.zau (zR HO_656000) hb); have n7_ := zA (Kd.zau (zR HO_656001) hb); have n8_ := zA (Kd.zbl (Kd.zal (ok' := fun k_ => some k_ ≠ (.slice Ao19 t632.length co19 : Value).ownBlock ∧ some k_ ≠ (.slice Ao23 t635.length co23 : Value).ownBlock ∧ some k_ ≠ (.slice Ao36 t647.length co36 : Value).ownBlock ∧ some k_ ≠ (.slice Ao42 t650.length co42 : Value).ownBlock ∧ k_ ≠ gb624 ∧ k_ ≠ gb625 ∧ k_ ≠ gb639 ∧ k_ ≠ gb640 ∧ k_ ≠ gb654 ∧ k_ ≠ gb655) ho0 (fun k_ hk_ => ⟨(Kd.fresh' (Kd.R_lt (zR HO_641000)) k_ hk_), (Kd.fresh' (Kd.R_lt (zR HO_641001)) k_ hk_), (Kd.fresh' (Kd.R_lt (zR HO_656000)) k_ hk_), (Kd.fresh' (Kd.R_lt (zR HO_656001)) k_ hk_), (Kd.freshB (g := gb624) (o := .cells #[.slice A0_0 l0_0.length c0_0, .slice A0_1 l0_1.length c0_1] 24 (0, 0)) (zK BK624) k_ hk_), (Kd.freshB (g := gb625) (o := .cells #[.slice A1_0 l1_0.length c1_0, .slice A1_1 l1_1.length c1_1] 24 (0, 0)) (zK BK625) k_ hk_), (Kd.freshB (g := gb639) (o := .cells #[.slice Ao13 t626.length co13, .slice Ao18 t629.length co18] 28 (0, 0)) (zK BK639) k_ hk_), (Kd.freshB (g := gb640) (o := .cells #[.slice Ao19 t632.length co19, .slice Ao23 t635.length co23] 40 (0, 0)) (zK BK640) k_ hk_), (Kd.freshB (g := gb654) (o := .cells #[.slice Ao28 t641.length co28, .slice Ao35 t644.length co35] 28 (0, 0)) (zK BK654) k_ hk_), (Kd.freshB (g := gb655) (o := .cells #[.slice Ao36 t647.length co36, .slice Ao42 t650.length co42] 40 (0, 0)) (zK BK655) k_ hk_)⟩)) (za (zB HB))); have n9_ := zA (Kd.zbl (Kd.zal (ok' := fun k_ => some k_ ≠ (.slice Ao19 t632.length co19 : Value).ownBlock ∧ some k_ ≠ (.slice Ao23 t635.length co23 : Value).ownBlock ∧ some k_ ≠ (.slice Ao36 t647.length co36 : Value).ownBlock ∧ some k_ ≠ (.slice Ao42 t650.length co42 : Value).ownBlock ∧ k_ ≠ gb624 ∧ k_ ≠ gb625 ∧ k_ ≠ gb639 ∧ k_ ≠ gb640 ∧ k_ ≠ gb654 ∧ k_ ≠ gb655) ho1 (fun k_ hk_ => ⟨(Kd.fresh' (Kd.R_lt (zR HO_641000)) k_ hk_), (Kd.fresh' (Kd.R_lt (zR HO_641001)) k_ hk_), (Kd.fresh' (Kd.R_lt (zR HO_656000)) k_ hk_), (Kd.fresh' (Kd.R_lt (zR HO_656001)) k_ hk_), (Kd.freshB (g := gb624) (o := .cells #[.slice A0_0 l0_0.length c0_0, .slice A0_1 l0_1.length c0_1] 24 (0, 0)) (zK BK624) k_ hk_), (Kd.freshB (g := gb625) (o := .cells #[.slice A1_0 l1_0.length c1_0, .slice A1_1 l1_1.length c1_1] 24 (0, 0)) (zK BK625) k_ hk_), (Kd.freshB (g := gb639) (o := .cells #[.slice Ao13 t626.length co13, .slice Ao18 t629.length co18] 28 (0, 0)) (zK BK639) k_ hk_), (Kd.freshB (g := gb640) (o := .cells #[.slice Ao19 t632.length co19, .slice Ao23 t635.length co23] 40 (0, 0)) (zK BK640) k_ hk_), (Kd.freshB (g := gb654) (o := .cells #[.slice Ao28 t641.length co28, .slice Ao35 t644.length co35] 28 (0, 0)) (zK BK654) k_ hk_), (Kd.freshB (g := gb655) (o := .cells #[.slice Ao36 t647.length co36, .slice Ao42 t650.length co42] 40 (0, 0)) (zK BK655) k_ hk_)⟩)) (za (zB HB))); have n10_ := zA (zaa (g := gb624) (o := .cells #[.slice A0_0 l0_0.length c0_0, .slice A0_1 l0_1.length c0_1] 24 (0, 0)) (zK BK624) hb); have n11_ := zA (zaa (g := gb625) (o := .cells #[.slice A1_0 l1_0.length c1_0, .slice A1_1 l1_1.length c1_1] 24 (0, 0)) (zK BK625) hb); have n12_ := zA (zaa (g := gb639) (o := .cells #[.slice Ao13 t626.length co13, .slice Ao18 t629.length co18] 28 (0, 0)) (zK BK639) hb); have n13_ := zA (zaa (g := gb640) (o := .cells #[.slice Ao19 t632.length co19, .slice Ao23 t635.length co23] 40 (0, 0)) (zK BK640) hb); have n14_ := zA (zaa (g := gb654) (o := .cells #[.slice Ao28 t641.length co28, .slice Ao35 t644.length co35] 28 (0, 0)) (zK BK654) hb); have n15_ := zA (zaa (g := gb655) (o := .cells #[.slice Ao36 t647.length co36, .slice Ao42 t650.length co42] 40 (0, 0)) (zK BK655) hb); have n16_ := zA (zaf (zB HB) hb); clear HO_640000 HO_640001 HO_641000 HO_641001 HO_655000 HO_655001 HO_656000 HO_656001 BK624 BK625 BK639 BK640 BK654 BK655 HB; have HO_640000 := n0_; have HO_640001 := n1_; have HO_641000 := n2_; have HO_641001 := n3_; have HO_655000 := n4_; have HO_655001 := n5_; have HO_656000 := n6_; have HO_656001 := n7_; have HO680 := n8_; have HO683 := n9_; have BK624 := n10_; have BK625 := n11_; have BK639 := n12_; have BK640 := n13_; have BK654 := n14_; have BK655 := n15_; have HB := n16_; clear n0_ n1_ n2_ n3_ n4_ n5_ n6_ n7_ n8_ n9_ n10_ n11_ n12_ n13_ n14_ n15_ n16_; (try clear hb); (try clear hb2); (try clear hk); (try clear hi); (try clear ho0); (try clear ho1)) | ((with_reducible refine zbj (N := 11) rfl ?_); (try (refine zcl (by rfl) ?_; dsimp only)); refine zbo ?hg (N := 11) ?hd (cs := #[.slice none 0 0, .slice none 0 0]) (t := 28) ?hr ?_; (case hd => rfl); (case hg => rfl); (case hr => first | (go_simp; done) | (go_simp; rfl)); intro gb685 hg w127 hbox hb; have n0_ := zA (Kd.zaq (Kd.zb3 (zV HO_640000) gb685 (Nat.le_of_eq hg.symm)) hb); have n1_ := zA (Kd.zaq (Kd.zb3 (zV HO_640001) gb685 (Nat.le_of_eq hg.symm)) hb); have n2_ := zA (Kd.zau (zR HO_641000) hb); have n3_ := zA (Kd.zau (zR HO_641001) hb); have n4_ := zA (Kd.zaq (Kd.zb3 (zV HO_655000) gb685 (Nat.le_of_eq hg.symm)) hb); have n5_ := zA (Kd.zaq (Kd.zb3 (zV HO_655001) gb685 (Nat.le_of_eq hg.symm)) hb); have n6_ := zA (Kd.zau (zR HO_656000) hb); have n7_ := zA (Kd.zau (zR HO_656001) hb); have n8_ := zA (Kd.zaq (Kd.zb3 (zV HO680) gb685 (Nat.le_of_eq hg.symm)) hb); have n9_ := zA (Kd.zaq (Kd.zb3 (zV HO683) gb685 (Nat.le_of_eq hg.symm)) hb); have n10_ := zA (zaa (g := gb624) (o := .cells #[.slice A0_0 l0_0.length c0_0, .slice A0_1 l0_1.length c0_1] 24 (0, 0)) (zK BK624) hb); have n11_ := zA (zaa (g := gb625) (o := .cells #[.slice A1_0 l1_0.length c1_0, .slice A1_1 l1_1.length c1_1] 24 (0, 0)) (zK BK625) hb); have n12_ := zA (zaa (g := gb639) (o := .cells #[.slice Ao13 t626.length co13, .slice Ao18 t629.length co18] 28 (0, 0)) (zK BK639) hb); have n13_ := zA (zaa (g := gb640) (o := .cells #[.slice Ao19 t632.length co19, .slice Ao23 t635.length co23] 40 (0, 0)) (zK BK640) hb); have n14_ := zA (zaa (g := gb654) (o := .cells #[.slice Ao28 t641.length co28, .slice Ao35 t644.length co35] 28 (0, 0)) (zK BK654) hb); have n15_ := zA (zaa (g := gb655) (o := .cells #[.slice Ao36 t647.length co36, .slice Ao42 t650.length co42] 40 (0, 0)) (zK BK655) hb); have n16_ := zA (zaf (zB HB) hb); have n17_ := zA (hbox); have n18_ := zA ((by rw [hg]; exact (za (zB HB)) : w.heap.size ≤ gb685)); have n19_ := zA ((by rw [hg]; exact (za (zB HB)) : w.heap.size ≤ gb685)); have n20_ := zA ((by rw [hg]; exact Nat.ne_of_lt (za2 (g := gb624) (o := .cells #[.slice A0_0 l0_0.length c0_0, .slice A0_1 l0_1.length c0_1] 24 (0, 0)) (zK BK624)) : gb624 ≠ gb685)); have n21_ := zA ((by rw [hg]; exact Nat.ne_of_gt (za2 (g := gb624) (o := .cells #[.slice A0_0 l0_0.length c0_0, .slice A0_1 l0_1.length c0_1] 24 (0, 0)) (zK BK624)) : gb685 ≠ gb624)); have n22_ := zA ((by rw [hg]; exact Nat.ne_of_lt (za2 (g := gb625) (o := .cells #[.slice A1_0 l1_0.length c1_0, .slice A1_1 l1_1.length c1_1] 24 (0, 0)) (zK BK625)) : gb625 ≠ gb685)); have n23_ := zA ((by rw [hg]; exact Nat.ne_of_gt (za2 (g := gb625) (o := .cells #[.slice A1_0 l1_0.length c1_0, .slice A1_1 l1_1.length c1_1] 24 (0, 0)) (zK BK625)) : gb685 ≠ gb625)); have n24_ := zA ((by rw [hg]; exact Nat.ne_of_lt (za2 (g := gb639) (o := .cells #[.slice Ao13 t626.length co13, .slice Ao18 t629.length co18] 28 (0, 0)) (zK BK639)) : gb639 ≠ gb685)); have n25_ := zA ((by rw [hg]; exact Nat.ne_of_gt (za2 (g := gb639) (o := .cells #[.slice Ao13 t626.length co13, .slice Ao18 t629.length co18] 28 (0, 0)) (zK BK639)) : gb685 ≠ gb639)); have n26_ := zA ((by rw [hg]; exact Nat.ne_of_lt (za2 (g := gb640) (o := .cells #[.slice Ao19 t632.length co19, .slice Ao23 t635.length co23] 40 (0, 0)) (zK BK640)) : gb640 ≠ gb685)); have n27_ := zA ((by rw [hg]; exact Nat.ne_of_gt (za2 (g := gb640) (o := .cells #[.slice Ao19 t632.length co19, .slice Ao23 t635.length co23] 40 (0, 0)) (zK BK640)) : gb685 ≠ gb640)); have n28_ := zA ((by rw [hg]; exact Nat.ne_of_lt (za2 (g := gb654) (o := .cells #[.slice Ao28 t641.length co28, .slice Ao35 t644.length co35] 28 (0, 0)) (zK BK654)) : gb654 ≠ gb685)); have n29_ := zA ((by rw [hg]; exact Nat.ne_of_gt (za2 (g := gb654) (o := .cells #[.slice Ao28 t641.length co28, .slice Ao35 t644.length co35] 28 (0, 0)) (zK BK654)) : gb685 ≠ gb654)); have n30_ := zA ((by rw [hg]; exact Nat.ne_of_lt (za2 (g := gb655) (o := .cells #[.slice Ao36 t647.length co36, .slice Ao42 t650.length co42] 40 (0, 0)) (zK BK655)) : gb655 ≠ gb685)); have n31_ := zA ((by rw [hg]; exact Nat.ne_of_gt (za2 (g := gb655) (o := .cells #[.slice Ao36 t647.length co36, .slice Ao42 t650.length co42] 40 (0, 0)) (zK BK655)) : gb685 ≠ gb655)); clear HO_640000 HO_640001 HO_641000 HO_641001 HO_655000 HO_655001 HO_656000 HO_656001 HO680 HO683 BK624 BK625 BK639 BK640 BK654 BK655 HB; have HO_640000 := n0_; have HO_640001 := n1_; have HO_641000 := n2_; have HO_641001 := n3_; have HO_655000 := n4_; have HO_655001 := n5_; have HO_656000 := n6_; have HO_656001 := n7_; have HO680 := n8_; have HO683 := n9_; have BK624 := n10_; have BK625 := n11_; have BK639 := n12_; have BK640 := n13_; have BK654 := n14_; have BK655 := n15_; have HB := n16_; have BK685 := n17_; have GW685 := n18_; have GE685 := n19_; have NB624_685 := n20_; have NB685_624 := n21_; have NB625_685 := n22_; have NB685_625 := n23_; have NB639_685 := n24_; have NB685_639 := n25_; have NB640_685 := n26_; have NB685_640 := n27_; have NB654_685 := n28_; have NB685_654 := n29_; have NB655_685 := n30_; have NB685_655 := n31_; clear n0_ n1_ n2_ n3_ n4_ n5_ n6_ n7_ n8_ n9_ n10_ n11_ n12_ n13_ n14_ n15_ n16_ n17_ n18_ n19_ n20_ n21_ n22_ n23_ n24_ n25_ n26_ n27_ n28_ n29_ n30_ n31_ hb hbox hg; obtain ⟨Ao128, co128, eo128⟩ := Kd.zbp HO680.out; subst eo128; have hnb129 := NB685_624.out; have hnc129 := NB624_685.out; have hnb130 := NB685_625.out; have hnc130 := NB625_685.out; have hnb131 := NB685_639.out; have hnc131 := NB639_685.out; have hnb132 := NB685_640.out; have hnc132 := NB640_685.out; have hnb133 := NB685_654.out; have hnc133 := NB654_685.out; have hnb134 := NB685_655.out; have hnc134 := NB655_685.out; have hcz135_0 : w127.cell? ⟨gb685, 0, none⟩ = some (.slice none 0 0) := (zab BK685.out 0).trans rfl; have hcz135_1 : w127.cell? ⟨gb685, 1, none⟩ = some (.slice none 0 0) := (zab BK685.out 1).trans rfl; have hfz135_0 := zao BK685.out 0; have hfz135_1 := zao BK685.out 1; obtain ⟨Ao136, co136, eo136⟩ := Kd.zbp HO683.out; subst eo136; have hnb137 := NB655_624.out; have hnc137 := NB624_655.out; have hnb138 := NB655_625.out; have hnc138 := NB625_655.out; have hnb139 := NB655_640.out; have hnc139 := NB640_655.out; have hcz140_0 : w127.cell? ⟨gb655, 0, none⟩ = some (.slice Ao36 t647.length co36) := (zab BK655.out 0).trans rfl; have hcz140_1 : w127.cell? ⟨gb655, 1, none⟩ = some (.slice Ao42 t650.length co42) := (zab BK655.out 1).trans rfl; have hfz140_0 := zao BK655.out 0; have hfz140_1 := zao BK655.out 1))
          have n0_ : Aside0 (Kd.V (Kd.int .u64) 57 ((w127.setCell ⟨gb685, 0, none⟩ (.slice Ao128 t678.length co128)).setCell ⟨gb685, 1, none⟩ (.slice Ao136 t681.length co136)) w.heap.size (fun k_ => some k_ ≠ (.slice Ao19 t632.length co19 : Value).ownBlock ∧ some k_ ≠ (.slice Ao23 t635.length co23 : Value).ownBlock ∧ some k_ ≠ (.slice Ao36 t647.length co36 : Value).ownBlock ∧ some k_ ≠ (.slice Ao42 t650.length co42 : Value).ownBlock ∧ k_ ≠ gb624 ∧ k_ ≠ gb625 ∧ k_ ≠ gb639 ∧ k_ ≠ gb640 ∧ k_ ≠ gb654 ∧ k_ ≠ gb655 ∧ k_ ≠ gb685) (.slice Ao13 t626.length co13) t626) := ⟨by (with_reducible repeat (first | apply Kd.zbc | apply Kd.zbb | apply Kd.zbe)); exact Kd.zal (Kd.V_far (p := ⟨gb685, 1, none⟩) (Kd.V_far (p := ⟨gb685, 0, none⟩) (Kd.zal HO_640000.out (fun k_ hk => (⟨hk, hk.2⟩ : _ ∧ k_ ≠ gb685))) (fun _ hk => hk.2) (.slice Ao128 t678.length co128)) (fun _ hk => hk.2) (.slice Ao136 t681.length co136)) (fun _ hk => ⟨hk.1.1.1, ⟨hk.1.1.2.1, ⟨hk.1.1.2.2.1, ⟨hk.1.1.2.2.2.1, ⟨hk.1.1.2.2.2.2.1, ⟨hk.1.1.2.2.2.2.2.1, ⟨hk.1.1.2.2.2.2.2.2.1, ⟨hk.1.1.2.2.2.2.2.2.2.1, ⟨hk.1.1.2.2.2.2.2.2.2.2.1, ⟨hk.1.1.2.2.2.2.2.2.2.2.2, hk.1.2⟩⟩⟩⟩⟩⟩⟩⟩⟩⟩)⟩
          have n1_ : Aside0 (Kd.V (Kd.int .u64) 57 ((w127.setCell ⟨gb685, 0, none⟩ (.slice Ao128 t678.length co128)).setCell ⟨gb685, 1, none⟩ (.slice Ao136 t681.length co136)) w.heap.size (fun k_ => some k_ ≠ (.slice Ao19 t632.length co19 : Value).ownBlock ∧ some k_ ≠ (.slice Ao23 t635.length co23 : Value).ownBlock ∧ some k_ ≠ (.slice Ao36 t647.length co36 : Value).ownBlock ∧ some k_ ≠ (.slice Ao42 t650.length co42 : Value).ownBlock ∧ k_ ≠ gb624 ∧ k_ ≠ gb625 ∧ k_ ≠ gb639 ∧ k_ ≠ gb640 ∧ k_ ≠ gb654 ∧ k_ ≠ gb655 ∧ k_ ≠ gb685) (.slice Ao18 t629.length co18) t629) := ⟨by (with_reducible repeat (first | apply Kd.zbc | apply Kd.zbb | apply Kd.zbe)); exact Kd.zal (Kd.V_far (p := ⟨gb685, 1, none⟩) (Kd.V_far (p := ⟨gb685, 0, none⟩) (Kd.zal HO_640001.out (fun k_ hk => (⟨hk, hk.2⟩ : _ ∧ k_ ≠ gb685))) (fun _ hk => hk.2) (.slice Ao128 t678.length co128)) (fun _ hk => hk.2) (.slice Ao136 t681.length co136)) (fun _ hk => ⟨hk.1.1.1, ⟨hk.1.1.2.1, ⟨hk.1.1.2.2.1, ⟨hk.1.1.2.2.2.1, ⟨hk.1.1.2.2.2.2.1, ⟨hk.1.1.2.2.2.2.2.1, ⟨hk.1.1.2.2.2.2.2.2.1, ⟨hk.1.1.2.2.2.2.2.2.2.1, ⟨hk.1.1.2.2.2.2.2.2.2.2.1, ⟨hk.1.1.2.2.2.2.2.2.2.2.2, hk.1.2⟩⟩⟩⟩⟩⟩⟩⟩⟩⟩)⟩
          have n2_ : Aside0 (Kd.R (Kd.int .i64) 3 ((w127.setCell ⟨gb685, 0, none⟩ (.slice Ao128 t678.length co128)).setCell ⟨gb685, 1, none⟩ (.slice Ao136 t681.length co136)) w.heap.size (fun k_ => some k_ ≠ (.slice Ao23 t635.length co23 : Value).ownBlock ∧ some k_ ≠ (.slice Ao36 t647.length co36 : Value).ownBlock ∧ some k_ ≠ (.slice Ao42 t650.length co42 : Value).ownBlock) (.slice Ao19 t632.length co19) t632) := ⟨by (with_reducible repeat (first | apply Kd.za6 | apply Kd.za7 | apply Kd.za9)); exact Kd.zaz (Kd.R_far (p := ⟨gb685, 1, none⟩) (Kd.R_far (p := ⟨gb685, 0, none⟩) (Kd.zbq HO_641000.out BK685.out (by decide)) (fun _ hk => hk.2) (.slice Ao128 t678.length co128)) (fun _ hk => hk.2) (.slice Ao136 t681.length co136)) (fun _ hk => ⟨hk.1.1, ⟨hk.1.2.1, hk.1.2.2⟩⟩)⟩
          have n3_ : Aside0 (Kd.R (Kd.int .i64) 3 ((w127.setCell ⟨gb685, 0, none⟩ (.slice Ao128 t678.length co128)).setCell ⟨gb685, 1, none⟩ (.slice Ao136 t681.length co136)) w.heap.size (fun k_ => some k_ ≠ (.slice Ao19 t632.length co19 : Value).ownBlock ∧ some k_ ≠ (.slice Ao36 t647.length co36 : Value).ownBlock ∧ some k_ ≠ (.slice Ao42 t650.length co42 : Value).ownBlock) (.slice Ao23 t635.length co23) t635) := ⟨by (with_reducible repeat (first | apply Kd.za6 | apply Kd.za7 | apply Kd.za9)); exact Kd.zaz (Kd.R_far (p := ⟨gb685, 1, none⟩) (Kd.R_far (p := ⟨gb685, 0, none⟩) (Kd.zbq HO_641001.out BK685.out (by decide)) (fun _ hk => hk.2) (.slice Ao128 t678.length co128)) (fun _ hk => hk.2) (.slice Ao136 t681.length co136)) (fun _ hk => ⟨hk.1.1, ⟨hk.1.2.1, hk.1.2.2⟩⟩)⟩
          have n4_ : Aside0 (Kd.V (Kd.int .u64) 57 ((w127.setCell ⟨gb685, 0, none⟩ (.slice Ao128 t678.length co128)).setCell ⟨gb685, 1, none⟩ (.slice Ao136 t681.length co136)) w.heap.size (fun k_ => some k_ ≠ (.slice Ao19 t632.length co19 : Value).ownBlock ∧ some k_ ≠ (.slice Ao23 t635.length co23 : Value).ownBlock ∧ some k_ ≠ (.slice Ao36 t647.length co36 : Value).ownBlock ∧ some k_ ≠ (.slice Ao42 t650.length co42 : Value).ownBlock ∧ k_ ≠ gb624 ∧ k_ ≠ gb625 ∧ k_ ≠ gb639 ∧ k_ ≠ gb640 ∧ k_ ≠ gb654 ∧ k_ ≠ gb655 ∧ k_ ≠ gb685) (.slice Ao28 t641.length co28) t641) := ⟨by (with_reducible repeat (first | apply Kd.zbc | apply Kd.zbb | apply Kd.zbe)); exact Kd.zal (Kd.V_far (p := ⟨gb685, 1, none⟩) (Kd.V_far (p := ⟨gb685, 0, none⟩) (Kd.zal HO_655000.out (fun k_ hk => (⟨hk, hk.2⟩ : _ ∧ k_ ≠ gb685))) (fun _ hk => hk.2) (.slice Ao128 t678.length co128)) (fun _ hk => hk.2) (.slice Ao136 t681.length co136)) (fun _ hk => ⟨hk.1.1.1, ⟨hk.1.1.2.1, ⟨hk.1.1.2.2.1, ⟨hk.1.1.2.2.2.1, ⟨hk.1.1.2.2.2.2.1, ⟨hk.1.1.2.2.2.2.2.1, ⟨hk.1.1.2.2.2.2.2.2.1, ⟨hk.1.1.2.2.2.2.2.2.2.1, ⟨hk.1.1.2.2.2.2.2.2.2.2.1, ⟨hk.1.1.2.2.2.2.2.2.2.2.2, hk.1.2⟩⟩⟩⟩⟩⟩⟩⟩⟩⟩)⟩
          have n5_ : Aside0 (Kd.V (Kd.int .u64) 57 ((w127.setCell ⟨gb685, 0, none⟩ (.slice Ao128 t678.length co128)).setCell ⟨gb685, 1, none⟩ (.slice Ao136 t681.length co136)) w.heap.size (fun k_ => some k_ ≠ (.slice Ao19 t632.length co19 : Value).ownBlock ∧ some k_ ≠ (.slice Ao23 t635.length co23 : Value).ownBlock ∧ some k_ ≠ (.slice Ao36 t647.length co36 : Value).ownBlock ∧ some k_ ≠ (.slice Ao42 t650.length co42 : Value).ownBlock ∧ k_ ≠ gb624 ∧ k_ ≠ gb625 ∧ k_ ≠ gb639 ∧ k_ ≠ gb640 ∧ k_ ≠ gb654 ∧ k_ ≠ gb655 ∧ k_ ≠ gb685) (.slice Ao35 t644.length co35) t644) := ⟨by (with_reducible repeat (first | apply Kd.zbc | apply Kd.zbb | apply Kd.zbe)); exact Kd.zal (Kd.V_far (p := ⟨gb685, 1, none⟩) (Kd.V_far (p := ⟨gb685, 0, none⟩) (Kd.zal HO_655001.out (fun k_ hk => (⟨hk, hk.2⟩ : _ ∧ k_ ≠ gb685))) (fun _ hk => hk.2) (.slice Ao128 t678.length co128)) (fun _ hk => hk.2) (.slice Ao136 t681.length co136)) (fun _ hk => ⟨hk.1.1.1, ⟨hk.1.1.2.1, ⟨hk.1.1.2.2.1, ⟨hk.1.1.2.2.2.1, ⟨hk.1.1.2.2.2.2.1, ⟨hk.1.1.2.2.2.2.2.1, ⟨hk.1.1.2.2.2.2.2.2.1, ⟨hk.1.1.2.2.2.2.2.2.2.1, ⟨hk.1.1.2.2.2.2.2.2.2.2.1, ⟨hk.1.1.2.2.2.2.2.2.2.2.2, hk.1.2⟩⟩⟩⟩⟩⟩⟩⟩⟩⟩)⟩
          have n6_ : Aside0 (Kd.R (Kd.int .i64) 3 ((w127.setCell ⟨gb685, 0, none⟩ (.slice Ao128 t678.length co128)).setCell ⟨gb685, 1, none⟩ (.slice Ao136 t681.length co136)) w.heap.size (fun k_ => some k_ ≠ (.slice Ao19 t632.length co19 : Value).ownBlock ∧ some k_ ≠ (.slice Ao23 t635.length co23 : Value).ownBlock ∧ some k_ ≠ (.slice Ao42 t650.length co42 : Value).ownBlock) (.slice Ao36 t647.length co36) t647) := ⟨by (with_reducible repeat (first | apply Kd.za6 | apply Kd.za7 | apply Kd.za9)); exact Kd.zaz (Kd.R_far (p := ⟨gb685, 1, none⟩) (Kd.R_far (p := ⟨gb685, 0, none⟩) (Kd.zbq HO_656000.out BK685.out (by decide)) (fun _ hk => hk.2) (.slice Ao128 t678.length co128)) (fun _ hk => hk.2) (.slice Ao136 t681.length co136)) (fun _ hk => ⟨hk.1.1, ⟨hk.1.2.1, hk.1.2.2⟩⟩)⟩
          have n7_ : Aside0 (Kd.R (Kd.int .i64) 3 ((w127.setCell ⟨gb685, 0, none⟩ (.slice Ao128 t678.length co128)).setCell ⟨gb685, 1, none⟩ (.slice Ao136 t681.length co136)) w.heap.size (fun k_ => some k_ ≠ (.slice Ao19 t632.length co19 : Value).ownBlock ∧ some k_ ≠ (.slice Ao23 t635.length co23 : Value).ownBlock ∧ some k_ ≠ (.slice Ao36 t647.length co36 : Value).ownBlock) (.slice Ao42 t650.length co42) t650) := ⟨by (with_reducible repeat (first | apply Kd.za6 | apply Kd.za7 | apply Kd.za9)); exact Kd.zaz (Kd.R_far (p := ⟨gb685, 1, none⟩) (Kd.R_far (p := ⟨gb685, 0, none⟩) (Kd.zbq HO_656001.out BK685.out (by decide)) (fun _ hk => hk.2) (.slice Ao128 t678.length co128)) (fun _ hk => hk.2) (.slice Ao136 t681.length co136)) (fun _ hk => ⟨hk.1.1, ⟨hk.1.2.1, hk.1.2.2⟩⟩)⟩
          have n8_ : Aside0 (Kd.V (Kd.int .u64) 57 ((w127.setCell ⟨gb685, 0, none⟩ (.slice Ao128 t678.length co128)).setCell ⟨gb685, 1, none⟩ (.slice Ao136 t681.length co136)) w.heap.size (fun k_ => some k_ ≠ (.slice Ao19 t632.length co19 : Value).ownBlock ∧ some k_ ≠ (.slice Ao23 t635.length co23 : Value).ownBlock ∧ some k_ ≠ (.slice Ao36 t647.length co36 : Value).ownBlock ∧ some k_ ≠ (.slice Ao42 t650.length co42 : Value).ownBlock ∧ k_ ≠ gb624 ∧ k_ ≠ gb625 ∧ k_ ≠ gb639 ∧ k_ ≠ gb640 ∧ k_ ≠ gb654 ∧ k_ ≠ gb655 ∧ k_ ≠ gb685) (.slice Ao128 t678.length co128) t678) := ⟨by (with_reducible repeat (first | apply Kd.zbc | apply Kd.zbb | apply Kd.zbe)); exact Kd.zal (Kd.V_far (p := ⟨gb685, 1, none⟩) (Kd.V_far (p := ⟨gb685, 0, none⟩) (Kd.zal HO680.out (fun k_ hk => (⟨hk, hk.2⟩ : _ ∧ k_ ≠ gb685))) (fun _ hk => hk.2) (.slice Ao128 t678.length co128)) (fun _ hk => hk.2) (.slice Ao136 t681.length co136)) (fun _ hk => ⟨hk.1.1.1, ⟨hk.1.1.2.1, ⟨hk.1.1.2.2.1, ⟨hk.1.1.2.2.2.1, ⟨hk.1.1.2.2.2.2.1, ⟨hk.1.1.2.2.2.2.2.1, ⟨hk.1.1.2.2.2.2.2.2.1, ⟨hk.1.1.2.2.2.2.2.2.2.1, ⟨hk.1.1.2.2.2.2.2.2.2.2.1, ⟨hk.1.1.2.2.2.2.2.2.2.2.2, hk.1.2⟩⟩⟩⟩⟩⟩⟩⟩⟩⟩)⟩
          have n9_ : Aside0 (Kd.V (Kd.int .u64) 57 ((w127.setCell ⟨gb685, 0, none⟩ (.slice Ao128 t678.length co128)).setCell ⟨gb685, 1, none⟩ (.slice Ao136 t681.length co136)) w.heap.size (fun k_ => some k_ ≠ (.slice Ao19 t632.length co19 : Value).ownBlock ∧ some k_ ≠ (.slice Ao23 t635.length co23 : Value).ownBlock ∧ some k_ ≠ (.slice Ao36 t647.length co36 : Value).ownBlock ∧ some k_ ≠ (.slice Ao42 t650.length co42 : Value).ownBlock ∧ k_ ≠ gb624 ∧ k_ ≠ gb625 ∧ k_ ≠ gb639 ∧ k_ ≠ gb640 ∧ k_ ≠ gb654 ∧ k_ ≠ gb655 ∧ k_ ≠ gb685) (.slice Ao136 t681.length co136) t681) := ⟨by (with_reducible repeat (first | apply Kd.zbc | apply Kd.zbb | apply Kd.zbe)); exact Kd.zal (Kd.V_far (p := ⟨gb685, 1, none⟩) (Kd.V_far (p := ⟨gb685, 0, none⟩) (Kd.zal HO683.out (fun k_ hk => (⟨hk, hk.2⟩ : _ ∧ k_ ≠ gb685))) (fun _ hk => hk.2) (.slice Ao128 t678.length co128)) (fun _ hk => hk.2) (.slice Ao136 t681.length co136)) (fun _ hk => ⟨hk.1.1.1, ⟨hk.1.1.2.1, ⟨hk.1.1.2.2.1, ⟨hk.1.1.2.2.2.1, ⟨hk.1.1.2.2.2.2.1, ⟨hk.1.1.2.2.2.2.2.1, ⟨hk.1.1.2.2.2.2.2.2.1, ⟨hk.1.1.2.2.2.2.2.2.2.1, ⟨hk.1.1.2.2.2.2.2.2.2.2.1, ⟨hk.1.1.2.2.2.2.2.2.2.2.2, hk.1.2⟩⟩⟩⟩⟩⟩⟩⟩⟩⟩)⟩
          have n10_ : Aside0 (((w127.setCell ⟨gb685, 0, none⟩ (.slice Ao128 t678.length co128)).setCell ⟨gb685, 1, none⟩ (.slice Ao136 t681.length co136)).heap[gb624]? = some (.cells #[.slice A0_0 l0_0.length c0_0, .slice A0_1 l0_1.length c0_1] 24 (0, 0))) := ⟨by (with_reducible repeat (first | refine zad ?_ _ | refine zae ?_ | refine zac ?_ _)); refine zay ?_ NB624_685.out _; (with_reducible repeat (first | refine zad ?_ _ | refine zae ?_ | refine zac ?_ _)); refine zay ?_ NB624_685.out _; (with_reducible repeat (first | refine zad ?_ _ | refine zae ?_ | refine zac ?_ _)); exact BK624.out⟩
          have n11_ : Aside0 (((w127.setCell ⟨gb685, 0, none⟩ (.slice Ao128 t678.length co128)).setCell ⟨gb685, 1, none⟩ (.slice Ao136 t681.length co136)).heap[gb625]? = some (.cells #[.slice A1_0 l1_0.length c1_0, .slice A1_1 l1_1.length c1_1] 24 (0, 0))) := ⟨by (with_reducible repeat (first | refine zad ?_ _ | refine zae ?_ | refine zac ?_ _)); refine zay ?_ NB625_685.out _; (with_reducible repeat (first | refine zad ?_ _ | refine zae ?_ | refine zac ?_ _)); refine zay ?_ NB625_685.out _; (with_reducible repeat (first | refine zad ?_ _ | refine zae ?_ | refine zac ?_ _)); exact BK625.out⟩
          have n12_ : Aside0 (((w127.setCell ⟨gb685, 0, none⟩ (.slice Ao128 t678.length co128)).setCell ⟨gb685, 1, none⟩ (.slice Ao136 t681.length co136)).heap[gb639]? = some (.cells #[.slice Ao13 t626.length co13, .slice Ao18 t629.length co18] 28 (0, 0))) := ⟨by (with_reducible repeat (first | refine zad ?_ _ | refine zae ?_ | refine zac ?_ _)); refine zay ?_ NB639_685.out _; (with_reducible repeat (first | refine zad ?_ _ | refine zae ?_ | refine zac ?_ _)); refine zay ?_ NB639_685.out _; (with_reducible repeat (first | refine zad ?_ _ | refine zae ?_ | refine zac ?_ _)); exact BK639.out⟩
          have n13_ : Aside0 (((w127.setCell ⟨gb685, 0, none⟩ (.slice Ao128 t678.length co128)).setCell ⟨gb685, 1, none⟩ (.slice Ao136 t681.length co136)).heap[gb640]? = some (.cells #[.slice Ao19 t632.length co19, .slice Ao23 t635.length co23] 40 (0, 0))) := ⟨by (with_reducible repeat (first | refine zad ?_ _ | refine zae ?_ | refine zac ?_ _)); refine zay ?_ NB640_685.out _; (with_reducible repeat (first | refine zad ?_ _ | refine zae ?_ | refine zac ?_ _)); refine zay ?_ NB640_685.out _; (with_reducible repeat (first | refine zad ?_ _ | refine zae ?_ | refine zac ?_ _)); exact BK640.out⟩
          have n14_ : Aside0 (((w127.setCell ⟨gb685, 0, none⟩ (.slice Ao128 t678.length co128)).setCell ⟨gb685, 1, none⟩ (.slice Ao136 t681.length co136)).heap[gb654]? = some (.cells #[.slice Ao28 t641.length co28, .slice Ao35 t644.length co35] 28 (0, 0))) := ⟨by (with_reducible repeat (first | refine zad ?_ _ | refine zae ?_ | refine zac ?_ _)); refine zay ?_ NB654_685.out _; (with_reducible repeat (first | refine zad ?_ _ | refine zae ?_ | refine zac ?_ _)); refine zay ?_ NB654_685.out _; (with_reducible repeat (first | refine zad ?_ _ | refine zae ?_ | refine zac ?_ _)); exact BK654.out⟩
          have n15_ : Aside0 (((w127.setCell ⟨gb685, 0, none⟩ (.slice Ao128 t678.length co128)).setCell ⟨gb685, 1, none⟩ (.slice Ao136 t681.length co136)).heap[gb655]? = some (.cells #[.slice Ao36 t647.length co36, .slice Ao42 t650.length co42] 40 (0, 0))) := ⟨by (with_reducible repeat (first | refine zad ?_ _ | refine zae ?_ | refine zac ?_ _)); refine zay ?_ NB655_685.out _; (with_reducible repeat (first | refine zad ?_ _ | refine zae ?_ | refine zac ?_ _)); refine zay ?_ NB655_685.out _; (with_reducible repeat (first | refine zad ?_ _ | refine zae ?_ | refine zac ?_ _)); exact BK655.out⟩
          have n16_ : Aside0 (((w127.setCell ⟨gb685, 0, none⟩ (.slice Ao128 t678.length co128)).setCell ⟨gb685, 1, none⟩ (.slice Ao136 t681.length co136)).heap[gb685]? = some (.cells #[.slice Ao128 t678.length co128, .slice Ao136 t681.length co136] 28 (0, 0))) := ⟨by (with_reducible repeat (first | refine zad ?_ _ | refine zae ?_ | refine zac ?_ _)); refine zbt (cs := #[.slice Ao128 t678.length co128, .slice none 0 0]) ?_ 1 _ rfl; (with_reducible repeat (first | refine zad ?_ _ | refine zae ?_ | refine zac ?_ _)); refine zbt (cs := #[.slice none 0 0, .slice none 0 0]) ?_ 0 _ rfl; (with_reducible repeat (first | refine zad ?_ _ | refine zae ?_ | refine zac ?_ _)); exact BK685.out⟩
          have n17_ : Aside0 (Below w.heap.size w ((w127.setCell ⟨gb685, 0, none⟩ (.slice Ao128 t678.length co128)).setCell ⟨gb685, 1, none⟩ (.slice Ao136 t681.length co136))) := ⟨zB HB⟩
          (try clear HO_640000)
          (try clear HO_640001)
          (try clear HO_641000)
          (try clear HO_641001)
          (try clear HO_655000)
          (try clear HO_655001)
          (try clear HO_656000)
          (try clear HO_656001)
          (try clear HO680)
          (try clear HO683)
          (try clear BK624)
          (try clear BK625)
          (try clear BK639)
          (try clear BK640)
          (try clear BK654)
          (try clear BK655)
          (try clear BK685)
          (try clear HB)
          generalize ((w127.setCell ⟨gb685, 0, none⟩ (.slice Ao128 t678.length co128)).setCell ⟨gb685, 1, none⟩ (.slice Ao136 t681.length co136)) = w141 at n0_ n1_ n2_ n3_ n4_ n5_ n6_ n7_ n8_ n9_ n10_ n11_ n12_ n13_ n14_ n15_ n16_ n17_ ⊢
          have HO_640000 := n0_
          have HO_640001 := n1_
          have HO_641000 := n2_
          have HO_641001 := n3_
          have HO_655000 := n4_
          have HO_655001 := n5_
          have HO_656000 := n6_
          have HO_656001 := n7_
          have HO680 := n8_
          have HO683 := n9_
          have BK624 := n10_
          have BK625 := n11_
          have BK639 := n12_
          have BK640 := n13_
          have BK654 := n14_
          have BK655 := n15_
          have BK685 := n16_
          have HB := n17_
          clear n0_ n1_ n2_ n3_ n4_ n5_ n6_ n7_ n8_ n9_ n10_ n11_ n12_ n13_ n14_ n15_ n16_ n17_
          have n0_ := zA (Kd.zbe HO_640000.out)
          have n1_ := zA (Kd.zbe HO_640001.out)
          have n2_ := zA (Kd.za9 HO_641000.out)
          have n3_ := zA (Kd.za9 HO_641001.out)
          have n4_ := zA (Kd.zbe HO_655000.out)
          have n5_ := zA (Kd.zbe HO_655001.out)
          have n6_ := zA (Kd.za9 HO_656000.out)
          have n7_ := zA (Kd.za9 HO_656001.out)
          have n8_ := zA (Kd.zbe HO680.out)
          have n9_ := zA (Kd.zbe HO683.out)
          have n10_ := zA (zae BK624.out)
          have n11_ := zA (zae BK625.out)
          have n12_ := zA (zae BK639.out)
          have n13_ := zA (zae BK640.out)
          have n14_ := zA (zae BK654.out)
          have n15_ := zA (zae BK655.out)
          have n16_ := zA (zae BK685.out)
          have n17_ := zA (zbz HB.out)
          clear HO_640000 HO_640001 HO_641000 HO_641001 HO_655000 HO_655001 HO_656000 HO_656001 HO680 HO683 BK624 BK625 BK639 BK640 BK654 BK655 BK685 HB
          have HO_640000 := n0_
          have HO_640001 := n1_
          have HO_641000 := n2_
          have HO_641001 := n3_
          have HO_655000 := n4_
          have HO_655001 := n5_
          have HO_656000 := n6_
          have HO_656001 := n7_
          have HO680 := n8_
          have HO683 := n9_
          have BK624 := n10_
          have BK625 := n11_
          have BK639 := n12_
          have BK640 := n13_
          have BK654 := n14_
          have BK655 := n15_
          have BK685 := n16_
          have HB := n17_
          clear n0_ n1_ n2_ n3_ n4_ n5_ n6_ n7_ n8_ n9_ n10_ n11_ n12_ n13_ n14_ n15_ n16_ n17_
          refine start_ (n := 14) (S := fun w' => w'.cell? ⟨gb685, 0, none⟩ = some (.slice Ao128 t678.length co128) ∧ w'.cell? ⟨gb685, 1, none⟩ = some (.slice Ao136 t681.length co136) ∧ w'.cell? ⟨gb640, 0, none⟩ = some (.slice Ao19 t632.length co19) ∧ w'.cell? ⟨gb640, 1, none⟩ = some (.slice Ao23 t635.length co23) ∧ w'.cell? ⟨gb655, 0, none⟩ = some (.slice Ao36 t647.length co36) ∧ w'.cell? ⟨gb655, 1, none⟩ = some (.slice Ao42 t650.length co42)) (ds := []) #[false, false, false, false, false, false, false, false, false, false, false, false, false, false] (by kernel_rfl) rfl rfl ⟨(zab BK685.out 0).trans rfl, (zab BK685.out 1).trans rfl, (zab BK640.out 0).trans rfl, (zab BK640.out 1).trans rfl, (zab BK655.out 0).trans rfl, (zab BK655.out 1).trans rfl⟩ (fun hHeld => ?_); refine zcz zah.tab10 zah.bits10 (fun HT_ HW_ => ?_)
          generalize w141.drew = w142 at HO_640000 HO_640001 HO_641000 HO_641001 HO_655000 HO_655001 HO_656000 HO_656001 HO680 HO683 BK624 BK625 BK639 BK640 BK654 BK655 BK685 HB hHeld ⊢
          refine pure_ (i := 0) (N := some 75) (v := ?_) (a' := ?_) #[true, false, false, false, false, false, false, false, false, false, false, false, false, false] rfl rfl (zbf HT_.out (by kernel_rfl)) (fun _ _ _ h => h) (Or.inl ⟨by rfl, ?_⟩) ?_ ?_
          rotate_left
          ·
           intro w'
           go_simp
           with_reducible rfl
          rotate_left
          ·
           simp only [Act.put, zs1, zs2, zs3, i64_w, i32_w]
           rfl
          refine pure_ (i := 1) (N := some 76) (v := ?_) (a' := ?_) #[true, true, false, false, false, false, false, false, false, false, false, false, false, false] rfl rfl (zbf HT_.out (by kernel_rfl)) (fun _ _ _ h => h) (Or.inl ⟨by rfl, ?_⟩) ?_ ?_
          rotate_left
          ·
           intro w'
           go_simp
           with_reducible rfl
          rotate_left
          ·
           simp only [Act.put, zs1, zs2, zs3, i64_w, i32_w]
           rfl
          refine pure_ (i := 2) (N := some 77) (v := ?_) (a' := ?_) #[true, true, true, false, false, false, false, false, false, false, false, false, false, false] rfl rfl (zbf HT_.out (by kernel_rfl)) (fun _ _ _ h => h) (Or.inl ⟨by rfl, ?_⟩) ?_ ?_
          rotate_left
          ·
           intro w'
           go_simp
           with_reducible rfl
          rotate_left
          ·
           simp only [Act.put, zs1, zs2, zs3, i64_w, i32_w]
           rfl
          refine take_ (i := 3) (N := some 78) (v := ?_) (a' := ?_) #[true, true, true, true, false, false, false, false, false, false, false, false, false, false] rfl rfl (zby HT_.out HW_.out (by kernel_rfl)) (fun _ _ _ h => h) (Or.inl ⟨by rfl, ?_⟩) hHeld ?_ ?_
          rotate_left
          ·
           rintro w' ⟨s0, s1, s2, s3, s4, s5⟩
           go_simp
           with_reducible rfl
          rotate_left
          ·
           simp only [Act.put, zs1, zs2, zs3, i64_w, i32_w]
           rfl
          refine take_ (i := 4) (N := some 79) (v := ?_) (a' := ?_) #[true, true, true, true, true, false, false, false, false, false, false, false, false, false] rfl rfl (zby HT_.out HW_.out (by kernel_rfl)) (fun _ _ _ h => h) (Or.inl ⟨by rfl, ?_⟩) hHeld ?_ ?_
          rotate_left
          ·
           rintro w' ⟨s0, s1, s2, s3, s4, s5⟩
           go_simp
           with_reducible rfl
          rotate_left
          ·
           simp only [Act.put, zs1, zs2, zs3, i64_w, i32_w]
           rfl
          refine take_ (i := 5) (N := some 80) (v := ?_) (a' := ?_) #[true, true, true, true, true, true, false, false, false, false, false, false, false, false] rfl rfl (zby HT_.out HW_.out (by kernel_rfl)) (fun _ _ _ h => h) (Or.inl ⟨by rfl, ?_⟩) hHeld ?_ ?_
          rotate_left
          ·
           rintro w' ⟨s0, s1, s2, s3, s4, s5⟩
           go_simp
           with_reducible rfl
          rotate_left
          ·
           simp only [Act.put, zs1, zs2, zs3, i64_w, i32_w]
           rfl
          refine one_ (i := 6) (N := some 81) #[true, true, true, true, true, true, true, false, false, false, false, false, false, false] rfl rfl (zcd HT_.out (by kernel_rfl)) (by decide) (fun K hK => ?_)
          refine goes_ Tryd.func32 (by kernel_rfl) rfl #[.agg #[.slice Ao19 t632.length co19, .slice Ao23 t635.length co23], .agg #[.slice Ao36 t647.length co36, .slice Ao42 t650.length co42]] (by rfl) rfl rfl (zE) ?_
          with_reducible refine (zb2.calls kj51 _ _ t632 _ _ t635 _ _ t647 _ _ t650 t686 t689 _ ?side1 ?side2 ?side3 ?side4 ?side5 ?side6 ?side7 ?side8 A111.out).mono ?_
          (case side1 => exact zJ (Kd.zat HO_641000.out).2.2)
          (case side2 => exact (Kd.zat HO_641000.out).2.1)
          (case side3 => exact zJ (Kd.zat HO_641001.out).2.2)
          (case side4 => exact (Kd.zat HO_641001.out).2.1)
          (case side5 => exact zJ (Kd.zat HO_656000.out).2.2)
          (case side6 => exact (Kd.zat HO_656000.out).2.1)
          (case side7 => exact zJ (Kd.zat HO_656001.out).2.2)
          (case side8 => exact (Kd.zat HO_656001.out).2.1)
          rintro e w143 ⟨v687, v690, rfl, ho0, ho1, hb⟩
          refine ⟨_, rfl, ?_⟩
          have n0_ := zA (Kd.zal (Kd.zca (Kd.zca (Kd.V_old (zV HO_640000) hb) (Kd.za1 ho0)) (Kd.za1 ho1)) (fun _ h_ => h_.1))
          have n1_ := zA (Kd.zal (Kd.zca (Kd.zca (Kd.V_old (zV HO_640001) hb) (Kd.za1 ho0)) (Kd.za1 ho1)) (fun _ h_ => h_.1))
          have n2_ := zA (Kd.zaz (Kd.zcg (Kd.zcg (Kd.R_old (zR HO_641000) hb) (Kd.za1 ho0)) (Kd.za1 ho1)) (fun _ h_ => h_.1))
          have n3_ := zA (Kd.zaz (Kd.zcg (Kd.zcg (Kd.R_old (zR HO_641001) hb) (Kd.za1 ho0)) (Kd.za1 ho1)) (fun _ h_ => h_.1))
          have n4_ := zA (Kd.zal (Kd.zca (Kd.zca (Kd.V_old (zV HO_655000) hb) (Kd.za1 ho0)) (Kd.za1 ho1)) (fun _ h_ => h_.1))
          have n5_ := zA (Kd.zal (Kd.zca (Kd.zca (Kd.V_old (zV HO_655001) hb) (Kd.za1 ho0)) (Kd.za1 ho1)) (fun _ h_ => h_.1))
          have n6_ := zA (Kd.zaz (Kd.zcg (Kd.zcg (Kd.R_old (zR HO_656000) hb) (Kd.za1 ho0)) (Kd.za1 ho1)) (fun _ h_ => h_.1))
          have n7_ := zA (Kd.zaz (Kd.zcg (Kd.zcg (Kd.R_old (zR HO_656001) hb) (Kd.za1 ho0)) (Kd.za1 ho1)) (fun _ h_ => h_.1))
          have n8_ := zA (Kd.zal (Kd.zca (Kd.zca (Kd.V_old (zV HO680) hb) (Kd.za1 ho0)) (Kd.za1 ho1)) (fun _ h_ => h_.1))
          have n9_ := zA (Kd.zal (Kd.zca (Kd.zca (Kd.V_old (zV HO683) hb) (Kd.za1 ho0)) (Kd.za1 ho1)) (fun _ h_ => h_.1))
          have n10_ := zA (Kd.zbh (Kd.zbk (Kd.zbk (Kd.zbk (Kd.zbk ho0 (Kd.R_lt (zR HO_641000))) (Kd.R_lt (zR HO_641001))) (Kd.R_lt (zR HO_656000))) (Kd.R_lt (zR HO_656001))) (za (zB HB)))
          have n11_ := zA (Kd.zbh (Kd.zbk (Kd.zbk (Kd.zbk (Kd.zbk ho1 (Kd.R_lt (zR HO_641000))) (Kd.R_lt (zR HO_641001))) (Kd.R_lt (zR HO_656000))) (Kd.R_lt (zR HO_656001))) (za (zB HB)))
          have n12_ := zA (zaa (g := gb624) (o := .cells #[.slice A0_0 l0_0.length c0_0, .slice A0_1 l0_1.length c0_1] 24 (0, 0)) (zK BK624) hb)
          have n13_ := zA (zaa (g := gb625) (o := .cells #[.slice A1_0 l1_0.length c1_0, .slice A1_1 l1_1.length c1_1] 24 (0, 0)) (zK BK625) hb)
          have n14_ := zA (zaa (g := gb639) (o := .cells #[.slice Ao13 t626.length co13, .slice Ao18 t629.length co18] 28 (0, 0)) (zK BK639) hb)
          have n15_ := zA (zaa (g := gb640) (o := .cells #[.slice Ao19 t632.length co19, .slice Ao23 t635.length co23] 40 (0, 0)) (zK BK640) hb)
          have n16_ := zA (zaa (g := gb654) (o := .cells #[.slice Ao28 t641.length co28, .slice Ao35 t644.length co35] 28 (0, 0)) (zK BK654) hb)
          have n17_ := zA (zaa (g := gb655) (o := .cells #[.slice Ao36 t647.length co36, .slice Ao42 t650.length co42] 40 (0, 0)) (zK BK655) hb)
          have n18_ := zA (zaa (g := gb685) (o := .cells #[.slice Ao128 t678.length co128, .slice Ao136 t681.length co136] 28 (0, 0)) (zK BK685) hb)
          have n19_ := zA (zaf (zB HB) hb)
          clear HO_640000 HO_640001 HO_641000 HO_641001 HO_655000 HO_655001 HO_656000 HO_656001 HO680 HO683 BK624 BK625 BK639 BK640 BK654 BK655 BK685 HB
          have HO_640000 := n0_
          have HO_640001 := n1_
          have HO_641000 := n2_
          have HO_641001 := n3_
          have HO_655000 := n4_
          have HO_655001 := n5_
          have HO_656000 := n6_
          have HO_656001 := n7_
          have HO680 := n8_
          have HO683 := n9_
          have HO688 := n10_
          have HO691 := n11_
          have BK624 := n12_
          have BK625 := n13_
          have BK639 := n14_
          have BK640 := n15_
          have BK654 := n16_
          have BK655 := n17_
          have BK685 := n18_
          have HB := n19_
          clear n0_ n1_ n2_ n3_ n4_ n5_ n6_ n7_ n8_ n9_ n10_ n11_ n12_ n13_ n14_ n15_ n16_ n17_ n18_ n19_
          (try clear hb)
          (try clear hb2)
          (try clear hk)
          (try clear hi)
          (try clear ho0)
          (try clear ho1)
          obtain ⟨Ao144, co144, eo144⟩ := Kd.zbn HO688.out
          (first | subst eo144 | (injection eo144 with f1_ f2_ f3_; have f4_ := f1_.symm; have f5_ := f3_.symm; clear f1_ f2_ f3_; subst f4_; subst f5_))
          obtain ⟨Ao145, co145, eo145⟩ := Kd.zbn HO691.out
          (first | subst eo145 | (injection eo145 with f1_ f2_ f3_; have f4_ := f1_.symm; have f5_ := f3_.symm; clear f1_ f2_ f3_; subst f4_; subst f5_))
          refine hK.out _ _ ⟨(zab BK685.out 0).trans rfl, (zab BK685.out 1).trans rfl, (zab BK640.out 0).trans rfl, (zab BK640.out 1).trans rfl, (zab BK655.out 0).trans rfl, (zab BK655.out 1).trans rfl⟩ (fun hHeld => ?_)
          clear hK K
          refine norm_ (a' := ?_) ?_ ?_
          rotate_left
          ·
           show Act.put _ (some 81) _ = _
           simp only [Act.put, zs1, zs2, zs3, i64_w, i32_w]
           rfl
          refine one_ (i := 7) (N := some 82) #[true, true, true, true, true, true, true, true, false, false, false, false, false, false] rfl rfl (zcd HT_.out (by kernel_rfl)) (by decide) (fun K hK => ?_)
          refine goes_ Tryd.func21 (by kernel_rfl) rfl #[.agg #[.slice Ao128 t678.length co128, .slice Ao136 t681.length co136], .agg #[.slice Ao144 t686.length co144, .slice Ao145 t689.length co145]] (by rfl) rfl rfl (zE) ?_
          with_reducible refine (zck.calls kj51 _ _ t678 _ _ t681 _ _ t686 _ _ t689 true _ ?side1 ?side2 ?side3 ?side4 ?side5 ?side6 ?side7 ?side8 A112.out).mono ?_
          (case side1 => exact zJ (Kd.zar HO680.out).2.2)
          (case side2 => exact (Kd.zar HO680.out).2.1)
          (case side3 => exact zJ (Kd.zar HO683.out).2.2)
          (case side4 => exact (Kd.zar HO683.out).2.1)
          (case side5 => exact zJ (Kd.zat HO688.out).2.2)
          (case side6 => exact (Kd.zat HO688.out).2.1)
          (case side7 => exact zJ (Kd.zat HO691.out).2.2)
          (case side8 => exact (Kd.zat HO691.out).2.1)
          rintro e w146 ⟨rfl, hb⟩
          refine ⟨_, rfl, ?_⟩
          have n0_ := zA (Kd.zaq (zV HO_640000) hb)
          have n1_ := zA (Kd.zaq (zV HO_640001) hb)
          have n2_ := zA (Kd.zau (zR HO_641000) hb)
          have n3_ := zA (Kd.zau (zR HO_641001) hb)
          have n4_ := zA (Kd.zaq (zV HO_655000) hb)
          have n5_ := zA (Kd.zaq (zV HO_655001) hb)
          have n6_ := zA (Kd.zau (zR HO_656000) hb)
          have n7_ := zA (Kd.zau (zR HO_656001) hb)
          have n8_ := zA (Kd.zaq (zV HO680) hb)
          have n9_ := zA (Kd.zaq (zV HO683) hb)
          have n10_ := zA (Kd.zau (zR HO688) hb)
          have n11_ := zA (Kd.zau (zR HO691) hb)
          have n12_ := zA (zaa (g := gb624) (o := .cells #[.slice A0_0 l0_0.length c0_0, .slice A0_1 l0_1.length c0_1] 24 (0, 0)) (zK BK624) hb)
          have n13_ := zA (zaa (g := gb625) (o := .cells #[.slice A1_0 l1_0.length c1_0, .slice A1_1 l1_1.length c1_1] 24 (0, 0)) (zK BK625) hb)
          have n14_ := zA (zaa (g := gb639) (o := .cells #[.slice Ao13 t626.length co13, .slice Ao18 t629.length co18] 28 (0, 0)) (zK BK639) hb)
          have n15_ := zA (zaa (g := gb640) (o := .cells #[.slice Ao19 t632.length co19, .slice Ao23 t635.length co23] 40 (0, 0)) (zK BK640) hb)
          have n16_ := zA (zaa (g := gb654) (o := .cells #[.slice Ao28 t641.length co28, .slice Ao35 t644.length co35] 28 (0, 0)) (zK BK654) hb)
          have n17_ := zA (zaa (g := gb655) (o := .cells #[.slice Ao36 t647.length co36, .slice Ao42 t650.length co42] 40 (0, 0)) (zK BK655) hb)
          have n18_ := zA (zaa (g := gb685) (o := .cells #[.slice Ao128 t678.length co128, .slice Ao136 t681.length co136] 28 (0, 0)) (zK BK685) hb)
          have n19_ := zA (zaf (zB HB) hb)
          clear HO_640000 HO_640001 HO_641000 HO_641001 HO_655000 HO_655001 HO_656000 HO_656001 HO680 HO683 HO688 HO691 BK624 BK625 BK639 BK640 BK654 BK655 BK685 HB
          have HO_640000 := n0_
          have HO_640001 := n1_
          have HO_641000 := n2_
          have HO_641001 := n3_
          have HO_655000 := n4_
          have HO_655001 := n5_
          have HO_656000 := n6_
          have HO_656001 := n7_
          have HO680 := n8_
          have HO683 := n9_
          have HO688 := n10_
          have HO691 := n11_
          have BK624 := n12_
          have BK625 := n13_
          have BK639 := n14_
          have BK640 := n15_
          have BK654 := n16_
          have BK655 := n17_
          have BK685 := n18_
          have HB := n19_
          clear n0_ n1_ n2_ n3_ n4_ n5_ n6_ n7_ n8_ n9_ n10_ n11_ n12_ n13_ n14_ n15_ n16_ n17_ n18_ n19_
          (try clear hb)
          (try clear hb2)
          (try clear hk)
          (try clear hi)
          refine hK.out _ _ ⟨(zab BK685.out 0).trans rfl, (zab BK685.out 1).trans rfl, (zab BK640.out 0).trans rfl, (zab BK640.out 1).trans rfl, (zab BK655.out 0).trans rfl, (zab BK655.out 1).trans rfl⟩ (fun hHeld => ?_)
          clear hK K
          refine norm_ (a' := ?_) ?_ ?_
          rotate_left
          ·
           show Act.put _ (some 82) _ = _
           simp only [Act.put, zs1, zs2, zs3, i64_w, i32_w]
           rfl
          refine pure_ (i := 8) (N := some 83) (v := ?_) (a' := ?_) #[true, true, true, true, true, true, true, true, true, false, false, false, false, false] rfl rfl (zbf HT_.out (by kernel_rfl)) (fun _ _ _ h => h) (Or.inl ⟨by rfl, ?_⟩) ?_ ?_
          rotate_left
          ·
           intro w'
           go_simp
           with_reducible rfl
          rotate_left
          ·
           simp only [Act.put, zs1, zs2, zs3, i64_w, i32_w]
           rfl
          refine pure_ (i := 9) (N := some 84) (v := ?_) (a' := ?_) #[true, true, true, true, true, true, true, true, true, true, false, false, false, false] rfl rfl (zbf HT_.out (by kernel_rfl)) (fun _ _ _ h => h) (Or.inl ⟨by rfl, ?_⟩) ?_ ?_
          rotate_left
          ·
           intro w'
           go_simp
           with_reducible rfl
          rotate_left
          ·
           simp only [Act.put, zs1, zs2, zs3, i64_w, i32_w]
           rfl
          refine take_ (i := 10) (N := some 85) (v := ?_) (a' := ?_) #[true, true, true, true, true, true, true, true, true, true, true, false, false, false] rfl rfl (zby HT_.out HW_.out (by kernel_rfl)) (fun _ _ _ h => h) (Or.inl ⟨by rfl, ?_⟩) hHeld ?_ ?_
          rotate_left
          ·
           rintro w' ⟨s0, s1, s2, s3, s4, s5⟩
           go_simp
           with_reducible rfl
          rotate_left
          ·
           simp only [Act.put, zs1, zs2, zs3, i64_w, i32_w]
           rfl
          refine one_ (i := 11) (N := some 86) #[true, true, true, true, true, true, true, true, true, true, true, true, false, false] rfl rfl (zcd HT_.out (by kernel_rfl)) (by decide) (fun K hK => ?_)
          refine goes_ Tryd.func16 (by kernel_rfl) rfl #[.agg #[.slice Ao128 t678.length co128, .slice Ao136 t681.length co136]] (by rfl) rfl rfl (zE) ?_
          with_reducible refine (zco.calls kj51 _ _ t678 _ _ t681 t693 _ ?side1 ?side2 ?side3 ?side4 A114.out).mono ?_
          (case side1 => exact zJ (Kd.zar HO680.out).2.2)
          (case side2 => exact (Kd.zar HO680.out).2.1)
          (case side3 => exact zJ (Kd.zar HO683.out).2.2)
          (case side4 => exact (Kd.zar HO683.out).2.1)
          rintro e w147 ⟨rfl, hb⟩
          refine ⟨_, rfl, ?_⟩
          have n0_ := zA (Kd.zaq (zV HO_640000) hb)
          have n1_ := zA (Kd.zaq (zV HO_640001) hb)
          have n2_ := zA (Kd.zau (zR HO_641000) hb)
          have n3_ := zA (Kd.zau (zR HO_641001) hb)
          have n4_ := zA (Kd.zaq (zV HO_655000) hb)
          have n5_ := zA (Kd.zaq (zV HO_655001) hb)
          have n6_ := zA (Kd.zau (zR HO_656000) hb)
          have n7_ := zA (Kd.zau (zR HO_656001) hb)
          have n8_ := zA (Kd.zaq (zV HO680) hb)
          have n9_ := zA (Kd.zaq (zV HO683) hb)
          have n10_ := zA (Kd.zau (zR HO688) hb)
          have n11_ := zA (Kd.zau (zR HO691) hb)
          have n12_ := zA (zaa (g := gb624) (o := .cells #[.slice A0_0 l0_0.length c0_0, .slice A0_1 l0_1.length c0_1] 24 (0, 0)) (zK BK624) hb)
          have n13_ := zA (zaa (g := gb625) (o := .cells #[.slice A1_0 l1_0.length c1_0, .slice A1_1 l1_1.length c1_1] 24 (0, 0)) (zK BK625) hb)
          have n14_ := zA (zaa (g := gb639) (o := .cells #[.slice Ao13 t626.length co13, .slice Ao18 t629.length co18] 28 (0, 0)) (zK BK639) hb)
          have n15_ := zA (zaa (g := gb640) (o := .cells #[.slice Ao19 t632.length co19, .slice Ao23 t635.length co23] 40 (0, 0)) (zK BK640) hb)
          have n16_ := zA (zaa (g := gb654) (o := .cells #[.slice Ao28 t641.length co28, .slice Ao35 t644.length co35] 28 (0, 0)) (zK BK654) hb)
          have n17_ := zA (zaa (g := gb655) (o := .cells #[.slice Ao36 t647.length co36, .slice Ao42 t650.length co42] 40 (0, 0)) (zK BK655) hb)
          have n18_ := zA (zaa (g := gb685) (o := .cells #[.slice Ao128 t678.length co128, .slice Ao136 t681.length co136] 28 (0, 0)) (zK BK685) hb)
          have n19_ := zA (zaf (zB HB) hb)
          clear HO_640000 HO_640001 HO_641000 HO_641001 HO_655000 HO_655001 HO_656000 HO_656001 HO680 HO683 HO688 HO691 BK624 BK625 BK639 BK640 BK654 BK655 BK685 HB
          have HO_640000 := n0_
          have HO_640001 := n1_
          have HO_641000 := n2_
          have HO_641001 := n3_
          have HO_655000 := n4_
          have HO_655001 := n5_
          have HO_656000 := n6_
          have HO_656001 := n7_
          have HO680 := n8_
          have HO683 := n9_
          have HO688 := n10_
          have HO691 := n11_
          have BK624 := n12_
          have BK625 := n13_
          have BK639 := n14_
          have BK640 := n15_
          have BK654 := n16_
          have BK655 := n17_
          have BK685 := n18_
          have HB := n19_
          clear n0_ n1_ n2_ n3_ n4_ n5_ n6_ n7_ n8_ n9_ n10_ n11_ n12_ n13_ n14_ n15_ n16_ n17_ n18_ n19_
          (try clear hb)
          (try clear hb2)
          (try clear hk)
          (try clear hi)
          refine hK.out _ _ ⟨(zab BK685.out 0).trans rfl, (zab BK685.out 1).trans rfl, (zab BK640.out 0).trans rfl, (zab BK640.out 1).trans rfl, (zab BK655.out 0).trans rfl, (zab BK655.out 1).trans rfl⟩ (fun hHeld => ?_)
          clear hK K
          refine norm_ (a' := ?_) ?_ ?_
          rotate_left
          ·
           show Act.put _ (some 86) _ = _
           simp only [Act.put, zs1, zs2, zs3, i64_w, i32_w]
           rfl
          refine pure_ (i := 12) (N := some 87) (v := ?_) (a' := ?_) #[true, true, true, true, true, true, true, true, true, true, true, true, true, false] rfl rfl (zbf HT_.out (by kernel_rfl)) (fun _ _ _ h => h) (Or.inl ⟨by rfl, ?_⟩) ?_ ?_
          rotate_left
          ·
           intro w'
           go_simp
           with_reducible rfl
          rotate_left
          ·
           simp only [Act.put, zs1, zs2, zs3, i64_w, i32_w]
           rfl
          refine pure_ (i := 13) (N := some 4) (v := ?_) (a' := ?_) #[true, true, true, true, true, true, true, true, true, true, true, true, true, true] rfl rfl (zbf HT_.out (by kernel_rfl)) (fun _ _ _ h => h) (Or.inl ⟨by rfl, ?_⟩) ?_ ?_
          rotate_left
          ·
           intro w'
           go_simp
           with_reducible rfl
          rotate_left
          ·
           simp only [Act.put, zs1, zs2, zs3, i64_w, i32_w]
           rfl
          refine done_ (done_of HT_.out (by kernel_rfl)) ?_
          try go_wp2
          go_ret
          exact ⟨zW, zB HB⟩
         ·
          replace c113 := Bool.eq_false_iff.mpr c113
          subst c113
          rw [if_neg (show ¬ (false = true) by decide)] at H
          exact absurd H (by simp)
        ·
         rw [if_neg c110] at H
         have c110b0 : (t684 == 0) = false := beq_eq_false_iff_ne.mpr c110
         have c110b1 : (t684 != 0) = true := bne_iff_ne.mpr c110
         exact absurd H (by simp)
end Go.Proofs.YtfjkamhcabckeaaDoor.P
end
