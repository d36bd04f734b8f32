-- Written by a program of this session (wip/tools/shake.py) out of its own texts and of the kit's printed ones; not trusted: Lean checks it.
import Derived.Test.YthiicmanfpmipaaGreatDoorZFillOrder9
set_option maxHeartbeats 8000000
set_option maxRecDepth 100000
set_option linter.unusedVariables false
set_option linter.unusedSimpArgs false
section
namespace Go.Proofs.YthiicmanfpmipaaGreatDoor.P
open Go.RowKit Go.Proofs.YthiicmanfpmipaaGreatDoorW.PrintWords Go.Proofs.YthiicmanfpmipaaGreatDoorW.PrintLast Go.Proofs.YthiicmanfpmipaaGreatDoorW.PrintMore
attribute [local go_sem] zci zcg zcr zct zb3 zb5 zcf zcd
mutual
def zaa.j0 : Nat → Int → List Int → List Int → Bool → Int → Int → Option (Bool)
 | 0, _, _, _, _, _, _ => none
 | k + 1, x2, x7, x8, x41, x586000, x586001 => if x41 = true then ((zbq.f k).bind fun t588 => (some t588)) else ((zat.f k x586000 x586001).bind fun bt589 => (if (x7.length : Int) = 0 then (none) else ((some (([] : List Int) : List Int)).bind fun y603 => (if 0 ≤ (Int.tmod (wrap64 (x2)) (x7.length : Int)) then (if (Int.tmod (wrap64 (x2)) (x7.length : Int)) ≤ (x7.length : Int) then (if y603.length + (x7.drop ((Int.tmod (wrap64 (x2)) (x7.length : Int)) : Int).toNat).length < 17592186044416 then ((some (y603 ++ (x7.drop ((Int.tmod (wrap64 (x2)) (x7.length : Int)) : Int).toNat) : List Int)).bind fun y607 => (if y607.length + (x7.take ((Int.tmod (wrap64 (x2)) (x7.length : Int)) : Int).toNat).length < 17592186044416 then ((some (([] : List Int) : List Int)).bind fun y614 => (if (Int.tmod (wrap64 (x2)) (x7.length : Int)) ≤ (x8.length : Int) then (if y614.length + (x8.drop ((Int.tmod (wrap64 (x2)) (x7.length : Int)) : Int).toNat).length < 17592186044416 then ((some (y614 ++ (x8.drop ((Int.tmod (wrap64 (x2)) (x7.length : Int)) : Int).toNat) : List Int)).bind fun y618 => (if y618.length + (x8.take ((Int.tmod (wrap64 (x2)) (x7.length : Int)) : Int).toNat).length < 17592186044416 then ((zba.f k bt589.1 bt589.2.1 x7 x8).bind fun bt625 => ((zba.f k bt589.1 bt589.2.1 (y607 ++ (x7.take ((Int.tmod (wrap64 (x2)) (x7.length : Int)) : Int).toNat)) (y618 ++ (x8.take ((Int.tmod (wrap64 (x2)) (x7.length : Int)) : Int).toNat))).bind fun bt629 => (if bt625.2 = bt629.2 then (zaa.j1 k (Int.tmod (wrap64 (x2)) (x7.length : Int)) bt625.1 bt629.1 ((bt625.1.length : Int) != (bt629.1.length : Int))) else (zaa.j1 k (Int.tmod (wrap64 (x2)) (x7.length : Int)) bt625.1 bt629.1 true)))) else (none))) else (none)) else (none))) else (none))) else (none)) else (none)) else (none)))))
def zaa.j1 : Nat → Int → List (S29) → List (S29) → Bool → Option (Bool)
 | 0, _, _, _, _ => none
 | k + 1, x11, x14, x16, x94 => if x94 = true then (none) else (zaa.l0 k x11 x14 x16 (x14.length : Int) 0)
def zaa.l0 : Nat → Int → List (S29) → List (S29) → Int → Int → Option (Bool)
 | 0, _, _, _, _, _ => none
 | k + 1, x11, x14, x16, x96, x97 => if x97 < x96 then (if 0 ≤ x97 then (if x97 < (x14.length : Int) then (if (x16.length : Int) = 0 then (none) else (if 0 ≤ (Int.tmod (wrap64 ((wrap64 (x97 + (x16.length : Int))) - x11)) (x16.length : Int)) then (if (Int.tmod (wrap64 ((wrap64 (x97 + (x16.length : Int))) - x11)) (x16.length : Int)) < (x16.length : Int) then ((ratio_Cmp.f k ((rd_T29 x14 x97).f0) ((rd_T29 x14 x97).f1) ((rd_T29 x16 (Int.tmod (wrap64 ((wrap64 (x97 + (x16.length : Int))) - x11)) (x16.length : Int))).f0) ((rd_T29 x16 (Int.tmod (wrap64 ((wrap64 (x97 + (x16.length : Int))) - x11)) (x16.length : Int))).f1)).bind fun t635 => (if t635 = 0 then (zaa.l0 k x11 x14 x16 x96 (wrap64 (x97 + 1))) else (none))) else (none)) else (none))) else (none)) else (none)) else (some true)
end
def zaa.f (k : Nat) (a0_0 : Int) (a0_1 : Int) (l1_0 : List Int) (l1_1 : List Int) (a2 : Int) : Option (Bool) := (zbq.f k).bind fun t587 => (if t587 = true then (if (l1_0.length : Int) > 12 then (zaa.j0 k a2 l1_0 l1_1 true a0_0 a0_1) else (if (l1_1.length : Int) = (l1_0.length : Int) then (zaa.j0 k a2 l1_0 l1_1 ((l1_0.length : Int) == 0) a0_0 a0_1) else (zaa.j0 k a2 l1_0 l1_1 true a0_0 a0_1))) else (zaa.j0 k a2 l1_0 l1_1 true a0_0 a0_1))
def zaa.T6 : Bool × List (List Nat × List Nat) := (true, [([], []), ([], []), ([], []), ([1, 2], [1, 2]), ([0, 3], [0, 3]), ([], []), ([], []), ([5, 6], [5, 6]), ([4, 7, 4], [4, 7]), ([8, 8, 0, 1, 2, 3, 4, 5, 6, 7, 8], [8])])
def zaa.B6 : List Nat := [0, 0, 0, 6, 15, 0, 0, 96, 255, 511]
theorem zaa.tab6 : rtab .any (opsOf Tryz.f4 6) = zaa.T6 := by kernel_rfl
theorem zaa.bits6 : waitsOk zaa.T6.2 zaa.B6 = true := by kernel_rfl
def zaa.T7 : Bool × List (List Nat × List Nat) := (true, [([], []), ([], []), ([], []), ([1, 2], [1, 2]), ([0, 3], [0, 3]), ([], []), ([], []), ([5, 6], [5, 6]), ([4, 7, 4], [4, 7]), ([8, 8, 0, 1, 2, 3, 4, 5, 6, 7, 8], [8])])
def zaa.B7 : List Nat := [0, 0, 0, 6, 15, 0, 0, 96, 255, 511]
theorem zaa.tab7 : rtab .any (opsOf Tryz.f4 7) = zaa.T7 := by kernel_rfl
theorem zaa.bits7 : waitsOk zaa.T7.2 zaa.B7 = true := by kernel_rfl
def zaa.T15 : Bool × List (List Nat × List Nat) := (true, [([], []), ([], []), ([0, 1], [0, 1]), ([2], [2]), ([], []), ([], []), ([], []), ([6], [6]), ([5, 7], [5, 7]), ([], []), ([8, 9], [8, 9]), ([], []), ([11], [11]), ([10, 12], [10, 12]), ([4, 13], [4, 13]), ([14], [14]), ([3, 15], [3, 15]), ([16], [16])])
def zaa.B15 : List Nat := [0, 0, 3, 7, 0, 0, 0, 64, 224, 0, 992, 0, 2048, 8160, 16368, 32752, 65535, 131071]
theorem zaa.tab15 : rtab .any (opsOf Tryz.f4 15) = zaa.T15 := by kernel_rfl
theorem zaa.bits15 : waitsOk zaa.T15.2 zaa.B15 = true := by kernel_rfl
theorem zaa.calls (k : Nat) (a0_0 : Int) (a0_1 : Int) (A1_0 : Option Addr) (c1_0 : Nat) (l1_0 : List Int) (A1_1 : Option Addr) (c1_1 : Nat) (l1_1 : List Int) (a2 : Int) (r : Bool) (w : World) (hr1_0 : Kd.C (Kd.int .i64) w A1_0 l1_0.length l1_0) (hc1_0 : l1_0.length ≤ c1_0) (hr1_1 : Kd.C (Kd.int .i64) w A1_1 l1_1.length l1_1) (hc1_1 : l1_1.length ≤ c1_1) (hG : Glob w) (h : zaa.f k a0_0 a0_1 l1_0 l1_1 a2 = some r) :
  Calls Tryz.prog 4 #[.agg #[.int .i64 a0_0, .int .i64 a0_1], .agg #[.slice A1_0 l1_0.length c1_0, .slice A1_1 l1_1.length c1_1], .int .u8 a2] w fun e w' => e = .returned (.bool r) ∧ Below w.heap.size w w' := by
 have hu23 := Tryz.underlying23
 have hu43 := Tryz.underlying43
 have hu29 := Tryz.underlying29
 have hu32 := Tryz.underlying32
 have HR1_0 := zA hr1_0
 have HC1_0 := zA hc1_0
 clear hr1_0 hc1_0
 have HR1_1 := zA hr1_1
 have HC1_1 := zA hc1_1
 clear hr1_1 hc1_1
 have HG := zA hG
 clear hG
 have HB := zA (Below.refl w.heap.size w)
 have H : ((zbq.f k).bind fun t587 => (if t587 = true then (if (l1_0.length : Int) > 12 then (zaa.j0 k a2 l1_0 l1_1 true a0_0 a0_1) else (if (l1_1.length : Int) = (l1_0.length : Int) then (zaa.j0 k a2 l1_0 l1_1 ((l1_0.length : Int) == 0) a0_0 a0_1) else (zaa.j0 k a2 l1_0 l1_1 true a0_0 a0_1))) else (zaa.j0 k a2 l1_0 l1_1 true a0_0 a0_1))) = some r := h
 clear h
 have HC4 := zA H
 clear H
 go_enter Tryz.func4, Tryz.ntmps4
 try go_wp2_with (first | ((with_reducible refine za4 (N := 3) rfl ?_); (try (refine zcj (by rfl) ?_; dsimp only)); refine zbb ?hg (N := 3) ?hd (cs := #[.int .i64 a0_0, .int .i64 a0_1]) (t := 23) ?hr ?_; (case hd => rfl); (case hg => rfl); (case hr => first | (go_simp; done) | (go_simp; rfl)); intro gb585 hg w5 hbox hb; have n0_ := zA (zab (zB HB) hb); have n1_ := zA (hbox); have n2_ := zA ((by rw [hg]; exact (za (zB HB)) : w.heap.size ≤ gb585)); have n3_ := zA ((by rw [hg]; exact (za (zB HB)) : w.heap.size ≤ gb585)); clear HB; have HB := n0_; have BK585 := n1_; have GW585 := n2_; have GE585 := n3_; clear n0_ n1_ n2_ n3_ hb hbox hg) | ((with_reducible refine za4 (N := 4) rfl ?_); (try (refine zcj (by rfl) ?_; dsimp only)); refine zbb ?hg (N := 4) ?hd (cs := #[.slice A1_0 l1_0.length c1_0, .slice A1_1 l1_1.length c1_1]) (t := 43) ?hr ?_; (case hd => rfl); (case hg => rfl); (case hr => first | (go_simp; done) | (go_simp; rfl)); intro gb586 hg w6 hbox hb; have n0_ := zA (zae (g := gb585) (o := .cells #[.int .i64 a0_0, .int .i64 a0_1] 23 (0, 0)) (zK BK585) hb); have n1_ := zA (zab (zB HB) hb); have n2_ := zA (hbox); have n3_ := zA ((by rw [hg]; exact (za (zB HB)) : w.heap.size ≤ gb586)); have n4_ := zA ((by rw [hg]; exact (za (zB HB)) : w.heap.size ≤ gb586)); have n5_ := zA ((by rw [hg]; exact Nat.ne_of_lt (zax (g := gb585) (o := .cells #[.int .i64 a0_0, .int .i64 a0_1] 23 (0, 0)) (zK BK585)) : gb585 ≠ gb586)); have n6_ := zA ((by rw [hg]; exact Nat.ne_of_gt (zax (g := gb585) (o := .cells #[.int .i64 a0_0, .int .i64 a0_1] 23 (0, 0)) (zK BK585)) : gb586 ≠ gb585)); clear BK585 HB; have BK585 := n0_; have HB := n1_; have BK586 := n2_; have GW586 := n3_; have GE586 := n4_; have NB585_586 := n5_; have NB586_585 := n6_; clear n0_ n1_ n2_ n3_ n4_ n5_ n6_ hb hbox hg))
 have n0_ := zA (zah BK585.out)
 have n1_ := zA (zah BK586.out)
 have n2_ := zA (zbh HB.out)
 clear BK585 BK586 HB
 have BK585 := n0_
 have BK586 := n1_
 have HB := n2_
 clear n0_ n1_ n2_
 refine zdk (n := 6) (S := fun w' => w'.cell? ⟨gb586, 0, none⟩ = some (.slice A1_0 l1_0.length c1_0) ∧ w'.cell? ⟨gb586, 1, none⟩ = some (.slice A1_1 l1_1.length c1_1)) (ds := []) #[false, false, false, false, false, false] (by kernel_rfl) rfl rfl ⟨(zac BK586.out 0).trans rfl, (zac BK586.out 1).trans rfl⟩ (fun hHeld => ?_)
 generalize w6.drew = w7 at BK585 BK586 HB hHeld ⊢
 refine pure_ (i := 0) (N := some 19) (v := ?_) (a' := ?_) #[true, false, false, false, false, false] rfl rfl (by kernel_rfl) (fun _ _ _ h => h) (Or.inl ⟨by rfl, ?_⟩) ?_ ?_
 rotate_left
 ·
  intro w'
  go_simp
  with_reducible rfl
 rotate_left
 ·
  simp only [Act.put, zs1, zs2, zs3, i64_w, i32_w]
  rfl
 refine pure_ (i := 2) (N := some 21) (v := ?_) (a' := ?_) #[true, false, true, false, false, false] rfl rfl (by kernel_rfl) (fun _ _ _ h => h) (Or.inl ⟨by rfl, ?_⟩) ?_ ?_
 rotate_left
 ·
  intro w'
  go_simp
  with_reducible rfl
 rotate_left
 ·
  simp only [Act.put, zs1, zs2, zs3, i64_w, i32_w]
  rfl
 refine take_ (i := 1) (N := some 20) (v := ?_) (a' := ?_) #[true, true, true, false, false, false] rfl rfl (by kernel_rfl) (fun _ _ _ h => h) (Or.inl ⟨by rfl, ?_⟩) hHeld ?_ ?_
 rotate_left
 ·
  rintro w' ⟨s0, s1⟩
  go_simp
  with_reducible rfl
 rotate_left
 ·
  simp only [Act.put, zs1, zs2, zs3, i64_w, i32_w]
  rfl
 refine pure_ (i := 4) (N := some 7) (v := ?_) (a' := ?_) #[true, true, true, false, true, false] rfl rfl (by kernel_rfl) (fun _ _ _ h => h) (Or.inl ⟨by rfl, ?_⟩) ?_ ?_
 rotate_left
 ·
  intro w'
  go_simp
  with_reducible rfl
 rotate_left
 ·
  simp only [Act.put, zs1, zs2, zs3, i64_w, i32_w]
  rfl
 refine take_ (i := 3) (N := some 22) (v := ?_) (a' := ?_) #[true, true, true, true, true, false] rfl rfl (by kernel_rfl) (fun _ _ _ h => h) (Or.inl ⟨by rfl, ?_⟩) hHeld ?_ ?_
 rotate_left
 ·
  rintro w' ⟨s0, s1⟩
  go_simp
  with_reducible rfl
 rotate_left
 ·
  simp only [Act.put, zs1, zs2, zs3, i64_w, i32_w]
  rfl
 refine pure_ (i := 5) (N := some 8) (v := ?_) (a' := ?_) #[true, true, true, true, true, true] rfl rfl (by kernel_rfl) (fun _ _ _ h => h) (Or.inl ⟨by rfl, ?_⟩) ?_ ?_
 rotate_left
 ·
  intro w'
  go_simp
  with_reducible rfl
 rotate_left
 ·
  simp only [Act.put, zs1, zs2, zs3, i64_w, i32_w]
  rfl
 refine done_ (by kernel_rfl) ?_
 go_upto_region 2 with (fail)
 go_cut [41] (fun v41 wc => ∃ (kq : Nat) (x41_3 : Bool), v41 = .bool x41_3 ∧ Aside0 (zaa.j0 kq a2 l1_0 l1_1 x41_3 a0_0 a0_1 = some r) ∧ Aside0 (kq ≤ k) ∧ Aside0 (wc.heap[gb585]? = some (.cells #[.int .i64 a0_0, .int .i64 a0_1] 23 (0, 0))) ∧ Aside0 (wc.heap[gb586]? = some (.cells #[(.slice A1_0 l1_0.length c1_0), (.slice A1_1 l1_1.length c1_1)] 43 (0, 0))) ∧ Aside0 (Below w.heap.size w wc))
 case first =>
  have H := HC4.out
  clear HC4
  replace H := zO H
  obtain ⟨t587, A80, H⟩ := H
  try dsimp only at H
  have A8 := zA A80
  clear A80
  by_cases c9 : t587 = true
  ·
   subst c9
   rw [if_pos rfl] at H
   by_cases c10 : (l1_0.length : Int) > 12
   ·
    rw [if_pos c10] at H
    have c10b0 : decide (12 < (l1_0.length : Int)) = true := decide_eq_true c10
    have c10b1 : decide (12 < l1_0.length) = true := decide_eq_true (by omega)
    clear c10
    (first | rw [c10b0] | (simp only [i64_w, i32_w]; rw [c10b0]) | skip)
    have H' := zA H
    clear H
    go_wp2_with (first | ((with_reducible refine zad (f := 14) rfl ?_); refine zaz (some 23) rfl rfl Tryz.func14 (by kernel_rfl) rfl #[] rfl (zE) ?_; (with_reducible refine (zbq.calls k  true _ ?side1 A8.out).mono ?_); (case side1 => exact Glob.below HG.out (zB HB)); rintro e w11 ⟨rfl, hb⟩; refine ⟨_, rfl, ?_⟩; have n0_ := zA (zae (g := gb585) (o := .cells #[.int .i64 a0_0, .int .i64 a0_1] 23 (0, 0)) (zK BK585) hb); have n1_ := zA (zae (g := gb586) (o := .cells #[.slice A1_0 l1_0.length c1_0, .slice A1_1 l1_1.length c1_1] 43 (0, 0)) (zK BK586) hb); have n2_ := zA (zab (zB HB) hb); clear BK585 BK586 HB; have BK585 := n0_; have BK586 := n1_; have HB := n2_; clear n0_ n1_ n2_; (try clear hb); (try clear hb2); (try clear hk); (try clear hi)))
    go_meet
    case rel => exact ⟨_, (true), (zF), H', ⟨by first | omega | exact Nat.le_refl _⟩, ⟨zK BK585⟩, ⟨zK BK586⟩, ⟨zB HB⟩⟩
   ·
    rw [if_neg c10] at H
    have c10b0 : decide (12 < (l1_0.length : Int)) = false := decide_eq_false c10
    have c10b1 : decide (12 < l1_0.length) = false := decide_eq_false (by omega)
    clear c10
    (first | rw [c10b0] | (simp only [i64_w, i32_w]; rw [c10b0]) | skip)
    by_cases c12 : (l1_1.length : Int) = (l1_0.length : Int)
    ·
     rw [if_pos c12] at H
     have c12b0 : ((l1_1.length : Int) == (l1_0.length : Int)) = true := beq_iff_eq.mpr c12
     have c12b1 : ((l1_1.length : Int) != (l1_0.length : Int)) = false := bne_eq_false_iff_eq.mpr c12
     have c12b2 : (l1_1.length == l1_0.length) = true := by first | simpa using c12 | (simp at c12 ⊢; omega)
     clear c12
     have H' := zA H
     clear H
     go_wp2_with (first | ((with_reducible refine zad (f := 14) rfl ?_); refine zaz (some 23) rfl rfl Tryz.func14 (by kernel_rfl) rfl #[] rfl (zE) ?_; (with_reducible refine (zbq.calls k  true _ ?side1 A8.out).mono ?_); (case side1 => exact Glob.below HG.out (zB HB)); rintro e w13 ⟨rfl, hb⟩; refine ⟨_, rfl, ?_⟩; have n0_ := zA (zae (g := gb585) (o := .cells #[.int .i64 a0_0, .int .i64 a0_1] 23 (0, 0)) (zK BK585) hb); have n1_ := zA (zae (g := gb586) (o := .cells #[.slice A1_0 l1_0.length c1_0, .slice A1_1 l1_1.length c1_1] 43 (0, 0)) (zK BK586) hb); have n2_ := zA (zab (zB HB) hb); clear BK585 BK586 HB; have BK585 := n0_; have BK586 := n1_; have HB := n2_; clear n0_ n1_ n2_; (try clear hb); (try clear hb2); (try clear hk); (try clear hi)))
     go_meet
     case rel => exact ⟨_, (((l1_0.length : Int) == 0)), (zF), H', ⟨by first | omega | exact Nat.le_refl _⟩, ⟨zK BK585⟩, ⟨zK BK586⟩, ⟨zB HB⟩⟩
    ·
     rw [if_neg c12] at H
     have c12b0 : ((l1_1.length : Int) == (l1_0.length : Int)) = false := beq_eq_false_iff_ne.mpr c12
     have c12b1 : ((l1_1.length : Int) != (l1_0.length : Int)) = true := bne_iff_ne.mpr c12
     have c12b2 : (l1_1.length == l1_0.length) = false := by first | simpa using c12 | (simp at c12 ⊢; omega)
     have H' := zA H
     clear H
     go_wp2_with (first | ((with_reducible refine zad (f := 14) rfl ?_); refine zaz (some 23) rfl rfl Tryz.func14 (by kernel_rfl) rfl #[] rfl (zE) ?_; (with_reducible refine (zbq.calls k  true _ ?side1 A8.out).mono ?_); (case side1 => exact Glob.below HG.out (zB HB)); rintro e w14 ⟨rfl, hb⟩; refine ⟨_, rfl, ?_⟩; have n0_ := zA (zae (g := gb585) (o := .cells #[.int .i64 a0_0, .int .i64 a0_1] 23 (0, 0)) (zK BK585) hb); have n1_ := zA (zae (g := gb586) (o := .cells #[.slice A1_0 l1_0.length c1_0, .slice A1_1 l1_1.length c1_1] 43 (0, 0)) (zK BK586) hb); have n2_ := zA (zab (zB HB) hb); clear BK585 BK586 HB; have BK585 := n0_; have BK586 := n1_; have HB := n2_; clear n0_ n1_ n2_; (try clear hb); (try clear hb2); (try clear hk); (try clear hi)))
     go_meet
     case rel => exact ⟨_, (true), (zF), H', ⟨by first | omega | exact Nat.le_refl _⟩, ⟨zK BK585⟩, ⟨zK BK586⟩, ⟨zB HB⟩⟩
  ·
   replace c9 := Bool.eq_false_iff.mpr c9
   subst c9
   rw [if_neg (show ¬ (false = true) by decide)] at H
   have H' := zA H
   clear H
   go_wp2_with (first | ((with_reducible refine zad (f := 14) rfl ?_); refine zaz (some 23) rfl rfl Tryz.func14 (by kernel_rfl) rfl #[] rfl (zE) ?_; (with_reducible refine (zbq.calls k  false _ ?side1 A8.out).mono ?_); (case side1 => exact Glob.below HG.out (zB HB)); rintro e w15 ⟨rfl, hb⟩; refine ⟨_, rfl, ?_⟩; have n0_ := zA (zae (g := gb585) (o := .cells #[.int .i64 a0_0, .int .i64 a0_1] 23 (0, 0)) (zK BK585) hb); have n1_ := zA (zae (g := gb586) (o := .cells #[.slice A1_0 l1_0.length c1_0, .slice A1_1 l1_1.length c1_1] 43 (0, 0)) (zK BK586) hb); have n2_ := zA (zab (zB HB) hb); clear BK585 BK586 HB; have BK585 := n0_; have BK586 := n1_; have HB := n2_; clear n0_ n1_ n2_; (try clear hb); (try clear hb2); (try clear hk); (try clear hi)))
   go_meet
   case rel => exact ⟨_, (true), (zF), H', ⟨by first | omega | exact Nat.le_refl _⟩, ⟨zK BK585⟩, ⟨zK BK586⟩, ⟨zB HB⟩⟩
 case rest =>
  clear HC4
  try clear c1
  try clear p2
  try clear c4
  try clear p6
  try clear c9
  try clear c10
  try clear c10b0
  try clear c10b1
  try clear c12
  try clear c12b0
  try clear c12b1
  try clear c12b2
  try clear c14
  obtain ⟨kq, x41_3, rfl, HA, HJ3, BK585, BK586, HB⟩ := hcut
  cases kq with
  | zero => exact absurd HA.out (by simp [zaa.j0])
  | succ kj3 =>
   have H := HA.out
   clear HA
   simp only [zaa.j0] at H
   by_cases c16 : x41_3 = true
   ·
    subst c16
    rw [if_pos rfl] at H
    replace H := zO H
    obtain ⟨t588, A170, H⟩ := H
    try dsimp only at H
    have A17 := zA A170
    clear A170
    obtain rfl := Option.some.inj H
    go_wp2_with (first | ((with_reducible refine zad (f := 14) rfl ?_); refine zaz (some 42) rfl rfl Tryz.func14 (by kernel_rfl) rfl #[] rfl (zE) ?_; (with_reducible refine (zbq.calls kj3  t588 _ ?side1 A17.out).mono ?_); (case side1 => exact Glob.below HG.out (zB HB)); rintro e w18 ⟨rfl, hb⟩; refine ⟨_, rfl, ?_⟩; have n0_ := zA (zae (g := gb585) (o := .cells #[.int .i64 a0_0, .int .i64 a0_1] 23 (0, 0)) (zK BK585) hb); have n1_ := zA (zae (g := gb586) (o := .cells #[.slice A1_0 l1_0.length c1_0, .slice A1_1 l1_1.length c1_1] 43 (0, 0)) (zK BK586) hb); have n2_ := zA (zab (zB HB) hb); clear BK585 BK586 HB; have BK585 := n0_; have BK586 := n1_; have HB := n2_; clear n0_ n1_ n2_; (try clear hb); (try clear hb2); (try clear hk); (try clear hi)))
    go_ret
    exact ⟨zW, zB HB⟩
   ·
    replace c16 := Bool.eq_false_iff.mpr c16
    subst c16
    rw [if_neg (show ¬ (false = true) by decide)] at H
    replace H := zO H
    obtain ⟨⟨t589, t592, t595, t598⟩, A190, H⟩ := H
    try dsimp only at H
    have A19 := zA A190
    clear A190
    by_cases c20 : (l1_0.length : Int) = 0
    ·
     rw [if_pos c20] at H
     exact absurd H (by simp)
    ·
     rw [if_neg c20] at H
     have c20b0 : ((l1_0.length : Int) == 0) = false := beq_eq_false_iff_ne.mpr c20
     have c20b1 : ((l1_0.length : Int) != 0) = true := bne_iff_ne.mpr c20
     have c20b2 : ¬ (l1_0 = []) := fun h_ => c20 (by rw [h_]; rfl)
     obtain ⟨y603, hy603⟩ : ∃ y_ : List Int, y_ = (([] : List Int)) := ⟨_, rfl⟩
     replace H : (if 0 ≤ (Int.tmod (wrap64 (a2)) (l1_0.length : Int)) then (if (Int.tmod (wrap64 (a2)) (l1_0.length : Int)) ≤ (l1_0.length : Int) then (if y603.length + (l1_0.drop ((Int.tmod (wrap64 (a2)) (l1_0.length : Int)) : Int).toNat).length < 17592186044416 then ((some (y603 ++ (l1_0.drop ((Int.tmod (wrap64 (a2)) (l1_0.length : Int)) : Int).toNat) : List Int)).bind fun y607 => (if y607.length + (l1_0.take ((Int.tmod (wrap64 (a2)) (l1_0.length : Int)) : Int).toNat).length < 17592186044416 then ((some (([] : List Int) : List Int)).bind fun y614 => (if (Int.tmod (wrap64 (a2)) (l1_0.length : Int)) ≤ (l1_1.length : Int) then (if y614.length + (l1_1.drop ((Int.tmod (wrap64 (a2)) (l1_0.length : Int)) : Int).toNat).length < 17592186044416 then ((some (y614 ++ (l1_1.drop ((Int.tmod (wrap64 (a2)) (l1_0.length : Int)) : Int).toNat) : List Int)).bind fun y618 => (if y618.length + (l1_1.take ((Int.tmod (wrap64 (a2)) (l1_0.length : Int)) : Int).toNat).length < 17592186044416 then ((zba.f kj3 t589 t592 l1_0 l1_1).bind fun bt625 => ((zba.f kj3 t589 t592 (y607 ++ (l1_0.take ((Int.tmod (wrap64 (a2)) (l1_0.length : Int)) : Int).toNat)) (y618 ++ (l1_1.take ((Int.tmod (wrap64 (a2)) (l1_0.length : Int)) : Int).toNat))).bind fun bt629 => (if bt625.2 = bt629.2 then (zaa.j1 kj3 (Int.tmod (wrap64 (a2)) (l1_0.length : Int)) bt625.1 bt629.1 ((bt625.1.length : Int) != (bt629.1.length : Int))) else (zaa.j1 kj3 (Int.tmod (wrap64 (a2)) (l1_0.length : Int)) bt625.1 bt629.1 true)))) else (none))) else (none)) else (none))) else (none))) else (none)) else (none)) else (none)) = some r := by first | (rw [hy603]; with_reducible exact H) | (have H2_ := (Option.bind_some _ _).symm.trans H; rw [hy603]; with_reducible exact H2_) | (have H2_ := (Option.bind_some _ _).symm.trans H; with_reducible exact H2_) | with_reducible exact H | (rw [hy603]; exact H) | exact H
     have Ny603 := zA hy603
     clear hy603
     obtain ⟨ji21, hji21⟩ : ∃ j_ : Int, (Int.tmod (wrap64 (a2)) (l1_0.length : Int)) = j_ := ⟨_, rfl⟩
     replace H : (if 0 ≤ (ji21) then (if (ji21) ≤ (l1_0.length : Int) then (if y603.length + (l1_0.drop ((ji21) : Int).toNat).length < 17592186044416 then ((some (y603 ++ (l1_0.drop ((ji21) : Int).toNat) : List Int)).bind fun y607 => (if y607.length + (l1_0.take ((ji21) : Int).toNat).length < 17592186044416 then ((some (([] : List Int) : List Int)).bind fun y614 => (if (ji21) ≤ (l1_1.length : Int) then (if y614.length + (l1_1.drop ((ji21) : Int).toNat).length < 17592186044416 then ((some (y614 ++ (l1_1.drop ((ji21) : Int).toNat) : List Int)).bind fun y618 => (if y618.length + (l1_1.take ((ji21) : Int).toNat).length < 17592186044416 then ((zba.f kj3 t589 t592 l1_0 l1_1).bind fun bt625 => ((zba.f kj3 t589 t592 (y607 ++ (l1_0.take ((ji21) : Int).toNat)) (y618 ++ (l1_1.take ((ji21) : Int).toNat))).bind fun bt629 => (if bt625.2 = bt629.2 then (zaa.j1 kj3 ji21 bt625.1 bt629.1 ((bt625.1.length : Int) != (bt629.1.length : Int))) else (zaa.j1 kj3 ji21 bt625.1 bt629.1 true)))) else (none))) else (none)) else (none))) else (none))) else (none)) else (none)) else (none)) = some r := by first | (rw [hji21] at H; exact H) | (simp only [hji21] at H ⊢; exact H)
     (try rw [hji21] at A19)
     by_cases c22 : 0 ≤ (ji21)
     ·
      rw [if_pos c22] at H
      have c22b0 := eq_true c22
      have c22b1 : decide (0 ≤ (ji21)) = true := decide_eq_true c22
      clear c22
      by_cases c23 : (ji21) ≤ (l1_0.length : Int)
      ·
       rw [if_pos c23] at H
       have c23b0 := eq_true c23
       have c23b1 : decide ((ji21) ≤ (l1_0.length : Int)) = true := decide_eq_true c23
       clear c23
       by_cases c24 : y603.length + (l1_0.drop ((ji21) : Int).toNat).length < 17592186044416
       ·
        rw [if_pos c24] at H
        have LMc24 := zA c24
        clear c24
        obtain ⟨y607, hy607⟩ : ∃ y_ : List Int, y_ = (y603 ++ (l1_0.drop ((ji21) : Int).toNat)) := ⟨_, rfl⟩
        replace H : (if y607.length + (l1_0.take ((ji21) : Int).toNat).length < 17592186044416 then ((some (([] : List Int) : List Int)).bind fun y614 => (if (ji21) ≤ (l1_1.length : Int) then (if y614.length + (l1_1.drop ((ji21) : Int).toNat).length < 17592186044416 then ((some (y614 ++ (l1_1.drop ((ji21) : Int).toNat) : List Int)).bind fun y618 => (if y618.length + (l1_1.take ((ji21) : Int).toNat).length < 17592186044416 then ((zba.f kj3 t589 t592 l1_0 l1_1).bind fun bt625 => ((zba.f kj3 t589 t592 (y607 ++ (l1_0.take ((ji21) : Int).toNat)) (y618 ++ (l1_1.take ((ji21) : Int).toNat))).bind fun bt629 => (if bt625.2 = bt629.2 then (zaa.j1 kj3 ji21 bt625.1 bt629.1 ((bt625.1.length : Int) != (bt629.1.length : Int))) else (zaa.j1 kj3 ji21 bt625.1 bt629.1 true)))) else (none))) else (none)) else (none))) else (none)) = some r := by first | (rw [hy607]; with_reducible exact H) | (have H2_ := (Option.bind_some _ _).symm.trans H; rw [hy607]; with_reducible exact H2_) | (have H2_ := (Option.bind_some _ _).symm.trans H; with_reducible exact H2_) | with_reducible exact H | (rw [hy607]; exact H) | exact H
        have Ny607 := zA hy607
        clear hy607
        have c25b0 := eq_true (of_decide_eq_true (by first | (with_reducible assumption) | assumption) : 0 ≤ (ji21))
        have c26b0 := eq_true (of_decide_eq_true (by first | (with_reducible assumption) | assumption) : (ji21) ≤ (l1_0.length : Int))
        by_cases c27 : y607.length + (l1_0.take ((ji21) : Int).toNat).length < 17592186044416
        ·
         rw [if_pos c27] at H
         have LMc27 := zA c27
         clear c27
         obtain ⟨y611, hy611⟩ : ∃ y_ : List Int, y_ = (y607 ++ (l1_0.take ((ji21) : Int).toNat)) := ⟨_, rfl⟩
         replace H : ((some (([] : List Int) : List Int)).bind fun y614 => (if (ji21) ≤ (l1_1.length : Int) then (if y614.length + (l1_1.drop ((ji21) : Int).toNat).length < 17592186044416 then ((some (y614 ++ (l1_1.drop ((ji21) : Int).toNat) : List Int)).bind fun y618 => (if y618.length + (l1_1.take ((ji21) : Int).toNat).length < 17592186044416 then ((zba.f kj3 t589 t592 l1_0 l1_1).bind fun bt625 => ((zba.f kj3 t589 t592 y611 (y618 ++ (l1_1.take ((ji21) : Int).toNat))).bind fun bt629 => (if bt625.2 = bt629.2 then (zaa.j1 kj3 ji21 bt625.1 bt629.1 ((bt625.1.length : Int) != (bt629.1.length : Int))) else (zaa.j1 kj3 ji21 bt625.1 bt629.1 true)))) else (none))) else (none)) else (none))) = some r := by first | (rw [hy611]; with_reducible exact H) | (have H2_ := (Option.bind_some _ _).symm.trans H; rw [hy611]; with_reducible exact H2_) | (have H2_ := (Option.bind_some _ _).symm.trans H; with_reducible exact H2_) | with_reducible exact H | (rw [hy611]; exact H) | exact H
         have Ny611 := zA hy611
         clear hy611
         obtain ⟨y614, hy614⟩ : ∃ y_ : List Int, y_ = (([] : List Int)) := ⟨_, rfl⟩
         replace H : (if (ji21) ≤ (l1_1.length : Int) then (if y614.length + (l1_1.drop ((ji21) : Int).toNat).length < 17592186044416 then ((some (y614 ++ (l1_1.drop ((ji21) : Int).toNat) : List Int)).bind fun y618 => (if y618.length + (l1_1.take ((ji21) : Int).toNat).length < 17592186044416 then ((zba.f kj3 t589 t592 l1_0 l1_1).bind fun bt625 => ((zba.f kj3 t589 t592 y611 (y618 ++ (l1_1.take ((ji21) : Int).toNat))).bind fun bt629 => (if bt625.2 = bt629.2 then (zaa.j1 kj3 ji21 bt625.1 bt629.1 ((bt625.1.length : Int) != (bt629.1.length : Int))) else (zaa.j1 kj3 ji21 bt625.1 bt629.1 true)))) else (none))) else (none)) else (none)) = some r := by first | (rw [hy614]; with_reducible exact H) | (have H2_ := (Option.bind_some _ _).symm.trans H; rw [hy614]; with_reducible exact H2_) | (have H2_ := (Option.bind_some _ _).symm.trans H; with_reducible exact H2_) | with_reducible exact H | (rw [hy614]; exact H) | exact H
         have Ny614 := zA hy614
         clear hy614
         have c28b0 := eq_true (of_decide_eq_true (by first | (with_reducible assumption) | assumption) : 0 ≤ (ji21))
         by_cases c29 : (ji21) ≤ (l1_1.length : Int)
         ·
          rw [if_pos c29] at H
          have c29b0 := eq_true c29
          have c29b1 : decide ((ji21) ≤ (l1_1.length : Int)) = true := decide_eq_true c29
          clear c29
          by_cases c30 : y614.length + (l1_1.drop ((ji21) : Int).toNat).length < 17592186044416
          ·
           rw [if_pos c30] at H
           have LMc30 := zA c30
           clear c30
           obtain ⟨y618, hy618⟩ : ∃ y_ : List Int, y_ = (y614 ++ (l1_1.drop ((ji21) : Int).toNat)) := ⟨_, rfl⟩
           replace H : (if y618.length + (l1_1.take ((ji21) : Int).toNat).length < 17592186044416 then ((zba.f kj3 t589 t592 l1_0 l1_1).bind fun bt625 => ((zba.f kj3 t589 t592 y611 (y618 ++ (l1_1.take ((ji21) : Int).toNat))).bind fun bt629 => (if bt625.2 = bt629.2 then (zaa.j1 kj3 ji21 bt625.1 bt629.1 ((bt625.1.length : Int) != (bt629.1.length : Int))) else (zaa.j1 kj3 ji21 bt625.1 bt629.1 true)))) else (none)) = some r := by first | (rw [hy618]; with_reducible exact H) | (have H2_ := (Option.bind_some _ _).symm.trans H; rw [hy618]; with_reducible exact H2_) | (have H2_ := (Option.bind_some _ _).symm.trans H; with_reducible exact H2_) | with_reducible exact H | (rw [hy618]; exact H) | exact H
           have Ny618 := zA hy618
           clear hy618
           have c31b0 := eq_true (of_decide_eq_true (by first | (with_reducible assumption) | assumption) : 0 ≤ (ji21))
           have c32b0 := eq_true (of_decide_eq_true (by first | (with_reducible assumption) | assumption) : (ji21) ≤ (l1_1.length : Int))
           by_cases c33 : y618.length + (l1_1.take ((ji21) : Int).toNat).length < 17592186044416
           ·
            rw [if_pos c33] at H
            have LMc33 := zA c33
            clear c33
            obtain ⟨y622, hy622⟩ : ∃ y_ : List Int, y_ = (y618 ++ (l1_1.take ((ji21) : Int).toNat)) := ⟨_, rfl⟩
            replace H : ((zba.f kj3 t589 t592 l1_0 l1_1).bind fun bt625 => ((zba.f kj3 t589 t592 y611 y622).bind fun bt629 => (if bt625.2 = bt629.2 then (zaa.j1 kj3 ji21 bt625.1 bt629.1 ((bt625.1.length : Int) != (bt629.1.length : Int))) else (zaa.j1 kj3 ji21 bt625.1 bt629.1 true)))) = some r := by first | (rw [hy622]; with_reducible exact H) | (have H2_ := (Option.bind_some _ _).symm.trans H; rw [hy622]; with_reducible exact H2_) | (have H2_ := (Option.bind_some _ _).symm.trans H; with_reducible exact H2_) | with_reducible exact H | (rw [hy622]; exact H) | exact H
            have Ny622 := zA hy622
            clear hy622
            replace H := zO H
            obtain ⟨⟨t625, t628⟩, A340, H⟩ := H
            try dsimp only at H
            have A34 := zA A340
            clear A340
            replace H := zO H
            obtain ⟨⟨t629, t632⟩, A350, H⟩ := H
            try dsimp only at H
            have A35 := zA A350
            clear A350
            have HC36 := zA H
            clear H
            have hnb37 := NB585_586.out
            have hnc37 := NB586_585.out
            have hcz38_0 : wc.cell? ⟨gb585, 0, none⟩ = some (.int .i64 a0_0) := (zac BK585.out 0).trans rfl
            have hcz38_1 : wc.cell? ⟨gb585, 1, none⟩ = some (.int .i64 a0_1) := (zac BK585.out 1).trans rfl
            have hfz38_0 := zaj BK585.out 0
            have hfz38_1 := zaj BK585.out 1
            try go_wp2_with (first | ((with_reducible refine zad (f := 15) rfl ?_); refine zaz (some 45) rfl rfl Tryz.func15 (by kernel_rfl) rfl #[.agg #[.int .i64 a0_0, .int .i64 a0_1]] rfl (zE) ?_; (with_reducible refine (zat.calls kj3 a0_0 a0_1 t589 t592 t595 t598 _ A19.out).mono ?_); rintro e w39 ⟨v590, v593, v596, v599, rfl, ho0, ho1, ho2, ho3, hb⟩; refine ⟨_, rfl, ?_⟩; have n0_ := zA (Kd.za7 (Kd.zaq (ok' := fun k_ => some k_ ≠ (v596 : Value).ownBlock ∧ some k_ ≠ (v599 : Value).ownBlock ∧ k_ ≠ gb585 ∧ k_ ≠ gb586) ho0 (fun k_ hk_ => ⟨hk_.2.1, hk_.2.2, (Kd.freshB (g := gb585) (o := .cells #[.int .i64 a0_0, .int .i64 a0_1] 23 (0, 0)) (zK BK585) k_ hk_.1), (Kd.freshB (g := gb586) (o := .cells #[.slice A1_0 l1_0.length c1_0, .slice A1_1 l1_1.length c1_1] 43 (0, 0)) (zK BK586) k_ hk_.1)⟩)) (za (zB HB))); have n1_ := zA (Kd.za7 (Kd.zaq (ok' := fun k_ => some k_ ≠ (v596 : Value).ownBlock ∧ some k_ ≠ (v599 : Value).ownBlock ∧ k_ ≠ gb585 ∧ k_ ≠ gb586) ho1 (fun k_ hk_ => ⟨hk_.2.1, hk_.2.2, (Kd.freshB (g := gb585) (o := .cells #[.int .i64 a0_0, .int .i64 a0_1] 23 (0, 0)) (zK BK585) k_ hk_.1), (Kd.freshB (g := gb586) (o := .cells #[.slice A1_0 l1_0.length c1_0, .slice A1_1 l1_1.length c1_1] 43 (0, 0)) (zK BK586) k_ hk_.1)⟩)) (za (zB HB))); have n2_ := zA (Kd.zbo (Kd.zbn (ok' := fun k_ => some k_ ≠ (v599 : Value).ownBlock) ho2 (fun _ hk_ => hk_.2)) (za (zB HB))); have n3_ := zA (Kd.zbo (Kd.zbn (ok' := fun k_ => some k_ ≠ (v596 : Value).ownBlock) ho3 (fun _ hk_ => hk_.2)) (za (zB HB))); have n4_ := zA (zae (g := gb585) (o := .cells #[.int .i64 a0_0, .int .i64 a0_1] 23 (0, 0)) (zK BK585) hb); have n5_ := zA (zae (g := gb586) (o := .cells #[.slice A1_0 l1_0.length c1_0, .slice A1_1 l1_1.length c1_1] 43 (0, 0)) (zK BK586) hb); have n6_ := zA (zab (zB HB) hb); clear BK585 BK586 HB; have HO591 := n0_; have HO594 := n1_; have HO597 := n2_; have HO600 := n3_; have BK585 := n4_; have BK586 := n5_; have HB := n6_; clear n0_ n1_ n2_ n3_ n4_ n5_ n6_; (try clear hb); (try clear hb2); (try clear hk); (try clear hi); (try clear ho0); (try clear ho1); (try clear ho2); (try clear ho3)) | ((with_reducible refine za4 (N := 9) rfl ?_); (try (refine zcj (by rfl) ?_; dsimp only)); refine zbb ?hg (N := 9) ?hd (cs := #[.slice none 0 0, .slice none 0 0]) (t := 29) ?hr ?_; (case hd => rfl); (case hg => rfl); (case hr => first | (go_simp; done) | (go_simp; rfl)); intro gb601 hg w40 hbox hb; have n0_ := zA (Kd.za3 (Kd.zdh (zV HO591) gb601 (Nat.le_of_eq hg.symm)) hb); have n1_ := zA (Kd.za3 (Kd.zdh (zV HO594) gb601 (Nat.le_of_eq hg.symm)) hb); have n2_ := zA (Kd.zbw (zR HO597) hb); have n3_ := zA (Kd.zbw (zR HO600) hb); have n4_ := zA (zae (g := gb585) (o := .cells #[.int .i64 a0_0, .int .i64 a0_1] 23 (0, 0)) (zK BK585) hb); have n5_ := zA (zae (g := gb586) (o := .cells #[.slice A1_0 l1_0.length c1_0, .slice A1_1 l1_1.length c1_1] 43 (0, 0)) (zK BK586) hb); have n6_ := zA (zab (zB HB) hb); have n7_ := zA (hbox); have n8_ := zA ((by rw [hg]; exact (za (zB HB)) : w.heap.size ≤ gb601)); have n9_ := zA ((by rw [hg]; exact (za (zB HB)) : w.heap.size ≤ gb601)); have n10_ := zA ((by rw [hg]; exact Nat.ne_of_lt (zax (g := gb585) (o := .cells #[.int .i64 a0_0, .int .i64 a0_1] 23 (0, 0)) (zK BK585)) : gb585 ≠ gb601)); have n11_ := zA ((by rw [hg]; exact Nat.ne_of_gt (zax (g := gb585) (o := .cells #[.int .i64 a0_0, .int .i64 a0_1] 23 (0, 0)) (zK BK585)) : gb601 ≠ gb585)); have n12_ := zA ((by rw [hg]; exact Nat.ne_of_lt (zax (g := gb586) (o := .cells #[.slice A1_0 l1_0.length c1_0, .slice A1_1 l1_1.length c1_1] 43 (0, 0)) (zK BK586)) : gb586 ≠ gb601)); have n13_ := zA ((by rw [hg]; exact Nat.ne_of_gt (zax (g := gb586) (o := .cells #[.slice A1_0 l1_0.length c1_0, .slice A1_1 l1_1.length c1_1] 43 (0, 0)) (zK BK586)) : gb601 ≠ gb586)); clear HO591 HO594 HO597 HO600 BK585 BK586 HB; have HO591 := n0_; have HO594 := n1_; have HO597 := n2_; have HO600 := n3_; have BK585 := n4_; have BK586 := n5_; have HB := n6_; have BK601 := n7_; have GW601 := n8_; have GE601 := n9_; have NB585_601 := n10_; have NB601_585 := n11_; have NB586_601 := n12_; have NB601_586 := n13_; clear n0_ n1_ n2_ n3_ n4_ n5_ n6_ n7_ n8_ n9_ n10_ n11_ n12_ n13_ hb hbox hg) | ((with_reducible refine za4 (N := 10) rfl ?_); (try (refine zcj (by rfl) ?_; dsimp only)); refine zbb ?hg (N := 10) ?hd (cs := #[.slice none 0 0, .slice none 0 0]) (t := 32) ?hr ?_; (case hd => rfl); (case hg => rfl); (case hr => first | (go_simp; done) | (go_simp; rfl)); intro gb602 hg w41 hbox hb; have n0_ := zA (Kd.za3 (Kd.zdh (zV HO591) gb602 (Nat.le_of_eq hg.symm)) hb); have n1_ := zA (Kd.za3 (Kd.zdh (zV HO594) gb602 (Nat.le_of_eq hg.symm)) hb); have n2_ := zA (Kd.zbw (zR HO597) hb); have n3_ := zA (Kd.zbw (zR HO600) hb); have n4_ := zA (zae (g := gb585) (o := .cells #[.int .i64 a0_0, .int .i64 a0_1] 23 (0, 0)) (zK BK585) hb); have n5_ := zA (zae (g := gb586) (o := .cells #[.slice A1_0 l1_0.length c1_0, .slice A1_1 l1_1.length c1_1] 43 (0, 0)) (zK BK586) hb); have n6_ := zA (zae (g := gb601) (o := .cells #[.slice none 0 0, .slice none 0 0] 29 (0, 0)) (zK BK601) hb); have n7_ := zA (zab (zB HB) hb); have n8_ := zA (hbox); have n9_ := zA ((by rw [hg]; exact (za (zB HB)) : w.heap.size ≤ gb602)); have n10_ := zA ((by rw [hg]; exact (za (zB HB)) : w.heap.size ≤ gb602)); have n11_ := zA ((by rw [hg]; exact Nat.ne_of_lt (zax (g := gb585) (o := .cells #[.int .i64 a0_0, .int .i64 a0_1] 23 (0, 0)) (zK BK585)) : gb585 ≠ gb602)); have n12_ := zA ((by rw [hg]; exact Nat.ne_of_gt (zax (g := gb585) (o := .cells #[.int .i64 a0_0, .int .i64 a0_1] 23 (0, 0)) (zK BK585)) : gb602 ≠ gb585)); have n13_ := zA ((by rw [hg]; exact Nat.ne_of_lt (zax (g := gb586) (o := .cells #[.slice A1_0 l1_0.length c1_0, .slice A1_1 l1_1.length c1_1] 43 (0, 0)) (zK BK586)) : gb586 ≠ gb602)); have n14_ := zA ((by rw [hg]; exact Nat.ne_of_gt (zax (g := gb586) (o := .cells #[.slice A1_0 l1_0.length c1_0, .slice A1_1 l1_1.length c1_1] 43 (0, 0)) (zK BK586)) : gb602 ≠ gb586)); have n15_ := zA ((by rw [hg]; exact Nat.ne_of_lt (zax (g := gb601) (o := .cells #[.slice none 0 0, .slice none 0 0] 29 (0, 0)) (zK BK601)) : gb601 ≠ gb602)); have n16_ := zA ((by rw [hg]; exact Nat.ne_of_gt (zax (g := gb601) (o := .cells #[.slice none 0 0, .slice none 0 0] 29 (0, 0)) (zK BK601)) : gb602 ≠ gb601)); clear HO591 HO594 HO597 HO600 BK585 BK586 BK601 HB; have HO591 := n0_; have HO594 := n1_; have HO597 := n2_; have HO600 := n3_; have BK585 := n4_; have BK586 := n5_; have BK601 := n6_; have HB := n7_; have BK602 := n8_; have GW602 := n9_; have GE602 := n10_; have NB585_602 := n11_; have NB602_585 := n12_; have NB586_602 := n13_; have NB602_586 := n14_; have NB601_602 := n15_; have NB602_601 := n16_; clear n0_ n1_ n2_ n3_ n4_ n5_ n6_ n7_ n8_ n9_ n10_ n11_ n12_ n13_ n14_ n15_ n16_ hb hbox hg; obtain ⟨Ao42, co42, eo42⟩ := Kd.za9 HO591.out; subst eo42; have hnb43 := NB601_585.out; have hnc43 := NB585_601.out; have hnb44 := NB601_586.out; have hnc44 := NB586_601.out; have hnb45 := NB601_602.out; have hnc45 := NB602_601.out; have hcz46_0 : w41.cell? ⟨gb601, 0, none⟩ = some (.slice none 0 0) := (zac BK601.out 0).trans rfl; have hcz46_1 : w41.cell? ⟨gb601, 1, none⟩ = some (.slice none 0 0) := (zac BK601.out 1).trans rfl; have hfz46_0 := zaj BK601.out 0; have hfz46_1 := zaj BK601.out 1; obtain ⟨Ao47, co47, eo47⟩ := Kd.za9 HO594.out; subst eo47; obtain ⟨Ao48, co48, eo48⟩ := Kd.zbj HO597.out; subst eo48; have hnb49 := NB602_585.out; have hnc49 := NB585_602.out; have hnb50 := NB602_586.out; have hnc50 := NB586_602.out; have hcz51_0 : w41.cell? ⟨gb602, 0, none⟩ = some (.slice none 0 0) := (zac BK602.out 0).trans rfl; have hcz51_1 : w41.cell? ⟨gb602, 1, none⟩ = some (.slice none 0 0) := (zac BK602.out 1).trans rfl; have hfz51_0 := zaj BK602.out 0; have hfz51_1 := zaj BK602.out 1; obtain ⟨Ao52, co52, eo52⟩ := Kd.zbj HO600.out; subst eo52))
            have n0_ : Aside0 (Kd.V (Kd.int .u64) 82 ((((w41.setCell ⟨gb601, 0, none⟩ (.slice Ao42 t589.length co42)).setCell ⟨gb601, 1, none⟩ (.slice Ao47 t592.length co47)).setCell ⟨gb602, 0, none⟩ (.slice Ao48 t595.length co48)).setCell ⟨gb602, 1, none⟩ (.slice Ao52 t598.length co52)) w.heap.size (fun k_ => some k_ ≠ (.slice Ao48 t595.length co48 : Value).ownBlock ∧ some k_ ≠ (.slice Ao52 t598.length co52 : Value).ownBlock ∧ k_ ≠ gb585 ∧ k_ ≠ gb586 ∧ k_ ≠ gb601 ∧ k_ ≠ gb602) (.slice Ao42 t589.length co42) t589) := ⟨by (with_reducible repeat (first | apply Kd.zbm | apply Kd.zbl | apply Kd.zbp)); exact Kd.zaq (Kd.V_far (p := ⟨gb602, 1, none⟩) (Kd.V_far (p := ⟨gb602, 0, none⟩) (Kd.V_far (p := ⟨gb601, 1, none⟩) (Kd.V_far (p := ⟨gb601, 0, none⟩) (Kd.zaq (Kd.zaq HO591.out (fun k_ hk => (⟨hk, hk.1.2⟩ : _ ∧ k_ ≠ gb601))) (fun k_ hk => (⟨hk, hk.1.2⟩ : _ ∧ k_ ≠ gb602))) (fun _ hk => hk.1.2) (.slice Ao42 t589.length co42)) (fun _ hk => hk.1.2) (.slice Ao47 t592.length co47)) (fun _ hk => hk.2) (.slice Ao48 t595.length co48)) (fun _ hk => hk.2) (.slice Ao52 t598.length co52)) (fun _ hk => ⟨hk.1.1.1.1.1, ⟨hk.1.1.1.1.2.1, ⟨hk.1.1.1.1.2.2.1, ⟨hk.1.1.1.1.2.2.2, ⟨hk.1.1.1.2, hk.1.1.2⟩⟩⟩⟩⟩)⟩
            have n1_ : Aside0 (Kd.V (Kd.int .u64) 82 ((((w41.setCell ⟨gb601, 0, none⟩ (.slice Ao42 t589.length co42)).setCell ⟨gb601, 1, none⟩ (.slice Ao47 t592.length co47)).setCell ⟨gb602, 0, none⟩ (.slice Ao48 t595.length co48)).setCell ⟨gb602, 1, none⟩ (.slice Ao52 t598.length co52)) w.heap.size (fun k_ => some k_ ≠ (.slice Ao48 t595.length co48 : Value).ownBlock ∧ some k_ ≠ (.slice Ao52 t598.length co52 : Value).ownBlock ∧ k_ ≠ gb585 ∧ k_ ≠ gb586 ∧ k_ ≠ gb601 ∧ k_ ≠ gb602) (.slice Ao47 t592.length co47) t592) := ⟨by (with_reducible repeat (first | apply Kd.zbm | apply Kd.zbl | apply Kd.zbp)); exact Kd.zaq (Kd.V_far (p := ⟨gb602, 1, none⟩) (Kd.V_far (p := ⟨gb602, 0, none⟩) (Kd.V_far (p := ⟨gb601, 1, none⟩) (Kd.V_far (p := ⟨gb601, 0, none⟩) (Kd.zaq (Kd.zaq HO594.out (fun k_ hk => (⟨hk, hk.1.2⟩ : _ ∧ k_ ≠ gb601))) (fun k_ hk => (⟨hk, hk.1.2⟩ : _ ∧ k_ ≠ gb602))) (fun _ hk => hk.1.2) (.slice Ao42 t589.length co42)) (fun _ hk => hk.1.2) (.slice Ao47 t592.length co47)) (fun _ hk => hk.2) (.slice Ao48 t595.length co48)) (fun _ hk => hk.2) (.slice Ao52 t598.length co52)) (fun _ hk => ⟨hk.1.1.1.1.1, ⟨hk.1.1.1.1.2.1, ⟨hk.1.1.1.1.2.2.1, ⟨hk.1.1.1.1.2.2.2, ⟨hk.1.1.1.2, hk.1.1.2⟩⟩⟩⟩⟩)⟩
            have n2_ : Aside0 (Kd.R (Kd.int .i64) 3 ((((w41.setCell ⟨gb601, 0, none⟩ (.slice Ao42 t589.length co42)).setCell ⟨gb601, 1, none⟩ (.slice Ao47 t592.length co47)).setCell ⟨gb602, 0, none⟩ (.slice Ao48 t595.length co48)).setCell ⟨gb602, 1, none⟩ (.slice Ao52 t598.length co52)) w.heap.size (fun k_ => some k_ ≠ (.slice Ao52 t598.length co52 : Value).ownBlock) (.slice Ao48 t595.length co48) t595) := ⟨by (with_reducible repeat (first | apply Kd.zb0 | apply Kd.zb2 | apply Kd.zca)); exact Kd.zbn (Kd.R_far (p := ⟨gb602, 1, none⟩) (Kd.R_far (p := ⟨gb602, 0, none⟩) (Kd.R_far (p := ⟨gb601, 1, none⟩) (Kd.R_far (p := ⟨gb601, 0, none⟩) (Kd.R_types (Kd.R_types HO597.out BK601.out (by decide)) BK602.out (by decide)) (fun _ hk => hk.1.2) (.slice Ao42 t589.length co42)) (fun _ hk => hk.1.2) (.slice Ao47 t592.length co47)) (fun _ hk => hk.2) (.slice Ao48 t595.length co48)) (fun _ hk => hk.2) (.slice Ao52 t598.length co52)) (fun _ hk => hk.1.1)⟩
            have n3_ : Aside0 (Kd.R (Kd.int .i64) 3 ((((w41.setCell ⟨gb601, 0, none⟩ (.slice Ao42 t589.length co42)).setCell ⟨gb601, 1, none⟩ (.slice Ao47 t592.length co47)).setCell ⟨gb602, 0, none⟩ (.slice Ao48 t595.length co48)).setCell ⟨gb602, 1, none⟩ (.slice Ao52 t598.length co52)) w.heap.size (fun k_ => some k_ ≠ (.slice Ao48 t595.length co48 : Value).ownBlock) (.slice Ao52 t598.length co52) t598) := ⟨by (with_reducible repeat (first | apply Kd.zb0 | apply Kd.zb2 | apply Kd.zca)); exact Kd.zbn (Kd.R_far (p := ⟨gb602, 1, none⟩) (Kd.R_far (p := ⟨gb602, 0, none⟩) (Kd.R_far (p := ⟨gb601, 1, none⟩) (Kd.R_far (p := ⟨gb601, 0, none⟩) (Kd.R_types (Kd.R_types HO600.out BK601.out (by decide)) BK602.out (by decide)) (fun _ hk => hk.1.2) (.slice Ao42 t589.length co42)) (fun _ hk => hk.1.2) (.slice Ao47 t592.length co47)) (fun _ hk => hk.2) (.slice Ao48 t595.length co48)) (fun _ hk => hk.2) (.slice Ao52 t598.length co52)) (fun _ hk => hk.1.1)⟩
            have n4_ : Aside0 (((((w41.setCell ⟨gb601, 0, none⟩ (.slice Ao42 t589.length co42)).setCell ⟨gb601, 1, none⟩ (.slice Ao47 t592.length co47)).setCell ⟨gb602, 0, none⟩ (.slice Ao48 t595.length co48)).setCell ⟨gb602, 1, none⟩ (.slice Ao52 t598.length co52)).heap[gb585]? = some (.cells #[.int .i64 a0_0, .int .i64 a0_1] 23 (0, 0))) := ⟨by (with_reducible repeat (first | refine zak ?_ _ | refine zah ?_ | refine zai ?_ _)); refine zb7 ?_ NB585_602.out _; (with_reducible repeat (first | refine zak ?_ _ | refine zah ?_ | refine zai ?_ _)); refine zb7 ?_ NB585_602.out _; (with_reducible repeat (first | refine zak ?_ _ | refine zah ?_ | refine zai ?_ _)); refine zb7 ?_ NB585_601.out _; (with_reducible repeat (first | refine zak ?_ _ | refine zah ?_ | refine zai ?_ _)); refine zb7 ?_ NB585_601.out _; (with_reducible repeat (first | refine zak ?_ _ | refine zah ?_ | refine zai ?_ _)); exact BK585.out⟩
            have n5_ : Aside0 (((((w41.setCell ⟨gb601, 0, none⟩ (.slice Ao42 t589.length co42)).setCell ⟨gb601, 1, none⟩ (.slice Ao47 t592.length co47)).setCell ⟨gb602, 0, none⟩ (.slice Ao48 t595.length co48)).setCell ⟨gb602, 1, none⟩ (.slice Ao52 t598.length co52)).heap[gb586]? = some (.cells #[.slice A1_0 l1_0.length c1_0, .slice A1_1 l1_1.length c1_1] 43 (0, 0))) := ⟨by (with_reducible repeat (first | refine zak ?_ _ | refine zah ?_ | refine zai ?_ _)); refine zb7 ?_ NB586_602.out _; (with_reducible repeat (first | refine zak ?_ _ | refine zah ?_ | refine zai ?_ _)); refine zb7 ?_ NB586_602.out _; (with_reducible repeat (first | refine zak ?_ _ | refine zah ?_ | refine zai ?_ _)); refine zb7 ?_ NB586_601.out _; (with_reducible repeat (first | refine zak ?_ _ | refine zah ?_ | refine zai ?_ _)); refine zb7 ?_ NB586_601.out _; (with_reducible repeat (first | refine zak ?_ _ | refine zah ?_ | refine zai ?_ _)); exact BK586.out⟩
            have n6_ : Aside0 (((((w41.setCell ⟨gb601, 0, none⟩ (.slice Ao42 t589.length co42)).setCell ⟨gb601, 1, none⟩ (.slice Ao47 t592.length co47)).setCell ⟨gb602, 0, none⟩ (.slice Ao48 t595.length co48)).setCell ⟨gb602, 1, none⟩ (.slice Ao52 t598.length co52)).heap[gb601]? = some (.cells #[.slice Ao42 t589.length co42, .slice Ao47 t592.length co47] 29 (0, 0))) := ⟨by (with_reducible repeat (first | refine zak ?_ _ | refine zah ?_ | refine zai ?_ _)); refine zb7 ?_ NB601_602.out _; (with_reducible repeat (first | refine zak ?_ _ | refine zah ?_ | refine zai ?_ _)); refine zb7 ?_ NB601_602.out _; (with_reducible repeat (first | refine zak ?_ _ | refine zah ?_ | refine zai ?_ _)); refine zbd (cs := #[.slice Ao42 t589.length co42, .slice none 0 0]) ?_ 1 _ rfl; (with_reducible repeat (first | refine zak ?_ _ | refine zah ?_ | refine zai ?_ _)); refine zbd (cs := #[.slice none 0 0, .slice none 0 0]) ?_ 0 _ rfl; (with_reducible repeat (first | refine zak ?_ _ | refine zah ?_ | refine zai ?_ _)); exact BK601.out⟩
            have n7_ : Aside0 (((((w41.setCell ⟨gb601, 0, none⟩ (.slice Ao42 t589.length co42)).setCell ⟨gb601, 1, none⟩ (.slice Ao47 t592.length co47)).setCell ⟨gb602, 0, none⟩ (.slice Ao48 t595.length co48)).setCell ⟨gb602, 1, none⟩ (.slice Ao52 t598.length co52)).heap[gb602]? = some (.cells #[.slice Ao48 t595.length co48, .slice Ao52 t598.length co52] 32 (0, 0))) := ⟨by (with_reducible repeat (first | refine zak ?_ _ | refine zah ?_ | refine zai ?_ _)); refine zbd (cs := #[.slice Ao48 t595.length co48, .slice none 0 0]) ?_ 1 _ rfl; (with_reducible repeat (first | refine zak ?_ _ | refine zah ?_ | refine zai ?_ _)); refine zbd (cs := #[.slice none 0 0, .slice none 0 0]) ?_ 0 _ rfl; (with_reducible repeat (first | refine zak ?_ _ | refine zah ?_ | refine zai ?_ _)); refine zb7 ?_ NB602_601.out _; (with_reducible repeat (first | refine zak ?_ _ | refine zah ?_ | refine zai ?_ _)); refine zb7 ?_ NB602_601.out _; (with_reducible repeat (first | refine zak ?_ _ | refine zah ?_ | refine zai ?_ _)); exact BK602.out⟩
            have n8_ : Aside0 (Below w.heap.size w ((((w41.setCell ⟨gb601, 0, none⟩ (.slice Ao42 t589.length co42)).setCell ⟨gb601, 1, none⟩ (.slice Ao47 t592.length co47)).setCell ⟨gb602, 0, none⟩ (.slice Ao48 t595.length co48)).setCell ⟨gb602, 1, none⟩ (.slice Ao52 t598.length co52))) := ⟨zB HB⟩
            (try clear HO591)
            (try clear HO594)
            (try clear HO597)
            (try clear HO600)
            (try clear BK585)
            (try clear BK586)
            (try clear BK601)
            (try clear BK602)
            (try clear HB)
            generalize ((((w41.setCell ⟨gb601, 0, none⟩ (.slice Ao42 t589.length co42)).setCell ⟨gb601, 1, none⟩ (.slice Ao47 t592.length co47)).setCell ⟨gb602, 0, none⟩ (.slice Ao48 t595.length co48)).setCell ⟨gb602, 1, none⟩ (.slice Ao52 t598.length co52)) = w53 at n0_ n1_ n2_ n3_ n4_ n5_ n6_ n7_ n8_ ⊢
            have HO591 := n0_
            have HO594 := n1_
            have HO597 := n2_
            have HO600 := n3_
            have BK585 := n4_
            have BK586 := n5_
            have BK601 := n6_
            have BK602 := n7_
            have HB := n8_
            clear n0_ n1_ n2_ n3_ n4_ n5_ n6_ n7_ n8_
            have n0_ := zA (Kd.zbp HO591.out)
            have n1_ := zA (Kd.zbp HO594.out)
            have n2_ := zA (Kd.zca HO597.out)
            have n3_ := zA (Kd.zca HO600.out)
            have n4_ := zA (zah BK585.out)
            have n5_ := zA (zah BK586.out)
            have n6_ := zA (zah BK601.out)
            have n7_ := zA (zah BK602.out)
            have n8_ := zA (zbh HB.out)
            clear HO591 HO594 HO597 HO600 BK585 BK586 BK601 BK602 HB
            have HO591 := n0_
            have HO594 := n1_
            have HO597 := n2_
            have HO600 := n3_
            have BK585 := n4_
            have BK586 := n5_
            have BK601 := n6_
            have BK602 := n7_
            have HB := n8_
            clear n0_ n1_ n2_ n3_ n4_ n5_ n6_ n7_ n8_
            obtain ⟨i055, hi055, _, hsz55, _⟩ := info_parts info3
            obtain ⟨A55, hcut55, hA55, hC55⟩ := print_drop_of (P := Tryz.prog) (Value.int .i64) 0 24 3 .i64 Tryz.underlying24 hi055 hsz55 A1_0 c1_0 l1_0 (ji21) (of_decide_eq_true (by first | (with_reducible assumption) | assumption)) (of_decide_eq_true (by first | (with_reducible assumption) | assumption)) HC1_0.out
            have HR606 := zA (Kd.C_of_reads (h1 := fun _ => rfl) (hA55 _ (Kd.reads_of_C HR1_0.out)))
            have HC606 := zA hC55
            clear hA55 hC55 hi055 hsz55
            obtain ⟨i056, hi056, _, hsz56, _⟩ := info_parts info3
            obtain ⟨hcut56, hA56, hC56⟩ := print_take_of (P := Tryz.prog) (Value.int .i64) 0 24 3 .i64 Tryz.underlying24 hi056 hsz56 A1_0 c1_0 l1_0 (ji21) (of_decide_eq_true (by first | (with_reducible assumption) | assumption)) (of_decide_eq_true (by first | (with_reducible assumption) | assumption)) HC1_0.out
            have HR610 := zA (Kd.C_of_reads (h1 := fun _ => rfl) (hA56 _ (Kd.reads_of_C HR1_0.out)))
            have HC610 := zA hC56
            clear hA56 hC56 hi056 hsz56
            refine zdk (n := 10) (S := fun w' => True) (ds := []) #[false, false, false, false, false, false, false, false, false, false] (by kernel_rfl) rfl rfl trivial (fun hHeld => ?_); refine zcp zaa.tab6 zaa.bits6 (fun HT_ HW_ => ?_)
            generalize w53.drew = w54 at HO591 HO594 HO597 HO600 BK585 BK586 BK601 BK602 HB HR606 HR610 hHeld ⊢
            refine pure_ (i := 1) (N := some 54) (v := ?_) (a' := ?_) #[false, true, false, false, false, false, false, false, false, false] rfl rfl (zau HT_.out (by kernel_rfl)) (fun _ _ _ h => h) (Or.inl ⟨by rfl, ?_⟩) ?_ ?_
            rotate_left
            ·
             intro w'
             go_simp
             with_reducible rfl
            rotate_left
            ·
             simp only [Act.put, zs1, zs2, zs3, i64_w, i32_w]
             rfl
            refine pure_ (i := 2) (N := some 55) (v := ?_) (a' := ?_) #[false, true, true, false, false, false, false, false, false, false] rfl rfl (zau HT_.out (by kernel_rfl)) (fun _ _ _ h => h) (Or.inl ⟨by rfl, ?_⟩) ?_ ?_
            rotate_left
            ·
             intro w'
             go_simp
             with_reducible rfl
            rotate_left
            ·
             simp only [Act.put, zs1, zs2, zs3, i64_w, i32_w]
             rfl
            refine pure_ (i := 3) (N := some 56) (v := ?_) (a' := ?_) #[false, true, true, true, false, false, false, false, false, false] rfl rfl (zau HT_.out (by kernel_rfl)) (fun _ _ _ h => h) (Or.inl ⟨by rfl, ?_⟩) ?_ ?_
            rotate_left
            ·
             intro w'
             go_simp
             with_reducible rfl
            rotate_left
            ·
             simp only [Act.put, zs1, zs2, zs3, i64_w, i32_w]
             rfl
            refine pure_ (i := 5) (N := some 58) (v := ?_) (a' := ?_) #[false, true, true, true, false, true, false, false, false, false] rfl rfl (zau HT_.out (by kernel_rfl)) (fun _ _ _ h => h) (Or.inl ⟨by rfl, ?_⟩) ?_ ?_
            rotate_left
            ·
             intro w'
             go_simp
             with_reducible rfl
            rotate_left
            ·
             simp only [Act.put, zs1, zs2, zs3, i64_w, i32_w]
             rfl
            refine pure_ (i := 6) (N := some 59) (v := ?_) (a' := ?_) #[false, true, true, true, false, true, true, false, false, false] rfl rfl (zau HT_.out (by kernel_rfl)) (fun _ _ _ h => h) (Or.inl ⟨by rfl, ?_⟩) ?_ ?_
            rotate_left
            ·
             intro w'
             go_simp
             with_reducible rfl
            rotate_left
            ·
             simp only [Act.put, zs1, zs2, zs3, i64_w, i32_w]
             rfl
            refine pure_ (i := 7) (N := some 60) (v := ?_) (a' := ?_) #[false, true, true, true, false, true, true, true, false, false] rfl rfl (zau HT_.out (by kernel_rfl)) (fun _ _ _ h => h) (Or.inl ⟨by rfl, ?_⟩) ?_ ?_
            rotate_left
            ·
             intro w'
             go_simp
             with_reducible rfl
            rotate_left
            ·
             simp only [Act.put, zs1, zs2, zs3, i64_w, i32_w]
             rfl
            refine one_ (i := 0) (N := some 53) #[true, true, true, true, false, true, true, true, false, false] rfl rfl (zbz HT_.out (by kernel_rfl)) (by decide) (fun K hK => ?_)
            refine Kd.R_lit_step (Kd.int .i64) _ 3 ?hg (N := 53) ?hd (xs := ([] : List Int)) (inner := []) (ok := fun _ => True) (okp := fun _ => True) ?hr ?hp (fun _ hk => hk) trivial (Below.refl _ _) (Nat.le_refl _) (by simp) ?_; (case hd => rfl); (case hg => rfl); (case hr => first | (go_simp; done) | (go_simp; rfl)); (case hp => exact (Reps.none _ _))
            intro v604 w57 ho58 hb hg_ hnew_
            clear hg_ hnew_
            (first | rw [← Ny603.out] at ho58 | (simp only [Int.reduceToNat] at ho58; rw [← Ny603.out] at ho58))
            have n0_ := zA (Kd.zbv (zV HO591) (Kd.zbc ho58) hb)
            have n1_ := zA (Kd.zbv (zV HO594) (Kd.zbc ho58) hb)
            have n2_ := zA (Kd.zbr (zR HO597) (Kd.zbc ho58) hb)
            have n3_ := zA (Kd.zbr (zR HO600) (Kd.zbc ho58) hb)
            have n4_ := zA (Kd.zbo (Kd.zcb (Kd.zcb ho58 (Kd.R_lt (zR HO597))) (Kd.R_lt (zR HO600))) (za (zB HB)))
            have n5_ := zA (zae (g := gb585) (o := .cells #[.int .i64 a0_0, .int .i64 a0_1] 23 (0, 0)) (zK BK585) hb)
            have n6_ := zA (zae (g := gb586) (o := .cells #[.slice A1_0 l1_0.length c1_0, .slice A1_1 l1_1.length c1_1] 43 (0, 0)) (zK BK586) hb)
            have n7_ := zA (zae (g := gb601) (o := .cells #[.slice Ao42 t589.length co42, .slice Ao47 t592.length co47] 29 (0, 0)) (zK BK601) hb)
            have n8_ := zA (zae (g := gb602) (o := .cells #[.slice Ao48 t595.length co48, .slice Ao52 t598.length co52] 32 (0, 0)) (zK BK602) hb)
            have n9_ := zA (zab (zB HB) hb)
            clear HO591 HO594 HO597 HO600 BK585 BK586 BK601 BK602 HB
            have HO591 := n0_
            have HO594 := n1_
            have HO597 := n2_
            have HO600 := n3_
            have HO605 := n4_
            have BK585 := n5_
            have BK586 := n6_
            have BK601 := n7_
            have BK602 := n8_
            have HB := n9_
            clear n0_ n1_ n2_ n3_ n4_ n5_ n6_ n7_ n8_ n9_ hb ho58
            refine hK.out _ _ trivial (fun hHeld => ?_)
            clear hK K
            refine norm_ (a' := ?_) ?_ ?_
            rotate_left
            ·
             show Act.put _ (some 53) _ = _
             simp only [Act.put, zs1, zs2, zs3, i64_w, i32_w]
             rfl
            refine one_ (i := 4) (N := some 57) #[true, true, true, true, true, true, true, true, false, false] rfl rfl (zbz HT_.out (by kernel_rfl)) (by decide) (fun K hK => ?_)
            refine Kd.zc8 (Kd.int .i64) (w0 := w) w.heap.size (by rfl) (.tmp 53) (.tmp 56) 24 3 (.int .i64 0) 8 rfl Tryz.underlying24 info3 rfl (by decide) (by omega) v604 y603 (l1_0.drop ((ji21) : Int).toNat) _ _ _ (fun k_ => some k_ ≠ (.slice Ao48 t595.length co48 : Value).ownBlock ∧ some k_ ≠ (.slice Ao52 t598.length co52 : Value).ownBlock) (fun _ => False) rfl rfl ?aO ?aR (fun _ _ h => h) (fun _ h => h.elim) ?aF ?aB ?aS ?aL ?_
            (case aR => first | (rw [← show (l1_0.drop ((ji21) : Int).toNat).length = (l1_0.length - (ji21).toNat) from List.length_drop]; exact zJ (Kd.zaw HR606.out HB.out)) | (exact zJ (Kd.zaw HR606.out HB.out)))
            (case aB => exact (zB HB))
            (case aF => exact (fun k_ hk => ⟨Kd.fresh' (Kd.R_lt (zR HO597)) k_ hk, Kd.fresh' (Kd.R_lt (zR HO600)) k_ hk⟩))
            (case aO => exact (by (with_reducible repeat (first | apply Kd.zb0 | apply Kd.zb2 | apply Kd.zca)); exact Kd.zbn HO605.out (fun _ hk => ⟨hk.1.2, hk.2⟩)))
            (case aS => exact (za (zB HB)))
            (case aL => have := LMc24.out; have hlx_ := (show (l1_0.drop ((ji21) : Int).toNat).length = (l1_0.length - (ji21).toNat) from List.length_drop); omega)
            intro v608 w59 ho hb hg hat
            rw [← Ny607.out] at ho
            have n0_ := zA (zcl (g := gb585) (o := .cells #[.int .i64 a0_0, .int .i64 a0_1] 23 (0, 0)) (zK BK585) hg (Kd.R_ne HO605.out BK585.out (by decide)))
            have n1_ := zA (zcl (g := gb586) (o := .cells #[.slice A1_0 l1_0.length c1_0, .slice A1_1 l1_1.length c1_1] 43 (0, 0)) (zK BK586) hg (Kd.R_ne HO605.out BK586.out (by decide)))
            have n2_ := zA (Kd.zc0 (ok := (fun k_ => some k_ ≠ (.slice Ao48 t595.length co48 : Value).ownBlock ∧ some k_ ≠ (.slice Ao52 t598.length co52 : Value).ownBlock ∧ k_ ≠ gb585 ∧ k_ ≠ gb586 ∧ k_ ≠ gb601 ∧ k_ ≠ gb602)) (zV HO591) hg hat)
            have n3_ := zA (Kd.zc0 (ok := (fun k_ => some k_ ≠ (.slice Ao48 t595.length co48 : Value).ownBlock ∧ some k_ ≠ (.slice Ao52 t598.length co52 : Value).ownBlock ∧ k_ ≠ gb585 ∧ k_ ≠ gb586 ∧ k_ ≠ gb601 ∧ k_ ≠ gb602)) (zV HO594) hg hat)
            have n4_ := zA (Kd.R_after (ok := (fun k_ => some k_ ≠ (.slice Ao52 t598.length co52 : Value).ownBlock)) (zR HO597) hg hat)
            have n5_ := zA (Kd.R_after (ok := (fun k_ => some k_ ≠ (.slice Ao48 t595.length co48 : Value).ownBlock)) (zR HO600) hg hat)
            have n6_ := zA (zcl (g := gb601) (o := .cells #[.slice Ao42 t589.length co42, .slice Ao47 t592.length co47] 29 (0, 0)) (zK BK601) hg (Kd.R_ne HO605.out BK601.out (by decide)))
            have n7_ := zA (zcl (g := gb602) (o := .cells #[.slice Ao48 t595.length co48, .slice Ao52 t598.length co52] 32 (0, 0)) (zK BK602) hg (Kd.R_ne HO605.out BK602.out (by decide)))
            have n8_ := zA (hb)
            have n9_ := zA (ho)
            clear BK585 BK586 HO591 HO594 HO597 HO600 BK601 BK602 HB HO605
            have BK585 := n0_
            have BK586 := n1_
            have HO591 := n2_
            have HO594 := n3_
            have HO597 := n4_
            have HO600 := n5_
            have BK601 := n6_
            have BK602 := n7_
            have HB := n8_
            have HO609 := n9_
            clear n0_ n1_ n2_ n3_ n4_ n5_ n6_ n7_ n8_ n9_ ho hb hg hat
            refine hK.out _ _ trivial (fun hHeld => ?_)
            clear hK K
            refine norm_ (a' := ?_) ?_ ?_
            rotate_left
            ·
             show Act.put _ (some 57) _ = _
             simp only [Act.put, zs1, zs2, zs3, i64_w, i32_w]
             rfl
            refine one_ (i := 8) (N := some 61) #[true, true, true, true, true, true, true, true, true, false] rfl rfl (zbz HT_.out (by kernel_rfl)) (by decide) (fun K hK => ?_)
            refine Kd.zc8 (Kd.int .i64) (w0 := w) w.heap.size (by rfl) (.tmp 57) (.tmp 60) 24 3 (.int .i64 0) 8 rfl Tryz.underlying24 info3 rfl (by decide) (by omega) v608 y607 (l1_0.take ((ji21) : Int).toNat) _ _ _ (fun k_ => some k_ ≠ (.slice Ao48 t595.length co48 : Value).ownBlock ∧ some k_ ≠ (.slice Ao52 t598.length co52 : Value).ownBlock) (fun _ => False) rfl rfl ?aO ?aR (fun _ _ h => h) (fun _ h => h.elim) ?aF ?aB ?aS ?aL ?_
            (case aR => first | (repeat (first | exact (by have t_ := (Kd.zaw HR610.out HB.out); rw [show (l1_0.take ((ji21) : Int).toNat).length = (ji21).toNat from (by rw [List.length_take]; have h_ : ((ji21) : Int) ≤ (l1_0.length : Int) := of_decide_eq_true (by first | (with_reducible assumption) | assumption); omega)] at t_; exact t_) | (with_reducible refine Kd.zb9 ?_ _) | (with_reducible refine Kd.zb8 ?_ _) | (with_reducible refine Kd.zco ?_)); done) | (rw [← show (l1_0.take ((ji21) : Int).toNat).length = (ji21).toNat from (by rw [List.length_take]; have h_ : ((ji21) : Int) ≤ (l1_0.length : Int) := of_decide_eq_true (by first | (with_reducible assumption) | assumption); omega)]; exact zJ (Kd.zaw HR610.out HB.out)) | (exact zJ (Kd.zaw HR610.out HB.out)))
            (case aB => exact (zB HB))
            (case aF => exact (fun k_ hk => ⟨Kd.fresh' (Kd.R_lt (zR HO597)) k_ hk, Kd.fresh' (Kd.R_lt (zR HO600)) k_ hk⟩))
            (case aO => exact (zR HO609))
            (case aS => exact (za (zB HB)))
            (case aL => have := LMc27.out; have hlx_ := (show (l1_0.take ((ji21) : Int).toNat).length = (ji21).toNat from (by rw [List.length_take]; have h_ : ((ji21) : Int) ≤ (l1_0.length : Int) := of_decide_eq_true (by first | (with_reducible assumption) | assumption); omega)); omega)
            intro v612 w60 ho hb hg hat
            rw [← Ny611.out] at ho
            have n0_ := zA (zcl (g := gb585) (o := .cells #[.int .i64 a0_0, .int .i64 a0_1] 23 (0, 0)) (zK BK585) hg (Kd.R_ne HO609.out BK585.out (by decide)))
            have n1_ := zA (zcl (g := gb586) (o := .cells #[.slice A1_0 l1_0.length c1_0, .slice A1_1 l1_1.length c1_1] 43 (0, 0)) (zK BK586) hg (Kd.R_ne HO609.out BK586.out (by decide)))
            have n2_ := zA (Kd.zc0 (ok := (fun k_ => some k_ ≠ (.slice Ao48 t595.length co48 : Value).ownBlock ∧ some k_ ≠ (.slice Ao52 t598.length co52 : Value).ownBlock ∧ k_ ≠ gb585 ∧ k_ ≠ gb586 ∧ k_ ≠ gb601 ∧ k_ ≠ gb602)) (zV HO591) hg hat)
            have n3_ := zA (Kd.zc0 (ok := (fun k_ => some k_ ≠ (.slice Ao48 t595.length co48 : Value).ownBlock ∧ some k_ ≠ (.slice Ao52 t598.length co52 : Value).ownBlock ∧ k_ ≠ gb585 ∧ k_ ≠ gb586 ∧ k_ ≠ gb601 ∧ k_ ≠ gb602)) (zV HO594) hg hat)
            have n4_ := zA (Kd.R_after (ok := (fun k_ => some k_ ≠ (.slice Ao52 t598.length co52 : Value).ownBlock)) (zR HO597) hg hat)
            have n5_ := zA (Kd.R_after (ok := (fun k_ => some k_ ≠ (.slice Ao48 t595.length co48 : Value).ownBlock)) (zR HO600) hg hat)
            have n6_ := zA (zcl (g := gb601) (o := .cells #[.slice Ao42 t589.length co42, .slice Ao47 t592.length co47] 29 (0, 0)) (zK BK601) hg (Kd.R_ne HO609.out BK601.out (by decide)))
            have n7_ := zA (zcl (g := gb602) (o := .cells #[.slice Ao48 t595.length co48, .slice Ao52 t598.length co52] 32 (0, 0)) (zK BK602) hg (Kd.R_ne HO609.out BK602.out (by decide)))
            have n8_ := zA (hb)
            have n9_ := zA (ho)
            clear BK585 BK586 HO591 HO594 HO597 HO600 BK601 BK602 HB HO609
            have BK585 := n0_
            have BK586 := n1_
            have HO591 := n2_
            have HO594 := n3_
            have HO597 := n4_
            have HO600 := n5_
            have BK601 := n6_
            have BK602 := n7_
            have HB := n8_
            have HO613 := n9_
            clear n0_ n1_ n2_ n3_ n4_ n5_ n6_ n7_ n8_ n9_ ho hb hg hat
            refine hK.out _ _ trivial (fun hHeld => ?_)
            clear hK K
            refine norm_ (a' := ?_) ?_ ?_
            rotate_left
            ·
             show Act.put _ (some 61) _ = _
             simp only [Act.put, zs1, zs2, zs3, i64_w, i32_w]
             rfl
            refine pure_ (i := 9) (N := some 12) (v := ?_) (a' := ?_) #[true, true, true, true, true, true, true, true, true, true] rfl rfl (zau HT_.out (by kernel_rfl)) (fun _ _ _ h => h) (Or.inl ⟨by rfl, ?_⟩) ?_ ?_
            rotate_left
            ·
             intro w'
             go_simp
             with_reducible rfl
            rotate_left
            ·
             simp only [Act.put, zs1, zs2, zs3, i64_w, i32_w]
             rfl
            refine done_ (zdd HT_.out (by kernel_rfl)) ?_
            try go_wp2
            have n0_ := zA (Kd.zbp HO591.out)
            have n1_ := zA (Kd.zbp HO594.out)
            have n2_ := zA (Kd.zca HO597.out)
            have n3_ := zA (Kd.zca HO600.out)
            have n4_ := zA (Kd.zca HO613.out)
            have n5_ := zA (zah BK585.out)
            have n6_ := zA (zah BK586.out)
            have n7_ := zA (zah BK601.out)
            have n8_ := zA (zah BK602.out)
            have n9_ := zA (zbh HB.out)
            clear HO591 HO594 HO597 HO600 HO613 BK585 BK586 BK601 BK602 HB
            have HO591 := n0_
            have HO594 := n1_
            have HO597 := n2_
            have HO600 := n3_
            have HO613 := n4_
            have BK585 := n5_
            have BK586 := n6_
            have BK601 := n7_
            have BK602 := n8_
            have HB := n9_
            clear n0_ n1_ n2_ n3_ n4_ n5_ n6_ n7_ n8_ n9_
            obtain ⟨i062, hi062, _, hsz62, _⟩ := info_parts info3
            obtain ⟨A62, hcut62, hA62, hC62⟩ := print_drop_of (P := Tryz.prog) (Value.int .i64) 0 24 3 .i64 Tryz.underlying24 hi062 hsz62 A1_1 c1_1 l1_1 (ji21) (of_decide_eq_true (by first | (with_reducible assumption) | assumption)) (of_decide_eq_true (by first | (with_reducible assumption) | assumption)) HC1_1.out
            have HR617 := zA (Kd.C_of_reads (h1 := fun _ => rfl) (hA62 _ (Kd.reads_of_C HR1_1.out)))
            have HC617 := zA hC62
            clear hA62 hC62 hi062 hsz62
            obtain ⟨i063, hi063, _, hsz63, _⟩ := info_parts info3
            obtain ⟨hcut63, hA63, hC63⟩ := print_take_of (P := Tryz.prog) (Value.int .i64) 0 24 3 .i64 Tryz.underlying24 hi063 hsz63 A1_1 c1_1 l1_1 (ji21) (of_decide_eq_true (by first | (with_reducible assumption) | assumption)) (of_decide_eq_true (by first | (with_reducible assumption) | assumption)) HC1_1.out
            have HR621 := zA (Kd.C_of_reads (h1 := fun _ => rfl) (hA63 _ (Kd.reads_of_C HR1_1.out)))
            have HC621 := zA hC63
            clear hA63 hC63 hi063 hsz63
            refine zdk (n := 10) (S := fun w' => True) (ds := []) #[false, false, false, false, false, false, false, false, false, false] (by kernel_rfl) rfl rfl trivial (fun hHeld => ?_); refine zcp zaa.tab7 zaa.bits7 (fun HT_ HW_ => ?_)
            generalize w60.drew = w61 at HO591 HO594 HO597 HO600 HO613 BK585 BK586 BK601 BK602 HB HR617 HR621 hHeld ⊢
            refine pure_ (i := 1) (N := some 63) (v := ?_) (a' := ?_) #[false, true, false, false, false, false, false, false, false, false] rfl rfl (zau HT_.out (by kernel_rfl)) (fun _ _ _ h => h) (Or.inl ⟨by rfl, ?_⟩) ?_ ?_
            rotate_left
            ·
             intro w'
             go_simp
             with_reducible rfl
            rotate_left
            ·
             simp only [Act.put, zs1, zs2, zs3, i64_w, i32_w]
             rfl
            refine pure_ (i := 2) (N := some 64) (v := ?_) (a' := ?_) #[false, true, true, false, false, false, false, false, false, false] rfl rfl (zau HT_.out (by kernel_rfl)) (fun _ _ _ h => h) (Or.inl ⟨by rfl, ?_⟩) ?_ ?_
            rotate_left
            ·
             intro w'
             go_simp
             with_reducible rfl
            rotate_left
            ·
             simp only [Act.put, zs1, zs2, zs3, i64_w, i32_w]
             rfl
            refine pure_ (i := 3) (N := some 65) (v := ?_) (a' := ?_) #[false, true, true, true, false, false, false, false, false, false] rfl rfl (zau HT_.out (by kernel_rfl)) (fun _ _ _ h => h) (Or.inl ⟨by rfl, ?_⟩) ?_ ?_
            rotate_left
            ·
             intro w'
             go_simp
             with_reducible rfl
            rotate_left
            ·
             simp only [Act.put, zs1, zs2, zs3, i64_w, i32_w]
             rfl
            refine pure_ (i := 5) (N := some 67) (v := ?_) (a' := ?_) #[false, true, true, true, false, true, false, false, false, false] rfl rfl (zau HT_.out (by kernel_rfl)) (fun _ _ _ h => h) (Or.inl ⟨by rfl, ?_⟩) ?_ ?_
            rotate_left
            ·
             intro w'
             go_simp
             with_reducible rfl
            rotate_left
            ·
             simp only [Act.put, zs1, zs2, zs3, i64_w, i32_w]
             rfl
            refine pure_ (i := 6) (N := some 68) (v := ?_) (a' := ?_) #[false, true, true, true, false, true, true, false, false, false] rfl rfl (zau HT_.out (by kernel_rfl)) (fun _ _ _ h => h) (Or.inl ⟨by rfl, ?_⟩) ?_ ?_
            rotate_left
            ·
             intro w'
             go_simp
             with_reducible rfl
            rotate_left
            ·
             simp only [Act.put, zs1, zs2, zs3, i64_w, i32_w]
             rfl
            refine pure_ (i := 7) (N := some 69) (v := ?_) (a' := ?_) #[false, true, true, true, false, true, true, true, false, false] rfl rfl (zau HT_.out (by kernel_rfl)) (fun _ _ _ h => h) (Or.inl ⟨by rfl, ?_⟩) ?_ ?_
            rotate_left
            ·
             intro w'
             go_simp
             with_reducible rfl
            rotate_left
            ·
             simp only [Act.put, zs1, zs2, zs3, i64_w, i32_w]
             rfl
            refine one_ (i := 0) (N := some 62) #[true, true, true, true, false, true, true, true, false, false] rfl rfl (zbz HT_.out (by kernel_rfl)) (by decide) (fun K hK => ?_)
            refine Kd.R_lit_step (Kd.int .i64) _ 3 ?hg (N := 62) ?hd (xs := ([] : List Int)) (inner := []) (ok := fun _ => True) (okp := fun _ => True) ?hr ?hp (fun _ hk => hk) trivial (Below.refl _ _) (Nat.le_refl _) (by simp) ?_; (case hd => rfl); (case hg => rfl); (case hr => first | (go_simp; done) | (go_simp; rfl)); (case hp => exact (Reps.none _ _))
            intro v615 w64 ho65 hb hg_ hnew_
            clear hg_ hnew_
            (first | rw [← Ny614.out] at ho65 | (simp only [Int.reduceToNat] at ho65; rw [← Ny614.out] at ho65))
            have n0_ := zA (Kd.zbv (zV HO591) (Kd.zbc ho65) hb)
            have n1_ := zA (Kd.zbv (zV HO594) (Kd.zbc ho65) hb)
            have n2_ := zA (Kd.zbr (zR HO597) (Kd.zbc ho65) hb)
            have n3_ := zA (Kd.zbr (zR HO600) (Kd.zbc ho65) hb)
            have n4_ := zA (Kd.zbr (zR HO613) (Kd.zbc ho65) hb)
            have n5_ := zA (Kd.zbo (Kd.zcb (Kd.zcb (Kd.zcb ho65 (Kd.R_lt (zR HO597))) (Kd.R_lt (zR HO600))) (Kd.R_lt (zR HO613))) (za (zB HB)))
            have n6_ := zA (zae (g := gb585) (o := .cells #[.int .i64 a0_0, .int .i64 a0_1] 23 (0, 0)) (zK BK585) hb)
            have n7_ := zA (zae (g := gb586) (o := .cells #[.slice A1_0 l1_0.length c1_0, .slice A1_1 l1_1.length c1_1] 43 (0, 0)) (zK BK586) hb)
            have n8_ := zA (zae (g := gb601) (o := .cells #[.slice Ao42 t589.length co42, .slice Ao47 t592.length co47] 29 (0, 0)) (zK BK601) hb)
            have n9_ := zA (zae (g := gb602) (o := .cells #[.slice Ao48 t595.length co48, .slice Ao52 t598.length co52] 32 (0, 0)) (zK BK602) hb)
            have n10_ := zA (zab (zB HB) hb)
            clear HO591 HO594 HO597 HO600 HO613 BK585 BK586 BK601 BK602 HB
            have HO591 := n0_
            have HO594 := n1_
            have HO597 := n2_
            have HO600 := n3_
            have HO613 := n4_
            have HO616 := n5_
            have BK585 := n6_
            have BK586 := n7_
            have BK601 := n8_
            have BK602 := n9_
            have HB := n10_
            clear n0_ n1_ n2_ n3_ n4_ n5_ n6_ n7_ n8_ n9_ n10_ hb ho65
            refine hK.out _ _ trivial (fun hHeld => ?_)
            clear hK K
            refine norm_ (a' := ?_) ?_ ?_
            rotate_left
            ·
             show Act.put _ (some 62) _ = _
             simp only [Act.put, zs1, zs2, zs3, i64_w, i32_w]
             rfl
            refine one_ (i := 4) (N := some 66) #[true, true, true, true, true, true, true, true, false, false] rfl rfl (zbz HT_.out (by kernel_rfl)) (by decide) (fun K hK => ?_)
            refine Kd.zc8 (Kd.int .i64) (w0 := w) w.heap.size (by rfl) (.tmp 62) (.tmp 65) 24 3 (.int .i64 0) 8 rfl Tryz.underlying24 info3 rfl (by decide) (by omega) v615 y614 (l1_1.drop ((ji21) : Int).toNat) _ _ _ (fun k_ => some k_ ≠ (.slice Ao48 t595.length co48 : Value).ownBlock ∧ some k_ ≠ (.slice Ao52 t598.length co52 : Value).ownBlock ∧ some k_ ≠ (v612 : Value).ownBlock) (fun _ => False) rfl rfl ?aO ?aR (fun _ _ h => h) (fun _ h => h.elim) ?aF ?aB ?aS ?aL ?_
            (case aR => first | (rw [← show (l1_1.drop ((ji21) : Int).toNat).length = (l1_1.length - (ji21).toNat) from List.length_drop]; exact zJ (Kd.zaw HR617.out HB.out)) | (exact zJ (Kd.zaw HR617.out HB.out)))
            (case aB => exact (zB HB))
            (case aF => exact (fun k_ hk => ⟨Kd.fresh' (Kd.R_lt (zR HO597)) k_ hk, Kd.fresh' (Kd.R_lt (zR HO600)) k_ hk, Kd.fresh' (Kd.R_lt (zR HO613)) k_ hk⟩))
            (case aO => exact (by (with_reducible repeat (first | apply Kd.zb0 | apply Kd.zb2 | apply Kd.zca)); exact Kd.zbn HO616.out (fun _ hk => ⟨hk.1.1.2, ⟨hk.1.2, hk.2⟩⟩)))
            (case aS => exact (za (zB HB)))
            (case aL => have := LMc30.out; have hlx_ := (show (l1_1.drop ((ji21) : Int).toNat).length = (l1_1.length - (ji21).toNat) from List.length_drop); omega)
            intro v619 w66 ho hb hg hat
            rw [← Ny618.out] at ho
            have n0_ := zA (zcl (g := gb585) (o := .cells #[.int .i64 a0_0, .int .i64 a0_1] 23 (0, 0)) (zK BK585) hg (Kd.R_ne HO616.out BK585.out (by decide)))
            have n1_ := zA (zcl (g := gb586) (o := .cells #[.slice A1_0 l1_0.length c1_0, .slice A1_1 l1_1.length c1_1] 43 (0, 0)) (zK BK586) hg (Kd.R_ne HO616.out BK586.out (by decide)))
            have n2_ := zA (Kd.zc0 (ok := (fun k_ => some k_ ≠ (.slice Ao48 t595.length co48 : Value).ownBlock ∧ some k_ ≠ (.slice Ao52 t598.length co52 : Value).ownBlock ∧ some k_ ≠ (v612 : Value).ownBlock ∧ k_ ≠ gb585 ∧ k_ ≠ gb586 ∧ k_ ≠ gb601 ∧ k_ ≠ gb602)) (by (with_reducible repeat (first | apply Kd.zbm | apply Kd.zbl | apply Kd.zbp)); exact Kd.zaq HO591.out (fun _ hk => ⟨⟨hk.1.1.1, ⟨hk.1.1.2.1, ⟨hk.1.2, ⟨hk.1.1.2.2.1, ⟨hk.1.1.2.2.2.1, ⟨hk.1.1.2.2.2.2.1, hk.1.1.2.2.2.2.2⟩⟩⟩⟩⟩⟩, hk.2⟩)) hg hat)
            have n3_ := zA (Kd.zc0 (ok := (fun k_ => some k_ ≠ (.slice Ao48 t595.length co48 : Value).ownBlock ∧ some k_ ≠ (.slice Ao52 t598.length co52 : Value).ownBlock ∧ some k_ ≠ (v612 : Value).ownBlock ∧ k_ ≠ gb585 ∧ k_ ≠ gb586 ∧ k_ ≠ gb601 ∧ k_ ≠ gb602)) (by (with_reducible repeat (first | apply Kd.zbm | apply Kd.zbl | apply Kd.zbp)); exact Kd.zaq HO594.out (fun _ hk => ⟨⟨hk.1.1.1, ⟨hk.1.1.2.1, ⟨hk.1.2, ⟨hk.1.1.2.2.1, ⟨hk.1.1.2.2.2.1, ⟨hk.1.1.2.2.2.2.1, hk.1.1.2.2.2.2.2⟩⟩⟩⟩⟩⟩, hk.2⟩)) hg hat)
            have n4_ := zA (Kd.R_after (ok := (fun k_ => some k_ ≠ (.slice Ao52 t598.length co52 : Value).ownBlock ∧ some k_ ≠ (v612 : Value).ownBlock)) (zR HO597) hg hat)
            have n5_ := zA (Kd.R_after (ok := (fun k_ => some k_ ≠ (.slice Ao48 t595.length co48 : Value).ownBlock ∧ some k_ ≠ (v612 : Value).ownBlock)) (zR HO600) hg hat)
            have n6_ := zA (zcl (g := gb601) (o := .cells #[.slice Ao42 t589.length co42, .slice Ao47 t592.length co47] 29 (0, 0)) (zK BK601) hg (Kd.R_ne HO616.out BK601.out (by decide)))
            have n7_ := zA (zcl (g := gb602) (o := .cells #[.slice Ao48 t595.length co48, .slice Ao52 t598.length co52] 32 (0, 0)) (zK BK602) hg (Kd.R_ne HO616.out BK602.out (by decide)))
            have n8_ := zA (Kd.R_after (ok := (fun k_ => some k_ ≠ (.slice Ao48 t595.length co48 : Value).ownBlock ∧ some k_ ≠ (.slice Ao52 t598.length co52 : Value).ownBlock)) (zR HO613) hg hat)
            have n9_ := zA (hb)
            have n10_ := zA (ho)
            clear BK585 BK586 HO591 HO594 HO597 HO600 BK601 BK602 HO613 HB HO616
            have BK585 := n0_
            have BK586 := n1_
            have HO591 := n2_
            have HO594 := n3_
            have HO597 := n4_
            have HO600 := n5_
            have BK601 := n6_
            have BK602 := n7_
            have HO613 := n8_
            have HB := n9_
            have HO620 := n10_
            clear n0_ n1_ n2_ n3_ n4_ n5_ n6_ n7_ n8_ n9_ n10_ ho hb hg hat
            refine hK.out _ _ trivial (fun hHeld => ?_)
            clear hK K
            refine norm_ (a' := ?_) ?_ ?_
            rotate_left
            ·
             show Act.put _ (some 66) _ = _
             simp only [Act.put, zs1, zs2, zs3, i64_w, i32_w]
             rfl
            refine one_ (i := 8) (N := some 70) #[true, true, true, true, true, true, true, true, true, false] rfl rfl (zbz HT_.out (by kernel_rfl)) (by decide) (fun K hK => ?_)
            refine Kd.zc8 (Kd.int .i64) (w0 := w) w.heap.size (by rfl) (.tmp 66) (.tmp 69) 24 3 (.int .i64 0) 8 rfl Tryz.underlying24 info3 rfl (by decide) (by omega) v619 y618 (l1_1.take ((ji21) : Int).toNat) _ _ _ (fun k_ => some k_ ≠ (.slice Ao48 t595.length co48 : Value).ownBlock ∧ some k_ ≠ (.slice Ao52 t598.length co52 : Value).ownBlock ∧ some k_ ≠ (v612 : Value).ownBlock) (fun _ => False) rfl rfl ?aO ?aR (fun _ _ h => h) (fun _ h => h.elim) ?aF ?aB ?aS ?aL ?_
            (case aR => first | (repeat (first | exact (by have t_ := (Kd.zaw HR621.out HB.out); rw [show (l1_1.take ((ji21) : Int).toNat).length = (ji21).toNat from (by rw [List.length_take]; have h_ : ((ji21) : Int) ≤ (l1_1.length : Int) := of_decide_eq_true (by first | (with_reducible assumption) | assumption); omega)] at t_; exact t_) | (with_reducible refine Kd.zb9 ?_ _) | (with_reducible refine Kd.zb8 ?_ _) | (with_reducible refine Kd.zco ?_)); done) | (rw [← show (l1_1.take ((ji21) : Int).toNat).length = (ji21).toNat from (by rw [List.length_take]; have h_ : ((ji21) : Int) ≤ (l1_1.length : Int) := of_decide_eq_true (by first | (with_reducible assumption) | assumption); omega)]; exact zJ (Kd.zaw HR621.out HB.out)) | (exact zJ (Kd.zaw HR621.out HB.out)))
            (case aB => exact (zB HB))
            (case aF => exact (fun k_ hk => ⟨Kd.fresh' (Kd.R_lt (zR HO597)) k_ hk, Kd.fresh' (Kd.R_lt (zR HO600)) k_ hk, Kd.fresh' (Kd.R_lt (zR HO613)) k_ hk⟩))
            (case aO => exact (zR HO620))
            (case aS => exact (za (zB HB)))
            (case aL => have := LMc33.out; have hlx_ := (show (l1_1.take ((ji21) : Int).toNat).length = (ji21).toNat from (by rw [List.length_take]; have h_ : ((ji21) : Int) ≤ (l1_1.length : Int) := of_decide_eq_true (by first | (with_reducible assumption) | assumption); omega)); omega)
            intro v623 w67 ho hb hg hat
            rw [← Ny622.out] at ho
            have n0_ := zA (zcl (g := gb585) (o := .cells #[.int .i64 a0_0, .int .i64 a0_1] 23 (0, 0)) (zK BK585) hg (Kd.R_ne HO620.out BK585.out (by decide)))
            have n1_ := zA (zcl (g := gb586) (o := .cells #[.slice A1_0 l1_0.length c1_0, .slice A1_1 l1_1.length c1_1] 43 (0, 0)) (zK BK586) hg (Kd.R_ne HO620.out BK586.out (by decide)))
            have n2_ := zA (Kd.zc0 (ok := (fun k_ => some k_ ≠ (.slice Ao48 t595.length co48 : Value).ownBlock ∧ some k_ ≠ (.slice Ao52 t598.length co52 : Value).ownBlock ∧ some k_ ≠ (v612 : Value).ownBlock ∧ k_ ≠ gb585 ∧ k_ ≠ gb586 ∧ k_ ≠ gb601 ∧ k_ ≠ gb602)) (zV HO591) hg hat)
            have n3_ := zA (Kd.zc0 (ok := (fun k_ => some k_ ≠ (.slice Ao48 t595.length co48 : Value).ownBlock ∧ some k_ ≠ (.slice Ao52 t598.length co52 : Value).ownBlock ∧ some k_ ≠ (v612 : Value).ownBlock ∧ k_ ≠ gb585 ∧ k_ ≠ gb586 ∧ k_ ≠ gb601 ∧ k_ ≠ gb602)) (zV HO594) hg hat)
            have n4_ := zA (Kd.R_after (ok := (fun k_ => some k_ ≠ (.slice Ao52 t598.length co52 : Value).ownBlock ∧ some k_ ≠ (v612 : Value).ownBlock)) (zR HO597) hg hat)
            have n5_ := zA (Kd.R_after (ok := (fun k_ => some k_ ≠ (.slice Ao48 t595.length co48 : Value).ownBlock ∧ some k_ ≠ (v612 : Value).ownBlock)) (zR HO600) hg hat)
            have n6_ := zA (zcl (g := gb601) (o := .cells #[.slice Ao42 t589.length co42, .slice Ao47 t592.length co47] 29 (0, 0)) (zK BK601) hg (Kd.R_ne HO620.out BK601.out (by decide)))
            have n7_ := zA (zcl (g := gb602) (o := .cells #[.slice Ao48 t595.length co48, .slice Ao52 t598.length co52] 32 (0, 0)) (zK BK602) hg (Kd.R_ne HO620.out BK602.out (by decide)))
            have n8_ := zA (Kd.R_after (ok := (fun k_ => some k_ ≠ (.slice Ao48 t595.length co48 : Value).ownBlock ∧ some k_ ≠ (.slice Ao52 t598.length co52 : Value).ownBlock)) (zR HO613) hg hat)
            have n9_ := zA (hb)
            have n10_ := zA (ho)
            clear BK585 BK586 HO591 HO594 HO597 HO600 BK601 BK602 HO613 HB HO620
            have BK585 := n0_
            have BK586 := n1_
            have HO591 := n2_
            have HO594 := n3_
            have HO597 := n4_
            have HO600 := n5_
            have BK601 := n6_
            have BK602 := n7_
            have HO613 := n8_
            have HB := n9_
            have HO624 := n10_
            clear n0_ n1_ n2_ n3_ n4_ n5_ n6_ n7_ n8_ n9_ n10_ ho hb hg hat
            refine hK.out _ _ trivial (fun hHeld => ?_)
            clear hK K
            refine norm_ (a' := ?_) ?_ ?_
            rotate_left
            ·
             show Act.put _ (some 70) _ = _
             simp only [Act.put, zs1, zs2, zs3, i64_w, i32_w]
             rfl
            refine pure_ (i := 9) (N := some 13) (v := ?_) (a' := ?_) #[true, true, true, true, true, true, true, true, true, true] rfl rfl (zau HT_.out (by kernel_rfl)) (fun _ _ _ h => h) (Or.inl ⟨by rfl, ?_⟩) ?_ ?_
            rotate_left
            ·
             intro w'
             go_simp
             with_reducible rfl
            rotate_left
            ·
             simp only [Act.put, zs1, zs2, zs3, i64_w, i32_w]
             rfl
            refine done_ (zdd HT_.out (by kernel_rfl)) ?_
            have hcz68_0 : w67.cell? ⟨gb601, 0, none⟩ = some (.slice Ao42 t589.length co42) := (zac BK601.out 0).trans rfl
            have hcz68_1 : w67.cell? ⟨gb601, 1, none⟩ = some (.slice Ao47 t592.length co47) := (zac BK601.out 1).trans rfl
            have hfz68_0 := zaj BK601.out 0
            have hfz68_1 := zaj BK601.out 1
            go_upto_region 10 with (first | ((with_reducible refine zad (f := 16) rfl ?_); refine zaz (some 75) rfl rfl Tryz.func16 (by kernel_rfl) rfl #[.agg #[.slice Ao42 t589.length co42, .slice Ao47 t592.length co47], .slice A1_0 l1_0.length c1_0, .slice A1_1 l1_1.length c1_1] rfl (zE) ?_; (with_reducible refine (zba.calls kj3 _ _ t589 _ _ t592 _ _ l1_0 _ _ l1_1 t625 t628 _ ?side1 ?side2 ?side3 ?side4 ?side5 ?side6 ?side7 ?side8 A34.out).mono ?_); (case side1 => exact zJ (Kd.zao HO591.out).2.2); (case side2 => exact (Kd.zao HO591.out).2.1); (case side3 => exact zJ (Kd.zao HO594.out).2.2); (case side4 => exact (Kd.zao HO594.out).2.1); (case side5 => exact zJ (Kd.zaw HR1_0.out HB.out)); (case side6 => exact HC1_0.out); (case side7 => exact zJ (Kd.zaw HR1_1.out HB.out)); (case side8 => exact HC1_1.out); rintro e w69 ⟨v626, rfl, ho0, hb⟩; refine ⟨_, rfl, ?_⟩; have n0_ := zA (Kd.zbv (zV HO591) (Kd.N_base ho0) hb); have n1_ := zA (Kd.zbv (zV HO594) (Kd.N_base ho0) hb); have n2_ := zA (Kd.zbw (zR HO597) hb); have n3_ := zA (Kd.zbw (zR HO600) hb); have n4_ := zA (Kd.zbw (zR HO613) hb); have n5_ := zA (Kd.zbw (zR HO624) hb); have n6_ := zA (Kd.N_lower (Kd.zdj (ok' := fun k_ => some k_ ≠ (.slice Ao48 t595.length co48 : Value).ownBlock ∧ some k_ ≠ (.slice Ao52 t598.length co52 : Value).ownBlock ∧ some k_ ≠ (v612 : Value).ownBlock ∧ some k_ ≠ (v623 : Value).ownBlock ∧ k_ ≠ gb585 ∧ k_ ≠ gb586 ∧ k_ ≠ gb601 ∧ k_ ≠ gb602) ho0 (fun k_ hk_ => ⟨(Kd.fresh' (Kd.R_lt (zR HO597)) k_ hk_), (Kd.fresh' (Kd.R_lt (zR HO600)) k_ hk_), (Kd.fresh' (Kd.R_lt (zR HO613)) k_ hk_), (Kd.fresh' (Kd.R_lt (zR HO624)) k_ hk_), (Kd.freshB (g := gb585) (o := .cells #[.int .i64 a0_0, .int .i64 a0_1] 23 (0, 0)) (zK BK585) k_ hk_), (Kd.freshB (g := gb586) (o := .cells #[.slice A1_0 l1_0.length c1_0, .slice A1_1 l1_1.length c1_1] 43 (0, 0)) (zK BK586) k_ hk_), (Kd.freshB (g := gb601) (o := .cells #[.slice Ao42 t589.length co42, .slice Ao47 t592.length co47] 29 (0, 0)) (zK BK601) k_ hk_), (Kd.freshB (g := gb602) (o := .cells #[.slice Ao48 t595.length co48, .slice Ao52 t598.length co52] 32 (0, 0)) (zK BK602) k_ hk_)⟩)) (za (zB HB))); have n7_ := zA (zae (g := gb585) (o := .cells #[.int .i64 a0_0, .int .i64 a0_1] 23 (0, 0)) (zK BK585) hb); have n8_ := zA (zae (g := gb586) (o := .cells #[.slice A1_0 l1_0.length c1_0, .slice A1_1 l1_1.length c1_1] 43 (0, 0)) (zK BK586) hb); have n9_ := zA (zae (g := gb601) (o := .cells #[.slice Ao42 t589.length co42, .slice Ao47 t592.length co47] 29 (0, 0)) (zK BK601) hb); have n10_ := zA (zae (g := gb602) (o := .cells #[.slice Ao48 t595.length co48, .slice Ao52 t598.length co52] 32 (0, 0)) (zK BK602) hb); have n11_ := zA (zab (zB HB) hb); clear HO591 HO594 HO597 HO600 HO613 HO624 BK585 BK586 BK601 BK602 HB; have HO591 := n0_; have HO594 := n1_; have HO597 := n2_; have HO600 := n3_; have HO613 := n4_; have HO624 := n5_; have HO627 := n6_; have BK585 := n7_; have BK586 := n8_; have BK601 := n9_; have BK602 := n10_; have HB := n11_; clear n0_ n1_ n2_ n3_ n4_ n5_ n6_ n7_ n8_ n9_ n10_ n11_; (try clear hb); (try clear hb2); (try clear hk); (try clear hi); (try clear ho0); have hcz70_0 : w69.cell? ⟨gb601, 0, none⟩ = some (.slice Ao42 t589.length co42) := (zac BK601.out 0).trans rfl; have hcz70_1 : w69.cell? ⟨gb601, 1, none⟩ = some (.slice Ao47 t592.length co47) := (zac BK601.out 1).trans rfl; have hfz70_0 := zaj BK601.out 0; have hfz70_1 := zaj BK601.out 1; obtain ⟨Ao71, co71, eo71⟩ := Kd.zbj HO613.out; subst eo71; obtain ⟨Ao72, co72, eo72⟩ := Kd.zbj HO624.out; subst eo72) | ((with_reducible refine zad (f := 16) rfl ?_); refine zaz (some 82) rfl rfl Tryz.func16 (by kernel_rfl) rfl #[.agg #[.slice Ao42 t589.length co42, .slice Ao47 t592.length co47], .slice Ao71 y611.length co71, .slice Ao72 y622.length co72] rfl (zE) ?_; (with_reducible refine (zba.calls kj3 _ _ t589 _ _ t592 _ _ y611 _ _ y622 t629 t632 _ ?side1 ?side2 ?side3 ?side4 ?side5 ?side6 ?side7 ?side8 A35.out).mono ?_); (case side1 => exact zJ (Kd.zao HO591.out).2.2); (case side2 => exact (Kd.zao HO591.out).2.1); (case side3 => exact zJ (Kd.zao HO594.out).2.2); (case side4 => exact (Kd.zao HO594.out).2.1); (case side5 => exact zJ (Kd.zav HO613.out).2.2); (case side6 => exact (Kd.zav HO613.out).2.1); (case side7 => exact zJ (Kd.zav HO624.out).2.2); (case side8 => exact (Kd.zav HO624.out).2.1); rintro e w73 ⟨v630, rfl, ho0, hb⟩; refine ⟨_, rfl, ?_⟩; have n0_ := zA (Kd.zbv (zV HO591) (Kd.N_base ho0) hb); have n1_ := zA (Kd.zbv (zV HO594) (Kd.N_base ho0) hb); have n2_ := zA (Kd.zbw (zR HO597) hb); have n3_ := zA (Kd.zbw (zR HO600) hb); have n4_ := zA (Kd.zbw (zR HO613) hb); have n5_ := zA (Kd.zbw (zR HO624) hb); have n6_ := zA (Kd.N_elder' (zN HO627) (Kd.N_base ho0) hb); have n7_ := zA (Kd.N_lower (Kd.zdj (ok' := fun k_ => some k_ ≠ (.slice Ao48 t595.length co48 : Value).ownBlock ∧ some k_ ≠ (.slice Ao52 t598.length co52 : Value).ownBlock ∧ some k_ ≠ (.slice Ao71 y611.length co71 : Value).ownBlock ∧ some k_ ≠ (.slice Ao72 y622.length co72 : Value).ownBlock ∧ some k_ ≠ (v626 : Value).ownBlock ∧ k_ ≠ gb585 ∧ k_ ≠ gb586 ∧ k_ ≠ gb601 ∧ k_ ≠ gb602) ho0 (fun k_ hk_ => ⟨(Kd.fresh' (Kd.R_lt (zR HO597)) k_ hk_), (Kd.fresh' (Kd.R_lt (zR HO600)) k_ hk_), (Kd.fresh' (Kd.R_lt (zR HO613)) k_ hk_), (Kd.fresh' (Kd.R_lt (zR HO624)) k_ hk_), (Kd.fresh' (Kd.N_lt (zN HO627)) k_ hk_), (Kd.freshB (g := gb585) (o := .cells #[.int .i64 a0_0, .int .i64 a0_1] 23 (0, 0)) (zK BK585) k_ hk_), (Kd.freshB (g := gb586) (o := .cells #[.slice A1_0 l1_0.length c1_0, .slice A1_1 l1_1.length c1_1] 43 (0, 0)) (zK BK586) k_ hk_), (Kd.freshB (g := gb601) (o := .cells #[.slice Ao42 t589.length co42, .slice Ao47 t592.length co47] 29 (0, 0)) (zK BK601) k_ hk_), (Kd.freshB (g := gb602) (o := .cells #[.slice Ao48 t595.length co48, .slice Ao52 t598.length co52] 32 (0, 0)) (zK BK602) k_ hk_)⟩)) (za (zB HB))); have n8_ := zA (zae (g := gb585) (o := .cells #[.int .i64 a0_0, .int .i64 a0_1] 23 (0, 0)) (zK BK585) hb); have n9_ := zA (zae (g := gb586) (o := .cells #[.slice A1_0 l1_0.length c1_0, .slice A1_1 l1_1.length c1_1] 43 (0, 0)) (zK BK586) hb); have n10_ := zA (zae (g := gb601) (o := .cells #[.slice Ao42 t589.length co42, .slice Ao47 t592.length co47] 29 (0, 0)) (zK BK601) hb); have n11_ := zA (zae (g := gb602) (o := .cells #[.slice Ao48 t595.length co48, .slice Ao52 t598.length co52] 32 (0, 0)) (zK BK602) hb); have n12_ := zA (zab (zB HB) hb); clear HO591 HO594 HO597 HO600 HO613 HO624 HO627 BK585 BK586 BK601 BK602 HB; have HO591 := n0_; have HO594 := n1_; have HO597 := n2_; have HO600 := n3_; have HO613 := n4_; have HO624 := n5_; have HO627 := n6_; have HO631 := n7_; have BK585 := n8_; have BK586 := n9_; have BK601 := n10_; have BK602 := n11_; have HB := n12_; clear n0_ n1_ n2_ n3_ n4_ n5_ n6_ n7_ n8_ n9_ n10_ n11_ n12_; (try clear hb); (try clear hb2); (try clear hk); (try clear hi); (try clear ho0)))
            (try simp only [Act.put, zs1, zs2, zs3])
            go_cut [94] (fun v94 wc => ∃ (kq : Nat) (x94_35 : Bool), v94 = .bool x94_35 ∧ Aside0 (zaa.j1 kq ji21 t625 t629 x94_35 = some r) ∧ Aside0 (kq ≤ kj3) ∧ Aside0 (Kd.N k29 29 wc w.heap.size (fun k_ => some k_ ≠ (v630 : Value).ownBlock ∧ some k_ ≠ ((.slice Ao48 t595.length co48) : Value).ownBlock ∧ some k_ ≠ ((.slice Ao52 t598.length co52) : Value).ownBlock ∧ k_ ≠ gb585 ∧ k_ ≠ gb586 ∧ k_ ≠ gb601 ∧ k_ ≠ gb602) v626 t625) ∧ Aside0 (Kd.N k29 29 wc w.heap.size (fun k_ => some k_ ≠ (v626 : Value).ownBlock ∧ some k_ ≠ ((.slice Ao48 t595.length co48) : Value).ownBlock ∧ some k_ ≠ ((.slice Ao52 t598.length co52) : Value).ownBlock ∧ k_ ≠ gb585 ∧ k_ ≠ gb586 ∧ k_ ≠ gb601 ∧ k_ ≠ gb602) v630 t629) ∧ Aside0 (Kd.V (Kd.int .u64) 82 wc w.heap.size (fun k_ => some k_ ≠ (v626 : Value).ownBlock ∧ some k_ ≠ (v630 : Value).ownBlock ∧ some k_ ≠ ((.slice Ao48 t595.length co48) : Value).ownBlock ∧ some k_ ≠ ((.slice Ao52 t598.length co52) : Value).ownBlock ∧ k_ ≠ gb585 ∧ k_ ≠ gb586 ∧ k_ ≠ gb601 ∧ k_ ≠ gb602) (.slice Ao42 t589.length co42) t589) ∧ Aside0 (Kd.V (Kd.int .u64) 82 wc w.heap.size (fun k_ => some k_ ≠ (v626 : Value).ownBlock ∧ some k_ ≠ (v630 : Value).ownBlock ∧ some k_ ≠ ((.slice Ao48 t595.length co48) : Value).ownBlock ∧ some k_ ≠ ((.slice Ao52 t598.length co52) : Value).ownBlock ∧ k_ ≠ gb585 ∧ k_ ≠ gb586 ∧ k_ ≠ gb601 ∧ k_ ≠ gb602) (.slice Ao47 t592.length co47) t592) ∧ Aside0 (Kd.R (Kd.int .i64) 3 wc w.heap.size (fun k_ => some k_ ≠ ((.slice Ao52 t598.length co52) : Value).ownBlock) (.slice Ao48 t595.length co48) t595) ∧ Aside0 (Kd.R (Kd.int .i64) 3 wc w.heap.size (fun k_ => some k_ ≠ ((.slice Ao48 t595.length co48) : Value).ownBlock) (.slice Ao52 t598.length co52) t598) ∧ Aside0 (wc.heap[gb585]? = some (.cells #[.int .i64 a0_0, .int .i64 a0_1] 23 (0, 0))) ∧ Aside0 (wc.heap[gb586]? = some (.cells #[(.slice A1_0 l1_0.length c1_0), (.slice A1_1 l1_1.length c1_1)] 43 (0, 0))) ∧ Aside0 (wc.heap[gb601]? = some (.cells #[(.slice Ao42 t589.length co42), (.slice Ao47 t592.length co47)] 29 (0, 0))) ∧ Aside0 (wc.heap[gb602]? = some (.cells #[(.slice Ao48 t595.length co48), (.slice Ao52 t598.length co52)] 32 (0, 0))) ∧ Aside0 (Below w.heap.size w wc))
            case first =>
             have H := HC36.out
             clear HC36
             by_cases c74 : t628 = t632
             ·
              rw [if_pos c74] at H
              have c74b0 : (t628 == t632) = true := beq_iff_eq.mpr c74
              have c74b1 : (t628 != t632) = false := bne_eq_false_iff_eq.mpr c74
              clear c74
              (first | rw [c74b0] | (simp only [i64_w, i32_w]; rw [c74b0]) | skip)
              have H' := zA H
              clear H
              obtain ⟨Ao75, co75, eo75⟩ := Kd.N_slice HO627.out
              subst eo75
              obtain ⟨Ao76, co76, eo76⟩ := Kd.N_slice HO631.out
              subst eo76
              go_wp2
              go_meet
              case rel => exact ⟨_, (((t625.length : Int) != (t629.length : Int))), (zF), H', ⟨by have := HJ3.out; first | omega | exact Nat.le_refl _⟩, ⟨by (with_reducible repeat (first | apply Kd.N_alloc | apply Kd.N_drewN | apply Kd.N_drew)); exact Kd.zdj HO627.out (fun _ hk => ⟨hk.2, ⟨hk.1.1, ⟨hk.1.2.1, ⟨hk.1.2.2.2.2.1, ⟨hk.1.2.2.2.2.2.1, ⟨hk.1.2.2.2.2.2.2.1, hk.1.2.2.2.2.2.2.2⟩⟩⟩⟩⟩⟩)⟩, ⟨by (with_reducible repeat (first | apply Kd.N_alloc | apply Kd.N_drewN | apply Kd.N_drew)); exact Kd.zdj HO631.out (fun _ hk => ⟨hk.2.2.2.2.1, ⟨hk.1, ⟨hk.2.1, ⟨hk.2.2.2.2.2.1, ⟨hk.2.2.2.2.2.2.1, ⟨hk.2.2.2.2.2.2.2.1, hk.2.2.2.2.2.2.2.2⟩⟩⟩⟩⟩⟩)⟩, ⟨by (with_reducible repeat (first | apply Kd.zbm | apply Kd.zbl | apply Kd.zbp)); exact Kd.zaq HO591.out (fun _ hk => ⟨hk.1.2, ⟨hk.2, ⟨hk.1.1.1.1, ⟨hk.1.1.1.2.1, ⟨hk.1.1.1.2.2.2.1, ⟨hk.1.1.1.2.2.2.2.1, ⟨hk.1.1.1.2.2.2.2.2.1, hk.1.1.1.2.2.2.2.2.2⟩⟩⟩⟩⟩⟩⟩)⟩, ⟨by (with_reducible repeat (first | apply Kd.zbm | apply Kd.zbl | apply Kd.zbp)); exact Kd.zaq HO594.out (fun _ hk => ⟨hk.1.2, ⟨hk.2, ⟨hk.1.1.1.1, ⟨hk.1.1.1.2.1, ⟨hk.1.1.1.2.2.2.1, ⟨hk.1.1.1.2.2.2.2.1, ⟨hk.1.1.1.2.2.2.2.2.1, hk.1.1.1.2.2.2.2.2.2⟩⟩⟩⟩⟩⟩⟩)⟩, ⟨by (with_reducible repeat (first | apply Kd.zb0 | apply Kd.zb2 | apply Kd.zca)); exact Kd.zbn HO597.out (fun _ hk => hk.1.1)⟩, ⟨by (with_reducible repeat (first | apply Kd.zb0 | apply Kd.zb2 | apply Kd.zca)); exact Kd.zbn HO600.out (fun _ hk => hk.1.1)⟩, ⟨zK BK585⟩, ⟨zK BK586⟩, ⟨zK BK601⟩, ⟨zK BK602⟩, ⟨zB HB⟩⟩
             ·
              rw [if_neg c74] at H
              have c74b0 : (t628 == t632) = false := beq_eq_false_iff_ne.mpr c74
              have c74b1 : (t628 != t632) = true := bne_iff_ne.mpr c74
              (first | rw [c74b0] | (simp only [i64_w, i32_w]; rw [c74b0]) | skip)
              have H' := zA H
              clear H
              go_wp2
              go_meet
              case rel => exact ⟨_, (true), (zF), H', ⟨by have := HJ3.out; first | omega | exact Nat.le_refl _⟩, ⟨by (with_reducible repeat (first | apply Kd.N_alloc | apply Kd.N_drewN | apply Kd.N_drew)); exact Kd.zdj HO627.out (fun _ hk => ⟨hk.2, ⟨hk.1.1, ⟨hk.1.2.1, ⟨hk.1.2.2.2.2.1, ⟨hk.1.2.2.2.2.2.1, ⟨hk.1.2.2.2.2.2.2.1, hk.1.2.2.2.2.2.2.2⟩⟩⟩⟩⟩⟩)⟩, ⟨by (with_reducible repeat (first | apply Kd.N_alloc | apply Kd.N_drewN | apply Kd.N_drew)); exact Kd.zdj HO631.out (fun _ hk => ⟨hk.2.2.2.2.1, ⟨hk.1, ⟨hk.2.1, ⟨hk.2.2.2.2.2.1, ⟨hk.2.2.2.2.2.2.1, ⟨hk.2.2.2.2.2.2.2.1, hk.2.2.2.2.2.2.2.2⟩⟩⟩⟩⟩⟩)⟩, ⟨by (with_reducible repeat (first | apply Kd.zbm | apply Kd.zbl | apply Kd.zbp)); exact Kd.zaq HO591.out (fun _ hk => ⟨hk.1.2, ⟨hk.2, ⟨hk.1.1.1.1, ⟨hk.1.1.1.2.1, ⟨hk.1.1.1.2.2.2.1, ⟨hk.1.1.1.2.2.2.2.1, ⟨hk.1.1.1.2.2.2.2.2.1, hk.1.1.1.2.2.2.2.2.2⟩⟩⟩⟩⟩⟩⟩)⟩, ⟨by (with_reducible repeat (first | apply Kd.zbm | apply Kd.zbl | apply Kd.zbp)); exact Kd.zaq HO594.out (fun _ hk => ⟨hk.1.2, ⟨hk.2, ⟨hk.1.1.1.1, ⟨hk.1.1.1.2.1, ⟨hk.1.1.1.2.2.2.1, ⟨hk.1.1.1.2.2.2.2.1, ⟨hk.1.1.1.2.2.2.2.2.1, hk.1.1.1.2.2.2.2.2.2⟩⟩⟩⟩⟩⟩⟩)⟩, ⟨by (with_reducible repeat (first | apply Kd.zb0 | apply Kd.zb2 | apply Kd.zca)); exact Kd.zbn HO597.out (fun _ hk => hk.1.1)⟩, ⟨by (with_reducible repeat (first | apply Kd.zb0 | apply Kd.zb2 | apply Kd.zca)); exact Kd.zbn HO600.out (fun _ hk => hk.1.1)⟩, ⟨zK BK585⟩, ⟨zK BK586⟩, ⟨zK BK601⟩, ⟨zK BK602⟩, ⟨zB HB⟩⟩
            case rest =>
             clear HC36
             try clear c1
             try clear c2
             try clear p2
             try clear c3
             try clear c4
             try clear c5
             try clear p6
             try clear c7
             try clear c15
             try clear c16
             try clear c24
             try clear c27
             try clear c28
             try clear c28b0
             try clear c29
             try clear c29b0
             try clear c29b1
             try clear c30
             try clear c31
             try clear c31b0
             try clear c32
             try clear c32b0
             try clear c33
             try clear c37
             try clear c43
             try clear c44
             try clear c45
             try clear c49
             try clear c50
             try clear p64
             try clear c74
             try clear c74b0
             try clear c74b1
             try clear hcz38_0
             try clear hcz38_1
             try clear hcz46_0
             try clear hcz46_1
             try clear hcz51_0
             try clear hcz51_1
             try clear hcz68_0
             try clear hcz68_1
             try clear hcz70_0
             try clear hcz70_1
             try clear hfz38_0
             try clear hfz38_1
             try clear hfz46_0
             try clear hfz46_1
             try clear hfz51_0
             try clear hfz51_1
             try clear hfz68_0
             try clear hfz68_1
             try clear hfz70_0
             try clear hfz70_1
             obtain ⟨kq, x94_35, rfl, HA, HJ35, HO_14, HO_16, HO_602000, HO_602001, HO_603000, HO_603001, BK585, BK586, BK601, BK602, HB⟩ := hcut
             cases kq with
             | zero => exact absurd HA.out (by simp [zaa.j1])
             | succ kj35 =>
              have H := HA.out
              clear HA
              simp only [zaa.j1] at H
              by_cases c77 : x94_35 = true
              ·
               subst c77
               rw [if_pos rfl] at H
               exact absurd H (by simp)
              ·
               replace c77 := Bool.eq_false_iff.mpr c77
               subst c77
               rw [if_neg (show ¬ (false = true) by decide)] at H
               have H' := zA H
               clear H
               obtain ⟨Ao78, co78, eo78⟩ := Kd.N_slice HO_14.out
               subst eo78
               go_wp2
               go_loopg [97] kj35 (fun kq v97 w' => ∃ (x97_3 : Int), v97 = .int .i64 x97_3 ∧ Aside0 (zaa.l0 kq ji21 t625 t629 (t625.length : Int) x97_3 = some r) ∧ Aside0 (kq ≤ kj35) ∧ Aside0 (Kd.N k29 29 w' w.heap.size (fun k_ => some k_ ≠ (v630 : Value).ownBlock ∧ some k_ ≠ ((.slice Ao48 t595.length co48) : Value).ownBlock ∧ some k_ ≠ ((.slice Ao52 t598.length co52) : Value).ownBlock ∧ k_ ≠ gb585 ∧ k_ ≠ gb586 ∧ k_ ≠ gb601 ∧ k_ ≠ gb602) (.slice Ao78 t625.length co78) t625) ∧ Aside0 (Kd.N k29 29 w' w.heap.size (fun k_ => some k_ ≠ ((.slice Ao78 t625.length co78) : Value).ownBlock ∧ some k_ ≠ ((.slice Ao48 t595.length co48) : Value).ownBlock ∧ some k_ ≠ ((.slice Ao52 t598.length co52) : Value).ownBlock ∧ k_ ≠ gb585 ∧ k_ ≠ gb586 ∧ k_ ≠ gb601 ∧ k_ ≠ gb602) v630 t629) ∧ Aside0 (Kd.V (Kd.int .u64) 82 w' w.heap.size (fun k_ => some k_ ≠ ((.slice Ao78 t625.length co78) : Value).ownBlock ∧ some k_ ≠ (v630 : Value).ownBlock ∧ some k_ ≠ ((.slice Ao48 t595.length co48) : Value).ownBlock ∧ some k_ ≠ ((.slice Ao52 t598.length co52) : Value).ownBlock ∧ k_ ≠ gb585 ∧ k_ ≠ gb586 ∧ k_ ≠ gb601 ∧ k_ ≠ gb602) (.slice Ao42 t589.length co42) t589) ∧ Aside0 (Kd.V (Kd.int .u64) 82 w' w.heap.size (fun k_ => some k_ ≠ ((.slice Ao78 t625.length co78) : Value).ownBlock ∧ some k_ ≠ (v630 : Value).ownBlock ∧ some k_ ≠ ((.slice Ao48 t595.length co48) : Value).ownBlock ∧ some k_ ≠ ((.slice Ao52 t598.length co52) : Value).ownBlock ∧ k_ ≠ gb585 ∧ k_ ≠ gb586 ∧ k_ ≠ gb601 ∧ k_ ≠ gb602) (.slice Ao47 t592.length co47) t592) ∧ Aside0 (Kd.R (Kd.int .i64) 3 w' w.heap.size (fun k_ => some k_ ≠ ((.slice Ao52 t598.length co52) : Value).ownBlock) (.slice Ao48 t595.length co48) t595) ∧ Aside0 (Kd.R (Kd.int .i64) 3 w' w.heap.size (fun k_ => some k_ ≠ ((.slice Ao48 t595.length co48) : Value).ownBlock) (.slice Ao52 t598.length co52) t598) ∧ Aside0 (w'.heap[gb585]? = some (.cells #[.int .i64 a0_0, .int .i64 a0_1] 23 (0, 0))) ∧ Aside0 (w'.heap[gb586]? = some (.cells #[(.slice A1_0 l1_0.length c1_0), (.slice A1_1 l1_1.length c1_1)] 43 (0, 0))) ∧ Aside0 (w'.heap[gb601]? = some (.cells #[(.slice Ao42 t589.length co42), (.slice Ao47 t592.length co47)] 29 (0, 0))) ∧ Aside0 (w'.heap[gb602]? = some (.cells #[(.slice Ao48 t595.length co48), (.slice Ao52 t598.length co52)] 32 (0, 0))) ∧ Aside0 (Below w.heap.size w w'))
               case atStart => exact ⟨(0), (zF), H', ⟨Nat.le_refl _⟩, ⟨zN HO_14⟩, ⟨zN HO_16⟩, ⟨zV HO_602000⟩, ⟨zV HO_602001⟩, ⟨zR HO_603000⟩, ⟨zR HO_603001⟩, ⟨zK BK585⟩, ⟨zK BK586⟩, ⟨zK BK601⟩, ⟨zK BK602⟩, ⟨zB HB⟩⟩
               case round =>
                clear H'
                try clear c1
                try clear c2
                try clear p2
                try clear c3
                try clear c4
                try clear c5
                try clear p6
                try clear c7
                try clear c15
                try clear c16
                try clear c24
                try clear c27
                try clear c28
                try clear c28b0
                try clear c29
                try clear c29b0
                try clear c29b1
                try clear c30
                try clear c31
                try clear c31b0
                try clear c32
                try clear c32b0
                try clear c33
                try clear c37
                try clear c43
                try clear c44
                try clear c45
                try clear c49
                try clear c50
                try clear p64
                try clear c74
                try clear c74b0
                try clear c74b1
                try clear c77
                try clear hcz38_0
                try clear hcz38_1
                try clear hcz46_0
                try clear hcz46_1
                try clear hcz51_0
                try clear hcz51_1
                try clear hcz68_0
                try clear hcz68_1
                try clear hcz70_0
                try clear hcz70_1
                try clear hfz38_0
                try clear hfz38_1
                try clear hfz46_0
                try clear hfz46_1
                try clear hfz51_0
                try clear hfz51_1
                try clear hfz68_0
                try clear hfz68_1
                try clear hfz70_0
                try clear hfz70_1
                try clear p2
                try clear p6
                try clear p64
                obtain ⟨x97_3, rfl, HA, HK3, HO_14, HO_16, HO_602000, HO_602001, HO_603000, HO_603001, BK585, BK586, BK601, BK602, HB⟩ := hrel
                cases gk with
                | zero => exact absurd HA.out (by simp [zaa.l0])
                | succ k3 =>
                 have H := HA.out
                 clear HA
                 simp only [zaa.l0] at H
                 by_cases c79 : x97_3 < (t625.length : Int)
                 ·
                  rw [if_pos c79] at H
                  have c79b0 : decide (x97_3 < (t625.length : Int)) = true := decide_eq_true c79
                  clear c79
                  by_cases c80 : 0 ≤ x97_3
                  ·
                   rw [if_pos c80] at H
                   have c80b0 : decide (0 ≤ x97_3) = true := decide_eq_true c80
                   clear c80
                   by_cases c81 : x97_3 < (t625.length : Int)
                   ·
                    rw [if_pos c81] at H
                    have c81b0 : decide (x97_3 < (t625.length : Int)) = true := decide_eq_true c81
                    clear c81
                    by_cases c82 : (t629.length : Int) = 0
                    ·
                     rw [if_pos c82] at H
                     exact absurd H (by simp)
                    ·
                     rw [if_neg c82] at H
                     have c82b0 : ((t629.length : Int) == 0) = false := beq_eq_false_iff_ne.mpr c82
                     have c82b1 : ((t629.length : Int) != 0) = true := bne_iff_ne.mpr c82
                     have c82b2 : ¬ (t629 = []) := fun h_ => c82 (by rw [h_]; rfl)
                     obtain ⟨ji83, hji83⟩ : ∃ j_ : Int, (Int.tmod (wrap64 ((wrap64 (x97_3 + (t629.length : Int))) - ji21)) (t629.length : Int)) = j_ := ⟨_, rfl⟩
                     replace H : (if 0 ≤ (ji83) then (if (ji83) < (t629.length : Int) then ((ratio_Cmp.f k3 ((rd_T29 t625 x97_3).f0) ((rd_T29 t625 x97_3).f1) ((rd_T29 t629 (ji83)).f0) ((rd_T29 t629 (ji83)).f1)).bind fun t635 => (if t635 = 0 then (zaa.l0 k3 ji21 t625 t629 (t625.length : Int) (wrap64 (x97_3 + 1))) else (none))) else (none)) else (none)) = some r := by first | (rw [hji83] at H; exact H) | (simp only [hji83] at H ⊢; exact H)
                     by_cases c84 : 0 ≤ (ji83)
                     ·
                      rw [if_pos c84] at H
                      have c84b0 : decide (0 ≤ (ji83)) = true := decide_eq_true c84
                      clear c84
                      by_cases c85 : (ji83) < (t629.length : Int)
                      ·
                       rw [if_pos c85] at H
                       have c85b0 : decide ((ji83) < (t629.length : Int)) = true := decide_eq_true c85
                       clear c85
                       replace H := zO H
                       obtain ⟨t635, A860, H⟩ := H
                       try dsimp only at H
                       have A86 := zA A860
                       clear A860
                       by_cases c87 : t635 = 0
                       ·
                        rw [if_pos c87] at H
                        have c87b0 : (t635 == 0) = true := beq_iff_eq.mpr c87
                        have c87b1 : (t635 != 0) = false := bne_eq_false_iff_eq.mpr c87
                        clear c87
                        have H' := zA H
                        clear H
                        try go_wp2
                        have n0_ := zA (Kd.N_drew HO_14.out)
                        have n1_ := zA (Kd.N_drew HO_16.out)
                        have n2_ := zA (Kd.zbp HO_602000.out)
                        have n3_ := zA (Kd.zbp HO_602001.out)
                        have n4_ := zA (Kd.zca HO_603000.out)
                        have n5_ := zA (Kd.zca HO_603001.out)
                        have n6_ := zA (zah BK585.out)
                        have n7_ := zA (zah BK586.out)
                        have n8_ := zA (zah BK601.out)
                        have n9_ := zA (zah BK602.out)
                        have n10_ := zA (zbh HB.out)
                        clear HO_14 HO_16 HO_602000 HO_602001 HO_603000 HO_603001 BK585 BK586 BK601 BK602 HB
                        have HO_14 := n0_
                        have HO_16 := n1_
                        have HO_602000 := n2_
                        have HO_602001 := n3_
                        have HO_603000 := n4_
                        have HO_603001 := n5_
                        have BK585 := n6_
                        have BK586 := n7_
                        have BK601 := n8_
                        have BK602 := n9_
                        have HB := n10_
                        clear n0_ n1_ n2_ n3_ n4_ n5_ n6_ n7_ n8_ n9_ n10_
                        have p633 : 0 ≤ (x97_3 : Int) := of_decide_eq_true (by first | (with_reducible assumption) | assumption)
                        have q633 : x97_3 < (t625.length : Int) := of_decide_eq_true (by first | (with_reducible assumption) | assumption)
                        obtain ⟨ad633, A633_0, c633_0, A633_1, c633_1, e633, hx633_0, hx633_1, hl633_0, hi633_0, hl633_1, hi633_1⟩ := at_T29 (Kd.N_reads' HO_14.out).2.2 x97_3 p633 q633
                        cases e633
                        obtain ⟨ce633, hce633, hMe633, hcc633⟩ := Kd.N_get HO_14.out z29 x97_3 p633 (by first | exact q633 | exact of_decide_eq_true (by first | (with_reducible assumption) | assumption) | (have e_ := (Kd.N_reads' HO_14.out).1; omega))
                        obtain ⟨ua633_0, uc633_0, ua633_1, uc633_1, rfl, ul633_0, ge633_0, ul633_1, ge633_1⟩ := k29_openF hMe633
                        have hv633_0 := hcc633 0 _ rfl
                        rw [Nat.add_zero] at hv633_0
                        replace hv633_0 := Option.some.inj (hv633_0.symm.trans hx633_0)
                        injection hv633_0 with hva_ hvn_ hvc_
                        rw [hva_] at ge633_0
                        rw [hvc_] at ul633_0
                        have HL633_0 := zA (show Kd.V (Kd.int .u64) 82 _ w.heap.size _ _ ((rd_T29 t625 x97_3).f0) from Kd.V_mk ul633_0 ge633_0)
                        clear hva_ hvn_ hvc_ ge633_0 ul633_0
                        have hv633_1 := hcc633 1 _ rfl
                        rw [add_field _ _ 1 (by omega)] at hv633_1
                        replace hv633_1 := Option.some.inj (hv633_1.symm.trans hx633_1)
                        injection hv633_1 with hva_ hvn_ hvc_
                        rw [hva_] at ge633_1
                        rw [hvc_] at ul633_1
                        have HL633_1 := zA (show Kd.V (Kd.int .u64) 82 _ w.heap.size _ _ ((rd_T29 t625 x97_3).f1) from Kd.V_mk ul633_1 ge633_1)
                        clear hva_ hvn_ hvc_ ge633_1 ul633_1 hcc633 hce633
                        have HR633_0 := zA hi633_0
                        have HC633_0 := zA hl633_0
                        clear hi633_0 hl633_0
                        have HR633_1 := zA hi633_1
                        have HC633_1 := zA hl633_1
                        clear hi633_1 hl633_1
                        replace p633 := eq_true p633
                        replace q633 := eq_true q633
                        obtain ⟨Ao89, co89, eo89⟩ := Kd.N_slice HO_16.out
                        (first | subst eo89 | (injection eo89 with f1_ f2_ f3_; have f4_ := f1_.symm; have f5_ := f3_.symm; clear f1_ f2_ f3_; subst f4_; subst f5_))
                        have p634 : 0 ≤ ((ji83) : Int) := of_decide_eq_true (by first | (with_reducible assumption) | assumption)
                        have q634 : (ji83) < (t629.length : Int) := of_decide_eq_true (by first | (with_reducible assumption) | assumption)
                        obtain ⟨ad634, A634_0, c634_0, A634_1, c634_1, e634, hx634_0, hx634_1, hl634_0, hi634_0, hl634_1, hi634_1⟩ := at_T29 (Kd.N_reads' HO_16.out).2.2 (ji83) p634 q634
                        cases e634
                        obtain ⟨ce634, hce634, hMe634, hcc634⟩ := Kd.N_get HO_16.out z29 (ji83) p634 (by first | exact q634 | exact of_decide_eq_true (by first | (with_reducible assumption) | assumption) | (have e_ := (Kd.N_reads' HO_16.out).1; omega))
                        obtain ⟨ua634_0, uc634_0, ua634_1, uc634_1, rfl, ul634_0, ge634_0, ul634_1, ge634_1⟩ := k29_openF hMe634
                        have hv634_0 := hcc634 0 _ rfl
                        rw [Nat.add_zero] at hv634_0
                        replace hv634_0 := Option.some.inj (hv634_0.symm.trans hx634_0)
                        injection hv634_0 with hva_ hvn_ hvc_
                        rw [hva_] at ge634_0
                        rw [hvc_] at ul634_0
                        have HL634_0 := zA (show Kd.V (Kd.int .u64) 82 _ w.heap.size _ _ ((rd_T29 t629 (ji83)).f0) from Kd.V_mk ul634_0 ge634_0)
                        clear hva_ hvn_ hvc_ ge634_0 ul634_0
                        have hv634_1 := hcc634 1 _ rfl
                        rw [add_field _ _ 1 (by omega)] at hv634_1
                        replace hv634_1 := Option.some.inj (hv634_1.symm.trans hx634_1)
                        injection hv634_1 with hva_ hvn_ hvc_
                        rw [hva_] at ge634_1
                        rw [hvc_] at ul634_1
                        have HL634_1 := zA (show Kd.V (Kd.int .u64) 82 _ w.heap.size _ _ ((rd_T29 t629 (ji83)).f1) from Kd.V_mk ul634_1 ge634_1)
                        clear hva_ hvn_ hvc_ ge634_1 ul634_1 hcc634 hce634
                        have HR634_0 := zA hi634_0
                        have HC634_0 := zA hl634_0
                        clear hi634_0 hl634_0
                        have HR634_1 := zA hi634_1
                        have HC634_1 := zA hl634_1
                        clear hi634_1 hl634_1
                        replace p634 := eq_true p634
                        replace q634 := eq_true q634
                        refine zdk (n := 18) (S := fun w' => w'.cell? (ad633.add ((x97_3).toNat * 2)) = some (.slice A633_0 ((rd_T29 t625 x97_3).f0).length c633_0) ∧ w'.cell? ⟨(ad633.add ((x97_3).toNat * 2)).block, (ad633.add ((x97_3).toNat * 2)).off + 1, none⟩ = some (.slice A633_1 ((rd_T29 t625 x97_3).f1).length c633_1) ∧ w'.cell? (ad634.add (((ji83)).toNat * 2)) = some (.slice A634_0 ((rd_T29 t629 (ji83)).f0).length c634_0) ∧ w'.cell? ⟨(ad634.add (((ji83)).toNat * 2)).block, (ad634.add (((ji83)).toNat * 2)).off + 1, none⟩ = some (.slice A634_1 ((rd_T29 t629 (ji83)).f1).length c634_1)) (ds := []) #[false, false, false, false, false, false, false, false, false, false, false, false, false, false, false, false, false, false] (by kernel_rfl) rfl rfl ⟨hx633_0, hx633_1, hx634_0, hx634_1⟩ (fun hHeld => ?_); refine zcp zaa.tab15 zaa.bits15 (fun HT_ HW_ => ?_)
                        generalize wr.drew = w88 at HO_14 HO_16 HO_602000 HO_602001 HO_603000 HO_603001 BK585 BK586 BK601 BK602 HB HL633_0 HL633_1 HL634_0 HL634_1 HR633_0 HR633_1 HR634_0 HR634_1 hx633_0 hx633_1 hx634_0 hx634_1 hHeld ⊢
                        refine pure_ (i := 0) (N := some 100) (v := ?_) (a' := ?_) #[true, false, false, false, false, false, false, false, false, false, false, false, false, false, false, false, false, false] rfl rfl (zau HT_.out (by kernel_rfl)) (fun _ _ _ h => h) (Or.inl ⟨by rfl, ?_⟩) ?_ ?_
                        rotate_left
                        ·
                         intro w'
                         go_simp
                         with_reducible rfl
                        rotate_left
                        ·
                         simp only [Act.put, zs1, zs2, zs3, i64_w, i32_w]
                         rfl
                        refine pure_ (i := 1) (N := some 101) (v := ?_) (a' := ?_) #[true, true, false, false, false, false, false, false, false, false, false, false, false, false, false, false, false, false] rfl rfl (zau HT_.out (by kernel_rfl)) (fun _ _ _ h => h) (Or.inl ⟨by rfl, ?_⟩) ?_ ?_
                        rotate_left
                        ·
                         intro w'
                         go_simp
                         with_reducible rfl
                        rotate_left
                        ·
                         simp only [Act.put, zs1, zs2, zs3, i64_w, i32_w]
                         rfl
                        refine pure_ (i := 2) (N := some 102) (v := ?_) (a' := ?_) #[true, true, true, false, false, false, false, false, false, false, false, false, false, false, false, false, false, false] rfl rfl (zau HT_.out (by kernel_rfl)) (fun _ _ _ h => h) (Or.inl ⟨by rfl, ?_⟩) ?_ ?_
                        rotate_left
                        ·
                         intro w'
                         go_simp
                         with_reducible rfl
                        rotate_left
                        ·
                         simp only [Act.put, zs1, zs2, zs3, i64_w, i32_w]
                         rfl
                        refine pure_ (i := 4) (N := some 104) (v := ?_) (a' := ?_) #[true, true, true, false, true, false, false, false, false, false, false, false, false, false, false, false, false, false] rfl rfl (zau HT_.out (by kernel_rfl)) (fun _ _ _ h => h) (Or.inl ⟨by rfl, ?_⟩) ?_ ?_
                        rotate_left
                        ·
                         intro w'
                         go_simp
                         with_reducible rfl
                        rotate_left
                        ·
                         simp only [Act.put, zs1, zs2, zs3, i64_w, i32_w]
                         rfl
                        refine pure_ (i := 5) (N := some 105) (v := ?_) (a' := ?_) #[true, true, true, false, true, true, false, false, false, false, false, false, false, false, false, false, false, false] rfl rfl (zau HT_.out (by kernel_rfl)) (fun _ _ _ h => h) (Or.inl ⟨by rfl, ?_⟩) ?_ ?_
                        rotate_left
                        ·
                         intro w'
                         go_simp
                         with_reducible rfl
                        rotate_left
                        ·
                         simp only [Act.put, zs1, zs2, zs3, i64_w, i32_w]
                         rfl
                        refine pure_ (i := 6) (N := some 106) (v := ?_) (a' := ?_) #[true, true, true, false, true, true, true, false, false, false, false, false, false, false, false, false, false, false] rfl rfl (zau HT_.out (by kernel_rfl)) (fun _ _ _ h => h) (Or.inl ⟨by rfl, ?_⟩) ?_ ?_
                        rotate_left
                        ·
                         intro w'
                         go_simp
                         with_reducible rfl
                        rotate_left
                        ·
                         simp only [Act.put, zs1, zs2, zs3, i64_w, i32_w]
                         rfl
                        refine pure_ (i := 7) (N := some 107) (v := ?_) (a' := ?_) #[true, true, true, false, true, true, true, true, false, false, false, false, false, false, false, false, false, false] rfl rfl (zau HT_.out (by kernel_rfl)) (fun _ _ _ h => h) (Or.inl ⟨by rfl, ?_⟩) ?_ ?_
                        rotate_left
                        ·
                         intro w'
                         go_simp
                         with_reducible rfl
                        rotate_left
                        ·
                         simp only [Act.put, zs1, zs2, zs3, i64_w, i32_w]
                         rfl
                        refine pure_ (i := 8) (N := some 108) (v := ?_) (a' := ?_) #[true, true, true, false, true, true, true, true, true, false, false, false, false, false, false, false, false, false] rfl rfl (zau HT_.out (by kernel_rfl)) (fun _ _ _ h => h) (Or.inl ⟨by rfl, ?_⟩) ?_ ?_
                        rotate_left
                        ·
                         intro w'
                         go_simp
                         with_reducible rfl
                        rotate_left
                        ·
                         simp only [Act.put, zs1, zs2, zs3, i64_w, i32_w]
                         rfl
                        refine pure_ (i := 9) (N := some 109) (v := ?_) (a' := ?_) #[true, true, true, false, true, true, true, true, true, true, false, false, false, false, false, false, false, false] rfl rfl (zau HT_.out (by kernel_rfl)) (fun _ _ _ h => h) (Or.inl ⟨by rfl, ?_⟩) ?_ ?_
                        rotate_left
                        ·
                         intro w'
                         go_simp
                         with_reducible rfl
                        rotate_left
                        ·
                         simp only [Act.put, zs1, zs2, zs3, i64_w, i32_w]
                         rfl
                        refine pure_ (i := 10) (N := some 110) (v := ?_) (a' := ?_) #[true, true, true, false, true, true, true, true, true, true, true, false, false, false, false, false, false, false] rfl rfl (zau HT_.out (by kernel_rfl)) (fun _ _ _ h => h) (Or.inl ⟨by rfl, ?_⟩) ?_ ?_
                        rotate_left
                        ·
                         intro w'
                         go_simp
                         with_reducible rfl
                        rotate_left
                        ·
                         simp only [Act.put, zs1, zs2, zs3, i64_w, i32_w]
                         rfl
                        refine pure_ (i := 11) (N := some 111) (v := ?_) (a' := ?_) #[true, true, true, false, true, true, true, true, true, true, true, true, false, false, false, false, false, false] rfl rfl (zau HT_.out (by kernel_rfl)) (fun _ _ _ h => h) (Or.inl ⟨by rfl, ?_⟩) ?_ ?_
                        rotate_left
                        ·
                         intro w'
                         go_simp
                         with_reducible rfl
                        rotate_left
                        ·
                         simp only [Act.put, zs1, zs2, zs3, i64_w, i32_w]
                         rfl
                        refine pure_ (i := 12) (N := some 112) (v := ?_) (a' := ?_) #[true, true, true, false, true, true, true, true, true, true, true, true, true, false, false, false, false, false] rfl rfl (zau HT_.out (by kernel_rfl)) (fun _ _ _ h => h) (Or.inl ⟨by rfl, ?_⟩) ?_ ?_
                        rotate_left
                        ·
                         intro w'
                         go_simp
                         with_reducible rfl
                        rotate_left
                        ·
                         simp only [Act.put, zs1, zs2, zs3, i64_w, i32_w]
                         rfl
                        refine pure_ (i := 13) (N := some 113) (v := ?_) (a' := ?_) #[true, true, true, false, true, true, true, true, true, true, true, true, true, true, false, false, false, false] rfl rfl (zau HT_.out (by kernel_rfl)) (fun _ _ _ h => h) (Or.inl ⟨by rfl, ?_⟩) ?_ ?_
                        rotate_left
                        ·
                         intro w'
                         go_simp
                         with_reducible rfl
                        rotate_left
                        ·
                         simp only [Act.put, zs1, zs2, zs3, i64_w, i32_w]
                         rfl
                        refine pure_ (i := 14) (N := some 114) (v := ?_) (a' := ?_) #[true, true, true, false, true, true, true, true, true, true, true, true, true, true, true, false, false, false] rfl rfl (zau HT_.out (by kernel_rfl)) (fun _ _ _ h => h) (Or.inl ⟨by rfl, ?_⟩) ?_ ?_
                        rotate_left
                        ·
                         intro w'
                         go_simp
                         with_reducible rfl
                        rotate_left
                        ·
                         simp only [Act.put, zs1, zs2, zs3, i64_w, i32_w]
                         rfl
                        refine take_ (i := 3) (N := some 103) (v := ?_) (a' := ?_) #[true, true, true, true, true, true, true, true, true, true, true, true, true, true, true, false, false, false] rfl rfl (zbs HT_.out HW_.out (by kernel_rfl)) (fun _ _ _ h => h) (Or.inl ⟨by rfl, ?_⟩) hHeld ?_ ?_
                        rotate_left
                        ·
                         rintro w' ⟨s0, s1, s2, s3⟩
                         go_simp
                         with_reducible rfl
                        rotate_left
                        ·
                         simp only [Act.put, zs1, zs2, zs3, i64_w, i32_w]
                         rfl
                        refine take_ (i := 15) (N := some 115) (v := ?_) (a' := ?_) #[true, true, true, true, true, true, true, true, true, true, true, true, true, true, true, true, false, false] rfl rfl (zbs HT_.out HW_.out (by kernel_rfl)) (fun _ _ _ h => h) (Or.inl ⟨by rfl, ?_⟩) hHeld ?_ ?_
                        rotate_left
                        ·
                         rintro w' ⟨s0, s1, s2, s3⟩
                         go_simp
                         with_reducible rfl
                        rotate_left
                        ·
                         simp only [Act.put, zs1, zs2, zs3, i64_w, i32_w]
                         rfl
                        refine one_ (i := 16) (N := some 116) #[true, true, true, true, true, true, true, true, true, true, true, true, true, true, true, true, true, false] rfl rfl (zbz HT_.out (by kernel_rfl)) (by decide) (fun K hK => ?_)
                        refine goes_ Tryz.func17 (by kernel_rfl) rfl #[.agg #[.slice A633_0 ((rd_T29 t625 x97_3).f0).length c633_0, .slice A633_1 ((rd_T29 t625 x97_3).f1).length c633_1], .agg #[.slice A634_0 ((rd_T29 t629 (ji83)).f0).length c634_0, .slice A634_1 ((rd_T29 t629 (ji83)).f1).length c634_1]] (by rfl) rfl rfl (by (try simp only [List.map_toArray, List.map_cons, List.map_nil]); first | done | (simp only [hji83]; rfl) | rfl | (simp only [List.length_drop, List.length_take]; rfl) | ((simp [Act.eval, wrap64]) <;> omega) | ((simp [Act.eval, wrap64, IntKind.wrap, IntKind.bits, IntKind.signed]) <;> omega)) ?_
                        with_reducible refine (ratio_Cmp.calls k3 _ _ ((rd_T29 t625 x97_3).f0) _ _ ((rd_T29 t625 x97_3).f1) _ _ ((rd_T29 t629 (ji83)).f0) _ _ ((rd_T29 t629 (ji83)).f1) t635 _ ?side1 ?side2 ?side3 ?side4 ?side5 ?side6 ?side7 ?side8 A86.out).mono ?_
                        (case side1 => repeat (first | exact (by repeat (first | (with_reducible exact HR633_0.out) | (with_reducible refine Kd.zb9 ?_ _) | (with_reducible refine Kd.zb8 ?_ _) | (with_reducible refine Kd.zco ?_) | exact HR633_0.out)) | (with_reducible refine Kd.zb9 ?_ _) | (with_reducible refine Kd.zb8 ?_ _) | (with_reducible refine Kd.zco ?_)))
                        (case side2 => exact HC633_0.out)
                        (case side3 => repeat (first | exact (by repeat (first | (with_reducible exact HR633_1.out) | (with_reducible refine Kd.zb9 ?_ _) | (with_reducible refine Kd.zb8 ?_ _) | (with_reducible refine Kd.zco ?_) | exact HR633_1.out)) | (with_reducible refine Kd.zb9 ?_ _) | (with_reducible refine Kd.zb8 ?_ _) | (with_reducible refine Kd.zco ?_)))
                        (case side4 => exact HC633_1.out)
                        (case side5 => repeat (first | exact (by repeat (first | (with_reducible exact HR634_0.out) | (with_reducible refine Kd.zb9 ?_ _) | (with_reducible refine Kd.zb8 ?_ _) | (with_reducible refine Kd.zco ?_) | exact HR634_0.out)) | (with_reducible refine Kd.zb9 ?_ _) | (with_reducible refine Kd.zb8 ?_ _) | (with_reducible refine Kd.zco ?_)))
                        (case side6 => exact HC634_0.out)
                        (case side7 => repeat (first | exact (by repeat (first | (with_reducible exact HR634_1.out) | (with_reducible refine Kd.zb9 ?_ _) | (with_reducible refine Kd.zb8 ?_ _) | (with_reducible refine Kd.zco ?_) | exact HR634_1.out)) | (with_reducible refine Kd.zb9 ?_ _) | (with_reducible refine Kd.zb8 ?_ _) | (with_reducible refine Kd.zco ?_)))
                        (case side8 => exact HC634_1.out)
                        rintro e w90 ⟨rfl, hb⟩
                        have HS0_ := (hb.cell (World.block_lt_of_cell? _ _ (hHeld.1))).trans (hHeld.1)
                        have HS1_ := (hb.cell (World.block_lt_of_cell? _ _ (hHeld.2.1))).trans (hHeld.2.1)
                        have HS2_ := (hb.cell (World.block_lt_of_cell? _ _ (hHeld.2.2.1))).trans (hHeld.2.2.1)
                        have HS3_ := (hb.cell (World.block_lt_of_cell? _ _ (hHeld.2.2.2))).trans (hHeld.2.2.2)
                        refine ⟨_, rfl, ?_⟩
                        have n0_ := zA (Kd.N_below (zN HO_14) hb)
                        have n1_ := zA (Kd.N_below (zN HO_16) hb)
                        have n2_ := zA (Kd.za3 (zV HO_602000) hb)
                        have n3_ := zA (Kd.za3 (zV HO_602001) hb)
                        have n4_ := zA (Kd.zbw (zR HO_603000) hb)
                        have n5_ := zA (Kd.zbw (zR HO_603001) hb)
                        have n6_ := zA (Kd.za3 (zV HL633_0) hb)
                        have n7_ := zA (Kd.za3 (zV HL633_1) hb)
                        have n8_ := zA (Kd.za3 (zV HL634_0) hb)
                        have n9_ := zA (Kd.za3 (zV HL634_1) hb)
                        have n10_ := zA (zae (g := gb585) (o := .cells #[.int .i64 a0_0, .int .i64 a0_1] 23 (0, 0)) (zK BK585) hb)
                        have n11_ := zA (zae (g := gb586) (o := .cells #[.slice A1_0 l1_0.length c1_0, .slice A1_1 l1_1.length c1_1] 43 (0, 0)) (zK BK586) hb)
                        have n12_ := zA (zae (g := gb601) (o := .cells #[.slice Ao42 t589.length co42, .slice Ao47 t592.length co47] 29 (0, 0)) (zK BK601) hb)
                        have n13_ := zA (zae (g := gb602) (o := .cells #[.slice Ao48 t595.length co48, .slice Ao52 t598.length co52] 32 (0, 0)) (zK BK602) hb)
                        have n14_ := zA (Kd.zaw (by repeat (first | (with_reducible exact HR633_0.out) | (with_reducible refine Kd.zb9 ?_ _) | (with_reducible refine Kd.zb8 ?_ _) | (with_reducible refine Kd.zco ?_) | exact HR633_0.out)) hb)
                        have n15_ := zA (Kd.zaw (by repeat (first | (with_reducible exact HR633_1.out) | (with_reducible refine Kd.zb9 ?_ _) | (with_reducible refine Kd.zb8 ?_ _) | (with_reducible refine Kd.zco ?_) | exact HR633_1.out)) hb)
                        have n16_ := zA (Kd.zaw (by repeat (first | (with_reducible exact HR634_0.out) | (with_reducible refine Kd.zb9 ?_ _) | (with_reducible refine Kd.zb8 ?_ _) | (with_reducible refine Kd.zco ?_) | exact HR634_0.out)) hb)
                        have n17_ := zA (Kd.zaw (by repeat (first | (with_reducible exact HR634_1.out) | (with_reducible refine Kd.zb9 ?_ _) | (with_reducible refine Kd.zb8 ?_ _) | (with_reducible refine Kd.zco ?_) | exact HR634_1.out)) hb)
                        have n18_ := zA (zab (zB HB) hb)
                        clear HO_14 HO_16 HO_602000 HO_602001 HO_603000 HO_603001 HL633_0 HL633_1 HL634_0 HL634_1 BK585 BK586 BK601 BK602 HR633_0 HR633_1 HR634_0 HR634_1 HB
                        have HO_14 := n0_
                        have HO_16 := n1_
                        have HO_602000 := n2_
                        have HO_602001 := n3_
                        have HO_603000 := n4_
                        have HO_603001 := n5_
                        have HL633_0 := n6_
                        have HL633_1 := n7_
                        have HL634_0 := n8_
                        have HL634_1 := n9_
                        have BK585 := n10_
                        have BK586 := n11_
                        have BK601 := n12_
                        have BK602 := n13_
                        have HR633_0 := n14_
                        have HR633_1 := n15_
                        have HR634_0 := n16_
                        have HR634_1 := n17_
                        have HB := n18_
                        clear n0_ n1_ n2_ n3_ n4_ n5_ n6_ n7_ n8_ n9_ n10_ n11_ n12_ n13_ n14_ n15_ n16_ n17_ n18_
                        (try clear hb)
                        (try clear hb2)
                        (try clear hk)
                        (try clear hi)
                        refine hK.out _ _ ⟨HS0_, HS1_, HS2_, HS3_⟩ (fun hHeld => ?_)
                        clear hK K
                        refine norm_ (a' := ?_) ?_ ?_
                        rotate_left
                        ·
                         show Act.put _ (some 116) _ = _
                         simp only [Act.put, zs1, zs2, zs3, i64_w, i32_w]
                         rfl
                        refine pure_ (i := 17) (N := some 117) (v := ?_) (a' := ?_) #[true, true, true, true, true, true, true, true, true, true, true, true, true, true, true, true, true, true] rfl rfl (zau HT_.out (by kernel_rfl)) (fun _ _ _ h => h) (Or.inl ⟨by rfl, ?_⟩) ?_ ?_
                        rotate_left
                        ·
                         intro w'
                         go_simp
                         with_reducible rfl
                        rotate_left
                        ·
                         simp only [Act.put, zs1, zs2, zs3, i64_w, i32_w]
                         rfl
                        refine done_ (zdd HT_.out (by kernel_rfl)) ?_
                        try go_wp2
                        go_roundg k3
                        case measure => have := HJ3.out; have := HJ35.out; have := HK3.out; omega
                        case rel => exact ⟨(wrap64 (x97_3 + 1)), (zF), H', ⟨by have := HJ3.out; have := HJ35.out; have := HK3.out; omega⟩, ⟨zN HO_14⟩, ⟨zN HO_16⟩, ⟨zV HO_602000⟩, ⟨zV HO_602001⟩, ⟨zR HO_603000⟩, ⟨zR HO_603001⟩, ⟨zK BK585⟩, ⟨zK BK586⟩, ⟨zK BK601⟩, ⟨zK BK602⟩, ⟨zB HB⟩⟩
                       ·
                        rw [if_neg c87] at H
                        exact absurd H (by simp)
                      ·
                       rw [if_neg c85] at H
                       exact absurd H (by simp)
                     ·
                      rw [if_neg c84] at H
                      exact absurd H (by simp)
                   ·
                    rw [if_neg c81] at H
                    exact absurd H (by simp)
                  ·
                   rw [if_neg c80] at H
                   exact absurd H (by simp)
                 ·
                  rw [if_neg c79] at H
                  have c79b0 : decide (x97_3 < (t625.length : Int)) = false := decide_eq_false c79
                  clear c79
                  obtain rfl := Option.some.inj H
                  go_wp2
                  go_ret
                  exact ⟨by first | rfl | (simp [zby, zbx] <;> rfl) | (simp only [← hji21]; first | rfl | (simp [zby, zbx] <;> rfl)) | (simp [*, zby, zbx] <;> rfl), zB HB⟩
           ·
            rw [if_neg c33] at H
            exact absurd H (by simp)
          ·
           rw [if_neg c30] at H
           exact absurd H (by simp)
         ·
          rw [if_neg c29] at H
          exact absurd H (by simp)
        ·
         rw [if_neg c27] at H
         exact absurd H (by simp)
       ·
        rw [if_neg c24] at H
        exact absurd H (by simp)
      ·
       rw [if_neg c23] at H
       exact absurd H (by simp)
     ·
      rw [if_neg c22] at H
      exact absurd H (by simp)
def sN (r : Rat) : List Int := dig 10000 r.num.toNat
def sD (r : Rat) : List Int := dig 10000 r.den
theorem mkRat_nat (x y : Nat) : mkRat (x : Int) y = (x : Rat) / (y : Rat) := by
 rw [Rat.mkRat_eq_div]
 rfl
theorem bdBy (p : Nat × Nat) (hp1 : p.1 < 1000000) (hp2 : p.2 < 1000000) (h : 1 ≤ p.1) : Bd (ful p) 1 := by
 have hd := Bd.mk (x := p.2) (y := p.1) (m := 1) (by omega) (by omega) (by omega)
 rw [mkRat_nat] at hd
 exact hd
theorem bd0 : Bd 0 1 := ⟨Rat.le_refl, by rw [Nat.pow_one]; decide, by rw [Nat.pow_one]; decide⟩
theorem bdTot {L : Rat} {k : Nat} (hL : Bd L k) : ∀ (l : List (Nat × Nat)), (∀ p ∈ l, p.1 < 1000000 ∧ p.2 < 1000000) → Bd (tot L l) (l.length * (k + 2) + 1)
 | [], _ => bd0.le (by omega)
 | p :: l, h => by
  have h1 := h p List.mem_cons_self
  have ih := bdTot hL l fun q hq => h q (List.mem_cons_of_mem _ hq)
  show Bd (giv L p + tot L l) _
  exact ((bdGiv hL p h1.1 h1.2).add ih).le (by rw [List.length_cons, Nat.add_mul]; omega)
theorem bdTot32 {L : Rat} {k : Nat} (hL : Bd L k) {l : List (Nat × Nat)} (hl : l.length ≤ 32) (h : ∀ p ∈ l, p.1 < 1000000 ∧ p.2 < 1000000) : Bd (tot L l) (32 * (k + 2) + 1) :=
 (bdTot hL l h).le (by have := Nat.mul_le_mul_right (k + 2) hl; omega)
theorem GoodK.small {l : List (Nat × Nat)} (h : GoodK l) : ∀ p ∈ l, p.1 < 1000000 ∧ p.2 < 1000000 := fun p hp => by
 have := h.2 p hp
 omega
theorem bdLow {l : List (Nat × Nat)} {x : Rat} : ∀ (m : List (Nat × Nat)) (low : Rat), (∀ p ∈ m, 1 ≤ p.1 ∧ p.1 ≤ 10000 ∧ p.2 ≤ 64) → Bd low 1 → Bd (lowR l x low m) 1
 | [], low, _, h => h
 | p :: m, low, hm, h => by
  have h1 := hm p List.mem_cons_self
  unfold lowR
  refine bdLow m _ (fun q hq => hm q (List.mem_cons_of_mem _ hq)) ?_
  split
  ·
   exact bdBy p (by omega) (by omega) h1.1
  ·
   exact h
def openN (low : Rat) : List (Nat × Nat) → Nat
 | [] => 0
 | p :: l => (if low < ful p then p.1 else 0) + openN low l
theorem openN_eq (low : Rat) : ∀ l, openR low l = (openN low l : Rat)
 | [] => rfl
 | p :: l => by
  unfold openR openN
  rw [openN_eq low l, Rat.natCast_add]
  split <;> rfl
theorem openN_le (low : Rat) : ∀ l : List (Nat × Nat), (∀ p ∈ l, p.1 ≤ 10000) → openN low l ≤ 10000 * l.length
 | [], _ => Nat.le_refl _
 | p :: l, h => by
  have h1 := h p List.mem_cons_self
  have h2 := openN_le low l fun q hq => h q (List.mem_cons_of_mem _ hq)
  unfold openN
  rw [List.length_cons]
  split <;> omega
theorem tot_low {l : List (Nat × Nat)} {x : Rat} (hx : 0 ≤ x) : tot (lowR l x 0 l) l ≤ x := by
 obtain ⟨_, i2, _⟩ := lowR_facts l x l 0 Rat.le_refl (.inl rfl)
 rcases i2 with h | h
 ·
  rw [h, tot_zero]
  exact hx
 ·
  grind
theorem levR_eq (l : List (Nat × Nat)) (x : Rat) : levR l x = if openN (lowR l x 0 l) l = 0 ∨ x - tot (lowR l x 0 l) l = 0 then lowR l x 0 l else lowR l x 0 l + (x - tot (lowR l x 0 l) l) / (openN (lowR l x 0 l) l : Rat) := by
 unfold levR
 dsimp only
 rw [openN_eq]
 by_cases h : openN (lowR l x 0 l) l = 0
 ·
  rw [if_pos (show ((openN (lowR l x 0 l) l : Nat) : Rat) = 0 ∨ x - tot (lowR l x 0 l) l = 0 from .inl (by rw [h]; rfl)), if_pos (show openN (lowR l x 0 l) l = 0 ∨ x - tot (lowR l x 0 l) l = 0 from .inl h)]
 ·
  have h2 : ((openN (lowR l x 0 l) l : Nat) : Rat) ≠ 0 := Rat.ne_of_gt (Rat.natCast_pos.2 (Nat.pos_of_ne_zero h))
  by_cases h3 : x - tot (lowR l x 0 l) l = 0
  ·
   rw [if_pos (.inr h3), if_pos (.inr h3)]
  ·
   rw [if_neg (fun e => e.elim h2 h3), if_neg (fun e => e.elim h h3)]
theorem bdLev {l : List (Nat × Nat)} (hl : GoodK l) {x : Rat} {k : Nat} (hx : Bd x k) : Bd (levR l x) (k + 100) := by
 have hb := bdLow (l := l) (x := x) l 0 hl.2 bd0
 rw [levR_eq]
 split
 ·
  exact hb.le (by omega)
 ·
  rename_i h
  have ho : openN (lowR l x 0 l) l ≠ 0 := fun e => h (.inl e)
  have hle := openN_le (lowR l x 0 l) l fun p hp => (hl.2 p hp).2.1
  have h32 := hl.1
  have ht := bdTot32 hb hl.1 hl.small
  have hd := (hx.sub ht (tot_low hx.1)).div (bdN (x := openN (lowR l x 0 l) l) (by omega)) (Rat.natCast_pos.2 (by omega))
  exact (hb.add hd).le (by omega)
def pR (r : Rat) : S29 := ⟨rN r, rD r⟩
theorem getD_map {α β : Type} (f : α → β) (l : List α) (i : Nat) (hi : i < l.length) (z : β) : (l.map f).getD i z = f l[i] := by
 rw [List.getD_eq_getElem?_getD, List.getElem?_map, List.getElem?_eq_getElem hi]
 rfl
theorem rdP {α : Type} (f : α → S29) (l : List α) (i : Nat) (hi : i < l.length) : rd_T29 (l.map f) (i : Int) = f l[i] := by
 unfold rd_T29
 rw [Int.toNat_natCast, getD_map f l i hi]
theorem rdC {α : Type} (f : α → S90) (l : List α) (i : Nat) (hi : i < l.length) : rd_T90 (l.map f) (i : Int) = f l[i] := by
 unfold rd_T90
 rw [Int.toNat_natCast, getD_map f l i hi]
def gets (l : List (Nat × Nat)) (x : Rat) : List Rat := l.map (giv (levR l x))
def fillV (x : Rat) (ws cs : List Int) : List S29 × Int := if fillE x ws cs = 0 then ((gets (kids ws cs) x).map pR, 0) else ([], fillE x ws cs)
theorem pFill_l0 {L : Rat} {m : Nat} (hL : Bd L m) (hm : m ≤ 3000) (l : List (Nat × Nat)) (hl : GoodK l) : ∀ (d i : Nat) (acc : List S29), i + d = l.length → acc.length = i →
  Ev (fun k => zba.l0 k acc (l.map chOf) (l.length : Int) (i : Int) (rN L) (rD L)) (acc ++ ((l.drop i).map (giv L)).map pR, 0)
 | 0, i, acc, hi, ha => by
  rw [List.drop_of_length_le (by omega), List.map_nil, List.map_nil, List.append_nil]
  exact Ev.step (fun _ => zba.l0.eq_2 ..) (Ev.neg (by omega) (Ev.const _))
 | d + 1, i, acc, hi, ha => by
  have hil : i < l.length := by omega
  have h32 := hl.1
  have hpi := hl.2 l[i] (List.getElem_mem hil)
  refine Ev.step (fun _ => zba.l0.eq_2 ..) (Ev.pos (by omega) (Ev.pos (by omega) (Ev.pos (by rw [List.length_map]; omega) ?_)))
  rw [rdC chOf l i hil, show wrap64 ((i : Int) + 1) = ((i + 1 : Nat) : Int) by unfold wrap64; omega]
  refine Ev.bind (gGiven hL hm l[i] (by omega) (by omega)) (Ev.pos (by omega) ?_)
  have h := pFill_l0 hL hm l hl d (i + 1) (acc ++ [pR (giv L l[i])]) (by omega) (by rw [List.length_append, ha]; rfl)
  rw [List.drop_eq_getElem_cons hil, List.map_cons, List.map_cons]
  rw [List.append_assoc] at h
  exact h
theorem pFill {x : Rat} {m : Nat} (hx : Bd x m) (hm : m ≤ 2900) {ws cs : List Int} (hw : ws.length ≤ 1000) (hc : cs.length ≤ 1000) : Ev (fun k => zba.f k (rN x) (rD x) ws cs) (fillV x ws cs) := by
 have h1 : Ev (fun k => zc3.f k (rN x) (rD x) ws cs) (chV x ws cs) := Ev.of fun _ => chF_rt (hx.le (by omega)) hw hc
 unfold fillV
 by_cases he : fillE x ws cs = 0
 ·
  have h2 : chV x ws cs = ((kids ws cs).map chOf, 0) := if_pos he
  rw [h2] at h1
  rw [if_pos he]
  obtain ⟨e1, hg, hxc, -, -⟩ := fillE_good he
  have h3 : Ev (fun k => fill_level.f k (rN x) (rD x) ((kids ws cs).map chOf)) (rN (levR (kids ws cs) x), rD (levR (kids ws cs) x)) := Ev.of fun _ => lvF_rt (hx.le (by omega)) hg hxc
  refine Ev.bind h1 (Ev.pos rfl (Ev.bind h3 ?_))
  have h4 := pFill_l0 (bdLev hg hx) (by omega) (kids ws cs) hg (kids ws cs).length 0 [] (by omega) rfl
  rw [List.drop_zero, List.nil_append] at h4
  have e : (((kids ws cs).map chOf).length : Int) = ((kids ws cs).length : Int) := by rw [List.length_map]
  dsimp only
  rw [e]
  exact h4
 ·
  have h2 : chV x ws cs = ([], fillE x ws cs) := if_neg he
  rw [h2] at h1
  rw [if_neg he]
  exact Ev.bind h1 (Ev.neg he (Ev.const _))
theorem bothX (a b : Int) (ha : a < 9223372036854775808) (hb : b < 9223372036854775808) : ∃ x, Bd x 1 ∧ Ev (fun k => zat.f k a b) (rN x, rD x, sN x, sD x) := by
 obtain ⟨n, hn, hn2⟩ : ∃ n : Nat, mx a 0 = (n : Int) ∧ n < 9223372036854775808 := by
  unfold mx
  split
  ·
   exact ⟨0, rfl, by omega⟩
  ·
   exact ⟨a.toNat, by omega, by omega⟩
 obtain ⟨m, hm, hm2, hm3⟩ : ∃ m : Nat, mx b 1 = (m : Int) ∧ m < 9223372036854775808 ∧ 1 ≤ m := by
  unfold mx
  split
  ·
   exact ⟨1, rfl, by omega, by omega⟩
  ·
   exact ⟨b.toNat, by omega, by omega, by omega⟩
 have p1 : n < 18446744073709551616 ^ 1 := by rw [Nat.pow_one]; omega
 have p2 : m < 18446744073709551616 ^ 1 := by rw [Nat.pow_one]; omega
 refine ⟨mkRat (n : Int) m, Bd.mk (by omega) p1 p2, ?_⟩
 unfold zat.f
 rw [hn, hm, u64s (by omega) (by omega), u64s (by omega) (by omega)]
 exact Ev.bind (nOf n (by omega)) (Ev.bind (nOf m (by omega)) (Ev.bind (qOf (by omega) p1 p2 (by omega)) (Ev.bind (rOf n (by omega)) (Ev.bind (rOf m (by omega)) (Ev.bind (dOf (by omega) p1 p2 (by omega)) (Ev.const _))))))
end Go.Proofs.YthiicmanfpmipaaGreatDoor.P
end
