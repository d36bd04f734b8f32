-- Written by a program of this session (wip/tools/shake.py) out of its own texts and of the kit's printed ones; not trusted: Lean checks it.
import Derived.Test.YthiicmanfpmipaaGreatDoorZFillCaps9
set_option maxHeartbeats 8000000
set_option maxRecDepth 100000
set_option linter.unusedVariables false
set_option linter.unusedSimpArgs false
section
namespace Go.Proofs.YthiicmanfpmipaaGreatDoor.P
open Go.RowKit Go.Proofs.YthiicmanfpmipaaGreatDoorW.PrintWords Go.Proofs.YthiicmanfpmipaaGreatDoorW.PrintLast Go.Proofs.YthiicmanfpmipaaGreatDoorW.PrintMore
attribute [local go_sem] zcf zci zcu zct zb6 zb2 zch zce
mutual
def zac.j0 : Nat → List Int → List Int → Bool → Int → Int → Option (Bool)
 | 0, _, _, _, _, _ => none
 | k + 1, x1, x2, x24, x518000, x518001 => if x24 = true then ((zbw.f k).bind fun t519 => (some t519)) else ((zaw.f k x518000 x518001).bind fun bt520 => ((zbz.f k bt520.1 bt520.2.1 x1 x2).bind fun bt534 => (if bt534.2 = 0 then (if (bt534.1.length : Int) = (x1.length : Int) then (zac.l0 k x1 x2 bt534.1 (bt534.1.length : Int) 0) else (none)) else (some true))))
def zac.l0 : Nat → List Int → List Int → List (S29) → Int → Int → Option (Bool)
 | 0, _, _, _, _, _ => none
 | k + 1, x1, x2, x9, x46, x47 => if x47 < x46 then (if 0 ≤ x47 then (if x47 < (x9.length : Int) then (if x47 < (x2.length : Int) then ((zb9.f k (rd x2 x47)).bind fun bt540 => ((zc9.f k ((rd_T29 x9 x47).f0) ((rd_T29 x9 x47).f1) bt540.1 bt540.2).bind fun t546 => (if t546 > 0 then (none) else (zac.l1 k x1 x2 x9 x47 x46 x47 (x9.length : Int) 0)))) else (none)) else (none)) else (none)) else (some true)
def zac.l1 : Nat → List Int → List Int → List (S29) → Int → Int → Int → Int → Int → Option (Bool)
 | 0, _, _, _, _, _, _, _, _ => none
 | k + 1, x1, x2, x9, x11, x46, x47, x62, x63 => if x63 < x62 then (if 0 ≤ x11 then (if x11 < (x9.length : Int) then (if x11 < (x2.length : Int) then ((zb9.f k (rd x2 x11)).bind fun bt549 => ((zc9.f k ((rd_T29 x9 x11).f0) ((rd_T29 x9 x11).f1) bt549.1 bt549.2).bind fun t555 => (if t555 < 0 then (if 0 ≤ x63 then (if x63 < (x1.length : Int) then ((zb9.f k (rd x1 x63)).bind fun bt558 => ((zco.f k ((rd_T29 x9 x11).f0) ((rd_T29 x9 x11).f1) bt558.1 bt558.2).bind fun bt564 => (if x63 < (x9.length : Int) then (if x11 < (x1.length : Int) then ((zb9.f k (rd x1 x11)).bind fun bt572 => ((zco.f k ((rd_T29 x9 x63).f0) ((rd_T29 x9 x63).f1) bt572.1 bt572.2).bind fun bt578 => ((zc9.f k bt564.1 bt564.2 bt578.1 bt578.2).bind fun t584 => (if t584 < 0 then (none) else (zac.l1 k x1 x2 x9 x11 x46 x47 x62 (wrap64 (x63 + 1))))))) else (none)) else (none)))) else (none)) else (none)) else (zac.l1 k x1 x2 x9 x11 x46 x47 x62 (wrap64 (x63 + 1)))))) else (none)) else (none)) else (none)) else (zac.l0 k x1 x2 x9 x46 (wrap64 (x47 + 1)))
end
def zac.f (k : Nat) (a0_0 : Int) (a0_1 : Int) (l1 : List Int) (l2 : List Int) : Option (Bool) := (zbw.f k).bind fun t518 => (if t518 = true then (if (l1.length : Int) > 12 then (zac.j0 k l1 l2 true a0_0 a0_1) else (zac.j0 k l1 l2 (decide ((l2.length : Int) > 12)) a0_0 a0_1)) else (zac.j0 k l1 l2 true a0_0 a0_1))
def zac.T12 : Bool × List (List Nat × List Nat) := (true, [([], []), ([], []), ([0, 1], [0, 1]), ([2], [2]), ([], []), ([], []), ([4, 5], [4, 5]), ([6], [6]), ([7], [7]), ([3, 8, 8], [3, 8]), ([9], [9])])
def zac.B12 : List Nat := [0, 0, 3, 7, 0, 0, 48, 112, 240, 511, 1023]
theorem zac.tab12 : rtab .any (opsOf Tryz.f3 12) = zac.T12 := by kernel_rfl
theorem zac.bits12 : waitsOk zac.T12.2 zac.B12 = true := by kernel_rfl
def zac.T17 : Bool × List (List Nat × List Nat) := (true, [([], []), ([], []), ([0, 1], [0, 1]), ([2], [2]), ([], []), ([], []), ([4, 5], [4, 5]), ([6], [6]), ([7], [7]), ([3, 8, 8], [3, 8]), ([9], [9]), ([10, 9], [10]), ([11], [11]), ([11], [11]), ([12, 13, 11], [11, 12, 13]), ([14, 11], [11, 14]), ([11], [11]), ([11], [11]), ([16, 17, 11], [11, 16, 17]), ([18, 11], [11, 18]), ([19, 11, 11], [11, 19]), ([15, 20, 20, 11], [11, 15, 20]), ([11], [11]), ([11], [11]), ([22, 23, 11], [11, 22, 23]), ([24, 11], [11, 24]), ([11], [11]), ([11], [11]), ([26, 27, 11], [11, 26, 27]), ([28, 11], [11, 28]), ([29, 21, 11], [11, 29]), ([25, 30, 30, 11], [11, 25, 30]), ([21, 31, 31, 11], [11, 21, 31]), ([32, 11], [11, 32]), ([11, 33], [11, 33])])
def zac.B17 : List Nat := [0, 0, 3, 7, 0, 0, 48, 112, 240, 511, 1023, 2047, 4095, 4095, 16383, 32767, 4095, 4095, 200703, 462847, 987135, 2097151, 4095, 4095, 12587007, 29364223, 4095, 4095, 201330687, 469766143, 1010827263, 2147483647, 4294967295, 8589934591, 17179869183]
theorem zac.tab17 : rtab .any (opsOf Tryz.f3 17) = zac.T17 := by kernel_rfl
theorem zac.bits17 : waitsOk zac.T17.2 zac.B17 = true := by kernel_rfl
theorem zac.calls (k : Nat) (a0_0 : Int) (a0_1 : Int) (A1 : Option Addr) (c1 : Nat) (l1 : List Int) (A2 : Option Addr) (c2 : Nat) (l2 : List Int) (r : Bool) (w : World) (hr1 : Kd.C (Kd.int .i64) w A1 l1.length l1) (hc1 : l1.length ≤ c1) (hr2 : Kd.C (Kd.int .i64) w A2 l2.length l2) (hc2 : l2.length ≤ c2) (hG : Glob w) (h : zac.f k a0_0 a0_1 l1 l2 = some r) :
  Calls Tryz.prog 3 #[.agg #[.int .i64 a0_0, .int .i64 a0_1], .slice A1 l1.length c1, .slice A2 l2.length c2] w fun e w' => e = .returned (.bool r) ∧ Below w.heap.size w w' := by
 have hu23 := Tryz.underlying23
 have hu29 := Tryz.underlying29
 have hu32 := Tryz.underlying32
 have HR1 := zA hr1
 have HC1 := zA hc1
 clear hr1 hc1
 have HR2 := zA hr2
 have HC2 := zA hc2
 clear hr2 hc2
 have HG := zA hG
 clear hG
 have HB := zA (Below.refl w.heap.size w)
 have H : ((zbw.f k).bind fun t518 => (if t518 = true then (if (l1.length : Int) > 12 then (zac.j0 k l1 l2 true a0_0 a0_1) else (zac.j0 k l1 l2 (decide ((l2.length : Int) > 12)) a0_0 a0_1)) else (zac.j0 k l1 l2 true a0_0 a0_1))) = some r := h
 clear h
 have HC4 := zA H
 clear H
 go_enter Tryz.func3, Tryz.ntmps3
 go_upto_region 1 with (first | ((with_reducible refine za8 (N := 3) rfl ?_); (try (refine zcd (by rfl) ?_; dsimp only)); refine zbd ?hg (N := 3) ?hd (cs := #[.int .i64 a0_0, .int .i64 a0_1]) (t := 23) ?hr ?_; (case hd => rfl); (case hg => rfl); (case hr => first | (go_simp; done) | (go_simp; rfl)); intro gb517 hg w5 hbox hb; have n0_ := zA (zaa (zB HB) hb); have n1_ := zA (hbox); have n3_ := zA ((by rw [hg]; exact (za (zB HB)) : w.heap.size ≤ gb517)); clear HB; have HB := n0_; have BK517 := n1_; have GE517 := n3_; clear n0_ n1_ n3_ hb hbox hg))
 (try simp only [Act.put, zs1, zs2, zs3])
 go_cut [24] (fun v24 wc => ∃ (kq : Nat) (x24_3 : Bool), v24 = .bool x24_3 ∧ Aside0 (zac.j0 kq l1 l2 x24_3 a0_0 a0_1 = some r) ∧ Aside0 (kq ≤ k) ∧ Aside0 (wc.heap[gb517]? = some (.cells #[.int .i64 a0_0, .int .i64 a0_1] 23 (0, 0))) ∧ Aside0 (Below w.heap.size w wc))
 case first =>
  have H := HC4.out
  clear HC4
  replace H := zO H
  obtain ⟨t518, A60, H⟩ := H
  try dsimp only at H
  have A6 := zA A60
  clear A60
  by_cases c7 : t518 = true
  ·
   subst c7
   rw [if_pos rfl] at H
   by_cases c8 : (l1.length : Int) > 12
   ·
    rw [if_pos c8] at H
    have c8b0 : decide (12 < (l1.length : Int)) = true := decide_eq_true c8
    have c8b1 : decide (12 < l1.length) = true := decide_eq_true (by omega)
    clear c8
    (first | rw [c8b0] | (simp only [i64_w, i32_w]; rw [c8b0]) | skip)
    have H' := zA H
    clear H
    go_wp2_with (first | ((with_reducible refine zae (f := 14) rfl ?_); refine za2 (some 13) rfl rfl Tryz.func14 (by kernel_rfl) rfl #[] rfl (zE) ?_; (with_reducible refine (zbw.calls k  true _ ?side1 A6.out).mono ?_); (case side1 => exact Glob.below HG.out (zB HB)); rintro e w9 ⟨rfl, hb⟩; refine ⟨_, rfl, ?_⟩; have n0_ := zA (zad (g := gb517) (o := .cells #[.int .i64 a0_0, .int .i64 a0_1] 23 (0, 0)) (zK BK517) hb); have n1_ := zA (zaa (zB HB) hb); clear BK517 HB; have BK517 := n0_; have HB := n1_; clear n0_ n1_; (try clear hb); (try clear hb2); (try clear hk); (try clear hi)))
    go_meet
    case rel => exact ⟨_, (true), (zF), H', ⟨by first | omega | exact Nat.le_refl _⟩, ⟨zK BK517⟩, ⟨zB HB⟩⟩
   ·
    rw [if_neg c8] at H
    have c8b0 : decide (12 < (l1.length : Int)) = false := decide_eq_false c8
    have c8b1 : decide (12 < l1.length) = false := decide_eq_false (by omega)
    clear c8
    (first | rw [c8b0] | (simp only [i64_w, i32_w]; rw [c8b0]) | skip)
    have H' := zA H
    clear H
    go_wp2_with (first | ((with_reducible refine zae (f := 14) rfl ?_); refine za2 (some 13) rfl rfl Tryz.func14 (by kernel_rfl) rfl #[] rfl (zE) ?_; (with_reducible refine (zbw.calls k  true _ ?side1 A6.out).mono ?_); (case side1 => exact Glob.below HG.out (zB HB)); rintro e w10 ⟨rfl, hb⟩; refine ⟨_, rfl, ?_⟩; have n0_ := zA (zad (g := gb517) (o := .cells #[.int .i64 a0_0, .int .i64 a0_1] 23 (0, 0)) (zK BK517) hb); have n1_ := zA (zaa (zB HB) hb); clear BK517 HB; have BK517 := n0_; have HB := n1_; clear n0_ n1_; (try clear hb); (try clear hb2); (try clear hk); (try clear hi)))
    go_meet
    case rel => exact ⟨_, (decide ((l2.length : Int) > 12)), (zF), H', ⟨by first | omega | exact Nat.le_refl _⟩, ⟨zK BK517⟩, ⟨zB HB⟩⟩
  ·
   replace c7 := Bool.eq_false_iff.mpr c7
   subst c7
   rw [if_neg (show ¬ (false = true) by decide)] at H
   have H' := zA H
   clear H
   go_wp2_with (first | ((with_reducible refine zae (f := 14) rfl ?_); refine za2 (some 13) rfl rfl Tryz.func14 (by kernel_rfl) rfl #[] rfl (zE) ?_; (with_reducible refine (zbw.calls k  false _ ?side1 A6.out).mono ?_); (case side1 => exact Glob.below HG.out (zB HB)); rintro e w11 ⟨rfl, hb⟩; refine ⟨_, rfl, ?_⟩; have n0_ := zA (zad (g := gb517) (o := .cells #[.int .i64 a0_0, .int .i64 a0_1] 23 (0, 0)) (zK BK517) hb); have n1_ := zA (zaa (zB HB) hb); clear BK517 HB; have BK517 := n0_; have HB := n1_; clear n0_ n1_; (try clear hb); (try clear hb2); (try clear hk); (try clear hi)))
   go_meet
   case rel => exact ⟨_, (true), (zF), H', ⟨by first | omega | exact Nat.le_refl _⟩, ⟨zK BK517⟩, ⟨zB HB⟩⟩
 case rest =>
  clear HC4
  try clear c1
  try clear c2
  try clear p2
  try clear c3
  try clear p6
  try clear c7
  try clear c8
  try clear c8b0
  try clear c8b1
  obtain ⟨kq, x24_3, rfl, HA, HJ3, BK517, HB⟩ := hcut
  cases kq with
  | zero => exact absurd HA.out (by simp [zac.j0])
  | succ kj3 =>
   have H := HA.out
   clear HA
   simp only [zac.j0] at H
   by_cases c12 : x24_3 = true
   ·
    subst c12
    rw [if_pos rfl] at H
    replace H := zO H
    obtain ⟨t519, A130, H⟩ := H
    try dsimp only at H
    have A13 := zA A130
    clear A130
    obtain rfl := Option.some.inj H
    go_wp2_with (first | ((with_reducible refine zae (f := 14) rfl ?_); refine za2 (some 25) rfl rfl Tryz.func14 (by kernel_rfl) rfl #[] rfl (zE) ?_; (with_reducible refine (zbw.calls kj3  t519 _ ?side1 A13.out).mono ?_); (case side1 => exact Glob.below HG.out (zB HB)); rintro e w14 ⟨rfl, hb⟩; refine ⟨_, rfl, ?_⟩; have n1_ := zA (zaa (zB HB) hb); clear HB; have HB := n1_; clear n1_; (try clear hb); (try clear hb2); (try clear hk); (try clear hi)))
    go_ret
    exact ⟨zW, zB HB⟩
   ·
    replace c12 := Bool.eq_false_iff.mpr c12
    subst c12
    rw [if_neg (show ¬ (false = true) by decide)] at H
    replace H := zO H
    obtain ⟨⟨t520, t523, t526, t529⟩, A150, H⟩ := H
    try dsimp only at H
    have A15 := zA A150
    clear A150
    replace H := zO H
    obtain ⟨⟨t534, t537⟩, A160, H⟩ := H
    try dsimp only at H
    have A16 := zA A160
    clear A160
    by_cases c17 : t537 = 0
    ·
     rw [if_pos c17] at H
     have c17b0 : (t537 == 0) = true := beq_iff_eq.mpr c17
     have c17b1 : (t537 != 0) = false := bne_eq_false_iff_eq.mpr c17
     clear c17
     by_cases c18 : (t534.length : Int) = (l1.length : Int)
     ·
      rw [if_pos c18] at H
      have c18b0 : ((t534.length : Int) == (l1.length : Int)) = true := beq_iff_eq.mpr c18
      have c18b1 : ((t534.length : Int) != (l1.length : Int)) = false := bne_eq_false_iff_eq.mpr c18
      have c18b2 : (t534.length == l1.length) = true := by first | simpa using c18 | (simp at c18 ⊢; omega)
      clear c18
      have H' := zA H
      clear H
      have hcz19_0 : wc.cell? ⟨gb517, 0, none⟩ = some (.int .i64 a0_0) := (zab BK517.out 0).trans rfl
      have hcz19_1 : wc.cell? ⟨gb517, 1, none⟩ = some (.int .i64 a0_1) := (zab BK517.out 1).trans rfl
      have hfz19_0 := zal BK517.out 0
      have hfz19_1 := zal BK517.out 1
      go_wp2_with (first | ((with_reducible refine zae (f := 15) rfl ?_); refine za2 (some 28) rfl rfl Tryz.func15 (by kernel_rfl) rfl #[.agg #[.int .i64 a0_0, .int .i64 a0_1]] rfl (zE) ?_; (with_reducible refine (zaw.calls kj3 a0_0 a0_1 t520 t523 t526 t529 _ A15.out).mono ?_); rintro e w20 ⟨v521, v524, v527, v530, rfl, ho0, ho1, ho2, ho3, hb⟩; refine ⟨_, rfl, ?_⟩; have n0_ := zA (Kd.zaz (Kd.zam (ok' := fun k_ => some k_ ≠ (v527 : Value).ownBlock ∧ some k_ ≠ (v530 : Value).ownBlock ∧ k_ ≠ gb517) ho0 (fun k_ hk_ => ⟨hk_.2.1, hk_.2.2, (Kd.freshB (g := gb517) (o := .cells #[.int .i64 a0_0, .int .i64 a0_1] 23 (0, 0)) (zK BK517) k_ hk_.1)⟩)) (za (zB HB))); have n1_ := zA (Kd.zaz (Kd.zam (ok' := fun k_ => some k_ ≠ (v527 : Value).ownBlock ∧ some k_ ≠ (v530 : Value).ownBlock ∧ k_ ≠ gb517) ho1 (fun k_ hk_ => ⟨hk_.2.1, hk_.2.2, (Kd.freshB (g := gb517) (o := .cells #[.int .i64 a0_0, .int .i64 a0_1] 23 (0, 0)) (zK BK517) k_ hk_.1)⟩)) (za (zB HB))); have n2_ := zA (Kd.zbs (Kd.zbp (ok' := fun k_ => some k_ ≠ (v530 : Value).ownBlock) ho2 (fun _ hk_ => hk_.2)) (za (zB HB))); have n3_ := zA (Kd.zbs (Kd.zbp (ok' := fun k_ => some k_ ≠ (v527 : Value).ownBlock) ho3 (fun _ hk_ => hk_.2)) (za (zB HB))); have n4_ := zA (zad (g := gb517) (o := .cells #[.int .i64 a0_0, .int .i64 a0_1] 23 (0, 0)) (zK BK517) hb); have n5_ := zA (zaa (zB HB) hb); clear BK517 HB; have HO522 := n0_; have HO525 := n1_; have HO528 := n2_; have HO531 := n3_; have BK517 := n4_; have HB := n5_; clear n0_ n1_ n2_ n3_ n4_ n5_; (try clear hb); (try clear hb2); (try clear hk); (try clear hi); (try clear ho0); (try clear ho1); (try clear ho2); (try clear ho3)) | ((with_reducible refine za8 (N := 7) rfl ?_); (try (refine zcd (by rfl) ?_; dsimp only)); refine zbd ?hg (N := 7) ?hd (cs := #[.slice none 0 0, .slice none 0 0]) (t := 29) ?hr ?_; (case hd => rfl); (case hg => rfl); (case hr => first | (go_simp; done) | (go_simp; rfl)); intro gb532 hg w21 hbox hb; have n0_ := zA (Kd.zau (Kd.zcz (zV HO522) gb532 (Nat.le_of_eq hg.symm)) hb); have n1_ := zA (Kd.zau (Kd.zcz (zV HO525) gb532 (Nat.le_of_eq hg.symm)) hb); have n2_ := zA (Kd.zbf (zR HO528) hb); have n3_ := zA (Kd.zbf (zR HO531) hb); have n4_ := zA (zad (g := gb517) (o := .cells #[.int .i64 a0_0, .int .i64 a0_1] 23 (0, 0)) (zK BK517) hb); have n5_ := zA (zaa (zB HB) hb); have n6_ := zA (hbox); have n8_ := zA ((by rw [hg]; exact (za (zB HB)) : w.heap.size ≤ gb532)); have n9_ := zA ((by rw [hg]; exact Nat.ne_of_lt (zax (g := gb517) (o := .cells #[.int .i64 a0_0, .int .i64 a0_1] 23 (0, 0)) (zK BK517)) : gb517 ≠ gb532)); have n10_ := zA ((by rw [hg]; exact Nat.ne_of_gt (zax (g := gb517) (o := .cells #[.int .i64 a0_0, .int .i64 a0_1] 23 (0, 0)) (zK BK517)) : gb532 ≠ gb517)); clear HO522 HO525 HO528 HO531 BK517 HB; have HO522 := n0_; have HO525 := n1_; have HO528 := n2_; have HO531 := n3_; have BK517 := n4_; have HB := n5_; have BK532 := n6_; have GE532 := n8_; have NB517_532 := n9_; have NB532_517 := n10_; clear n0_ n1_ n2_ n3_ n4_ n5_ n6_ n8_ n9_ n10_ hb hbox hg) | ((with_reducible refine za8 (N := 8) rfl ?_); (try (refine zcd (by rfl) ?_; dsimp only)); refine zbd ?hg (N := 8) ?hd (cs := #[.slice none 0 0, .slice none 0 0]) (t := 32) ?hr ?_; (case hd => rfl); (case hg => rfl); (case hr => first | (go_simp; done) | (go_simp; rfl)); intro gb533 hg w22 hbox hb; have n0_ := zA (Kd.zau (Kd.zcz (zV HO522) gb533 (Nat.le_of_eq hg.symm)) hb); have n1_ := zA (Kd.zau (Kd.zcz (zV HO525) gb533 (Nat.le_of_eq hg.symm)) hb); have n2_ := zA (Kd.zbf (zR HO528) hb); have n3_ := zA (Kd.zbf (zR HO531) hb); have n4_ := zA (zad (g := gb517) (o := .cells #[.int .i64 a0_0, .int .i64 a0_1] 23 (0, 0)) (zK BK517) hb); have n5_ := zA (zad (g := gb532) (o := .cells #[.slice none 0 0, .slice none 0 0] 29 (0, 0)) (zK BK532) hb); have n6_ := zA (zaa (zB HB) hb); have n7_ := zA (hbox); have n9_ := zA ((by rw [hg]; exact (za (zB HB)) : w.heap.size ≤ gb533)); have n10_ := zA ((by rw [hg]; exact Nat.ne_of_lt (zax (g := gb517) (o := .cells #[.int .i64 a0_0, .int .i64 a0_1] 23 (0, 0)) (zK BK517)) : gb517 ≠ gb533)); have n11_ := zA ((by rw [hg]; exact Nat.ne_of_gt (zax (g := gb517) (o := .cells #[.int .i64 a0_0, .int .i64 a0_1] 23 (0, 0)) (zK BK517)) : gb533 ≠ gb517)); have n12_ := zA ((by rw [hg]; exact Nat.ne_of_lt (zax (g := gb532) (o := .cells #[.slice none 0 0, .slice none 0 0] 29 (0, 0)) (zK BK532)) : gb532 ≠ gb533)); have n13_ := zA ((by rw [hg]; exact Nat.ne_of_gt (zax (g := gb532) (o := .cells #[.slice none 0 0, .slice none 0 0] 29 (0, 0)) (zK BK532)) : gb533 ≠ gb532)); clear HO522 HO525 HO528 HO531 BK517 BK532 HB; have HO522 := n0_; have HO525 := n1_; have HO528 := n2_; have HO531 := n3_; have BK517 := n4_; have BK532 := n5_; have HB := n6_; have BK533 := n7_; have GE533 := n9_; have NB517_533 := n10_; have NB533_517 := n11_; have NB532_533 := n12_; have NB533_532 := n13_; clear n0_ n1_ n2_ n3_ n4_ n5_ n6_ n7_ n9_ n10_ n11_ n12_ n13_ hb hbox hg; obtain ⟨Ao23, co23, eo23⟩ := Kd.za1 HO522.out; subst eo23; have hnb24 := NB532_517.out; have hnc24 := NB517_532.out; have hnb25 := NB532_533.out; have hnc25 := NB533_532.out; have hcz26_0 : w22.cell? ⟨gb532, 0, none⟩ = some (.slice none 0 0) := (zab BK532.out 0).trans rfl; have hcz26_1 : w22.cell? ⟨gb532, 1, none⟩ = some (.slice none 0 0) := (zab BK532.out 1).trans rfl; have hfz26_0 := zal BK532.out 0; have hfz26_1 := zal BK532.out 1; obtain ⟨Ao27, co27, eo27⟩ := Kd.za1 HO525.out; subst eo27; obtain ⟨Ao28, co28, eo28⟩ := Kd.zbm HO528.out; subst eo28; have hnb29 := NB533_517.out; have hnc29 := NB517_533.out; have hcz30_0 : w22.cell? ⟨gb533, 0, none⟩ = some (.slice none 0 0) := (zab BK533.out 0).trans rfl; have hcz30_1 : w22.cell? ⟨gb533, 1, none⟩ = some (.slice none 0 0) := (zab BK533.out 1).trans rfl; have hfz30_0 := zal BK533.out 0; have hfz30_1 := zal BK533.out 1; obtain ⟨Ao31, co31, eo31⟩ := Kd.zbm HO531.out; subst eo31) | ((with_reducible refine zae (f := 16) rfl ?_); refine za2 (some 35) rfl rfl Tryz.func16 (by kernel_rfl) rfl #[.agg #[.slice Ao23 t520.length co23, .slice Ao27 t523.length co27], .slice A1 l1.length c1, .slice A2 l2.length c2] rfl (zE) ?_; (with_reducible refine (zbz.calls kj3 _ _ t520 _ _ t523 _ _ l1 _ _ l2 t534 t537 _ ?side1 ?side2 ?side3 ?side4 ?side5 ?side6 ?side7 ?side8 A16.out).mono ?_); (case side1 => refine (Kd.zak (e := 82) (base := w.heap.size) (ok := fun k_ => (((some k_ ≠ (.slice Ao28 t526.length co28 : Value).ownBlock ∧ (some k_ ≠ (.slice Ao31 t529.length co31 : Value).ownBlock ∧ k_ ≠ gb517)) ∧ k_ ≠ gb532) ∧ k_ ≠ gb533)) (n := t520.length) (c := co23) ?_).2.2; exact (by (with_reducible repeat (first | apply Kd.zbr | apply Kd.zbq | apply Kd.zbt)); exact (Kd.zam (Kd.zam (Kd.V_far (p := ⟨gb533, 1, none⟩) (Kd.V_far (p := ⟨gb533, 0, none⟩) (Kd.V_far (p := ⟨gb532, 1, none⟩) (Kd.V_far (p := ⟨gb532, 0, none⟩) (Kd.zam (Kd.zam HO522.out (fun k_ hk => (⟨hk, hk.1.2⟩ : _ ∧ k_ ≠ gb532))) (fun k_ hk => (⟨hk, hk.1.2⟩ : _ ∧ k_ ≠ gb533))) (fun _ hk => hk.1.2) (.slice Ao23 t520.length co23)) (fun _ hk => hk.1.2) (.slice Ao27 t523.length co27)) (fun _ hk => hk.2) (.slice Ao28 t526.length co28)) (fun _ hk => hk.2) (.slice Ao31 t529.length co31)) (fun _ h_ => h_.1)) (fun _ h_ => h_.1)))); (case side2 => exact (Kd.zak HO522.out).2.1); (case side3 => refine (Kd.zak (e := 82) (base := w.heap.size) (ok := fun k_ => (((some k_ ≠ (.slice Ao28 t526.length co28 : Value).ownBlock ∧ (some k_ ≠ (.slice Ao31 t529.length co31 : Value).ownBlock ∧ k_ ≠ gb517)) ∧ k_ ≠ gb532) ∧ k_ ≠ gb533)) (n := t523.length) (c := co27) ?_).2.2; exact (by (with_reducible repeat (first | apply Kd.zbr | apply Kd.zbq | apply Kd.zbt)); exact (Kd.zam (Kd.zam (Kd.V_far (p := ⟨gb533, 1, none⟩) (Kd.V_far (p := ⟨gb533, 0, none⟩) (Kd.V_far (p := ⟨gb532, 1, none⟩) (Kd.V_far (p := ⟨gb532, 0, none⟩) (Kd.zam (Kd.zam HO525.out (fun k_ hk => (⟨hk, hk.1.2⟩ : _ ∧ k_ ≠ gb532))) (fun k_ hk => (⟨hk, hk.1.2⟩ : _ ∧ k_ ≠ gb533))) (fun _ hk => hk.1.2) (.slice Ao23 t520.length co23)) (fun _ hk => hk.1.2) (.slice Ao27 t523.length co27)) (fun _ hk => hk.2) (.slice Ao28 t526.length co28)) (fun _ hk => hk.2) (.slice Ao31 t529.length co31)) (fun _ h_ => h_.1)) (fun _ h_ => h_.1)))); (case side4 => exact (Kd.zak HO525.out).2.1); (case side5 => exact Kd.zas HR1.out (zB HB)); (case side6 => exact HC1.out); (case side7 => exact Kd.zas HR2.out (zB HB)); (case side8 => exact HC2.out); rintro e w32 ⟨v535, rfl, ho0, hb⟩; refine ⟨_, rfl, ?_⟩; have n0_ := zA (Kd.zb8 (by (with_reducible repeat (first | apply Kd.zbr | apply Kd.zbq | apply Kd.zbt)); exact (Kd.zam (Kd.zam (Kd.V_far (p := ⟨gb533, 1, none⟩) (Kd.V_far (p := ⟨gb533, 0, none⟩) (Kd.V_far (p := ⟨gb532, 1, none⟩) (Kd.V_far (p := ⟨gb532, 0, none⟩) (Kd.zam (Kd.zam HO522.out (fun k_ hk => (⟨hk, hk.1.2⟩ : _ ∧ k_ ≠ gb532))) (fun k_ hk => (⟨hk, hk.1.2⟩ : _ ∧ k_ ≠ gb533))) (fun _ hk => hk.1.2) (.slice Ao23 t520.length co23)) (fun _ hk => hk.1.2) (.slice Ao27 t523.length co27)) (fun _ hk => hk.2) (.slice Ao28 t526.length co28)) (fun _ hk => hk.2) (.slice Ao31 t529.length co31)) (fun _ h_ => h_.1)) (fun _ h_ => h_.1))) (Kd.N_base ho0) hb); have n1_ := zA (Kd.zb8 (by (with_reducible repeat (first | apply Kd.zbr | apply Kd.zbq | apply Kd.zbt)); exact (Kd.zam (Kd.zam (Kd.V_far (p := ⟨gb533, 1, none⟩) (Kd.V_far (p := ⟨gb533, 0, none⟩) (Kd.V_far (p := ⟨gb532, 1, none⟩) (Kd.V_far (p := ⟨gb532, 0, none⟩) (Kd.zam (Kd.zam HO525.out (fun k_ hk => (⟨hk, hk.1.2⟩ : _ ∧ k_ ≠ gb532))) (fun k_ hk => (⟨hk, hk.1.2⟩ : _ ∧ k_ ≠ gb533))) (fun _ hk => hk.1.2) (.slice Ao23 t520.length co23)) (fun _ hk => hk.1.2) (.slice Ao27 t523.length co27)) (fun _ hk => hk.2) (.slice Ao28 t526.length co28)) (fun _ hk => hk.2) (.slice Ao31 t529.length co31)) (fun _ h_ => h_.1)) (fun _ h_ => h_.1))) (Kd.N_base ho0) hb); have n2_ := zA (Kd.zbf (by (with_reducible repeat (first | apply Kd.zca | apply Kd.zcb | apply Kd.zcl)); exact (Kd.zbp (Kd.zbp (Kd.R_far (p := ⟨gb533, 1, none⟩) (Kd.R_far (p := ⟨gb533, 0, none⟩) (Kd.R_far (p := ⟨gb532, 1, none⟩) (Kd.R_far (p := ⟨gb532, 0, none⟩) (Kd.zdk (Kd.zdk HO528.out BK532.out (by decide)) BK533.out (by decide)) (fun _ hk => hk.1.2) (.slice Ao23 t520.length co23)) (fun _ hk => hk.1.2) (.slice Ao27 t523.length co27)) (fun _ hk => hk.2) (.slice Ao28 t526.length co28)) (fun _ hk => hk.2) (.slice Ao31 t529.length co31)) (fun _ h_ => h_.1)) (fun _ h_ => h_.1))) hb); have n3_ := zA (Kd.zbf (by (with_reducible repeat (first | apply Kd.zca | apply Kd.zcb | apply Kd.zcl)); exact (Kd.zbp (Kd.zbp (Kd.R_far (p := ⟨gb533, 1, none⟩) (Kd.R_far (p := ⟨gb533, 0, none⟩) (Kd.R_far (p := ⟨gb532, 1, none⟩) (Kd.R_far (p := ⟨gb532, 0, none⟩) (Kd.zdk (Kd.zdk HO531.out BK532.out (by decide)) BK533.out (by decide)) (fun _ hk => hk.1.2) (.slice Ao23 t520.length co23)) (fun _ hk => hk.1.2) (.slice Ao27 t523.length co27)) (fun _ hk => hk.2) (.slice Ao28 t526.length co28)) (fun _ hk => hk.2) (.slice Ao31 t529.length co31)) (fun _ h_ => h_.1)) (fun _ h_ => h_.1))) hb); have n4_ := zA (Kd.N_lower (Kd.N_mono (ok' := fun k_ => some k_ ≠ (.slice Ao28 t526.length co28 : Value).ownBlock ∧ some k_ ≠ (.slice Ao31 t529.length co31 : Value).ownBlock ∧ k_ ≠ gb517 ∧ k_ ≠ gb532 ∧ k_ ≠ gb533) ho0 (fun k_ hk_ => ⟨(Kd.fresh' (Kd.R_lt (by (with_reducible repeat (first | apply Kd.zca | apply Kd.zcb | apply Kd.zcl)); exact (Kd.zbp (Kd.zbp (Kd.R_far (p := ⟨gb533, 1, none⟩) (Kd.R_far (p := ⟨gb533, 0, none⟩) (Kd.R_far (p := ⟨gb532, 1, none⟩) (Kd.R_far (p := ⟨gb532, 0, none⟩) (Kd.zdk (Kd.zdk HO528.out BK532.out (by decide)) BK533.out (by decide)) (fun _ hk => hk.1.2) (.slice Ao23 t520.length co23)) (fun _ hk => hk.1.2) (.slice Ao27 t523.length co27)) (fun _ hk => hk.2) (.slice Ao28 t526.length co28)) (fun _ hk => hk.2) (.slice Ao31 t529.length co31)) (fun _ h_ => h_.1)) (fun _ h_ => h_.1)))) k_ hk_), (Kd.fresh' (Kd.R_lt (by (with_reducible repeat (first | apply Kd.zca | apply Kd.zcb | apply Kd.zcl)); exact (Kd.zbp (Kd.zbp (Kd.R_far (p := ⟨gb533, 1, none⟩) (Kd.R_far (p := ⟨gb533, 0, none⟩) (Kd.R_far (p := ⟨gb532, 1, none⟩) (Kd.R_far (p := ⟨gb532, 0, none⟩) (Kd.zdk (Kd.zdk HO531.out BK532.out (by decide)) BK533.out (by decide)) (fun _ hk => hk.1.2) (.slice Ao23 t520.length co23)) (fun _ hk => hk.1.2) (.slice Ao27 t523.length co27)) (fun _ hk => hk.2) (.slice Ao28 t526.length co28)) (fun _ hk => hk.2) (.slice Ao31 t529.length co31)) (fun _ h_ => h_.1)) (fun _ h_ => h_.1)))) k_ hk_), (Kd.freshB (g := gb517) (o := .cells #[.int .i64 a0_0, .int .i64 a0_1] 23 (0, 0)) (by (with_reducible repeat (first | refine zaj ?_ _ | refine zai ?_ | refine zah ?_ _)); refine zby ?_ NB517_533.out _; (with_reducible repeat (first | refine zaj ?_ _ | refine zai ?_ | refine zah ?_ _)); refine zby ?_ NB517_533.out _; (with_reducible repeat (first | refine zaj ?_ _ | refine zai ?_ | refine zah ?_ _)); refine zby ?_ NB517_532.out _; (with_reducible repeat (first | refine zaj ?_ _ | refine zai ?_ | refine zah ?_ _)); refine zby ?_ NB517_532.out _; (with_reducible repeat (first | refine zaj ?_ _ | refine zai ?_ | refine zah ?_ _)); exact BK517.out) k_ hk_), (Kd.freshB (g := gb532) (o := .cells #[.slice Ao23 t520.length co23, .slice Ao27 t523.length co27] 29 (0, 0)) (by (with_reducible repeat (first | refine zaj ?_ _ | refine zai ?_ | refine zah ?_ _)); refine zby ?_ NB532_533.out _; (with_reducible repeat (first | refine zaj ?_ _ | refine zai ?_ | refine zah ?_ _)); refine zby ?_ NB532_533.out _; (with_reducible repeat (first | refine zaj ?_ _ | refine zai ?_ | refine zah ?_ _)); refine zbc (cs := #[.slice Ao23 t520.length co23, .slice none 0 0]) ?_ 1 _ rfl; (with_reducible repeat (first | refine zaj ?_ _ | refine zai ?_ | refine zah ?_ _)); refine zbc (cs := #[.slice none 0 0, .slice none 0 0]) ?_ 0 _ rfl; (with_reducible repeat (first | refine zaj ?_ _ | refine zai ?_ | refine zah ?_ _)); exact BK532.out) k_ hk_), (Kd.freshB (g := gb533) (o := .cells #[.slice Ao28 t526.length co28, .slice Ao31 t529.length co31] 32 (0, 0)) (by (with_reducible repeat (first | refine zaj ?_ _ | refine zai ?_ | refine zah ?_ _)); refine zbc (cs := #[.slice Ao28 t526.length co28, .slice none 0 0]) ?_ 1 _ rfl; (with_reducible repeat (first | refine zaj ?_ _ | refine zai ?_ | refine zah ?_ _)); refine zbc (cs := #[.slice none 0 0, .slice none 0 0]) ?_ 0 _ rfl; (with_reducible repeat (first | refine zaj ?_ _ | refine zai ?_ | refine zah ?_ _)); refine zby ?_ NB533_532.out _; (with_reducible repeat (first | refine zaj ?_ _ | refine zai ?_ | refine zah ?_ _)); refine zby ?_ NB533_532.out _; (with_reducible repeat (first | refine zaj ?_ _ | refine zai ?_ | refine zah ?_ _)); exact BK533.out) k_ hk_)⟩)) (za (zB HB))); have n5_ := zA (zad (g := gb517) (o := .cells #[.int .i64 a0_0, .int .i64 a0_1] 23 (0, 0)) (by (with_reducible repeat (first | refine zaj ?_ _ | refine zai ?_ | refine zah ?_ _)); refine zby ?_ NB517_533.out _; (with_reducible repeat (first | refine zaj ?_ _ | refine zai ?_ | refine zah ?_ _)); refine zby ?_ NB517_533.out _; (with_reducible repeat (first | refine zaj ?_ _ | refine zai ?_ | refine zah ?_ _)); refine zby ?_ NB517_532.out _; (with_reducible repeat (first | refine zaj ?_ _ | refine zai ?_ | refine zah ?_ _)); refine zby ?_ NB517_532.out _; (with_reducible repeat (first | refine zaj ?_ _ | refine zai ?_ | refine zah ?_ _)); exact BK517.out) hb); have n6_ := zA (zad (g := gb532) (o := .cells #[.slice Ao23 t520.length co23, .slice Ao27 t523.length co27] 29 (0, 0)) (by (with_reducible repeat (first | refine zaj ?_ _ | refine zai ?_ | refine zah ?_ _)); refine zby ?_ NB532_533.out _; (with_reducible repeat (first | refine zaj ?_ _ | refine zai ?_ | refine zah ?_ _)); refine zby ?_ NB532_533.out _; (with_reducible repeat (first | refine zaj ?_ _ | refine zai ?_ | refine zah ?_ _)); refine zbc (cs := #[.slice Ao23 t520.length co23, .slice none 0 0]) ?_ 1 _ rfl; (with_reducible repeat (first | refine zaj ?_ _ | refine zai ?_ | refine zah ?_ _)); refine zbc (cs := #[.slice none 0 0, .slice none 0 0]) ?_ 0 _ rfl; (with_reducible repeat (first | refine zaj ?_ _ | refine zai ?_ | refine zah ?_ _)); exact BK532.out) hb); have n7_ := zA (zad (g := gb533) (o := .cells #[.slice Ao28 t526.length co28, .slice Ao31 t529.length co31] 32 (0, 0)) (by (with_reducible repeat (first | refine zaj ?_ _ | refine zai ?_ | refine zah ?_ _)); refine zbc (cs := #[.slice Ao28 t526.length co28, .slice none 0 0]) ?_ 1 _ rfl; (with_reducible repeat (first | refine zaj ?_ _ | refine zai ?_ | refine zah ?_ _)); refine zbc (cs := #[.slice none 0 0, .slice none 0 0]) ?_ 0 _ rfl; (with_reducible repeat (first | refine zaj ?_ _ | refine zai ?_ | refine zah ?_ _)); refine zby ?_ NB533_532.out _; (with_reducible repeat (first | refine zaj ?_ _ | refine zai ?_ | refine zah ?_ _)); refine zby ?_ NB533_532.out _; (with_reducible repeat (first | refine zaj ?_ _ | refine zai ?_ | refine zah ?_ _)); exact BK533.out) hb); have n8_ := zA (zaa (zB HB) hb); clear HO522 HO525 HO528 HO531 BK517 BK532 BK533 HB; have HO522 := n0_; have HO525 := n1_; have HO528 := n2_; have HO531 := n3_; have HO536 := n4_; have BK517 := n5_; have BK532 := n6_; have BK533 := n7_; have HB := n8_; clear n0_ n1_ n2_ n3_ n4_ n5_ n6_ n7_ n8_; (try clear hb); (try clear hb2); (try clear hk); (try clear hi); (try clear ho0); obtain ⟨Ao33, co33, eo33⟩ := Kd.N_slice HO536.out; subst eo33))
      go_loopg [47] kj3 (fun kq v47 w' => ∃ (x47_2 : Int), v47 = .int .i64 x47_2 ∧ Aside0 (zac.l0 kq l1 l2 t534 (t534.length : Int) x47_2 = some r) ∧ Aside0 (kq ≤ kj3) ∧ Aside0 (Kd.N k29 29 w' w.heap.size (fun k_ => some k_ ≠ ((.slice Ao28 t526.length co28) : Value).ownBlock ∧ some k_ ≠ ((.slice Ao31 t529.length co31) : Value).ownBlock ∧ k_ ≠ gb517 ∧ k_ ≠ gb532 ∧ k_ ≠ gb533) (.slice Ao33 t534.length co33) t534) ∧ Aside0 (Kd.V (Kd.int .u64) 82 w' w.heap.size (fun k_ => some k_ ≠ ((.slice Ao33 t534.length co33) : Value).ownBlock ∧ some k_ ≠ ((.slice Ao28 t526.length co28) : Value).ownBlock ∧ some k_ ≠ ((.slice Ao31 t529.length co31) : Value).ownBlock ∧ k_ ≠ gb517 ∧ k_ ≠ gb532 ∧ k_ ≠ gb533) (.slice Ao23 t520.length co23) t520) ∧ Aside0 (Kd.V (Kd.int .u64) 82 w' w.heap.size (fun k_ => some k_ ≠ ((.slice Ao33 t534.length co33) : Value).ownBlock ∧ some k_ ≠ ((.slice Ao28 t526.length co28) : Value).ownBlock ∧ some k_ ≠ ((.slice Ao31 t529.length co31) : Value).ownBlock ∧ k_ ≠ gb517 ∧ k_ ≠ gb532 ∧ k_ ≠ gb533) (.slice Ao27 t523.length co27) t523) ∧ Aside0 (Kd.R (Kd.int .i64) 3 w' w.heap.size (fun k_ => some k_ ≠ ((.slice Ao31 t529.length co31) : Value).ownBlock) (.slice Ao28 t526.length co28) t526) ∧ Aside0 (Kd.R (Kd.int .i64) 3 w' w.heap.size (fun k_ => some k_ ≠ ((.slice Ao28 t526.length co28) : Value).ownBlock) (.slice Ao31 t529.length co31) t529) ∧ Aside0 (w'.heap[gb517]? = some (.cells #[.int .i64 a0_0, .int .i64 a0_1] 23 (0, 0))) ∧ Aside0 (w'.heap[gb532]? = some (.cells #[(.slice Ao23 t520.length co23), (.slice Ao27 t523.length co27)] 29 (0, 0))) ∧ Aside0 (w'.heap[gb533]? = some (.cells #[(.slice Ao28 t526.length co28), (.slice Ao31 t529.length co31)] 32 (0, 0))) ∧ Aside0 (Below w.heap.size w w'))
      case atStart => exact ⟨(0), (zF), H', ⟨Nat.le_refl _⟩, ⟨zN HO536⟩, ⟨by (with_reducible repeat (first | apply Kd.zbr | apply Kd.zbq | apply Kd.zbt)); exact Kd.zam HO522.out (fun _ hk => ⟨hk.2, ⟨hk.1.1.1.1, ⟨hk.1.1.1.2.1, ⟨hk.1.1.1.2.2, ⟨hk.1.1.2, hk.1.2⟩⟩⟩⟩⟩)⟩, ⟨by (with_reducible repeat (first | apply Kd.zbr | apply Kd.zbq | apply Kd.zbt)); exact Kd.zam HO525.out (fun _ hk => ⟨hk.2, ⟨hk.1.1.1.1, ⟨hk.1.1.1.2.1, ⟨hk.1.1.1.2.2, ⟨hk.1.1.2, hk.1.2⟩⟩⟩⟩⟩)⟩, ⟨zR HO528⟩, ⟨zR HO531⟩, ⟨zK BK517⟩, ⟨zK BK532⟩, ⟨zK BK533⟩, ⟨zB HB⟩⟩
      case round =>
       clear H'
       try clear c1
       try clear c2
       try clear p2
       try clear c3
       try clear p6
       try clear c7
       try clear c8
       try clear c8b0
       try clear c8b1
       try clear c12
       try clear c14
       try clear c15
       try clear c16
       try clear c17
       try clear c17b0
       try clear c17b1
       try clear c18
       try clear c18b0
       try clear c18b1
       try clear c18b2
       try clear c24
       try clear c25
       try clear c29
       try clear hcz19_0
       try clear hcz19_1
       try clear hcz26_0
       try clear hcz26_1
       try clear hcz30_0
       try clear hcz30_1
       try clear hfz19_0
       try clear hfz19_1
       try clear hfz26_0
       try clear hfz26_1
       try clear hfz30_0
       try clear hfz30_1
       try clear p2
       try clear p6
       obtain ⟨x47_2, rfl, HA, HK2, HO_9, HO_533000, HO_533001, HO_534000, HO_534001, BK517, BK532, BK533, HB⟩ := hrel
       cases gk with
       | zero => exact absurd HA.out (by simp [zac.l0])
       | succ k2 =>
        have H := HA.out
        clear HA
        simp only [zac.l0] at H
        by_cases c34 : x47_2 < (t534.length : Int)
        ·
         rw [if_pos c34] at H
         have c34b0 : decide (x47_2 < (t534.length : Int)) = true := decide_eq_true c34
         clear c34
         by_cases c35 : 0 ≤ x47_2
         ·
          rw [if_pos c35] at H
          have c35b0 : decide (0 ≤ x47_2) = true := decide_eq_true c35
          clear c35
          by_cases c36 : x47_2 < (t534.length : Int)
          ·
           rw [if_pos c36] at H
           have c36b0 : decide (x47_2 < (t534.length : Int)) = true := decide_eq_true c36
           clear c36
           by_cases c37 : x47_2 < (l2.length : Int)
           ·
            rw [if_pos c37] at H
            have c37b0 : decide (x47_2 < (l2.length : Int)) = true := decide_eq_true c37
            clear c37
            replace H := zO H
            obtain ⟨⟨t540, t543⟩, A380, H⟩ := H
            try dsimp only at H
            have A38 := zA A380
            clear A380
            replace H := zO H
            obtain ⟨t546, A390, H⟩ := H
            try dsimp only at H
            have A39 := zA A390
            clear A390
            by_cases c40 : t546 > 0
            ·
             rw [if_pos c40] at H
             exact absurd H (by simp)
            ·
             rw [if_neg c40] at H
             have c40b0 : decide (0 < t546) = false := decide_eq_false c40
             clear c40
             have H' := zA H
             clear H
             try go_wp2
             have n0_ := zA (Kd.N_drew HO_9.out)
             have n1_ := zA (Kd.zbt HO_533000.out)
             have n2_ := zA (Kd.zbt HO_533001.out)
             have n3_ := zA (Kd.zcl HO_534000.out)
             have n4_ := zA (Kd.zcl HO_534001.out)
             have n5_ := zA (zai BK517.out)
             have n6_ := zA (zai BK532.out)
             have n7_ := zA (zai BK533.out)
             have n8_ := zA (zbo HB.out)
             clear HO_9 HO_533000 HO_533001 HO_534000 HO_534001 BK517 BK532 BK533 HB
             have HO_9 := n0_
             have HO_533000 := n1_
             have HO_533001 := n2_
             have HO_534000 := n3_
             have HO_534001 := n4_
             have BK517 := n5_
             have BK532 := n6_
             have BK533 := n7_
             have HB := n8_
             clear n0_ n1_ n2_ n3_ n4_ n5_ n6_ n7_ n8_
             have p538 : 0 ≤ (x47_2 : Int) := of_decide_eq_true (by first | (with_reducible assumption) | assumption)
             have q538 : x47_2 < (t534.length : Int) := of_decide_eq_true (by first | (with_reducible assumption) | assumption)
             obtain ⟨ad538, A538_0, c538_0, A538_1, c538_1, e538, hx538_0, hx538_1, hl538_0, hi538_0, hl538_1, hi538_1⟩ := at_T29 (Kd.zcy HO_9.out).2.2 x47_2 p538 q538
             cases e538
             obtain ⟨ce538, hce538, hMe538, hcc538⟩ := Kd.N_get HO_9.out z29 x47_2 p538 (by first | exact q538 | exact of_decide_eq_true (by first | (with_reducible assumption) | assumption) | (have e_ := (Kd.zcy HO_9.out).1; omega))
             obtain ⟨ua538_0, uc538_0, ua538_1, uc538_1, rfl, ul538_0, ge538_0, ul538_1, ge538_1⟩ := k29_openF hMe538
             have hv538_0 := hcc538 0 _ rfl
             rw [Nat.add_zero] at hv538_0
             replace hv538_0 := Option.some.inj (hv538_0.symm.trans hx538_0)
             injection hv538_0 with hva_ hvn_ hvc_
             rw [hva_] at ge538_0
             rw [hvc_] at ul538_0
             have HL538_0 := zA (show Kd.V (Kd.int .u64) 82 _ w.heap.size _ _ ((rd_T29 t534 x47_2).f0) from Kd.V_mk ul538_0 ge538_0)
             clear hva_ hvn_ hvc_ ge538_0 ul538_0
             have hv538_1 := hcc538 1 _ rfl
             rw [zdh _ _ 1 (by omega)] at hv538_1
             replace hv538_1 := Option.some.inj (hv538_1.symm.trans hx538_1)
             injection hv538_1 with hva_ hvn_ hvc_
             rw [hva_] at ge538_1
             rw [hvc_] at ul538_1
             have HL538_1 := zA (show Kd.V (Kd.int .u64) 82 _ w.heap.size _ _ ((rd_T29 t534 x47_2).f1) from Kd.V_mk ul538_1 ge538_1)
             clear hva_ hvn_ hvc_ ge538_1 ul538_1 hcc538 hce538
             have HR538_0 := zA hi538_0
             have HC538_0 := zA hl538_0
             clear hi538_0 hl538_0
             have HR538_1 := zA hi538_1
             have HC538_1 := zA hl538_1
             clear hi538_1 hl538_1
             replace p538 := eq_true p538
             replace q538 := eq_true q538
             have p539 : 0 ≤ (x47_2 : Int) := of_decide_eq_true (by first | (with_reducible assumption) | assumption)
             have q539 : x47_2 < (l2.length : Int) := of_decide_eq_true (by first | (with_reducible assumption) | assumption)
             obtain ⟨ad539, e539, hx539_0⟩ := Kd.at_int HR2.out x47_2 p539 q539
             have hw539_0 := hx539_0
             cases e539
             replace hx539_0 := (HB.out.cell (World.block_lt_of_cell? w _ hx539_0)).trans hx539_0
             replace p539 := eq_true p539
             replace q539 := eq_true q539
             refine start_ (n := 11) (S := fun w' => w'.cell? (ad538.add ((x47_2).toNat * 2)) = some (.slice A538_0 ((rd_T29 t534 x47_2).f0).length c538_0) ∧ w'.cell? ⟨(ad538.add ((x47_2).toNat * 2)).block, (ad538.add ((x47_2).toNat * 2)).off + 1, none⟩ = some (.slice A538_1 ((rd_T29 t534 x47_2).f1).length c538_1) ∧ w'.cell? (ad539.add (x47_2).toNat) = some (.int .i64 (rd l2 x47_2))) (ds := []) #[false, false, false, false, false, false, false, false, false, false, false] (by kernel_rfl) rfl rfl ⟨hx538_0, hx538_1, ((HB.out.cell (World.block_lt_of_cell? w _ hw539_0)).trans hw539_0)⟩ (fun hHeld => ?_); refine zcq zac.tab12 zac.bits12 (fun HT_ HW_ => ?_)
             generalize wr.drew = w41 at HO_9 HO_533000 HO_533001 HO_534000 HO_534001 BK517 BK532 BK533 HB HL538_0 HL538_1 HR538_0 HR538_1 hx538_0 hx538_1 hx539_0 hHeld ⊢
             refine pure_ (i := 0) (N := some 50) (v := ?_) (a' := ?_) #[true, false, false, false, false, false, false, false, false, false, false] rfl rfl (zat HT_.out (by kernel_rfl)) (fun _ _ _ h => h) (Or.inl ⟨by rfl, ?_⟩) ?_ ?_
             rotate_left
             ·
              intro w'
              go_simp
              with_reducible rfl
             rotate_left
             ·
              simp only [Act.put, zs1, zs2, zs3, i64_w, i32_w]
              rfl
             refine pure_ (i := 1) (N := some 51) (v := ?_) (a' := ?_) #[true, true, false, false, false, false, false, false, false, false, false] rfl rfl (zat HT_.out (by kernel_rfl)) (fun _ _ _ h => h) (Or.inl ⟨by rfl, ?_⟩) ?_ ?_
             rotate_left
             ·
              intro w'
              go_simp
              with_reducible rfl
             rotate_left
             ·
              simp only [Act.put, zs1, zs2, zs3, i64_w, i32_w]
              rfl
             refine pure_ (i := 2) (N := some 52) (v := ?_) (a' := ?_) #[true, true, true, false, false, false, false, false, false, false, false] rfl rfl (zat HT_.out (by kernel_rfl)) (fun _ _ _ h => h) (Or.inl ⟨by rfl, ?_⟩) ?_ ?_
             rotate_left
             ·
              intro w'
              go_simp
              with_reducible rfl
             rotate_left
             ·
              simp only [Act.put, zs1, zs2, zs3, i64_w, i32_w]
              rfl
             refine pure_ (i := 4) (N := some 54) (v := ?_) (a' := ?_) #[true, true, true, false, true, false, false, false, false, false, false] rfl rfl (zat HT_.out (by kernel_rfl)) (fun _ _ _ h => h) (Or.inl ⟨by rfl, ?_⟩) ?_ ?_
             rotate_left
             ·
              intro w'
              go_simp
              with_reducible rfl
             rotate_left
             ·
              simp only [Act.put, zs1, zs2, zs3, i64_w, i32_w]
              rfl
             refine pure_ (i := 5) (N := some 55) (v := ?_) (a' := ?_) #[true, true, true, false, true, true, false, false, false, false, false] rfl rfl (zat HT_.out (by kernel_rfl)) (fun _ _ _ h => h) (Or.inl ⟨by rfl, ?_⟩) ?_ ?_
             rotate_left
             ·
              intro w'
              go_simp
              with_reducible rfl
             rotate_left
             ·
              simp only [Act.put, zs1, zs2, zs3, i64_w, i32_w]
              rfl
             refine pure_ (i := 6) (N := some 56) (v := ?_) (a' := ?_) #[true, true, true, false, true, true, true, false, false, false, false] rfl rfl (zat HT_.out (by kernel_rfl)) (fun _ _ _ h => h) (Or.inl ⟨by rfl, ?_⟩) ?_ ?_
             rotate_left
             ·
              intro w'
              go_simp
              with_reducible rfl
             rotate_left
             ·
              simp only [Act.put, zs1, zs2, zs3, i64_w, i32_w]
              rfl
             refine take_ (i := 3) (N := some 53) (v := ?_) (a' := ?_) #[true, true, true, true, true, true, true, false, false, false, false] rfl rfl (zbk HT_.out HW_.out (by kernel_rfl)) (fun _ _ _ h => h) (Or.inl ⟨by rfl, ?_⟩) hHeld ?_ ?_
             rotate_left
             ·
              rintro w' ⟨s0, s1, s2⟩
              go_simp
              with_reducible rfl
             rotate_left
             ·
              simp only [Act.put, zs1, zs2, zs3, i64_w, i32_w]
              rfl
             refine take_ (i := 7) (N := some 57) (v := ?_) (a' := ?_) #[true, true, true, true, true, true, true, true, false, false, false] rfl rfl (zbk HT_.out HW_.out (by kernel_rfl)) (fun _ _ _ h => h) (Or.inl ⟨by rfl, ?_⟩) hHeld ?_ ?_
             rotate_left
             ·
              rintro w' ⟨s0, s1, s2⟩
              go_simp
              with_reducible rfl
             rotate_left
             ·
              simp only [Act.put, zs1, zs2, zs3, i64_w, i32_w]
              rfl
             refine one_ (i := 8) (N := some 58) #[true, true, true, true, true, true, true, true, true, false, false] rfl rfl (zbu HT_.out (by kernel_rfl)) (by decide) (fun K hK => ?_)
             refine goes_ Tryz.func18 (by kernel_rfl) rfl #[.int .i64 (rd l2 x47_2)] (by rfl) rfl rfl (zE) ?_
             with_reducible refine (zb9.calls k2 (rd l2 x47_2) t540 t543 _ A38.out).mono ?_
             rintro e w42 ⟨v541, v544, rfl, ho0, ho1, hb⟩
             have HS0_ := (hb.cell (World.block_lt_of_cell? _ _ (hHeld.1))).trans (hHeld.1)
             have HS1_ := (hb.cell (World.block_lt_of_cell? _ _ (hHeld.2.1))).trans (hHeld.2.1)
             refine ⟨_, rfl, ?_⟩
             have n0_ := zA (Kd.zdb (zN HO_9) hb)
             have n1_ := zA (Kd.zau (zV HO_533000) hb)
             have n2_ := zA (Kd.zau (zV HO_533001) hb)
             have n3_ := zA (Kd.zbf (zR HO_534000) hb)
             have n4_ := zA (Kd.zbf (zR HO_534001) hb)
             have n7_ := zA (Kd.zaz (Kd.zam (ok' := fun k_ => some k_ ≠ (.slice (some ad538) t534.length co33 : Value).ownBlock ∧ some k_ ≠ (.slice Ao28 t526.length co28 : Value).ownBlock ∧ some k_ ≠ (.slice Ao31 t529.length co31 : Value).ownBlock ∧ k_ ≠ gb517 ∧ k_ ≠ gb532 ∧ k_ ≠ gb533) ho0 (fun k_ hk_ => ⟨(Kd.fresh' (Kd.N_lt (zN HO_9)) k_ hk_), (Kd.fresh' (Kd.R_lt (zR HO_534000)) k_ hk_), (Kd.fresh' (Kd.R_lt (zR HO_534001)) k_ hk_), (Kd.freshB (g := gb517) (o := .cells #[.int .i64 a0_0, .int .i64 a0_1] 23 (0, 0)) (zK BK517) k_ hk_), (Kd.freshB (g := gb532) (o := .cells #[.slice Ao23 t520.length co23, .slice Ao27 t523.length co27] 29 (0, 0)) (zK BK532) k_ hk_), (Kd.freshB (g := gb533) (o := .cells #[.slice Ao28 t526.length co28, .slice Ao31 t529.length co31] 32 (0, 0)) (zK BK533) k_ hk_)⟩)) (za (zB HB)))
             have n8_ := zA (Kd.zaz (Kd.zam (ok' := fun k_ => some k_ ≠ (.slice (some ad538) t534.length co33 : Value).ownBlock ∧ some k_ ≠ (.slice Ao28 t526.length co28 : Value).ownBlock ∧ some k_ ≠ (.slice Ao31 t529.length co31 : Value).ownBlock ∧ k_ ≠ gb517 ∧ k_ ≠ gb532 ∧ k_ ≠ gb533) ho1 (fun k_ hk_ => ⟨(Kd.fresh' (Kd.N_lt (zN HO_9)) k_ hk_), (Kd.fresh' (Kd.R_lt (zR HO_534000)) k_ hk_), (Kd.fresh' (Kd.R_lt (zR HO_534001)) k_ hk_), (Kd.freshB (g := gb517) (o := .cells #[.int .i64 a0_0, .int .i64 a0_1] 23 (0, 0)) (zK BK517) k_ hk_), (Kd.freshB (g := gb532) (o := .cells #[.slice Ao23 t520.length co23, .slice Ao27 t523.length co27] 29 (0, 0)) (zK BK532) k_ hk_), (Kd.freshB (g := gb533) (o := .cells #[.slice Ao28 t526.length co28, .slice Ao31 t529.length co31] 32 (0, 0)) (zK BK533) k_ hk_)⟩)) (za (zB HB)))
             have n9_ := zA (zad (g := gb517) (o := .cells #[.int .i64 a0_0, .int .i64 a0_1] 23 (0, 0)) (zK BK517) hb)
             have n10_ := zA (zad (g := gb532) (o := .cells #[.slice Ao23 t520.length co23, .slice Ao27 t523.length co27] 29 (0, 0)) (zK BK532) hb)
             have n11_ := zA (zad (g := gb533) (o := .cells #[.slice Ao28 t526.length co28, .slice Ao31 t529.length co31] 32 (0, 0)) (zK BK533) hb)
             have n12_ := zA (Kd.zas (by repeat (first | (with_reducible exact HR538_0.out) | (with_reducible refine Kd.za6 ?_ _) | (with_reducible refine Kd.za5 ?_ _) | (with_reducible refine Kd.zbe ?_) | exact HR538_0.out)) hb)
             have n13_ := zA (Kd.zas (by repeat (first | (with_reducible exact HR538_1.out) | (with_reducible refine Kd.za6 ?_ _) | (with_reducible refine Kd.za5 ?_ _) | (with_reducible refine Kd.zbe ?_) | exact HR538_1.out)) hb)
             have n14_ := zA (zaa (zB HB) hb)
             clear HO_9 HO_533000 HO_533001 HO_534000 HO_534001 BK517 BK532 BK533 HR538_0 HR538_1 HB
             have HO_9 := n0_
             have HO_533000 := n1_
             have HO_533001 := n2_
             have HO_534000 := n3_
             have HO_534001 := n4_
             have HO542 := n7_
             have HO545 := n8_
             have BK517 := n9_
             have BK532 := n10_
             have BK533 := n11_
             have HR538_0 := n12_
             have HR538_1 := n13_
             have HB := n14_
             clear n0_ n1_ n2_ n3_ n4_ n7_ n8_ n9_ n10_ n11_ n12_ n13_ n14_
             (try clear hb)
             (try clear hb2)
             (try clear hk)
             (try clear hi)
             (try clear ho0)
             (try clear ho1)
             obtain ⟨Ao43, co43, eo43⟩ := Kd.za1 HO542.out
             (first | subst eo43 | (injection eo43 with f1_ f2_ f3_; have f4_ := f1_.symm; have f5_ := f3_.symm; clear f1_ f2_ f3_; subst f4_; subst f5_))
             obtain ⟨Ao44, co44, eo44⟩ := Kd.za1 HO545.out
             (first | subst eo44 | (injection eo44 with f1_ f2_ f3_; have f4_ := f1_.symm; have f5_ := f3_.symm; clear f1_ f2_ f3_; subst f4_; subst f5_))
             refine hK.out _ _ ⟨HS0_, HS1_, ((HB.out.cell (World.block_lt_of_cell? w _ hw539_0)).trans hw539_0)⟩ (fun hHeld => ?_)
             clear hK K
             refine norm_ (a' := ?_) ?_ ?_
             rotate_left
             ·
              show Act.put _ (some 58) _ = _
              simp only [Act.put, zs1, zs2, zs3, i64_w, i32_w]
              rfl
             refine one_ (i := 9) (N := some 59) #[true, true, true, true, true, true, true, true, true, true, false] rfl rfl (zbu HT_.out (by kernel_rfl)) (by decide) (fun K hK => ?_)
             refine goes_ Tryz.func17 (by kernel_rfl) rfl #[.agg #[.slice A538_0 ((rd_T29 t534 x47_2).f0).length c538_0, .slice A538_1 ((rd_T29 t534 x47_2).f1).length c538_1], .agg #[.slice Ao43 t540.length co43, .slice Ao44 t543.length co44]] (by rfl) rfl rfl (zE) ?_
             with_reducible refine (zc9.calls k2 _ _ ((rd_T29 t534 x47_2).f0) _ _ ((rd_T29 t534 x47_2).f1) _ _ t540 _ _ t543 t546 _ ?side1 ?side2 ?side3 ?side4 ?side5 ?side6 ?side7 ?side8 A39.out).mono ?_
             (case side1 => repeat (first | exact (by repeat (first | (with_reducible exact HR538_0.out) | (with_reducible refine Kd.za6 ?_ _) | (with_reducible refine Kd.za5 ?_ _) | (with_reducible refine Kd.zbe ?_) | exact HR538_0.out)) | (with_reducible refine Kd.za6 ?_ _) | (with_reducible refine Kd.za5 ?_ _) | (with_reducible refine Kd.zbe ?_)))
             (case side2 => exact HC538_0.out)
             (case side3 => repeat (first | exact (by repeat (first | (with_reducible exact HR538_1.out) | (with_reducible refine Kd.za6 ?_ _) | (with_reducible refine Kd.za5 ?_ _) | (with_reducible refine Kd.zbe ?_) | exact HR538_1.out)) | (with_reducible refine Kd.za6 ?_ _) | (with_reducible refine Kd.za5 ?_ _) | (with_reducible refine Kd.zbe ?_)))
             (case side4 => exact HC538_1.out)
             (case side5 => exact zJ (Kd.zak HO542.out).2.2)
             (case side6 => exact (Kd.zak HO542.out).2.1)
             (case side7 => exact zJ (Kd.zak HO545.out).2.2)
             (case side8 => exact (Kd.zak HO545.out).2.1)
             rintro e w45 ⟨rfl, hb⟩
             have HS0_ := (hb.cell (World.block_lt_of_cell? _ _ (hHeld.1))).trans (hHeld.1)
             have HS1_ := (hb.cell (World.block_lt_of_cell? _ _ (hHeld.2.1))).trans (hHeld.2.1)
             refine ⟨_, rfl, ?_⟩
             have n0_ := zA (Kd.zdb (zN HO_9) hb)
             have n1_ := zA (Kd.zau (zV HO_533000) hb)
             have n2_ := zA (Kd.zau (zV HO_533001) hb)
             have n3_ := zA (Kd.zbf (zR HO_534000) hb)
             have n4_ := zA (Kd.zbf (zR HO_534001) hb)
             have n9_ := zA (zad (g := gb517) (o := .cells #[.int .i64 a0_0, .int .i64 a0_1] 23 (0, 0)) (zK BK517) hb)
             have n10_ := zA (zad (g := gb532) (o := .cells #[.slice Ao23 t520.length co23, .slice Ao27 t523.length co27] 29 (0, 0)) (zK BK532) hb)
             have n11_ := zA (zad (g := gb533) (o := .cells #[.slice Ao28 t526.length co28, .slice Ao31 t529.length co31] 32 (0, 0)) (zK BK533) hb)
             have n12_ := zA (Kd.zas (by repeat (first | (with_reducible exact HR538_0.out) | (with_reducible refine Kd.za6 ?_ _) | (with_reducible refine Kd.za5 ?_ _) | (with_reducible refine Kd.zbe ?_) | exact HR538_0.out)) hb)
             have n13_ := zA (Kd.zas (by repeat (first | (with_reducible exact HR538_1.out) | (with_reducible refine Kd.za6 ?_ _) | (with_reducible refine Kd.za5 ?_ _) | (with_reducible refine Kd.zbe ?_) | exact HR538_1.out)) hb)
             have n14_ := zA (zaa (zB HB) hb)
             clear HO_9 HO_533000 HO_533001 HO_534000 HO_534001 BK517 BK532 BK533 HR538_0 HR538_1 HB
             have HO_9 := n0_
             have HO_533000 := n1_
             have HO_533001 := n2_
             have HO_534000 := n3_
             have HO_534001 := n4_
             have BK517 := n9_
             have BK532 := n10_
             have BK533 := n11_
             have HR538_0 := n12_
             have HR538_1 := n13_
             have HB := n14_
             clear n0_ n1_ n2_ n3_ n4_ n9_ n10_ n11_ n12_ n13_ n14_
             (try clear hb)
             (try clear hb2)
             (try clear hk)
             (try clear hi)
             refine hK.out _ _ ⟨HS0_, HS1_, ((HB.out.cell (World.block_lt_of_cell? w _ hw539_0)).trans hw539_0)⟩ (fun hHeld => ?_)
             clear hK K
             refine norm_ (a' := ?_) ?_ ?_
             rotate_left
             ·
              show Act.put _ (some 59) _ = _
              simp only [Act.put, zs1, zs2, zs3, i64_w, i32_w]
              rfl
             refine pure_ (i := 10) (N := some 60) (v := ?_) (a' := ?_) #[true, true, true, true, true, true, true, true, true, true, true] rfl rfl (zat HT_.out (by kernel_rfl)) (fun _ _ _ h => h) (Or.inl ⟨by rfl, ?_⟩) ?_ ?_
             rotate_left
             ·
              intro w'
              go_simp
              with_reducible rfl
             rotate_left
             ·
              simp only [Act.put, zs1, zs2, zs3, i64_w, i32_w]
              rfl
             refine done_ (zdf HT_.out (by kernel_rfl)) ?_
             try go_wp2
             go_loopg [63] k2 (fun kq v63 w' => ∃ (x63_3 : Int), v63 = .int .i64 x63_3 ∧ Aside0 (zac.l1 kq l1 l2 t534 x47_2 (t534.length : Int) x47_2 (t534.length : Int) x63_3 = some r) ∧ Aside0 (kq ≤ k2) ∧ Aside0 (Kd.N k29 29 w' w.heap.size (fun k_ => some k_ ≠ ((.slice Ao28 t526.length co28) : Value).ownBlock ∧ some k_ ≠ ((.slice Ao31 t529.length co31) : Value).ownBlock ∧ k_ ≠ gb517 ∧ k_ ≠ gb532 ∧ k_ ≠ gb533) (.slice (some ad538) t534.length co33) t534) ∧ Aside0 (Kd.V (Kd.int .u64) 82 w' w.heap.size (fun k_ => some k_ ≠ ((.slice (some ad538) t534.length co33) : Value).ownBlock ∧ some k_ ≠ ((.slice Ao28 t526.length co28) : Value).ownBlock ∧ some k_ ≠ ((.slice Ao31 t529.length co31) : Value).ownBlock ∧ k_ ≠ gb517 ∧ k_ ≠ gb532 ∧ k_ ≠ gb533) (.slice Ao23 t520.length co23) t520) ∧ Aside0 (Kd.V (Kd.int .u64) 82 w' w.heap.size (fun k_ => some k_ ≠ ((.slice (some ad538) t534.length co33) : Value).ownBlock ∧ some k_ ≠ ((.slice Ao28 t526.length co28) : Value).ownBlock ∧ some k_ ≠ ((.slice Ao31 t529.length co31) : Value).ownBlock ∧ k_ ≠ gb517 ∧ k_ ≠ gb532 ∧ k_ ≠ gb533) (.slice Ao27 t523.length co27) t523) ∧ Aside0 (Kd.R (Kd.int .i64) 3 w' w.heap.size (fun k_ => some k_ ≠ ((.slice Ao31 t529.length co31) : Value).ownBlock) (.slice Ao28 t526.length co28) t526) ∧ Aside0 (Kd.R (Kd.int .i64) 3 w' w.heap.size (fun k_ => some k_ ≠ ((.slice Ao28 t526.length co28) : Value).ownBlock) (.slice Ao31 t529.length co31) t529) ∧ Aside0 (w'.heap[gb517]? = some (.cells #[.int .i64 a0_0, .int .i64 a0_1] 23 (0, 0))) ∧ Aside0 (w'.heap[gb532]? = some (.cells #[(.slice Ao23 t520.length co23), (.slice Ao27 t523.length co27)] 29 (0, 0))) ∧ Aside0 (w'.heap[gb533]? = some (.cells #[(.slice Ao28 t526.length co28), (.slice Ao31 t529.length co31)] 32 (0, 0))) ∧ Aside0 (Kd.C (Kd.int .u64) w' A538_0 ((rd_T29 t534 x47_2).f0).length ((rd_T29 t534 x47_2).f0)) ∧ Aside0 (Kd.C (Kd.int .u64) w' A538_1 ((rd_T29 t534 x47_2).f1).length ((rd_T29 t534 x47_2).f1)) ∧ Aside0 (Below w.heap.size w w'))
             case atStart => exact ⟨(0), (zF), H', ⟨Nat.le_refl _⟩, ⟨zN HO_9⟩, ⟨zV HO_533000⟩, ⟨zV HO_533001⟩, ⟨zR HO_534000⟩, ⟨zR HO_534001⟩, ⟨zK BK517⟩, ⟨zK BK532⟩, ⟨zK BK533⟩, ⟨by repeat (first | (with_reducible exact HR538_0.out) | (with_reducible refine Kd.za6 ?_ _) | (with_reducible refine Kd.za5 ?_ _) | (with_reducible refine Kd.zbe ?_) | exact HR538_0.out)⟩, ⟨by repeat (first | (with_reducible exact HR538_1.out) | (with_reducible refine Kd.za6 ?_ _) | (with_reducible refine Kd.za5 ?_ _) | (with_reducible refine Kd.zbe ?_) | exact HR538_1.out)⟩, ⟨zB HB⟩⟩
             case round =>
              clear H'
              try clear c1
              try clear c2
              try clear p2
              try clear c3
              try clear c4
              try clear c5
              try clear p5
              try clear q5
              try clear hx5
              try clear p6
              try clear c7
              try clear c8
              try clear c8b0
              try clear c8b1
              try clear c12
              try clear c14
              try clear c15
              try clear c16
              try clear c17
              try clear c17b0
              try clear c17b1
              try clear c18
              try clear c18b0
              try clear c18b1
              try clear c18b2
              try clear c24
              try clear c25
              try clear c29
              try clear c34
              try clear c34b0
              try clear c35
              try clear c35b0
              try clear c36
              try clear c36b0
              try clear c37
              try clear c37b0
              try clear c40
              try clear c40b0
              try clear hcz19_0
              try clear hcz19_1
              try clear hcz26_0
              try clear hcz26_1
              try clear hcz30_0
              try clear hcz30_1
              try clear hfz19_0
              try clear hfz19_1
              try clear hfz26_0
              try clear hfz26_1
              try clear hfz30_0
              try clear hfz30_1
              try clear hx538_0
              try clear hx538_1
              try clear hx539_0
              try clear p2
              try clear p538
              try clear p539
              try clear p6
              try clear q538
              try clear q539
              obtain ⟨x63_3, rfl, HA, HK3, HO_9, HO_533000, HO_533001, HO_534000, HO_534001, BK517, BK532, BK533, HR538_0, HR538_1, HB⟩ := hrel
              cases gk with
              | zero => exact absurd HA.out (by simp [zac.l1])
              | succ k3 =>
               have H := HA.out
               clear HA
               simp only [zac.l1] at H
               by_cases c46 : x63_3 < (t534.length : Int)
               ·
                rw [if_pos c46] at H
                have c46b0 : decide (x63_3 < (t534.length : Int)) = true := decide_eq_true c46
                clear c46
                by_cases c47 : 0 ≤ x47_2
                ·
                 rw [if_pos c47] at H
                 have c47b0 : decide (0 ≤ x47_2) = true := decide_eq_true c47
                 clear c47
                 by_cases c48 : x47_2 < (t534.length : Int)
                 ·
                  rw [if_pos c48] at H
                  have c48b0 : decide (x47_2 < (t534.length : Int)) = true := decide_eq_true c48
                  clear c48
                  by_cases c49 : x47_2 < (l2.length : Int)
                  ·
                   rw [if_pos c49] at H
                   have c49b0 : decide (x47_2 < (l2.length : Int)) = true := decide_eq_true c49
                   clear c49
                   replace H := zO H
                   obtain ⟨⟨t549, t552⟩, A500, H⟩ := H
                   try dsimp only at H
                   have A50 := zA A500
                   clear A500
                   replace H := zO H
                   obtain ⟨t555, A510, H⟩ := H
                   try dsimp only at H
                   have A51 := zA A510
                   clear A510
                   by_cases c52 : t555 < 0
                   ·
                    rw [if_pos c52] at H
                    have c52b0 : decide (t555 < 0) = true := decide_eq_true c52
                    clear c52
                    by_cases c53 : 0 ≤ x63_3
                    ·
                     rw [if_pos c53] at H
                     have c53b0 : decide (0 ≤ x63_3) = true := decide_eq_true c53
                     clear c53
                     by_cases c54 : x63_3 < (l1.length : Int)
                     ·
                      rw [if_pos c54] at H
                      have c54b0 : decide (x63_3 < (l1.length : Int)) = true := decide_eq_true c54
                      clear c54
                      replace H := zO H
                      obtain ⟨⟨t558, t561⟩, A550, H⟩ := H
                      try dsimp only at H
                      have A55 := zA A550
                      clear A550
                      replace H := zO H
                      obtain ⟨⟨t564, t567⟩, A560, H⟩ := H
                      try dsimp only at H
                      have A56 := zA A560
                      clear A560
                      by_cases c57 : x63_3 < (t534.length : Int)
                      ·
                       rw [if_pos c57] at H
                       have c57b0 : decide (x63_3 < (t534.length : Int)) = true := decide_eq_true c57
                       clear c57
                       by_cases c58 : x47_2 < (l1.length : Int)
                       ·
                        rw [if_pos c58] at H
                        have c58b0 : decide (x47_2 < (l1.length : Int)) = true := decide_eq_true c58
                        clear c58
                        replace H := zO H
                        obtain ⟨⟨t572, t575⟩, A590, H⟩ := H
                        try dsimp only at H
                        have A59 := zA A590
                        clear A590
                        replace H := zO H
                        obtain ⟨⟨t578, t581⟩, A600, H⟩ := H
                        try dsimp only at H
                        have A60 := zA A600
                        clear A600
                        replace H := zO H
                        obtain ⟨t584, A610, H⟩ := H
                        try dsimp only at H
                        have A61 := zA A610
                        clear A610
                        by_cases c62 : t584 < 0
                        ·
                         rw [if_pos c62] at H
                         exact absurd H (by simp)
                        ·
                         rw [if_neg c62] at H
                         have c62b0 : decide (t584 < 0) = false := decide_eq_false c62
                         clear c62
                         have H' := zA H
                         clear H
                         try go_wp2
                         have n0_ := zA (Kd.N_drew HO_9.out)
                         have n1_ := zA (Kd.zbt HO_533000.out)
                         have n2_ := zA (Kd.zbt HO_533001.out)
                         have n3_ := zA (Kd.zcl HO_534000.out)
                         have n4_ := zA (Kd.zcl HO_534001.out)
                         have n5_ := zA (zai BK517.out)
                         have n6_ := zA (zai BK532.out)
                         have n7_ := zA (zai BK533.out)
                         have n8_ := zA (Kd.zbe HR538_0.out)
                         have n9_ := zA (Kd.zbe HR538_1.out)
                         have n10_ := zA (zbo HB.out)
                         clear HO_9 HO_533000 HO_533001 HO_534000 HO_534001 BK517 BK532 BK533 HR538_0 HR538_1 HB
                         have HO_9 := n0_
                         have HO_533000 := n1_
                         have HO_533001 := n2_
                         have HO_534000 := n3_
                         have HO_534001 := n4_
                         have BK517 := n5_
                         have BK532 := n6_
                         have BK533 := n7_
                         have HR538_0 := n8_
                         have HR538_1 := n9_
                         have HB := n10_
                         clear n0_ n1_ n2_ n3_ n4_ n5_ n6_ n7_ n8_ n9_ n10_
                         have p547 : 0 ≤ (x47_2 : Int) := of_decide_eq_true (by first | (with_reducible assumption) | assumption)
                         have q547 : x47_2 < (t534.length : Int) := of_decide_eq_true (by first | (with_reducible assumption) | assumption)
                         obtain ⟨ad547, A547_0, c547_0, A547_1, c547_1, e547, hx547_0, hx547_1, hl547_0, hi547_0, hl547_1, hi547_1⟩ := at_T29 (Kd.zcy HO_9.out).2.2 x47_2 p547 q547
                         obtain rfl : ad538 = ad547 := (by injection e547)
                         obtain ⟨ce547, hce547, hMe547, hcc547⟩ := Kd.N_get HO_9.out z29 x47_2 p547 (by first | exact q547 | exact of_decide_eq_true (by first | (with_reducible assumption) | assumption) | (have e_ := (Kd.zcy HO_9.out).1; omega))
                         obtain ⟨ua547_0, uc547_0, ua547_1, uc547_1, rfl, ul547_0, ge547_0, ul547_1, ge547_1⟩ := k29_openF hMe547
                         have hv547_0 := hcc547 0 _ rfl
                         rw [Nat.add_zero] at hv547_0
                         replace hv547_0 := Option.some.inj (hv547_0.symm.trans hx547_0)
                         injection hv547_0 with hva_ hvn_ hvc_
                         rw [hva_] at ge547_0
                         rw [hvc_] at ul547_0
                         have HL547_0 := zA (show Kd.V (Kd.int .u64) 82 _ w.heap.size _ _ ((rd_T29 t534 x47_2).f0) from Kd.V_mk ul547_0 ge547_0)
                         clear hva_ hvn_ hvc_ ge547_0 ul547_0
                         have hv547_1 := hcc547 1 _ rfl
                         rw [zdh _ _ 1 (by omega)] at hv547_1
                         replace hv547_1 := Option.some.inj (hv547_1.symm.trans hx547_1)
                         injection hv547_1 with hva_ hvn_ hvc_
                         rw [hva_] at ge547_1
                         rw [hvc_] at ul547_1
                         have HL547_1 := zA (show Kd.V (Kd.int .u64) 82 _ w.heap.size _ _ ((rd_T29 t534 x47_2).f1) from Kd.V_mk ul547_1 ge547_1)
                         clear hva_ hvn_ hvc_ ge547_1 ul547_1 hcc547 hce547
                         have HR547_0 := zA hi547_0
                         have HC547_0 := zA hl547_0
                         clear hi547_0 hl547_0
                         have HR547_1 := zA hi547_1
                         have HC547_1 := zA hl547_1
                         clear hi547_1 hl547_1
                         replace p547 := eq_true p547
                         replace q547 := eq_true q547
                         have p548 : 0 ≤ (x47_2 : Int) := of_decide_eq_true (by first | (with_reducible assumption) | assumption)
                         have q548 : x47_2 < (l2.length : Int) := of_decide_eq_true (by first | (with_reducible assumption) | assumption)
                         obtain ⟨ad548, e548, hx548_0⟩ := Kd.at_int HR2.out x47_2 p548 q548
                         have hw548_0 := hx548_0
                         obtain rfl : ad539 = ad548 := (by injection e548)
                         replace hx548_0 := (HB.out.cell (World.block_lt_of_cell? w _ hx548_0)).trans hx548_0
                         replace p548 := eq_true p548
                         replace q548 := eq_true q548
                         have p556 : 0 ≤ (x47_2 : Int) := of_decide_eq_true (by first | (with_reducible assumption) | assumption)
                         have q556 : x47_2 < (t534.length : Int) := of_decide_eq_true (by first | (with_reducible assumption) | assumption)
                         obtain ⟨ad556, A556_0, c556_0, A556_1, c556_1, e556, hx556_0, hx556_1, hl556_0, hi556_0, hl556_1, hi556_1⟩ := at_T29 (Kd.zcy HO_9.out).2.2 x47_2 p556 q556
                         obtain rfl : ad538 = ad556 := (by injection e556)
                         obtain ⟨ce556, hce556, hMe556, hcc556⟩ := Kd.N_get HO_9.out z29 x47_2 p556 (by first | exact q556 | exact of_decide_eq_true (by first | (with_reducible assumption) | assumption) | (have e_ := (Kd.zcy HO_9.out).1; omega))
                         obtain ⟨ua556_0, uc556_0, ua556_1, uc556_1, rfl, ul556_0, ge556_0, ul556_1, ge556_1⟩ := k29_openF hMe556
                         have hv556_0 := hcc556 0 _ rfl
                         rw [Nat.add_zero] at hv556_0
                         replace hv556_0 := Option.some.inj (hv556_0.symm.trans hx556_0)
                         injection hv556_0 with hva_ hvn_ hvc_
                         rw [hva_] at ge556_0
                         rw [hvc_] at ul556_0
                         have HL556_0 := zA (show Kd.V (Kd.int .u64) 82 _ w.heap.size _ _ ((rd_T29 t534 x47_2).f0) from Kd.V_mk ul556_0 ge556_0)
                         clear hva_ hvn_ hvc_ ge556_0 ul556_0
                         have hv556_1 := hcc556 1 _ rfl
                         rw [zdh _ _ 1 (by omega)] at hv556_1
                         replace hv556_1 := Option.some.inj (hv556_1.symm.trans hx556_1)
                         injection hv556_1 with hva_ hvn_ hvc_
                         rw [hva_] at ge556_1
                         rw [hvc_] at ul556_1
                         have HL556_1 := zA (show Kd.V (Kd.int .u64) 82 _ w.heap.size _ _ ((rd_T29 t534 x47_2).f1) from Kd.V_mk ul556_1 ge556_1)
                         clear hva_ hvn_ hvc_ ge556_1 ul556_1 hcc556 hce556
                         have HR556_0 := zA hi556_0
                         have HC556_0 := zA hl556_0
                         clear hi556_0 hl556_0
                         have HR556_1 := zA hi556_1
                         have HC556_1 := zA hl556_1
                         clear hi556_1 hl556_1
                         replace p556 := eq_true p556
                         replace q556 := eq_true q556
                         have p557 : 0 ≤ (x63_3 : Int) := of_decide_eq_true (by first | (with_reducible assumption) | assumption)
                         have q557 : x63_3 < (l1.length : Int) := of_decide_eq_true (by first | (with_reducible assumption) | assumption)
                         obtain ⟨ad557, e557, hx557_0⟩ := Kd.at_int HR1.out x63_3 p557 q557
                         have hw557_0 := hx557_0
                         cases e557
                         replace hx557_0 := (HB.out.cell (World.block_lt_of_cell? w _ hx557_0)).trans hx557_0
                         replace p557 := eq_true p557
                         replace q557 := eq_true q557
                         have p570 : 0 ≤ (x63_3 : Int) := of_decide_eq_true (by first | (with_reducible assumption) | assumption)
                         have q570 : x63_3 < (t534.length : Int) := of_decide_eq_true (by first | (with_reducible assumption) | assumption)
                         obtain ⟨ad570, A570_0, c570_0, A570_1, c570_1, e570, hx570_0, hx570_1, hl570_0, hi570_0, hl570_1, hi570_1⟩ := at_T29 (Kd.zcy HO_9.out).2.2 x63_3 p570 q570
                         obtain rfl : ad538 = ad570 := (by injection e570)
                         obtain ⟨ce570, hce570, hMe570, hcc570⟩ := Kd.N_get HO_9.out z29 x63_3 p570 (by first | exact q570 | exact of_decide_eq_true (by first | (with_reducible assumption) | assumption) | (have e_ := (Kd.zcy HO_9.out).1; omega))
                         obtain ⟨ua570_0, uc570_0, ua570_1, uc570_1, rfl, ul570_0, ge570_0, ul570_1, ge570_1⟩ := k29_openF hMe570
                         have hv570_0 := hcc570 0 _ rfl
                         rw [Nat.add_zero] at hv570_0
                         replace hv570_0 := Option.some.inj (hv570_0.symm.trans hx570_0)
                         injection hv570_0 with hva_ hvn_ hvc_
                         rw [hva_] at ge570_0
                         rw [hvc_] at ul570_0
                         have HL570_0 := zA (show Kd.V (Kd.int .u64) 82 _ w.heap.size _ _ ((rd_T29 t534 x63_3).f0) from Kd.V_mk ul570_0 ge570_0)
                         clear hva_ hvn_ hvc_ ge570_0 ul570_0
                         have hv570_1 := hcc570 1 _ rfl
                         rw [zdh _ _ 1 (by omega)] at hv570_1
                         replace hv570_1 := Option.some.inj (hv570_1.symm.trans hx570_1)
                         injection hv570_1 with hva_ hvn_ hvc_
                         rw [hva_] at ge570_1
                         rw [hvc_] at ul570_1
                         have HL570_1 := zA (show Kd.V (Kd.int .u64) 82 _ w.heap.size _ _ ((rd_T29 t534 x63_3).f1) from Kd.V_mk ul570_1 ge570_1)
                         clear hva_ hvn_ hvc_ ge570_1 ul570_1 hcc570 hce570
                         have HR570_0 := zA hi570_0
                         have HC570_0 := zA hl570_0
                         clear hi570_0 hl570_0
                         have HR570_1 := zA hi570_1
                         have HC570_1 := zA hl570_1
                         clear hi570_1 hl570_1
                         replace p570 := eq_true p570
                         replace q570 := eq_true q570
                         have p571 : 0 ≤ (x47_2 : Int) := of_decide_eq_true (by first | (with_reducible assumption) | assumption)
                         have q571 : x47_2 < (l1.length : Int) := of_decide_eq_true (by first | (with_reducible assumption) | assumption)
                         obtain ⟨ad571, e571, hx571_0⟩ := Kd.at_int HR1.out x47_2 p571 q571
                         have hw571_0 := hx571_0
                         obtain rfl : ad557 = ad571 := (by injection e571)
                         replace hx571_0 := (HB.out.cell (World.block_lt_of_cell? w _ hx571_0)).trans hx571_0
                         replace p571 := eq_true p571
                         replace q571 := eq_true q571
                         obtain ⟨E1_, E2_⟩ : A547_0 = A556_0 ∧ c547_0 = c556_0 := (by have e_ := Option.some.inj (hx547_0.symm.trans hx556_0); injection e_ with a_ b_ c_; exact ⟨a_, c_⟩)
                         subst E1_
                         subst E2_
                         obtain ⟨E1_, E2_⟩ : A547_1 = A556_1 ∧ c547_1 = c556_1 := (by have e_ := Option.some.inj (hx547_1.symm.trans hx556_1); injection e_ with a_ b_ c_; exact ⟨a_, c_⟩)
                         subst E1_
                         subst E2_
                         refine start_ (n := 35) (S := fun w' => w'.cell? (ad538.add ((x47_2).toNat * 2)) = some (.slice A547_0 ((rd_T29 t534 x47_2).f0).length c547_0) ∧ w'.cell? ⟨(ad538.add ((x47_2).toNat * 2)).block, (ad538.add ((x47_2).toNat * 2)).off + 1, none⟩ = some (.slice A547_1 ((rd_T29 t534 x47_2).f1).length c547_1) ∧ w'.cell? (ad539.add (x47_2).toNat) = some (.int .i64 (rd l2 x47_2)) ∧ w'.cell? (ad538.add ((x47_2).toNat * 2)) = some (.slice A547_0 ((rd_T29 t534 x47_2).f0).length c547_0) ∧ w'.cell? ⟨(ad538.add ((x47_2).toNat * 2)).block, (ad538.add ((x47_2).toNat * 2)).off + 1, none⟩ = some (.slice A547_1 ((rd_T29 t534 x47_2).f1).length c547_1) ∧ w'.cell? (ad557.add (x63_3).toNat) = some (.int .i64 (rd l1 x63_3)) ∧ w'.cell? (ad538.add ((x63_3).toNat * 2)) = some (.slice A570_0 ((rd_T29 t534 x63_3).f0).length c570_0) ∧ w'.cell? ⟨(ad538.add ((x63_3).toNat * 2)).block, (ad538.add ((x63_3).toNat * 2)).off + 1, none⟩ = some (.slice A570_1 ((rd_T29 t534 x63_3).f1).length c570_1) ∧ w'.cell? (ad557.add (x47_2).toNat) = some (.int .i64 (rd l1 x47_2))) (ds := []) #[false, false, false, false, false, false, false, false, false, false, false, false, false, false, false, false, false, false, false, false, false, false, false, false, false, false, false, false, false, false, false, false, false, false, false] (by kernel_rfl) rfl rfl ⟨hx547_0, hx547_1, ((HB.out.cell (World.block_lt_of_cell? w _ hw548_0)).trans hw548_0), hx556_0, hx556_1, ((HB.out.cell (World.block_lt_of_cell? w _ hw557_0)).trans hw557_0), hx570_0, hx570_1, ((HB.out.cell (World.block_lt_of_cell? w _ hw571_0)).trans hw571_0)⟩ (fun hHeld => ?_); refine zcq zac.tab17 zac.bits17 (fun HT_ HW_ => ?_)
                         generalize wr.drew = w63 at HO_9 HO_533000 HO_533001 HO_534000 HO_534001 BK517 BK532 BK533 HR538_0 HR538_1 HB HL547_0 HL547_1 HL556_0 HL556_1 HL570_0 HL570_1 HR547_0 HR547_1 HR556_0 HR556_1 HR570_0 HR570_1 hx547_0 hx547_1 hx548_0 hx556_0 hx556_1 hx557_0 hx570_0 hx570_1 hx571_0 hHeld ⊢
                         refine pure_ (i := 0) (N := some 66) (v := ?_) (a' := ?_) #[true, false, false, false, false, false, false, false, false, false, false, false, false, false, false, false, false, false, false, false, false, false, false, false, false, false, false, false, false, false, false, false, false, false, false] rfl rfl (zat HT_.out (by kernel_rfl)) (fun _ _ _ h => h) (Or.inl ⟨by rfl, ?_⟩) ?_ ?_
                         rotate_left
                         ·
                          intro w'
                          go_simp
                          with_reducible rfl
                         rotate_left
                         ·
                          simp only [Act.put, zs1, zs2, zs3, i64_w, i32_w]
                          rfl
                         refine pure_ (i := 1) (N := some 67) (v := ?_) (a' := ?_) #[true, true, false, false, false, false, false, false, false, false, false, false, false, false, false, false, false, false, false, false, false, false, false, false, false, false, false, false, false, false, false, false, false, false, false] rfl rfl (zat HT_.out (by kernel_rfl)) (fun _ _ _ h => h) (Or.inl ⟨by rfl, ?_⟩) ?_ ?_
                         rotate_left
                         ·
                          intro w'
                          go_simp
                          with_reducible rfl
                         rotate_left
                         ·
                          simp only [Act.put, zs1, zs2, zs3, i64_w, i32_w]
                          rfl
                         refine pure_ (i := 2) (N := some 68) (v := ?_) (a' := ?_) #[true, true, true, false, false, false, false, false, false, false, false, false, false, false, false, false, false, false, false, false, false, false, false, false, false, false, false, false, false, false, false, false, false, false, false] rfl rfl (zat HT_.out (by kernel_rfl)) (fun _ _ _ h => h) (Or.inl ⟨by rfl, ?_⟩) ?_ ?_
                         rotate_left
                         ·
                          intro w'
                          go_simp
                          with_reducible rfl
                         rotate_left
                         ·
                          simp only [Act.put, zs1, zs2, zs3, i64_w, i32_w]
                          rfl
                         refine pure_ (i := 4) (N := some 70) (v := ?_) (a' := ?_) #[true, true, true, false, true, false, false, false, false, false, false, false, false, false, false, false, false, false, false, false, false, false, false, false, false, false, false, false, false, false, false, false, false, false, false] rfl rfl (zat HT_.out (by kernel_rfl)) (fun _ _ _ h => h) (Or.inl ⟨by rfl, ?_⟩) ?_ ?_
                         rotate_left
                         ·
                          intro w'
                          go_simp
                          with_reducible rfl
                         rotate_left
                         ·
                          simp only [Act.put, zs1, zs2, zs3, i64_w, i32_w]
                          rfl
                         refine pure_ (i := 5) (N := some 71) (v := ?_) (a' := ?_) #[true, true, true, false, true, true, false, false, false, false, false, false, false, false, false, false, false, false, false, false, false, false, false, false, false, false, false, false, false, false, false, false, false, false, false] rfl rfl (zat HT_.out (by kernel_rfl)) (fun _ _ _ h => h) (Or.inl ⟨by rfl, ?_⟩) ?_ ?_
                         rotate_left
                         ·
                          intro w'
                          go_simp
                          with_reducible rfl
                         rotate_left
                         ·
                          simp only [Act.put, zs1, zs2, zs3, i64_w, i32_w]
                          rfl
                         refine pure_ (i := 6) (N := some 72) (v := ?_) (a' := ?_) #[true, true, true, false, true, true, true, false, false, false, false, false, false, false, false, false, false, false, false, false, false, false, false, false, false, false, false, false, false, false, false, false, false, false, false] rfl rfl (zat HT_.out (by kernel_rfl)) (fun _ _ _ h => h) (Or.inl ⟨by rfl, ?_⟩) ?_ ?_
                         rotate_left
                         ·
                          intro w'
                          go_simp
                          with_reducible rfl
                         rotate_left
                         ·
                          simp only [Act.put, zs1, zs2, zs3, i64_w, i32_w]
                          rfl
                         refine take_ (i := 3) (N := some 69) (v := ?_) (a' := ?_) #[true, true, true, true, true, true, true, false, false, false, false, false, false, false, false, false, false, false, false, false, false, false, false, false, false, false, false, false, false, false, false, false, false, false, false] rfl rfl (zbk HT_.out HW_.out (by kernel_rfl)) (fun _ _ _ h => h) (Or.inl ⟨by rfl, ?_⟩) hHeld ?_ ?_
                         rotate_left
                         ·
                          rintro w' ⟨s0, s1, s2, s3, s4, s5, s6, s7, s8⟩
                          go_simp
                          with_reducible rfl
                         rotate_left
                         ·
                          simp only [Act.put, zs1, zs2, zs3, i64_w, i32_w]
                          rfl
                         refine take_ (i := 7) (N := some 73) (v := ?_) (a' := ?_) #[true, true, true, true, true, true, true, true, false, false, false, false, false, false, false, false, false, false, false, false, false, false, false, false, false, false, false, false, false, false, false, false, false, false, false] rfl rfl (zbk HT_.out HW_.out (by kernel_rfl)) (fun _ _ _ h => h) (Or.inl ⟨by rfl, ?_⟩) hHeld ?_ ?_
                         rotate_left
                         ·
                          rintro w' ⟨s0, s1, s2, s3, s4, s5, s6, s7, s8⟩
                          go_simp
                          with_reducible rfl
                         rotate_left
                         ·
                          simp only [Act.put, zs1, zs2, zs3, i64_w, i32_w]
                          rfl
                         refine one_ (i := 8) (N := some 74) #[true, true, true, true, true, true, true, true, true, false, false, false, false, false, false, false, false, false, false, false, false, false, false, false, false, false, false, false, false, false, false, false, false, false, false] rfl rfl (zbu HT_.out (by kernel_rfl)) (by decide) (fun K hK => ?_)
                         refine goes_ Tryz.func18 (by kernel_rfl) rfl #[.int .i64 (rd l2 x47_2)] (by rfl) rfl rfl (zE) ?_
                         with_reducible refine (zb9.calls k3 (rd l2 x47_2) t549 t552 _ A50.out).mono ?_
                         rintro e w64 ⟨v550, v553, rfl, ho0, ho1, hb⟩
                         have HS0_ := (hb.cell (World.block_lt_of_cell? _ _ (hHeld.1))).trans (hHeld.1)
                         have HS1_ := (hb.cell (World.block_lt_of_cell? _ _ (hHeld.2.1))).trans (hHeld.2.1)
                         have HS3_ := (hb.cell (World.block_lt_of_cell? _ _ (hHeld.2.2.2.1))).trans (hHeld.2.2.2.1)
                         have HS4_ := (hb.cell (World.block_lt_of_cell? _ _ (hHeld.2.2.2.2.1))).trans (hHeld.2.2.2.2.1)
                         have HS6_ := (hb.cell (World.block_lt_of_cell? _ _ (hHeld.2.2.2.2.2.2.1))).trans (hHeld.2.2.2.2.2.2.1)
                         have HS7_ := (hb.cell (World.block_lt_of_cell? _ _ (hHeld.2.2.2.2.2.2.2.1))).trans (hHeld.2.2.2.2.2.2.2.1)
                         refine ⟨_, rfl, ?_⟩
                         have n0_ := zA (Kd.zdb (zN HO_9) hb)
                         have n1_ := zA (Kd.zau (zV HO_533000) hb)
                         have n2_ := zA (Kd.zau (zV HO_533001) hb)
                         have n3_ := zA (Kd.zbf (zR HO_534000) hb)
                         have n4_ := zA (Kd.zbf (zR HO_534001) hb)
                         have n7_ := zA (Kd.zaz (Kd.zam (ok' := fun k_ => some k_ ≠ (.slice (some ad538) t534.length co33 : Value).ownBlock ∧ some k_ ≠ (.slice Ao28 t526.length co28 : Value).ownBlock ∧ some k_ ≠ (.slice Ao31 t529.length co31 : Value).ownBlock ∧ k_ ≠ gb517 ∧ k_ ≠ gb532 ∧ k_ ≠ gb533) ho0 (fun k_ hk_ => ⟨(Kd.fresh' (Kd.N_lt (zN HO_9)) k_ hk_), (Kd.fresh' (Kd.R_lt (zR HO_534000)) k_ hk_), (Kd.fresh' (Kd.R_lt (zR HO_534001)) k_ hk_), (Kd.freshB (g := gb517) (o := .cells #[.int .i64 a0_0, .int .i64 a0_1] 23 (0, 0)) (zK BK517) k_ hk_), (Kd.freshB (g := gb532) (o := .cells #[.slice Ao23 t520.length co23, .slice Ao27 t523.length co27] 29 (0, 0)) (zK BK532) k_ hk_), (Kd.freshB (g := gb533) (o := .cells #[.slice Ao28 t526.length co28, .slice Ao31 t529.length co31] 32 (0, 0)) (zK BK533) k_ hk_)⟩)) (za (zB HB)))
                         have n8_ := zA (Kd.zaz (Kd.zam (ok' := fun k_ => some k_ ≠ (.slice (some ad538) t534.length co33 : Value).ownBlock ∧ some k_ ≠ (.slice Ao28 t526.length co28 : Value).ownBlock ∧ some k_ ≠ (.slice Ao31 t529.length co31 : Value).ownBlock ∧ k_ ≠ gb517 ∧ k_ ≠ gb532 ∧ k_ ≠ gb533) ho1 (fun k_ hk_ => ⟨(Kd.fresh' (Kd.N_lt (zN HO_9)) k_ hk_), (Kd.fresh' (Kd.R_lt (zR HO_534000)) k_ hk_), (Kd.fresh' (Kd.R_lt (zR HO_534001)) k_ hk_), (Kd.freshB (g := gb517) (o := .cells #[.int .i64 a0_0, .int .i64 a0_1] 23 (0, 0)) (zK BK517) k_ hk_), (Kd.freshB (g := gb532) (o := .cells #[.slice Ao23 t520.length co23, .slice Ao27 t523.length co27] 29 (0, 0)) (zK BK532) k_ hk_), (Kd.freshB (g := gb533) (o := .cells #[.slice Ao28 t526.length co28, .slice Ao31 t529.length co31] 32 (0, 0)) (zK BK533) k_ hk_)⟩)) (za (zB HB)))
                         have n9_ := zA (zad (g := gb517) (o := .cells #[.int .i64 a0_0, .int .i64 a0_1] 23 (0, 0)) (zK BK517) hb)
                         have n10_ := zA (zad (g := gb532) (o := .cells #[.slice Ao23 t520.length co23, .slice Ao27 t523.length co27] 29 (0, 0)) (zK BK532) hb)
                         have n11_ := zA (zad (g := gb533) (o := .cells #[.slice Ao28 t526.length co28, .slice Ao31 t529.length co31] 32 (0, 0)) (zK BK533) hb)
                         have n12_ := zA (Kd.zas (by repeat (first | (with_reducible exact HR538_0.out) | (with_reducible refine Kd.za6 ?_ _) | (with_reducible refine Kd.za5 ?_ _) | (with_reducible refine Kd.zbe ?_) | exact HR538_0.out)) hb)
                         have n13_ := zA (Kd.zas (by repeat (first | (with_reducible exact HR538_1.out) | (with_reducible refine Kd.za6 ?_ _) | (with_reducible refine Kd.za5 ?_ _) | (with_reducible refine Kd.zbe ?_) | exact HR538_1.out)) hb)
                         have n14_ := zA (Kd.zas (by repeat (first | (with_reducible exact HR547_0.out) | (with_reducible refine Kd.za6 ?_ _) | (with_reducible refine Kd.za5 ?_ _) | (with_reducible refine Kd.zbe ?_) | exact HR547_0.out)) hb)
                         have n15_ := zA (Kd.zas (by repeat (first | (with_reducible exact HR547_1.out) | (with_reducible refine Kd.za6 ?_ _) | (with_reducible refine Kd.za5 ?_ _) | (with_reducible refine Kd.zbe ?_) | exact HR547_1.out)) hb)
                         have n16_ := zA (zaa (zB HB) hb)
                         have m0_ := zA (Kd.zau HL556_0.out hb)
                         have m1_ := zA (Kd.zau HL556_1.out hb)
                         have m2_ := zA (Kd.zau HL570_0.out hb)
                         have m3_ := zA (Kd.zau HL570_1.out hb)
                         have m4_ := zA (Kd.zas HR556_0.out hb)
                         have m5_ := zA (Kd.zas HR556_1.out hb)
                         have m6_ := zA (Kd.zas HR570_0.out hb)
                         have m7_ := zA (Kd.zas HR570_1.out hb)
                         clear HL556_0 HL556_1 HL570_0 HL570_1 HR556_0 HR556_1 HR570_0 HR570_1 HO_9 HO_533000 HO_533001 HO_534000 HO_534001 BK517 BK532 BK533 HR538_0 HR538_1 HR547_0 HR547_1 HB
                         have HO_9 := n0_
                         have HO_533000 := n1_
                         have HO_533001 := n2_
                         have HO_534000 := n3_
                         have HO_534001 := n4_
                         have HO551 := n7_
                         have HO554 := n8_
                         have BK517 := n9_
                         have BK532 := n10_
                         have BK533 := n11_
                         have HR538_0 := n12_
                         have HR538_1 := n13_
                         have HR547_0 := n14_
                         have HR547_1 := n15_
                         have HB := n16_
                         have HL556_0 := m0_
                         have HL556_1 := m1_
                         have HL570_0 := m2_
                         have HL570_1 := m3_
                         have HR556_0 := m4_
                         have HR556_1 := m5_
                         have HR570_0 := m6_
                         have HR570_1 := m7_
                         clear m0_ m1_ m2_ m3_ m4_ m5_ m6_ m7_ n0_ n1_ n2_ n3_ n4_ n7_ n8_ n9_ n10_ n11_ n12_ n13_ n14_ n15_ n16_
                         (try clear hb)
                         (try clear hb2)
                         (try clear hk)
                         (try clear hi)
                         (try clear ho0)
                         (try clear ho1)
                         obtain ⟨Ao65, co65, eo65⟩ := Kd.za1 HO551.out
                         (first | subst eo65 | (injection eo65 with f1_ f2_ f3_; have f4_ := f1_.symm; have f5_ := f3_.symm; clear f1_ f2_ f3_; subst f4_; subst f5_))
                         obtain ⟨Ao66, co66, eo66⟩ := Kd.za1 HO554.out
                         (first | subst eo66 | (injection eo66 with f1_ f2_ f3_; have f4_ := f1_.symm; have f5_ := f3_.symm; clear f1_ f2_ f3_; subst f4_; subst f5_))
                         refine hK.out _ _ ⟨HS0_, HS1_, ((HB.out.cell (World.block_lt_of_cell? w _ hw548_0)).trans hw548_0), HS3_, HS4_, ((HB.out.cell (World.block_lt_of_cell? w _ hw557_0)).trans hw557_0), HS6_, HS7_, ((HB.out.cell (World.block_lt_of_cell? w _ hw571_0)).trans hw571_0)⟩ (fun hHeld => ?_)
                         clear hK K
                         refine norm_ (a' := ?_) ?_ ?_
                         rotate_left
                         ·
                          show Act.put _ (some 74) _ = _
                          simp only [Act.put, zs1, zs2, zs3, i64_w, i32_w]
                          rfl
                         refine one_ (i := 9) (N := some 75) #[true, true, true, true, true, true, true, true, true, true, false, false, false, false, false, false, false, false, false, false, false, false, false, false, false, false, false, false, false, false, false, false, false, false, false] rfl rfl (zbu HT_.out (by kernel_rfl)) (by decide) (fun K hK => ?_)
                         refine goes_ Tryz.func17 (by kernel_rfl) rfl #[.agg #[.slice A547_0 ((rd_T29 t534 x47_2).f0).length c547_0, .slice A547_1 ((rd_T29 t534 x47_2).f1).length c547_1], .agg #[.slice Ao65 t549.length co65, .slice Ao66 t552.length co66]] (by rfl) rfl rfl (zE) ?_
                         with_reducible refine (zc9.calls k3 _ _ ((rd_T29 t534 x47_2).f0) _ _ ((rd_T29 t534 x47_2).f1) _ _ t549 _ _ t552 t555 _ ?side1 ?side2 ?side3 ?side4 ?side5 ?side6 ?side7 ?side8 A51.out).mono ?_
                         (case side1 => repeat (first | exact (by repeat (first | (with_reducible exact HR547_0.out) | (with_reducible refine Kd.za6 ?_ _) | (with_reducible refine Kd.za5 ?_ _) | (with_reducible refine Kd.zbe ?_) | exact HR547_0.out)) | (with_reducible refine Kd.za6 ?_ _) | (with_reducible refine Kd.za5 ?_ _) | (with_reducible refine Kd.zbe ?_)))
                         (case side2 => exact HC547_0.out)
                         (case side3 => repeat (first | exact (by repeat (first | (with_reducible exact HR547_1.out) | (with_reducible refine Kd.za6 ?_ _) | (with_reducible refine Kd.za5 ?_ _) | (with_reducible refine Kd.zbe ?_) | exact HR547_1.out)) | (with_reducible refine Kd.za6 ?_ _) | (with_reducible refine Kd.za5 ?_ _) | (with_reducible refine Kd.zbe ?_)))
                         (case side4 => exact HC547_1.out)
                         (case side5 => exact zJ (Kd.zak HO551.out).2.2)
                         (case side6 => exact (Kd.zak HO551.out).2.1)
                         (case side7 => exact zJ (Kd.zak HO554.out).2.2)
                         (case side8 => exact (Kd.zak HO554.out).2.1)
                         rintro e w67 ⟨rfl, hb⟩
                         have HS0_ := (hb.cell (World.block_lt_of_cell? _ _ (hHeld.1))).trans (hHeld.1)
                         have HS1_ := (hb.cell (World.block_lt_of_cell? _ _ (hHeld.2.1))).trans (hHeld.2.1)
                         have HS3_ := (hb.cell (World.block_lt_of_cell? _ _ (hHeld.2.2.2.1))).trans (hHeld.2.2.2.1)
                         have HS4_ := (hb.cell (World.block_lt_of_cell? _ _ (hHeld.2.2.2.2.1))).trans (hHeld.2.2.2.2.1)
                         have HS6_ := (hb.cell (World.block_lt_of_cell? _ _ (hHeld.2.2.2.2.2.2.1))).trans (hHeld.2.2.2.2.2.2.1)
                         have HS7_ := (hb.cell (World.block_lt_of_cell? _ _ (hHeld.2.2.2.2.2.2.2.1))).trans (hHeld.2.2.2.2.2.2.2.1)
                         refine ⟨_, rfl, ?_⟩
                         have n0_ := zA (Kd.zdb (zN HO_9) hb)
                         have n1_ := zA (Kd.zau (zV HO_533000) hb)
                         have n2_ := zA (Kd.zau (zV HO_533001) hb)
                         have n3_ := zA (Kd.zbf (zR HO_534000) hb)
                         have n4_ := zA (Kd.zbf (zR HO_534001) hb)
                         have n9_ := zA (zad (g := gb517) (o := .cells #[.int .i64 a0_0, .int .i64 a0_1] 23 (0, 0)) (zK BK517) hb)
                         have n10_ := zA (zad (g := gb532) (o := .cells #[.slice Ao23 t520.length co23, .slice Ao27 t523.length co27] 29 (0, 0)) (zK BK532) hb)
                         have n11_ := zA (zad (g := gb533) (o := .cells #[.slice Ao28 t526.length co28, .slice Ao31 t529.length co31] 32 (0, 0)) (zK BK533) hb)
                         have n12_ := zA (Kd.zas (by repeat (first | (with_reducible exact HR538_0.out) | (with_reducible refine Kd.za6 ?_ _) | (with_reducible refine Kd.za5 ?_ _) | (with_reducible refine Kd.zbe ?_) | exact HR538_0.out)) hb)
                         have n13_ := zA (Kd.zas (by repeat (first | (with_reducible exact HR538_1.out) | (with_reducible refine Kd.za6 ?_ _) | (with_reducible refine Kd.za5 ?_ _) | (with_reducible refine Kd.zbe ?_) | exact HR538_1.out)) hb)
                         have n16_ := zA (zaa (zB HB) hb)
                         have m0_ := zA (Kd.zau HL556_0.out hb)
                         have m1_ := zA (Kd.zau HL556_1.out hb)
                         have m2_ := zA (Kd.zau HL570_0.out hb)
                         have m3_ := zA (Kd.zau HL570_1.out hb)
                         have m4_ := zA (Kd.zas HR556_0.out hb)
                         have m5_ := zA (Kd.zas HR556_1.out hb)
                         have m6_ := zA (Kd.zas HR570_0.out hb)
                         have m7_ := zA (Kd.zas HR570_1.out hb)
                         clear HL556_0 HL556_1 HL570_0 HL570_1 HR556_0 HR556_1 HR570_0 HR570_1 HO_9 HO_533000 HO_533001 HO_534000 HO_534001 BK517 BK532 BK533 HR538_0 HR538_1 HB
                         have HO_9 := n0_
                         have HO_533000 := n1_
                         have HO_533001 := n2_
                         have HO_534000 := n3_
                         have HO_534001 := n4_
                         have BK517 := n9_
                         have BK532 := n10_
                         have BK533 := n11_
                         have HR538_0 := n12_
                         have HR538_1 := n13_
                         have HB := n16_
                         have HL556_0 := m0_
                         have HL556_1 := m1_
                         have HL570_0 := m2_
                         have HL570_1 := m3_
                         have HR556_0 := m4_
                         have HR556_1 := m5_
                         have HR570_0 := m6_
                         have HR570_1 := m7_
                         clear m0_ m1_ m2_ m3_ m4_ m5_ m6_ m7_ n0_ n1_ n2_ n3_ n4_ n9_ n10_ n11_ n12_ n13_ n16_
                         (try clear hb)
                         (try clear hb2)
                         (try clear hk)
                         (try clear hi)
                         refine hK.out _ _ ⟨HS0_, HS1_, ((HB.out.cell (World.block_lt_of_cell? w _ hw548_0)).trans hw548_0), HS3_, HS4_, ((HB.out.cell (World.block_lt_of_cell? w _ hw557_0)).trans hw557_0), HS6_, HS7_, ((HB.out.cell (World.block_lt_of_cell? w _ hw571_0)).trans hw571_0)⟩ (fun hHeld => ?_)
                         clear hK K
                         refine norm_ (a' := ?_) ?_ ?_
                         rotate_left
                         ·
                          show Act.put _ (some 75) _ = _
                          simp only [Act.put, zs1, zs2, zs3, i64_w, i32_w]
                          rfl
                         refine pure_ (i := 10) (N := some 76) (v := ?_) (a' := ?_) #[true, true, true, true, true, true, true, true, true, true, true, false, false, false, false, false, false, false, false, false, false, false, false, false, false, false, false, false, false, false, false, false, false, false, false] rfl rfl (zat HT_.out (by kernel_rfl)) (fun _ _ _ h => h) (Or.inl ⟨by rfl, ?_⟩) ?_ ?_
                         rotate_left
                         ·
                          intro w'
                          go_simp
                          with_reducible rfl
                         rotate_left
                         ·
                          simp only [Act.put, zs1, zs2, zs3, i64_w, i32_w]
                          rfl
                         refine pure_ (i := 11) (N := some 77) (v := ?_) (a' := ?_) #[true, true, true, true, true, true, true, true, true, true, true, true, false, false, false, false, false, false, false, false, false, false, false, false, false, false, false, false, false, false, false, false, false, false, false] rfl rfl (zat HT_.out (by kernel_rfl)) (fun _ _ _ h => h) (Or.inl ⟨by rfl, ?_⟩) ?_ ?_
                         rotate_left
                         ·
                          intro w'
                          go_simp
                          with_reducible rfl
                         rotate_left
                         ·
                          simp only [Act.put, zs1, zs2, zs3, i64_w, i32_w]
                          rfl
                         refine pure_ (i := 12) (N := some 78) (v := ?_) (a' := ?_) #[true, true, true, true, true, true, true, true, true, true, true, true, true, false, false, false, false, false, false, false, false, false, false, false, false, false, false, false, false, false, false, false, false, false, false] rfl rfl (zat HT_.out (by kernel_rfl)) (fun _ _ _ h => h) (Or.inl ⟨by rfl, ?_⟩) ?_ ?_
                         rotate_left
                         ·
                          intro w'
                          go_simp
                          with_reducible rfl
                         rotate_left
                         ·
                          simp only [Act.put, zs1, zs2, zs3, i64_w, i32_w]
                          rfl
                         refine pure_ (i := 13) (N := some 79) (v := ?_) (a' := ?_) #[true, true, true, true, true, true, true, true, true, true, true, true, true, true, false, false, false, false, false, false, false, false, false, false, false, false, false, false, false, false, false, false, false, false, false] rfl rfl (zat HT_.out (by kernel_rfl)) (fun _ _ _ h => h) (Or.inl ⟨by rfl, ?_⟩) ?_ ?_
                         rotate_left
                         ·
                          intro w'
                          go_simp
                          with_reducible rfl
                         rotate_left
                         ·
                          simp only [Act.put, zs1, zs2, zs3, i64_w, i32_w]
                          rfl
                         refine pure_ (i := 14) (N := some 80) (v := ?_) (a' := ?_) #[true, true, true, true, true, true, true, true, true, true, true, true, true, true, true, false, false, false, false, false, false, false, false, false, false, false, false, false, false, false, false, false, false, false, false] rfl rfl (zat HT_.out (by kernel_rfl)) (fun _ _ _ h => h) (Or.inl ⟨by rfl, ?_⟩) ?_ ?_
                         rotate_left
                         ·
                          intro w'
                          go_simp
                          with_reducible rfl
                         rotate_left
                         ·
                          simp only [Act.put, zs1, zs2, zs3, i64_w, i32_w]
                          rfl
                         refine pure_ (i := 16) (N := some 82) (v := ?_) (a' := ?_) #[true, true, true, true, true, true, true, true, true, true, true, true, true, true, true, false, true, false, false, false, false, false, false, false, false, false, false, false, false, false, false, false, false, false, false] rfl rfl (zat HT_.out (by kernel_rfl)) (fun _ _ _ h => h) (Or.inl ⟨by rfl, ?_⟩) ?_ ?_
                         rotate_left
                         ·
                          intro w'
                          go_simp
                          with_reducible rfl
                         rotate_left
                         ·
                          simp only [Act.put, zs1, zs2, zs3, i64_w, i32_w]
                          rfl
                         refine pure_ (i := 17) (N := some 83) (v := ?_) (a' := ?_) #[true, true, true, true, true, true, true, true, true, true, true, true, true, true, true, false, true, true, false, false, false, false, false, false, false, false, false, false, false, false, false, false, false, false, false] rfl rfl (zat HT_.out (by kernel_rfl)) (fun _ _ _ h => h) (Or.inl ⟨by rfl, ?_⟩) ?_ ?_
                         rotate_left
                         ·
                          intro w'
                          go_simp
                          with_reducible rfl
                         rotate_left
                         ·
                          simp only [Act.put, zs1, zs2, zs3, i64_w, i32_w]
                          rfl
                         refine pure_ (i := 18) (N := some 84) (v := ?_) (a' := ?_) #[true, true, true, true, true, true, true, true, true, true, true, true, true, true, true, false, true, true, true, false, false, false, false, false, false, false, false, false, false, false, false, false, false, false, false] rfl rfl (zat HT_.out (by kernel_rfl)) (fun _ _ _ h => h) (Or.inl ⟨by rfl, ?_⟩) ?_ ?_
                         rotate_left
                         ·
                          intro w'
                          go_simp
                          with_reducible rfl
                         rotate_left
                         ·
                          simp only [Act.put, zs1, zs2, zs3, i64_w, i32_w]
                          rfl
                         refine pure_ (i := 22) (N := some 88) (v := ?_) (a' := ?_) #[true, true, true, true, true, true, true, true, true, true, true, true, true, true, true, false, true, true, true, false, false, false, true, false, false, false, false, false, false, false, false, false, false, false, false] rfl rfl (zat HT_.out (by kernel_rfl)) (fun _ _ _ h => h) (Or.inl ⟨by rfl, ?_⟩) ?_ ?_
                         rotate_left
                         ·
                          intro w'
                          go_simp
                          with_reducible rfl
                         rotate_left
                         ·
                          simp only [Act.put, zs1, zs2, zs3, i64_w, i32_w]
                          rfl
                         refine pure_ (i := 23) (N := some 89) (v := ?_) (a' := ?_) #[true, true, true, true, true, true, true, true, true, true, true, true, true, true, true, false, true, true, true, false, false, false, true, true, false, false, false, false, false, false, false, false, false, false, false] rfl rfl (zat HT_.out (by kernel_rfl)) (fun _ _ _ h => h) (Or.inl ⟨by rfl, ?_⟩) ?_ ?_
                         rotate_left
                         ·
                          intro w'
                          go_simp
                          with_reducible rfl
                         rotate_left
                         ·
                          simp only [Act.put, zs1, zs2, zs3, i64_w, i32_w]
                          rfl
                         refine pure_ (i := 24) (N := some 90) (v := ?_) (a' := ?_) #[true, true, true, true, true, true, true, true, true, true, true, true, true, true, true, false, true, true, true, false, false, false, true, true, true, false, false, false, false, false, false, false, false, false, false] rfl rfl (zat HT_.out (by kernel_rfl)) (fun _ _ _ h => h) (Or.inl ⟨by rfl, ?_⟩) ?_ ?_
                         rotate_left
                         ·
                          intro w'
                          go_simp
                          with_reducible rfl
                         rotate_left
                         ·
                          simp only [Act.put, zs1, zs2, zs3, i64_w, i32_w]
                          rfl
                         refine pure_ (i := 26) (N := some 92) (v := ?_) (a' := ?_) #[true, true, true, true, true, true, true, true, true, true, true, true, true, true, true, false, true, true, true, false, false, false, true, true, true, false, true, false, false, false, false, false, false, false, false] rfl rfl (zat HT_.out (by kernel_rfl)) (fun _ _ _ h => h) (Or.inl ⟨by rfl, ?_⟩) ?_ ?_
                         rotate_left
                         ·
                          intro w'
                          go_simp
                          with_reducible rfl
                         rotate_left
                         ·
                          simp only [Act.put, zs1, zs2, zs3, i64_w, i32_w]
                          rfl
                         refine pure_ (i := 27) (N := some 93) (v := ?_) (a' := ?_) #[true, true, true, true, true, true, true, true, true, true, true, true, true, true, true, false, true, true, true, false, false, false, true, true, true, false, true, true, false, false, false, false, false, false, false] rfl rfl (zat HT_.out (by kernel_rfl)) (fun _ _ _ h => h) (Or.inl ⟨by rfl, ?_⟩) ?_ ?_
                         rotate_left
                         ·
                          intro w'
                          go_simp
                          with_reducible rfl
                         rotate_left
                         ·
                          simp only [Act.put, zs1, zs2, zs3, i64_w, i32_w]
                          rfl
                         refine pure_ (i := 28) (N := some 94) (v := ?_) (a' := ?_) #[true, true, true, true, true, true, true, true, true, true, true, true, true, true, true, false, true, true, true, false, false, false, true, true, true, false, true, true, true, false, false, false, false, false, false] rfl rfl (zat HT_.out (by kernel_rfl)) (fun _ _ _ h => h) (Or.inl ⟨by rfl, ?_⟩) ?_ ?_
                         rotate_left
                         ·
                          intro w'
                          go_simp
                          with_reducible rfl
                         rotate_left
                         ·
                          simp only [Act.put, zs1, zs2, zs3, i64_w, i32_w]
                          rfl
                         refine take_ (i := 15) (N := some 81) (v := ?_) (a' := ?_) #[true, true, true, true, true, true, true, true, true, true, true, true, true, true, true, true, true, true, true, false, false, false, true, true, true, false, true, true, true, false, false, false, false, false, false] rfl rfl (zbk HT_.out HW_.out (by kernel_rfl)) (fun _ _ _ h => h) (Or.inl ⟨by rfl, ?_⟩) hHeld ?_ ?_
                         rotate_left
                         ·
                          rintro w' ⟨s0, s1, s2, s3, s4, s5, s6, s7, s8⟩
                          go_simp
                          with_reducible rfl
                         rotate_left
                         ·
                          simp only [Act.put, zs1, zs2, zs3, i64_w, i32_w]
                          rfl
                         refine take_ (i := 19) (N := some 85) (v := ?_) (a' := ?_) #[true, true, true, true, true, true, true, true, true, true, true, true, true, true, true, true, true, true, true, true, false, false, true, true, true, false, true, true, true, false, false, false, false, false, false] rfl rfl (zbk HT_.out HW_.out (by kernel_rfl)) (fun _ _ _ h => h) (Or.inl ⟨by rfl, ?_⟩) hHeld ?_ ?_
                         rotate_left
                         ·
                          rintro w' ⟨s0, s1, s2, s3, s4, s5, s6, s7, s8⟩
                          go_simp
                          with_reducible rfl
                         rotate_left
                         ·
                          simp only [Act.put, zs1, zs2, zs3, i64_w, i32_w]
                          rfl
                         refine take_ (i := 25) (N := some 91) (v := ?_) (a' := ?_) #[true, true, true, true, true, true, true, true, true, true, true, true, true, true, true, true, true, true, true, true, false, false, true, true, true, true, true, true, true, false, false, false, false, false, false] rfl rfl (zbk HT_.out HW_.out (by kernel_rfl)) (fun _ _ _ h => h) (Or.inl ⟨by rfl, ?_⟩) hHeld ?_ ?_
                         rotate_left
                         ·
                          rintro w' ⟨s0, s1, s2, s3, s4, s5, s6, s7, s8⟩
                          go_simp
                          with_reducible rfl
                         rotate_left
                         ·
                          simp only [Act.put, zs1, zs2, zs3, i64_w, i32_w]
                          rfl
                         refine take_ (i := 29) (N := some 95) (v := ?_) (a' := ?_) #[true, true, true, true, true, true, true, true, true, true, true, true, true, true, true, true, true, true, true, true, false, false, true, true, true, true, true, true, true, true, false, false, false, false, false] rfl rfl (zbk HT_.out HW_.out (by kernel_rfl)) (fun _ _ _ h => h) (Or.inl ⟨by rfl, ?_⟩) hHeld ?_ ?_
                         rotate_left
                         ·
                          rintro w' ⟨s0, s1, s2, s3, s4, s5, s6, s7, s8⟩
                          go_simp
                          with_reducible rfl
                         rotate_left
                         ·
                          simp only [Act.put, zs1, zs2, zs3, i64_w, i32_w]
                          rfl
                         refine one_ (i := 20) (N := some 86) #[true, true, true, true, true, true, true, true, true, true, true, true, true, true, true, true, true, true, true, true, true, false, true, true, true, true, true, true, true, true, false, false, false, false, false] rfl rfl (zbu HT_.out (by kernel_rfl)) (by decide) (fun K hK => ?_)
                         refine goes_ Tryz.func18 (by kernel_rfl) rfl #[.int .i64 (rd l1 x63_3)] (by rfl) rfl rfl (zE) ?_
                         with_reducible refine (zb9.calls k3 (rd l1 x63_3) t558 t561 _ A55.out).mono ?_
                         rintro e w68 ⟨v559, v562, rfl, ho0, ho1, hb⟩
                         have HS0_ := (hb.cell (World.block_lt_of_cell? _ _ (hHeld.1))).trans (hHeld.1)
                         have HS1_ := (hb.cell (World.block_lt_of_cell? _ _ (hHeld.2.1))).trans (hHeld.2.1)
                         have HS3_ := (hb.cell (World.block_lt_of_cell? _ _ (hHeld.2.2.2.1))).trans (hHeld.2.2.2.1)
                         have HS4_ := (hb.cell (World.block_lt_of_cell? _ _ (hHeld.2.2.2.2.1))).trans (hHeld.2.2.2.2.1)
                         have HS6_ := (hb.cell (World.block_lt_of_cell? _ _ (hHeld.2.2.2.2.2.2.1))).trans (hHeld.2.2.2.2.2.2.1)
                         have HS7_ := (hb.cell (World.block_lt_of_cell? _ _ (hHeld.2.2.2.2.2.2.2.1))).trans (hHeld.2.2.2.2.2.2.2.1)
                         refine ⟨_, rfl, ?_⟩
                         have n0_ := zA (Kd.zdb (zN HO_9) hb)
                         have n1_ := zA (Kd.zau (zV HO_533000) hb)
                         have n2_ := zA (Kd.zau (zV HO_533001) hb)
                         have n3_ := zA (Kd.zbf (zR HO_534000) hb)
                         have n4_ := zA (Kd.zbf (zR HO_534001) hb)
                         have n11_ := zA (Kd.zaz (Kd.zam (ok' := fun k_ => some k_ ≠ (.slice (some ad538) t534.length co33 : Value).ownBlock ∧ some k_ ≠ (.slice Ao28 t526.length co28 : Value).ownBlock ∧ some k_ ≠ (.slice Ao31 t529.length co31 : Value).ownBlock ∧ k_ ≠ gb517 ∧ k_ ≠ gb532 ∧ k_ ≠ gb533) ho0 (fun k_ hk_ => ⟨(Kd.fresh' (Kd.N_lt (zN HO_9)) k_ hk_), (Kd.fresh' (Kd.R_lt (zR HO_534000)) k_ hk_), (Kd.fresh' (Kd.R_lt (zR HO_534001)) k_ hk_), (Kd.freshB (g := gb517) (o := .cells #[.int .i64 a0_0, .int .i64 a0_1] 23 (0, 0)) (zK BK517) k_ hk_), (Kd.freshB (g := gb532) (o := .cells #[.slice Ao23 t520.length co23, .slice Ao27 t523.length co27] 29 (0, 0)) (zK BK532) k_ hk_), (Kd.freshB (g := gb533) (o := .cells #[.slice Ao28 t526.length co28, .slice Ao31 t529.length co31] 32 (0, 0)) (zK BK533) k_ hk_)⟩)) (za (zB HB)))
                         have n12_ := zA (Kd.zaz (Kd.zam (ok' := fun k_ => some k_ ≠ (.slice (some ad538) t534.length co33 : Value).ownBlock ∧ some k_ ≠ (.slice Ao28 t526.length co28 : Value).ownBlock ∧ some k_ ≠ (.slice Ao31 t529.length co31 : Value).ownBlock ∧ k_ ≠ gb517 ∧ k_ ≠ gb532 ∧ k_ ≠ gb533) ho1 (fun k_ hk_ => ⟨(Kd.fresh' (Kd.N_lt (zN HO_9)) k_ hk_), (Kd.fresh' (Kd.R_lt (zR HO_534000)) k_ hk_), (Kd.fresh' (Kd.R_lt (zR HO_534001)) k_ hk_), (Kd.freshB (g := gb517) (o := .cells #[.int .i64 a0_0, .int .i64 a0_1] 23 (0, 0)) (zK BK517) k_ hk_), (Kd.freshB (g := gb532) (o := .cells #[.slice Ao23 t520.length co23, .slice Ao27 t523.length co27] 29 (0, 0)) (zK BK532) k_ hk_), (Kd.freshB (g := gb533) (o := .cells #[.slice Ao28 t526.length co28, .slice Ao31 t529.length co31] 32 (0, 0)) (zK BK533) k_ hk_)⟩)) (za (zB HB)))
                         have n13_ := zA (zad (g := gb517) (o := .cells #[.int .i64 a0_0, .int .i64 a0_1] 23 (0, 0)) (zK BK517) hb)
                         have n14_ := zA (zad (g := gb532) (o := .cells #[.slice Ao23 t520.length co23, .slice Ao27 t523.length co27] 29 (0, 0)) (zK BK532) hb)
                         have n15_ := zA (zad (g := gb533) (o := .cells #[.slice Ao28 t526.length co28, .slice Ao31 t529.length co31] 32 (0, 0)) (zK BK533) hb)
                         have n16_ := zA (Kd.zas (by repeat (first | (with_reducible exact HR538_0.out) | (with_reducible refine Kd.za6 ?_ _) | (with_reducible refine Kd.za5 ?_ _) | (with_reducible refine Kd.zbe ?_) | exact HR538_0.out)) hb)
                         have n17_ := zA (Kd.zas (by repeat (first | (with_reducible exact HR538_1.out) | (with_reducible refine Kd.za6 ?_ _) | (with_reducible refine Kd.za5 ?_ _) | (with_reducible refine Kd.zbe ?_) | exact HR538_1.out)) hb)
                         have n20_ := zA (Kd.zas (by repeat (first | (with_reducible exact HR556_0.out) | (with_reducible refine Kd.za6 ?_ _) | (with_reducible refine Kd.za5 ?_ _) | (with_reducible refine Kd.zbe ?_) | exact HR556_0.out)) hb)
                         have n21_ := zA (Kd.zas (by repeat (first | (with_reducible exact HR556_1.out) | (with_reducible refine Kd.za6 ?_ _) | (with_reducible refine Kd.za5 ?_ _) | (with_reducible refine Kd.zbe ?_) | exact HR556_1.out)) hb)
                         have n22_ := zA (zaa (zB HB) hb)
                         have m0_ := zA (Kd.zau HL570_0.out hb)
                         have m1_ := zA (Kd.zau HL570_1.out hb)
                         have m2_ := zA (Kd.zas HR570_0.out hb)
                         have m3_ := zA (Kd.zas HR570_1.out hb)
                         clear HL570_0 HL570_1 HR570_0 HR570_1 HO_9 HO_533000 HO_533001 HO_534000 HO_534001 BK517 BK532 BK533 HR538_0 HR538_1 HR556_0 HR556_1 HB
                         have HO_9 := n0_
                         have HO_533000 := n1_
                         have HO_533001 := n2_
                         have HO_534000 := n3_
                         have HO_534001 := n4_
                         have HO560 := n11_
                         have HO563 := n12_
                         have BK517 := n13_
                         have BK532 := n14_
                         have BK533 := n15_
                         have HR538_0 := n16_
                         have HR538_1 := n17_
                         have HR556_0 := n20_
                         have HR556_1 := n21_
                         have HB := n22_
                         have HL570_0 := m0_
                         have HL570_1 := m1_
                         have HR570_0 := m2_
                         have HR570_1 := m3_
                         clear m0_ m1_ m2_ m3_ n0_ n1_ n2_ n3_ n4_ n11_ n12_ n13_ n14_ n15_ n16_ n17_ n20_ n21_ n22_
                         (try clear hb)
                         (try clear hb2)
                         (try clear hk)
                         (try clear hi)
                         (try clear ho0)
                         (try clear ho1)
                         obtain ⟨Ao69, co69, eo69⟩ := Kd.za1 HO560.out
                         (first | subst eo69 | (injection eo69 with f1_ f2_ f3_; have f4_ := f1_.symm; have f5_ := f3_.symm; clear f1_ f2_ f3_; subst f4_; subst f5_))
                         obtain ⟨Ao70, co70, eo70⟩ := Kd.za1 HO563.out
                         (first | subst eo70 | (injection eo70 with f1_ f2_ f3_; have f4_ := f1_.symm; have f5_ := f3_.symm; clear f1_ f2_ f3_; subst f4_; subst f5_))
                         refine hK.out _ _ ⟨HS0_, HS1_, ((HB.out.cell (World.block_lt_of_cell? w _ hw548_0)).trans hw548_0), HS3_, HS4_, ((HB.out.cell (World.block_lt_of_cell? w _ hw557_0)).trans hw557_0), HS6_, HS7_, ((HB.out.cell (World.block_lt_of_cell? w _ hw571_0)).trans hw571_0)⟩ (fun hHeld => ?_)
                         clear hK K
                         refine norm_ (a' := ?_) ?_ ?_
                         rotate_left
                         ·
                          show Act.put _ (some 86) _ = _
                          simp only [Act.put, zs1, zs2, zs3, i64_w, i32_w]
                          rfl
                         refine one_ (i := 21) (N := some 87) #[true, true, true, true, true, true, true, true, true, true, true, true, true, true, true, true, true, true, true, true, true, true, true, true, true, true, true, true, true, true, false, false, false, false, false] rfl rfl (zbu HT_.out (by kernel_rfl)) (by decide) (fun K hK => ?_)
                         refine goes_ Tryz.func19 (by kernel_rfl) rfl #[.agg #[.slice A547_0 ((rd_T29 t534 x47_2).f0).length c547_0, .slice A547_1 ((rd_T29 t534 x47_2).f1).length c547_1], .agg #[.slice Ao69 t558.length co69, .slice Ao70 t561.length co70]] (by rfl) rfl rfl (zE) ?_
                         with_reducible refine (zco.calls k3 _ _ ((rd_T29 t534 x47_2).f0) _ _ ((rd_T29 t534 x47_2).f1) _ _ t558 _ _ t561 t564 t567 _ ?side1 ?side2 ?side3 ?side4 ?side5 ?side6 ?side7 ?side8 A56.out).mono ?_
                         (case side1 => repeat (first | exact (by repeat (first | (with_reducible exact HR556_0.out) | (with_reducible refine Kd.za6 ?_ _) | (with_reducible refine Kd.za5 ?_ _) | (with_reducible refine Kd.zbe ?_) | exact HR556_0.out)) | (with_reducible refine Kd.za6 ?_ _) | (with_reducible refine Kd.za5 ?_ _) | (with_reducible refine Kd.zbe ?_)))
                         (case side2 => exact HC556_0.out)
                         (case side3 => repeat (first | exact (by repeat (first | (with_reducible exact HR556_1.out) | (with_reducible refine Kd.za6 ?_ _) | (with_reducible refine Kd.za5 ?_ _) | (with_reducible refine Kd.zbe ?_) | exact HR556_1.out)) | (with_reducible refine Kd.za6 ?_ _) | (with_reducible refine Kd.za5 ?_ _) | (with_reducible refine Kd.zbe ?_)))
                         (case side4 => exact HC556_1.out)
                         (case side5 => exact zJ (Kd.zak HO560.out).2.2)
                         (case side6 => exact (Kd.zak HO560.out).2.1)
                         (case side7 => exact zJ (Kd.zak HO563.out).2.2)
                         (case side8 => exact (Kd.zak HO563.out).2.1)
                         rintro e w71 ⟨v565, v568, rfl, ho0, ho1, hb⟩
                         have HS0_ := (hb.cell (World.block_lt_of_cell? _ _ (hHeld.1))).trans (hHeld.1)
                         have HS1_ := (hb.cell (World.block_lt_of_cell? _ _ (hHeld.2.1))).trans (hHeld.2.1)
                         have HS3_ := (hb.cell (World.block_lt_of_cell? _ _ (hHeld.2.2.2.1))).trans (hHeld.2.2.2.1)
                         have HS4_ := (hb.cell (World.block_lt_of_cell? _ _ (hHeld.2.2.2.2.1))).trans (hHeld.2.2.2.2.1)
                         have HS6_ := (hb.cell (World.block_lt_of_cell? _ _ (hHeld.2.2.2.2.2.2.1))).trans (hHeld.2.2.2.2.2.2.1)
                         have HS7_ := (hb.cell (World.block_lt_of_cell? _ _ (hHeld.2.2.2.2.2.2.2.1))).trans (hHeld.2.2.2.2.2.2.2.1)
                         refine ⟨_, rfl, ?_⟩
                         have n0_ := zA (Kd.zdb (zN HO_9) hb)
                         have n1_ := zA (Kd.zau (zV HO_533000) hb)
                         have n2_ := zA (Kd.zau (zV HO_533001) hb)
                         have n3_ := zA (Kd.zbf (zR HO_534000) hb)
                         have n4_ := zA (Kd.zbf (zR HO_534001) hb)
                         have n13_ := zA (Kd.zaz (Kd.zam (ok' := fun k_ => some k_ ≠ (.slice (some ad538) t534.length co33 : Value).ownBlock ∧ some k_ ≠ (.slice Ao28 t526.length co28 : Value).ownBlock ∧ some k_ ≠ (.slice Ao31 t529.length co31 : Value).ownBlock ∧ k_ ≠ gb517 ∧ k_ ≠ gb532 ∧ k_ ≠ gb533) ho0 (fun k_ hk_ => ⟨(Kd.fresh' (Kd.N_lt (zN HO_9)) k_ hk_), (Kd.fresh' (Kd.R_lt (zR HO_534000)) k_ hk_), (Kd.fresh' (Kd.R_lt (zR HO_534001)) k_ hk_), (Kd.freshB (g := gb517) (o := .cells #[.int .i64 a0_0, .int .i64 a0_1] 23 (0, 0)) (zK BK517) k_ hk_), (Kd.freshB (g := gb532) (o := .cells #[.slice Ao23 t520.length co23, .slice Ao27 t523.length co27] 29 (0, 0)) (zK BK532) k_ hk_), (Kd.freshB (g := gb533) (o := .cells #[.slice Ao28 t526.length co28, .slice Ao31 t529.length co31] 32 (0, 0)) (zK BK533) k_ hk_)⟩)) (za (zB HB)))
                         have n14_ := zA (Kd.zaz (Kd.zam (ok' := fun k_ => some k_ ≠ (.slice (some ad538) t534.length co33 : Value).ownBlock ∧ some k_ ≠ (.slice Ao28 t526.length co28 : Value).ownBlock ∧ some k_ ≠ (.slice Ao31 t529.length co31 : Value).ownBlock ∧ k_ ≠ gb517 ∧ k_ ≠ gb532 ∧ k_ ≠ gb533) ho1 (fun k_ hk_ => ⟨(Kd.fresh' (Kd.N_lt (zN HO_9)) k_ hk_), (Kd.fresh' (Kd.R_lt (zR HO_534000)) k_ hk_), (Kd.fresh' (Kd.R_lt (zR HO_534001)) k_ hk_), (Kd.freshB (g := gb517) (o := .cells #[.int .i64 a0_0, .int .i64 a0_1] 23 (0, 0)) (zK BK517) k_ hk_), (Kd.freshB (g := gb532) (o := .cells #[.slice Ao23 t520.length co23, .slice Ao27 t523.length co27] 29 (0, 0)) (zK BK532) k_ hk_), (Kd.freshB (g := gb533) (o := .cells #[.slice Ao28 t526.length co28, .slice Ao31 t529.length co31] 32 (0, 0)) (zK BK533) k_ hk_)⟩)) (za (zB HB)))
                         have n15_ := zA (zad (g := gb517) (o := .cells #[.int .i64 a0_0, .int .i64 a0_1] 23 (0, 0)) (zK BK517) hb)
                         have n16_ := zA (zad (g := gb532) (o := .cells #[.slice Ao23 t520.length co23, .slice Ao27 t523.length co27] 29 (0, 0)) (zK BK532) hb)
                         have n17_ := zA (zad (g := gb533) (o := .cells #[.slice Ao28 t526.length co28, .slice Ao31 t529.length co31] 32 (0, 0)) (zK BK533) hb)
                         have n18_ := zA (Kd.zas (by repeat (first | (with_reducible exact HR538_0.out) | (with_reducible refine Kd.za6 ?_ _) | (with_reducible refine Kd.za5 ?_ _) | (with_reducible refine Kd.zbe ?_) | exact HR538_0.out)) hb)
                         have n19_ := zA (Kd.zas (by repeat (first | (with_reducible exact HR538_1.out) | (with_reducible refine Kd.za6 ?_ _) | (with_reducible refine Kd.za5 ?_ _) | (with_reducible refine Kd.zbe ?_) | exact HR538_1.out)) hb)
                         have n24_ := zA (zaa (zB HB) hb)
                         have m0_ := zA (Kd.zau HL570_0.out hb)
                         have m1_ := zA (Kd.zau HL570_1.out hb)
                         have m2_ := zA (Kd.zas HR570_0.out hb)
                         have m3_ := zA (Kd.zas HR570_1.out hb)
                         clear HL570_0 HL570_1 HR570_0 HR570_1 HO_9 HO_533000 HO_533001 HO_534000 HO_534001 BK517 BK532 BK533 HR538_0 HR538_1 HB
                         have HO_9 := n0_
                         have HO_533000 := n1_
                         have HO_533001 := n2_
                         have HO_534000 := n3_
                         have HO_534001 := n4_
                         have HO566 := n13_
                         have HO569 := n14_
                         have BK517 := n15_
                         have BK532 := n16_
                         have BK533 := n17_
                         have HR538_0 := n18_
                         have HR538_1 := n19_
                         have HB := n24_
                         have HL570_0 := m0_
                         have HL570_1 := m1_
                         have HR570_0 := m2_
                         have HR570_1 := m3_
                         clear m0_ m1_ m2_ m3_ n0_ n1_ n2_ n3_ n4_ n13_ n14_ n15_ n16_ n17_ n18_ n19_ n24_
                         (try clear hb)
                         (try clear hb2)
                         (try clear hk)
                         (try clear hi)
                         (try clear ho0)
                         (try clear ho1)
                         refine hK.out _ _ ⟨HS0_, HS1_, ((HB.out.cell (World.block_lt_of_cell? w _ hw548_0)).trans hw548_0), HS3_, HS4_, ((HB.out.cell (World.block_lt_of_cell? w _ hw557_0)).trans hw557_0), HS6_, HS7_, ((HB.out.cell (World.block_lt_of_cell? w _ hw571_0)).trans hw571_0)⟩ (fun hHeld => ?_)
                         clear hK K
                         refine norm_ (a' := ?_) ?_ ?_
                         rotate_left
                         ·
                          show Act.put _ (some 87) _ = _
                          simp only [Act.put, zs1, zs2, zs3, i64_w, i32_w]
                          rfl
                         refine one_ (i := 30) (N := some 96) #[true, true, true, true, true, true, true, true, true, true, true, true, true, true, true, true, true, true, true, true, true, true, true, true, true, true, true, true, true, true, true, false, false, false, false] rfl rfl (zbu HT_.out (by kernel_rfl)) (by decide) (fun K hK => ?_)
                         refine goes_ Tryz.func18 (by kernel_rfl) rfl #[.int .i64 (rd l1 x47_2)] (by rfl) rfl rfl (zE) ?_
                         with_reducible refine (zb9.calls k3 (rd l1 x47_2) t572 t575 _ A59.out).mono ?_
                         rintro e w72 ⟨v573, v576, rfl, ho0, ho1, hb⟩
                         have HS0_ := (hb.cell (World.block_lt_of_cell? _ _ (hHeld.1))).trans (hHeld.1)
                         have HS1_ := (hb.cell (World.block_lt_of_cell? _ _ (hHeld.2.1))).trans (hHeld.2.1)
                         have HS3_ := (hb.cell (World.block_lt_of_cell? _ _ (hHeld.2.2.2.1))).trans (hHeld.2.2.2.1)
                         have HS4_ := (hb.cell (World.block_lt_of_cell? _ _ (hHeld.2.2.2.2.1))).trans (hHeld.2.2.2.2.1)
                         have HS6_ := (hb.cell (World.block_lt_of_cell? _ _ (hHeld.2.2.2.2.2.2.1))).trans (hHeld.2.2.2.2.2.2.1)
                         have HS7_ := (hb.cell (World.block_lt_of_cell? _ _ (hHeld.2.2.2.2.2.2.2.1))).trans (hHeld.2.2.2.2.2.2.2.1)
                         refine ⟨_, rfl, ?_⟩
                         have n0_ := zA (Kd.zdb (zN HO_9) hb)
                         have n1_ := zA (Kd.zau (zV HO_533000) hb)
                         have n2_ := zA (Kd.zau (zV HO_533001) hb)
                         have n3_ := zA (Kd.zbf (zR HO_534000) hb)
                         have n4_ := zA (Kd.zbf (zR HO_534001) hb)
                         have n13_ := zA (Kd.zau (zV HO566) hb)
                         have n14_ := zA (Kd.zau (zV HO569) hb)
                         have n17_ := zA (Kd.zaz (Kd.zam (ok' := fun k_ => some k_ ≠ (.slice (some ad538) t534.length co33 : Value).ownBlock ∧ some k_ ≠ (.slice Ao28 t526.length co28 : Value).ownBlock ∧ some k_ ≠ (.slice Ao31 t529.length co31 : Value).ownBlock ∧ k_ ≠ gb517 ∧ k_ ≠ gb532 ∧ k_ ≠ gb533) ho0 (fun k_ hk_ => ⟨(Kd.fresh' (Kd.N_lt (zN HO_9)) k_ hk_), (Kd.fresh' (Kd.R_lt (zR HO_534000)) k_ hk_), (Kd.fresh' (Kd.R_lt (zR HO_534001)) k_ hk_), (Kd.freshB (g := gb517) (o := .cells #[.int .i64 a0_0, .int .i64 a0_1] 23 (0, 0)) (zK BK517) k_ hk_), (Kd.freshB (g := gb532) (o := .cells #[.slice Ao23 t520.length co23, .slice Ao27 t523.length co27] 29 (0, 0)) (zK BK532) k_ hk_), (Kd.freshB (g := gb533) (o := .cells #[.slice Ao28 t526.length co28, .slice Ao31 t529.length co31] 32 (0, 0)) (zK BK533) k_ hk_)⟩)) (za (zB HB)))
                         have n18_ := zA (Kd.zaz (Kd.zam (ok' := fun k_ => some k_ ≠ (.slice (some ad538) t534.length co33 : Value).ownBlock ∧ some k_ ≠ (.slice Ao28 t526.length co28 : Value).ownBlock ∧ some k_ ≠ (.slice Ao31 t529.length co31 : Value).ownBlock ∧ k_ ≠ gb517 ∧ k_ ≠ gb532 ∧ k_ ≠ gb533) ho1 (fun k_ hk_ => ⟨(Kd.fresh' (Kd.N_lt (zN HO_9)) k_ hk_), (Kd.fresh' (Kd.R_lt (zR HO_534000)) k_ hk_), (Kd.fresh' (Kd.R_lt (zR HO_534001)) k_ hk_), (Kd.freshB (g := gb517) (o := .cells #[.int .i64 a0_0, .int .i64 a0_1] 23 (0, 0)) (zK BK517) k_ hk_), (Kd.freshB (g := gb532) (o := .cells #[.slice Ao23 t520.length co23, .slice Ao27 t523.length co27] 29 (0, 0)) (zK BK532) k_ hk_), (Kd.freshB (g := gb533) (o := .cells #[.slice Ao28 t526.length co28, .slice Ao31 t529.length co31] 32 (0, 0)) (zK BK533) k_ hk_)⟩)) (za (zB HB)))
                         have n19_ := zA (zad (g := gb517) (o := .cells #[.int .i64 a0_0, .int .i64 a0_1] 23 (0, 0)) (zK BK517) hb)
                         have n20_ := zA (zad (g := gb532) (o := .cells #[.slice Ao23 t520.length co23, .slice Ao27 t523.length co27] 29 (0, 0)) (zK BK532) hb)
                         have n21_ := zA (zad (g := gb533) (o := .cells #[.slice Ao28 t526.length co28, .slice Ao31 t529.length co31] 32 (0, 0)) (zK BK533) hb)
                         have n22_ := zA (Kd.zas (by repeat (first | (with_reducible exact HR538_0.out) | (with_reducible refine Kd.za6 ?_ _) | (with_reducible refine Kd.za5 ?_ _) | (with_reducible refine Kd.zbe ?_) | exact HR538_0.out)) hb)
                         have n23_ := zA (Kd.zas (by repeat (first | (with_reducible exact HR538_1.out) | (with_reducible refine Kd.za6 ?_ _) | (with_reducible refine Kd.za5 ?_ _) | (with_reducible refine Kd.zbe ?_) | exact HR538_1.out)) hb)
                         have n28_ := zA (Kd.zas (by repeat (first | (with_reducible exact HR570_0.out) | (with_reducible refine Kd.za6 ?_ _) | (with_reducible refine Kd.za5 ?_ _) | (with_reducible refine Kd.zbe ?_) | exact HR570_0.out)) hb)
                         have n29_ := zA (Kd.zas (by repeat (first | (with_reducible exact HR570_1.out) | (with_reducible refine Kd.za6 ?_ _) | (with_reducible refine Kd.za5 ?_ _) | (with_reducible refine Kd.zbe ?_) | exact HR570_1.out)) hb)
                         have n30_ := zA (zaa (zB HB) hb)
                         clear HO_9 HO_533000 HO_533001 HO_534000 HO_534001 HO566 HO569 BK517 BK532 BK533 HR538_0 HR538_1 HR570_0 HR570_1 HB
                         have HO_9 := n0_
                         have HO_533000 := n1_
                         have HO_533001 := n2_
                         have HO_534000 := n3_
                         have HO_534001 := n4_
                         have HO566 := n13_
                         have HO569 := n14_
                         have HO574 := n17_
                         have HO577 := n18_
                         have BK517 := n19_
                         have BK532 := n20_
                         have BK533 := n21_
                         have HR538_0 := n22_
                         have HR538_1 := n23_
                         have HR570_0 := n28_
                         have HR570_1 := n29_
                         have HB := n30_
                         clear n0_ n1_ n2_ n3_ n4_ n13_ n14_ n17_ n18_ n19_ n20_ n21_ n22_ n23_ n28_ n29_ n30_
                         (try clear hb)
                         (try clear hb2)
                         (try clear hk)
                         (try clear hi)
                         (try clear ho0)
                         (try clear ho1)
                         obtain ⟨Ao73, co73, eo73⟩ := Kd.za1 HO574.out
                         (first | subst eo73 | (injection eo73 with f1_ f2_ f3_; have f4_ := f1_.symm; have f5_ := f3_.symm; clear f1_ f2_ f3_; subst f4_; subst f5_))
                         obtain ⟨Ao74, co74, eo74⟩ := Kd.za1 HO577.out
                         (first | subst eo74 | (injection eo74 with f1_ f2_ f3_; have f4_ := f1_.symm; have f5_ := f3_.symm; clear f1_ f2_ f3_; subst f4_; subst f5_))
                         refine hK.out _ _ ⟨HS0_, HS1_, ((HB.out.cell (World.block_lt_of_cell? w _ hw548_0)).trans hw548_0), HS3_, HS4_, ((HB.out.cell (World.block_lt_of_cell? w _ hw557_0)).trans hw557_0), HS6_, HS7_, ((HB.out.cell (World.block_lt_of_cell? w _ hw571_0)).trans hw571_0)⟩ (fun hHeld => ?_)
                         clear hK K
                         refine norm_ (a' := ?_) ?_ ?_
                         rotate_left
                         ·
                          show Act.put _ (some 96) _ = _
                          simp only [Act.put, zs1, zs2, zs3, i64_w, i32_w]
                          rfl
                         refine one_ (i := 31) (N := some 97) #[true, true, true, true, true, true, true, true, true, true, true, true, true, true, true, true, true, true, true, true, true, true, true, true, true, true, true, true, true, true, true, true, false, false, false] rfl rfl (zbu HT_.out (by kernel_rfl)) (by decide) (fun K hK => ?_)
                         refine goes_ Tryz.func19 (by kernel_rfl) rfl #[.agg #[.slice A570_0 ((rd_T29 t534 x63_3).f0).length c570_0, .slice A570_1 ((rd_T29 t534 x63_3).f1).length c570_1], .agg #[.slice Ao73 t572.length co73, .slice Ao74 t575.length co74]] (by rfl) rfl rfl (zE) ?_
                         with_reducible refine (zco.calls k3 _ _ ((rd_T29 t534 x63_3).f0) _ _ ((rd_T29 t534 x63_3).f1) _ _ t572 _ _ t575 t578 t581 _ ?side1 ?side2 ?side3 ?side4 ?side5 ?side6 ?side7 ?side8 A60.out).mono ?_
                         (case side1 => repeat (first | exact (by repeat (first | (with_reducible exact HR570_0.out) | (with_reducible refine Kd.za6 ?_ _) | (with_reducible refine Kd.za5 ?_ _) | (with_reducible refine Kd.zbe ?_) | exact HR570_0.out)) | (with_reducible refine Kd.za6 ?_ _) | (with_reducible refine Kd.za5 ?_ _) | (with_reducible refine Kd.zbe ?_)))
                         (case side2 => exact HC570_0.out)
                         (case side3 => repeat (first | exact (by repeat (first | (with_reducible exact HR570_1.out) | (with_reducible refine Kd.za6 ?_ _) | (with_reducible refine Kd.za5 ?_ _) | (with_reducible refine Kd.zbe ?_) | exact HR570_1.out)) | (with_reducible refine Kd.za6 ?_ _) | (with_reducible refine Kd.za5 ?_ _) | (with_reducible refine Kd.zbe ?_)))
                         (case side4 => exact HC570_1.out)
                         (case side5 => exact zJ (Kd.zak HO574.out).2.2)
                         (case side6 => exact (Kd.zak HO574.out).2.1)
                         (case side7 => exact zJ (Kd.zak HO577.out).2.2)
                         (case side8 => exact (Kd.zak HO577.out).2.1)
                         rintro e w75 ⟨v579, v582, rfl, ho0, ho1, hb⟩
                         have HS0_ := (hb.cell (World.block_lt_of_cell? _ _ (hHeld.1))).trans (hHeld.1)
                         have HS1_ := (hb.cell (World.block_lt_of_cell? _ _ (hHeld.2.1))).trans (hHeld.2.1)
                         have HS3_ := (hb.cell (World.block_lt_of_cell? _ _ (hHeld.2.2.2.1))).trans (hHeld.2.2.2.1)
                         have HS4_ := (hb.cell (World.block_lt_of_cell? _ _ (hHeld.2.2.2.2.1))).trans (hHeld.2.2.2.2.1)
                         have HS6_ := (hb.cell (World.block_lt_of_cell? _ _ (hHeld.2.2.2.2.2.2.1))).trans (hHeld.2.2.2.2.2.2.1)
                         have HS7_ := (hb.cell (World.block_lt_of_cell? _ _ (hHeld.2.2.2.2.2.2.2.1))).trans (hHeld.2.2.2.2.2.2.2.1)
                         refine ⟨_, rfl, ?_⟩
                         have n0_ := zA (Kd.zdb (zN HO_9) hb)
                         have n1_ := zA (Kd.zau (zV HO_533000) hb)
                         have n2_ := zA (Kd.zau (zV HO_533001) hb)
                         have n3_ := zA (Kd.zbf (zR HO_534000) hb)
                         have n4_ := zA (Kd.zbf (zR HO_534001) hb)
                         have n13_ := zA (Kd.zau (zV HO566) hb)
                         have n14_ := zA (Kd.zau (zV HO569) hb)
                         have n19_ := zA (Kd.zaz (Kd.zam (ok' := fun k_ => some k_ ≠ (.slice (some ad538) t534.length co33 : Value).ownBlock ∧ some k_ ≠ (.slice Ao28 t526.length co28 : Value).ownBlock ∧ some k_ ≠ (.slice Ao31 t529.length co31 : Value).ownBlock ∧ k_ ≠ gb517 ∧ k_ ≠ gb532 ∧ k_ ≠ gb533) ho0 (fun k_ hk_ => ⟨(Kd.fresh' (Kd.N_lt (zN HO_9)) k_ hk_), (Kd.fresh' (Kd.R_lt (zR HO_534000)) k_ hk_), (Kd.fresh' (Kd.R_lt (zR HO_534001)) k_ hk_), (Kd.freshB (g := gb517) (o := .cells #[.int .i64 a0_0, .int .i64 a0_1] 23 (0, 0)) (zK BK517) k_ hk_), (Kd.freshB (g := gb532) (o := .cells #[.slice Ao23 t520.length co23, .slice Ao27 t523.length co27] 29 (0, 0)) (zK BK532) k_ hk_), (Kd.freshB (g := gb533) (o := .cells #[.slice Ao28 t526.length co28, .slice Ao31 t529.length co31] 32 (0, 0)) (zK BK533) k_ hk_)⟩)) (za (zB HB)))
                         have n20_ := zA (Kd.zaz (Kd.zam (ok' := fun k_ => some k_ ≠ (.slice (some ad538) t534.length co33 : Value).ownBlock ∧ some k_ ≠ (.slice Ao28 t526.length co28 : Value).ownBlock ∧ some k_ ≠ (.slice Ao31 t529.length co31 : Value).ownBlock ∧ k_ ≠ gb517 ∧ k_ ≠ gb532 ∧ k_ ≠ gb533) ho1 (fun k_ hk_ => ⟨(Kd.fresh' (Kd.N_lt (zN HO_9)) k_ hk_), (Kd.fresh' (Kd.R_lt (zR HO_534000)) k_ hk_), (Kd.fresh' (Kd.R_lt (zR HO_534001)) k_ hk_), (Kd.freshB (g := gb517) (o := .cells #[.int .i64 a0_0, .int .i64 a0_1] 23 (0, 0)) (zK BK517) k_ hk_), (Kd.freshB (g := gb532) (o := .cells #[.slice Ao23 t520.length co23, .slice Ao27 t523.length co27] 29 (0, 0)) (zK BK532) k_ hk_), (Kd.freshB (g := gb533) (o := .cells #[.slice Ao28 t526.length co28, .slice Ao31 t529.length co31] 32 (0, 0)) (zK BK533) k_ hk_)⟩)) (za (zB HB)))
                         have n21_ := zA (zad (g := gb517) (o := .cells #[.int .i64 a0_0, .int .i64 a0_1] 23 (0, 0)) (zK BK517) hb)
                         have n22_ := zA (zad (g := gb532) (o := .cells #[.slice Ao23 t520.length co23, .slice Ao27 t523.length co27] 29 (0, 0)) (zK BK532) hb)
                         have n23_ := zA (zad (g := gb533) (o := .cells #[.slice Ao28 t526.length co28, .slice Ao31 t529.length co31] 32 (0, 0)) (zK BK533) hb)
                         have n24_ := zA (Kd.zas (by repeat (first | (with_reducible exact HR538_0.out) | (with_reducible refine Kd.za6 ?_ _) | (with_reducible refine Kd.za5 ?_ _) | (with_reducible refine Kd.zbe ?_) | exact HR538_0.out)) hb)
                         have n25_ := zA (Kd.zas (by repeat (first | (with_reducible exact HR538_1.out) | (with_reducible refine Kd.za6 ?_ _) | (with_reducible refine Kd.za5 ?_ _) | (with_reducible refine Kd.zbe ?_) | exact HR538_1.out)) hb)
                         have n32_ := zA (zaa (zB HB) hb)
                         clear HO_9 HO_533000 HO_533001 HO_534000 HO_534001 HO566 HO569 BK517 BK532 BK533 HR538_0 HR538_1 HB
                         have HO_9 := n0_
                         have HO_533000 := n1_
                         have HO_533001 := n2_
                         have HO_534000 := n3_
                         have HO_534001 := n4_
                         have HO566 := n13_
                         have HO569 := n14_
                         have HO580 := n19_
                         have HO583 := n20_
                         have BK517 := n21_
                         have BK532 := n22_
                         have BK533 := n23_
                         have HR538_0 := n24_
                         have HR538_1 := n25_
                         have HB := n32_
                         clear n0_ n1_ n2_ n3_ n4_ n13_ n14_ n19_ n20_ n21_ n22_ n23_ n24_ n25_ n32_
                         (try clear hb)
                         (try clear hb2)
                         (try clear hk)
                         (try clear hi)
                         (try clear ho0)
                         (try clear ho1)
                         obtain ⟨Ao76, co76, eo76⟩ := Kd.za1 HO566.out
                         (first | subst eo76 | (injection eo76 with f1_ f2_ f3_; have f4_ := f1_.symm; have f5_ := f3_.symm; clear f1_ f2_ f3_; subst f4_; subst f5_))
                         obtain ⟨Ao77, co77, eo77⟩ := Kd.za1 HO569.out
                         (first | subst eo77 | (injection eo77 with f1_ f2_ f3_; have f4_ := f1_.symm; have f5_ := f3_.symm; clear f1_ f2_ f3_; subst f4_; subst f5_))
                         obtain ⟨Ao78, co78, eo78⟩ := Kd.za1 HO580.out
                         (first | subst eo78 | (injection eo78 with f1_ f2_ f3_; have f4_ := f1_.symm; have f5_ := f3_.symm; clear f1_ f2_ f3_; subst f4_; subst f5_))
                         obtain ⟨Ao79, co79, eo79⟩ := Kd.za1 HO583.out
                         (first | subst eo79 | (injection eo79 with f1_ f2_ f3_; have f4_ := f1_.symm; have f5_ := f3_.symm; clear f1_ f2_ f3_; subst f4_; subst f5_))
                         refine hK.out _ _ ⟨HS0_, HS1_, ((HB.out.cell (World.block_lt_of_cell? w _ hw548_0)).trans hw548_0), HS3_, HS4_, ((HB.out.cell (World.block_lt_of_cell? w _ hw557_0)).trans hw557_0), HS6_, HS7_, ((HB.out.cell (World.block_lt_of_cell? w _ hw571_0)).trans hw571_0)⟩ (fun hHeld => ?_)
                         clear hK K
                         refine norm_ (a' := ?_) ?_ ?_
                         rotate_left
                         ·
                          show Act.put _ (some 97) _ = _
                          simp only [Act.put, zs1, zs2, zs3, i64_w, i32_w]
                          rfl
                         refine one_ (i := 32) (N := some 98) #[true, true, true, true, true, true, true, true, true, true, true, true, true, true, true, true, true, true, true, true, true, true, true, true, true, true, true, true, true, true, true, true, true, false, false] rfl rfl (zbu HT_.out (by kernel_rfl)) (by decide) (fun K hK => ?_)
                         refine goes_ Tryz.func17 (by kernel_rfl) rfl #[.agg #[.slice Ao76 t564.length co76, .slice Ao77 t567.length co77], .agg #[.slice Ao78 t578.length co78, .slice Ao79 t581.length co79]] (by rfl) rfl rfl (zE) ?_
                         with_reducible refine (zc9.calls k3 _ _ t564 _ _ t567 _ _ t578 _ _ t581 t584 _ ?side1 ?side2 ?side3 ?side4 ?side5 ?side6 ?side7 ?side8 A61.out).mono ?_
                         (case side1 => exact zJ (Kd.zak HO566.out).2.2)
                         (case side2 => exact (Kd.zak HO566.out).2.1)
                         (case side3 => exact zJ (Kd.zak HO569.out).2.2)
                         (case side4 => exact (Kd.zak HO569.out).2.1)
                         (case side5 => exact zJ (Kd.zak HO580.out).2.2)
                         (case side6 => exact (Kd.zak HO580.out).2.1)
                         (case side7 => exact zJ (Kd.zak HO583.out).2.2)
                         (case side8 => exact (Kd.zak HO583.out).2.1)
                         rintro e w80 ⟨rfl, hb⟩
                         have HS0_ := (hb.cell (World.block_lt_of_cell? _ _ (hHeld.1))).trans (hHeld.1)
                         have HS1_ := (hb.cell (World.block_lt_of_cell? _ _ (hHeld.2.1))).trans (hHeld.2.1)
                         have HS3_ := (hb.cell (World.block_lt_of_cell? _ _ (hHeld.2.2.2.1))).trans (hHeld.2.2.2.1)
                         have HS4_ := (hb.cell (World.block_lt_of_cell? _ _ (hHeld.2.2.2.2.1))).trans (hHeld.2.2.2.2.1)
                         have HS6_ := (hb.cell (World.block_lt_of_cell? _ _ (hHeld.2.2.2.2.2.2.1))).trans (hHeld.2.2.2.2.2.2.1)
                         have HS7_ := (hb.cell (World.block_lt_of_cell? _ _ (hHeld.2.2.2.2.2.2.2.1))).trans (hHeld.2.2.2.2.2.2.2.1)
                         refine ⟨_, rfl, ?_⟩
                         have n0_ := zA (Kd.zdb (zN HO_9) hb)
                         have n1_ := zA (Kd.zau (zV HO_533000) hb)
                         have n2_ := zA (Kd.zau (zV HO_533001) hb)
                         have n3_ := zA (Kd.zbf (zR HO_534000) hb)
                         have n4_ := zA (Kd.zbf (zR HO_534001) hb)
                         have n21_ := zA (zad (g := gb517) (o := .cells #[.int .i64 a0_0, .int .i64 a0_1] 23 (0, 0)) (zK BK517) hb)
                         have n22_ := zA (zad (g := gb532) (o := .cells #[.slice Ao23 t520.length co23, .slice Ao27 t523.length co27] 29 (0, 0)) (zK BK532) hb)
                         have n23_ := zA (zad (g := gb533) (o := .cells #[.slice Ao28 t526.length co28, .slice Ao31 t529.length co31] 32 (0, 0)) (zK BK533) hb)
                         have n24_ := zA (Kd.zas (by repeat (first | (with_reducible exact HR538_0.out) | (with_reducible refine Kd.za6 ?_ _) | (with_reducible refine Kd.za5 ?_ _) | (with_reducible refine Kd.zbe ?_) | exact HR538_0.out)) hb)
                         have n25_ := zA (Kd.zas (by repeat (first | (with_reducible exact HR538_1.out) | (with_reducible refine Kd.za6 ?_ _) | (with_reducible refine Kd.za5 ?_ _) | (with_reducible refine Kd.zbe ?_) | exact HR538_1.out)) hb)
                         have n32_ := zA (zaa (zB HB) hb)
                         clear HO_9 HO_533000 HO_533001 HO_534000 HO_534001 BK517 BK532 BK533 HR538_0 HR538_1 HB
                         have HO_9 := n0_
                         have HO_533000 := n1_
                         have HO_533001 := n2_
                         have HO_534000 := n3_
                         have HO_534001 := n4_
                         have BK517 := n21_
                         have BK532 := n22_
                         have BK533 := n23_
                         have HR538_0 := n24_
                         have HR538_1 := n25_
                         have HB := n32_
                         clear n0_ n1_ n2_ n3_ n4_ n21_ n22_ n23_ n24_ n25_ n32_
                         (try clear hb)
                         (try clear hb2)
                         (try clear hk)
                         (try clear hi)
                         refine hK.out _ _ ⟨HS0_, HS1_, ((HB.out.cell (World.block_lt_of_cell? w _ hw548_0)).trans hw548_0), HS3_, HS4_, ((HB.out.cell (World.block_lt_of_cell? w _ hw557_0)).trans hw557_0), HS6_, HS7_, ((HB.out.cell (World.block_lt_of_cell? w _ hw571_0)).trans hw571_0)⟩ (fun hHeld => ?_)
                         clear hK K
                         refine norm_ (a' := ?_) ?_ ?_
                         rotate_left
                         ·
                          show Act.put _ (some 98) _ = _
                          simp only [Act.put, zs1, zs2, zs3, i64_w, i32_w]
                          rfl
                         refine pure_ (i := 33) (N := some 99) (v := ?_) (a' := ?_) #[true, true, true, true, true, true, true, true, true, true, true, true, true, true, true, true, true, true, true, true, true, true, true, true, true, true, true, true, true, true, true, true, true, true, false] rfl rfl (zat HT_.out (by kernel_rfl)) (fun _ _ _ h => h) (Or.inl ⟨by rfl, ?_⟩) ?_ ?_
                         rotate_left
                         ·
                          intro w'
                          go_simp
                          with_reducible rfl
                         rotate_left
                         ·
                          simp only [Act.put, zs1, zs2, zs3, i64_w, i32_w]
                          rfl
                         refine pure_ (i := 34) (N := some 100) (v := ?_) (a' := ?_) #[true, true, true, true, true, true, true, true, true, true, true, true, true, true, true, true, true, true, true, true, true, true, true, true, true, true, true, true, true, true, true, true, true, true, true] rfl rfl (zat HT_.out (by kernel_rfl)) (fun _ _ _ h => h) (Or.inl ⟨by rfl, ?_⟩) ?_ ?_
                         rotate_left
                         ·
                          intro w'
                          go_simp
                          with_reducible rfl
                         rotate_left
                         ·
                          simp only [Act.put, zs1, zs2, zs3, i64_w, i32_w]
                          rfl
                         refine done_ (zdf HT_.out (by kernel_rfl)) ?_
                         try go_wp2
                         go_roundg k3
                         case measure => have := HJ3.out; have := HK2.out; have := HK3.out; omega
                         case rel => exact ⟨(wrap64 (x63_3 + 1)), (zF), H', ⟨by have := HJ3.out; have := HK2.out; have := HK3.out; omega⟩, ⟨zN HO_9⟩, ⟨zV HO_533000⟩, ⟨zV HO_533001⟩, ⟨zR HO_534000⟩, ⟨zR HO_534001⟩, ⟨zK BK517⟩, ⟨zK BK532⟩, ⟨zK BK533⟩, ⟨by repeat (first | (with_reducible exact HR538_0.out) | (with_reducible refine Kd.za6 ?_ _) | (with_reducible refine Kd.za5 ?_ _) | (with_reducible refine Kd.zbe ?_) | exact HR538_0.out)⟩, ⟨by repeat (first | (with_reducible exact HR538_1.out) | (with_reducible refine Kd.za6 ?_ _) | (with_reducible refine Kd.za5 ?_ _) | (with_reducible refine Kd.zbe ?_) | exact HR538_1.out)⟩, ⟨zB HB⟩⟩
                       ·
                        rw [if_neg c58] at H
                        exact absurd H (by simp)
                      ·
                       rw [if_neg c57] at H
                       exact absurd H (by simp)
                     ·
                      rw [if_neg c54] at H
                      exact absurd H (by simp)
                    ·
                     rw [if_neg c53] at H
                     exact absurd H (by simp)
                   ·
                    rw [if_neg c52] at H
                    have c52b0 : decide (t555 < 0) = false := decide_eq_false c52
                    clear c52
                    have H' := zA H
                    clear H
                    try go_wp2
                    have n0_ := zA (Kd.N_drew HO_9.out)
                    have n1_ := zA (Kd.zbt HO_533000.out)
                    have n2_ := zA (Kd.zbt HO_533001.out)
                    have n3_ := zA (Kd.zcl HO_534000.out)
                    have n4_ := zA (Kd.zcl HO_534001.out)
                    have n5_ := zA (zai BK517.out)
                    have n6_ := zA (zai BK532.out)
                    have n7_ := zA (zai BK533.out)
                    have n8_ := zA (Kd.zbe HR538_0.out)
                    have n9_ := zA (Kd.zbe HR538_1.out)
                    have n10_ := zA (zbo HB.out)
                    clear HO_9 HO_533000 HO_533001 HO_534000 HO_534001 BK517 BK532 BK533 HR538_0 HR538_1 HB
                    have HO_9 := n0_
                    have HO_533000 := n1_
                    have HO_533001 := n2_
                    have HO_534000 := n3_
                    have HO_534001 := n4_
                    have BK517 := n5_
                    have BK532 := n6_
                    have BK533 := n7_
                    have HR538_0 := n8_
                    have HR538_1 := n9_
                    have HB := n10_
                    clear n0_ n1_ n2_ n3_ n4_ n5_ n6_ n7_ n8_ n9_ n10_
                    have p547 : 0 ≤ (x47_2 : Int) := of_decide_eq_true (by first | (with_reducible assumption) | assumption)
                    have q547 : x47_2 < (t534.length : Int) := of_decide_eq_true (by first | (with_reducible assumption) | assumption)
                    obtain ⟨ad547, A547_0, c547_0, A547_1, c547_1, e547, hx547_0, hx547_1, hl547_0, hi547_0, hl547_1, hi547_1⟩ := at_T29 (Kd.zcy HO_9.out).2.2 x47_2 p547 q547
                    obtain rfl : ad538 = ad547 := (by injection e547)
                    obtain ⟨ce547, hce547, hMe547, hcc547⟩ := Kd.N_get HO_9.out z29 x47_2 p547 (by first | exact q547 | exact of_decide_eq_true (by first | (with_reducible assumption) | assumption) | (have e_ := (Kd.zcy HO_9.out).1; omega))
                    obtain ⟨ua547_0, uc547_0, ua547_1, uc547_1, rfl, ul547_0, ge547_0, ul547_1, ge547_1⟩ := k29_openF hMe547
                    have hv547_0 := hcc547 0 _ rfl
                    rw [Nat.add_zero] at hv547_0
                    replace hv547_0 := Option.some.inj (hv547_0.symm.trans hx547_0)
                    injection hv547_0 with hva_ hvn_ hvc_
                    rw [hva_] at ge547_0
                    rw [hvc_] at ul547_0
                    have HL547_0 := zA (show Kd.V (Kd.int .u64) 82 _ w.heap.size _ _ ((rd_T29 t534 x47_2).f0) from Kd.V_mk ul547_0 ge547_0)
                    clear hva_ hvn_ hvc_ ge547_0 ul547_0
                    have hv547_1 := hcc547 1 _ rfl
                    rw [zdh _ _ 1 (by omega)] at hv547_1
                    replace hv547_1 := Option.some.inj (hv547_1.symm.trans hx547_1)
                    injection hv547_1 with hva_ hvn_ hvc_
                    rw [hva_] at ge547_1
                    rw [hvc_] at ul547_1
                    have HL547_1 := zA (show Kd.V (Kd.int .u64) 82 _ w.heap.size _ _ ((rd_T29 t534 x47_2).f1) from Kd.V_mk ul547_1 ge547_1)
                    clear hva_ hvn_ hvc_ ge547_1 ul547_1 hcc547 hce547
                    have HR547_0 := zA hi547_0
                    have HC547_0 := zA hl547_0
                    clear hi547_0 hl547_0
                    have HR547_1 := zA hi547_1
                    have HC547_1 := zA hl547_1
                    clear hi547_1 hl547_1
                    replace p547 := eq_true p547
                    replace q547 := eq_true q547
                    have p548 : 0 ≤ (x47_2 : Int) := of_decide_eq_true (by first | (with_reducible assumption) | assumption)
                    have q548 : x47_2 < (l2.length : Int) := of_decide_eq_true (by first | (with_reducible assumption) | assumption)
                    obtain ⟨ad548, e548, hx548_0⟩ := Kd.at_int HR2.out x47_2 p548 q548
                    have hw548_0 := hx548_0
                    obtain rfl : ad539 = ad548 := (by injection e548)
                    replace hx548_0 := (HB.out.cell (World.block_lt_of_cell? w _ hx548_0)).trans hx548_0
                    replace p548 := eq_true p548
                    replace q548 := eq_true q548
                    refine start_ (n := 35) (S := fun w' => w'.cell? (ad538.add ((x47_2).toNat * 2)) = some (.slice A547_0 ((rd_T29 t534 x47_2).f0).length c547_0) ∧ w'.cell? ⟨(ad538.add ((x47_2).toNat * 2)).block, (ad538.add ((x47_2).toNat * 2)).off + 1, none⟩ = some (.slice A547_1 ((rd_T29 t534 x47_2).f1).length c547_1) ∧ w'.cell? (ad539.add (x47_2).toNat) = some (.int .i64 (rd l2 x47_2))) (ds := []) #[false, false, false, false, false, false, false, false, false, false, false, false, false, false, false, false, false, false, false, false, false, false, false, false, false, false, false, false, false, false, false, false, false, false, false] (by kernel_rfl) rfl rfl ⟨hx547_0, hx547_1, ((HB.out.cell (World.block_lt_of_cell? w _ hw548_0)).trans hw548_0)⟩ (fun hHeld => ?_); refine zcq zac.tab17 zac.bits17 (fun HT_ HW_ => ?_)
                    generalize wr.drew = w81 at HO_9 HO_533000 HO_533001 HO_534000 HO_534001 BK517 BK532 BK533 HR538_0 HR538_1 HB HL547_0 HL547_1 HR547_0 HR547_1 hx547_0 hx547_1 hx548_0 hHeld ⊢
                    refine pure_ (i := 0) (N := some 66) (v := ?_) (a' := ?_) #[true, false, false, false, false, false, false, false, false, false, false, false, false, false, false, false, false, false, false, false, false, false, false, false, false, false, false, false, false, false, false, false, false, false, false] rfl rfl (zat HT_.out (by kernel_rfl)) (fun _ _ _ h => h) (Or.inl ⟨by rfl, ?_⟩) ?_ ?_
                    rotate_left
                    ·
                     intro w'
                     go_simp
                     with_reducible rfl
                    rotate_left
                    ·
                     simp only [Act.put, zs1, zs2, zs3, i64_w, i32_w]
                     rfl
                    refine pure_ (i := 1) (N := some 67) (v := ?_) (a' := ?_) #[true, true, false, false, false, false, false, false, false, false, false, false, false, false, false, false, false, false, false, false, false, false, false, false, false, false, false, false, false, false, false, false, false, false, false] rfl rfl (zat HT_.out (by kernel_rfl)) (fun _ _ _ h => h) (Or.inl ⟨by rfl, ?_⟩) ?_ ?_
                    rotate_left
                    ·
                     intro w'
                     go_simp
                     with_reducible rfl
                    rotate_left
                    ·
                     simp only [Act.put, zs1, zs2, zs3, i64_w, i32_w]
                     rfl
                    refine pure_ (i := 2) (N := some 68) (v := ?_) (a' := ?_) #[true, true, true, false, false, false, false, false, false, false, false, false, false, false, false, false, false, false, false, false, false, false, false, false, false, false, false, false, false, false, false, false, false, false, false] rfl rfl (zat HT_.out (by kernel_rfl)) (fun _ _ _ h => h) (Or.inl ⟨by rfl, ?_⟩) ?_ ?_
                    rotate_left
                    ·
                     intro w'
                     go_simp
                     with_reducible rfl
                    rotate_left
                    ·
                     simp only [Act.put, zs1, zs2, zs3, i64_w, i32_w]
                     rfl
                    refine pure_ (i := 4) (N := some 70) (v := ?_) (a' := ?_) #[true, true, true, false, true, false, false, false, false, false, false, false, false, false, false, false, false, false, false, false, false, false, false, false, false, false, false, false, false, false, false, false, false, false, false] rfl rfl (zat HT_.out (by kernel_rfl)) (fun _ _ _ h => h) (Or.inl ⟨by rfl, ?_⟩) ?_ ?_
                    rotate_left
                    ·
                     intro w'
                     go_simp
                     with_reducible rfl
                    rotate_left
                    ·
                     simp only [Act.put, zs1, zs2, zs3, i64_w, i32_w]
                     rfl
                    refine pure_ (i := 5) (N := some 71) (v := ?_) (a' := ?_) #[true, true, true, false, true, true, false, false, false, false, false, false, false, false, false, false, false, false, false, false, false, false, false, false, false, false, false, false, false, false, false, false, false, false, false] rfl rfl (zat HT_.out (by kernel_rfl)) (fun _ _ _ h => h) (Or.inl ⟨by rfl, ?_⟩) ?_ ?_
                    rotate_left
                    ·
                     intro w'
                     go_simp
                     with_reducible rfl
                    rotate_left
                    ·
                     simp only [Act.put, zs1, zs2, zs3, i64_w, i32_w]
                     rfl
                    refine pure_ (i := 6) (N := some 72) (v := ?_) (a' := ?_) #[true, true, true, false, true, true, true, false, false, false, false, false, false, false, false, false, false, false, false, false, false, false, false, false, false, false, false, false, false, false, false, false, false, false, false] rfl rfl (zat HT_.out (by kernel_rfl)) (fun _ _ _ h => h) (Or.inl ⟨by rfl, ?_⟩) ?_ ?_
                    rotate_left
                    ·
                     intro w'
                     go_simp
                     with_reducible rfl
                    rotate_left
                    ·
                     simp only [Act.put, zs1, zs2, zs3, i64_w, i32_w]
                     rfl
                    refine take_ (i := 3) (N := some 69) (v := ?_) (a' := ?_) #[true, true, true, true, true, true, true, false, false, false, false, false, false, false, false, false, false, false, false, false, false, false, false, false, false, false, false, false, false, false, false, false, false, false, false] rfl rfl (zbk HT_.out HW_.out (by kernel_rfl)) (fun _ _ _ h => h) (Or.inl ⟨by rfl, ?_⟩) hHeld ?_ ?_
                    rotate_left
                    ·
                     rintro w' ⟨s0, s1, s2⟩
                     go_simp
                     with_reducible rfl
                    rotate_left
                    ·
                     simp only [Act.put, zs1, zs2, zs3, i64_w, i32_w]
                     rfl
                    refine take_ (i := 7) (N := some 73) (v := ?_) (a' := ?_) #[true, true, true, true, true, true, true, true, false, false, false, false, false, false, false, false, false, false, false, false, false, false, false, false, false, false, false, false, false, false, false, false, false, false, false] rfl rfl (zbk HT_.out HW_.out (by kernel_rfl)) (fun _ _ _ h => h) (Or.inl ⟨by rfl, ?_⟩) hHeld ?_ ?_
                    rotate_left
                    ·
                     rintro w' ⟨s0, s1, s2⟩
                     go_simp
                     with_reducible rfl
                    rotate_left
                    ·
                     simp only [Act.put, zs1, zs2, zs3, i64_w, i32_w]
                     rfl
                    refine one_ (i := 8) (N := some 74) #[true, true, true, true, true, true, true, true, true, false, false, false, false, false, false, false, false, false, false, false, false, false, false, false, false, false, false, false, false, false, false, false, false, false, false] rfl rfl (zbu HT_.out (by kernel_rfl)) (by decide) (fun K hK => ?_)
                    refine goes_ Tryz.func18 (by kernel_rfl) rfl #[.int .i64 (rd l2 x47_2)] (by rfl) rfl rfl (zE) ?_
                    with_reducible refine (zb9.calls k3 (rd l2 x47_2) t549 t552 _ A50.out).mono ?_
                    rintro e w82 ⟨v550, v553, rfl, ho0, ho1, hb⟩
                    have HS0_ := (hb.cell (World.block_lt_of_cell? _ _ (hHeld.1))).trans (hHeld.1)
                    have HS1_ := (hb.cell (World.block_lt_of_cell? _ _ (hHeld.2.1))).trans (hHeld.2.1)
                    refine ⟨_, rfl, ?_⟩
                    have n0_ := zA (Kd.zdb (zN HO_9) hb)
                    have n1_ := zA (Kd.zau (zV HO_533000) hb)
                    have n2_ := zA (Kd.zau (zV HO_533001) hb)
                    have n3_ := zA (Kd.zbf (zR HO_534000) hb)
                    have n4_ := zA (Kd.zbf (zR HO_534001) hb)
                    have n7_ := zA (Kd.zaz (Kd.zam (ok' := fun k_ => some k_ ≠ (.slice (some ad538) t534.length co33 : Value).ownBlock ∧ some k_ ≠ (.slice Ao28 t526.length co28 : Value).ownBlock ∧ some k_ ≠ (.slice Ao31 t529.length co31 : Value).ownBlock ∧ k_ ≠ gb517 ∧ k_ ≠ gb532 ∧ k_ ≠ gb533) ho0 (fun k_ hk_ => ⟨(Kd.fresh' (Kd.N_lt (zN HO_9)) k_ hk_), (Kd.fresh' (Kd.R_lt (zR HO_534000)) k_ hk_), (Kd.fresh' (Kd.R_lt (zR HO_534001)) k_ hk_), (Kd.freshB (g := gb517) (o := .cells #[.int .i64 a0_0, .int .i64 a0_1] 23 (0, 0)) (zK BK517) k_ hk_), (Kd.freshB (g := gb532) (o := .cells #[.slice Ao23 t520.length co23, .slice Ao27 t523.length co27] 29 (0, 0)) (zK BK532) k_ hk_), (Kd.freshB (g := gb533) (o := .cells #[.slice Ao28 t526.length co28, .slice Ao31 t529.length co31] 32 (0, 0)) (zK BK533) k_ hk_)⟩)) (za (zB HB)))
                    have n8_ := zA (Kd.zaz (Kd.zam (ok' := fun k_ => some k_ ≠ (.slice (some ad538) t534.length co33 : Value).ownBlock ∧ some k_ ≠ (.slice Ao28 t526.length co28 : Value).ownBlock ∧ some k_ ≠ (.slice Ao31 t529.length co31 : Value).ownBlock ∧ k_ ≠ gb517 ∧ k_ ≠ gb532 ∧ k_ ≠ gb533) ho1 (fun k_ hk_ => ⟨(Kd.fresh' (Kd.N_lt (zN HO_9)) k_ hk_), (Kd.fresh' (Kd.R_lt (zR HO_534000)) k_ hk_), (Kd.fresh' (Kd.R_lt (zR HO_534001)) k_ hk_), (Kd.freshB (g := gb517) (o := .cells #[.int .i64 a0_0, .int .i64 a0_1] 23 (0, 0)) (zK BK517) k_ hk_), (Kd.freshB (g := gb532) (o := .cells #[.slice Ao23 t520.length co23, .slice Ao27 t523.length co27] 29 (0, 0)) (zK BK532) k_ hk_), (Kd.freshB (g := gb533) (o := .cells #[.slice Ao28 t526.length co28, .slice Ao31 t529.length co31] 32 (0, 0)) (zK BK533) k_ hk_)⟩)) (za (zB HB)))
                    have n9_ := zA (zad (g := gb517) (o := .cells #[.int .i64 a0_0, .int .i64 a0_1] 23 (0, 0)) (zK BK517) hb)
                    have n10_ := zA (zad (g := gb532) (o := .cells #[.slice Ao23 t520.length co23, .slice Ao27 t523.length co27] 29 (0, 0)) (zK BK532) hb)
                    have n11_ := zA (zad (g := gb533) (o := .cells #[.slice Ao28 t526.length co28, .slice Ao31 t529.length co31] 32 (0, 0)) (zK BK533) hb)
                    have n12_ := zA (Kd.zas (by repeat (first | (with_reducible exact HR538_0.out) | (with_reducible refine Kd.za6 ?_ _) | (with_reducible refine Kd.za5 ?_ _) | (with_reducible refine Kd.zbe ?_) | exact HR538_0.out)) hb)
                    have n13_ := zA (Kd.zas (by repeat (first | (with_reducible exact HR538_1.out) | (with_reducible refine Kd.za6 ?_ _) | (with_reducible refine Kd.za5 ?_ _) | (with_reducible refine Kd.zbe ?_) | exact HR538_1.out)) hb)
                    have n14_ := zA (Kd.zas (by repeat (first | (with_reducible exact HR547_0.out) | (with_reducible refine Kd.za6 ?_ _) | (with_reducible refine Kd.za5 ?_ _) | (with_reducible refine Kd.zbe ?_) | exact HR547_0.out)) hb)
                    have n15_ := zA (Kd.zas (by repeat (first | (with_reducible exact HR547_1.out) | (with_reducible refine Kd.za6 ?_ _) | (with_reducible refine Kd.za5 ?_ _) | (with_reducible refine Kd.zbe ?_) | exact HR547_1.out)) hb)
                    have n16_ := zA (zaa (zB HB) hb)
                    clear HO_9 HO_533000 HO_533001 HO_534000 HO_534001 BK517 BK532 BK533 HR538_0 HR538_1 HR547_0 HR547_1 HB
                    have HO_9 := n0_
                    have HO_533000 := n1_
                    have HO_533001 := n2_
                    have HO_534000 := n3_
                    have HO_534001 := n4_
                    have HO551 := n7_
                    have HO554 := n8_
                    have BK517 := n9_
                    have BK532 := n10_
                    have BK533 := n11_
                    have HR538_0 := n12_
                    have HR538_1 := n13_
                    have HR547_0 := n14_
                    have HR547_1 := n15_
                    have HB := n16_
                    clear n0_ n1_ n2_ n3_ n4_ n7_ n8_ n9_ n10_ n11_ n12_ n13_ n14_ n15_ n16_
                    (try clear hb)
                    (try clear hb2)
                    (try clear hk)
                    (try clear hi)
                    (try clear ho0)
                    (try clear ho1)
                    obtain ⟨Ao83, co83, eo83⟩ := Kd.za1 HO551.out
                    (first | subst eo83 | (injection eo83 with f1_ f2_ f3_; have f4_ := f1_.symm; have f5_ := f3_.symm; clear f1_ f2_ f3_; subst f4_; subst f5_))
                    obtain ⟨Ao84, co84, eo84⟩ := Kd.za1 HO554.out
                    (first | subst eo84 | (injection eo84 with f1_ f2_ f3_; have f4_ := f1_.symm; have f5_ := f3_.symm; clear f1_ f2_ f3_; subst f4_; subst f5_))
                    refine hK.out _ _ ⟨HS0_, HS1_, ((HB.out.cell (World.block_lt_of_cell? w _ hw548_0)).trans hw548_0)⟩ (fun hHeld => ?_)
                    clear hK K
                    refine norm_ (a' := ?_) ?_ ?_
                    rotate_left
                    ·
                     show Act.put _ (some 74) _ = _
                     simp only [Act.put, zs1, zs2, zs3, i64_w, i32_w]
                     rfl
                    refine one_ (i := 9) (N := some 75) #[true, true, true, true, true, true, true, true, true, true, false, false, false, false, false, false, false, false, false, false, false, false, false, false, false, false, false, false, false, false, false, false, false, false, false] rfl rfl (zbu HT_.out (by kernel_rfl)) (by decide) (fun K hK => ?_)
                    refine goes_ Tryz.func17 (by kernel_rfl) rfl #[.agg #[.slice A547_0 ((rd_T29 t534 x47_2).f0).length c547_0, .slice A547_1 ((rd_T29 t534 x47_2).f1).length c547_1], .agg #[.slice Ao83 t549.length co83, .slice Ao84 t552.length co84]] (by rfl) rfl rfl (zE) ?_
                    with_reducible refine (zc9.calls k3 _ _ ((rd_T29 t534 x47_2).f0) _ _ ((rd_T29 t534 x47_2).f1) _ _ t549 _ _ t552 t555 _ ?side1 ?side2 ?side3 ?side4 ?side5 ?side6 ?side7 ?side8 A51.out).mono ?_
                    (case side1 => repeat (first | exact (by repeat (first | (with_reducible exact HR547_0.out) | (with_reducible refine Kd.za6 ?_ _) | (with_reducible refine Kd.za5 ?_ _) | (with_reducible refine Kd.zbe ?_) | exact HR547_0.out)) | (with_reducible refine Kd.za6 ?_ _) | (with_reducible refine Kd.za5 ?_ _) | (with_reducible refine Kd.zbe ?_)))
                    (case side2 => exact HC547_0.out)
                    (case side3 => repeat (first | exact (by repeat (first | (with_reducible exact HR547_1.out) | (with_reducible refine Kd.za6 ?_ _) | (with_reducible refine Kd.za5 ?_ _) | (with_reducible refine Kd.zbe ?_) | exact HR547_1.out)) | (with_reducible refine Kd.za6 ?_ _) | (with_reducible refine Kd.za5 ?_ _) | (with_reducible refine Kd.zbe ?_)))
                    (case side4 => exact HC547_1.out)
                    (case side5 => exact zJ (Kd.zak HO551.out).2.2)
                    (case side6 => exact (Kd.zak HO551.out).2.1)
                    (case side7 => exact zJ (Kd.zak HO554.out).2.2)
                    (case side8 => exact (Kd.zak HO554.out).2.1)
                    rintro e w85 ⟨rfl, hb⟩
                    have HS0_ := (hb.cell (World.block_lt_of_cell? _ _ (hHeld.1))).trans (hHeld.1)
                    have HS1_ := (hb.cell (World.block_lt_of_cell? _ _ (hHeld.2.1))).trans (hHeld.2.1)
                    refine ⟨_, rfl, ?_⟩
                    have n0_ := zA (Kd.zdb (zN HO_9) hb)
                    have n1_ := zA (Kd.zau (zV HO_533000) hb)
                    have n2_ := zA (Kd.zau (zV HO_533001) hb)
                    have n3_ := zA (Kd.zbf (zR HO_534000) hb)
                    have n4_ := zA (Kd.zbf (zR HO_534001) hb)
                    have n9_ := zA (zad (g := gb517) (o := .cells #[.int .i64 a0_0, .int .i64 a0_1] 23 (0, 0)) (zK BK517) hb)
                    have n10_ := zA (zad (g := gb532) (o := .cells #[.slice Ao23 t520.length co23, .slice Ao27 t523.length co27] 29 (0, 0)) (zK BK532) hb)
                    have n11_ := zA (zad (g := gb533) (o := .cells #[.slice Ao28 t526.length co28, .slice Ao31 t529.length co31] 32 (0, 0)) (zK BK533) hb)
                    have n12_ := zA (Kd.zas (by repeat (first | (with_reducible exact HR538_0.out) | (with_reducible refine Kd.za6 ?_ _) | (with_reducible refine Kd.za5 ?_ _) | (with_reducible refine Kd.zbe ?_) | exact HR538_0.out)) hb)
                    have n13_ := zA (Kd.zas (by repeat (first | (with_reducible exact HR538_1.out) | (with_reducible refine Kd.za6 ?_ _) | (with_reducible refine Kd.za5 ?_ _) | (with_reducible refine Kd.zbe ?_) | exact HR538_1.out)) hb)
                    have n16_ := zA (zaa (zB HB) hb)
                    clear HO_9 HO_533000 HO_533001 HO_534000 HO_534001 BK517 BK532 BK533 HR538_0 HR538_1 HB
                    have HO_9 := n0_
                    have HO_533000 := n1_
                    have HO_533001 := n2_
                    have HO_534000 := n3_
                    have HO_534001 := n4_
                    have BK517 := n9_
                    have BK532 := n10_
                    have BK533 := n11_
                    have HR538_0 := n12_
                    have HR538_1 := n13_
                    have HB := n16_
                    clear n0_ n1_ n2_ n3_ n4_ n9_ n10_ n11_ n12_ n13_ n16_
                    (try clear hb)
                    (try clear hb2)
                    (try clear hk)
                    (try clear hi)
                    refine hK.out _ _ ⟨HS0_, HS1_, ((HB.out.cell (World.block_lt_of_cell? w _ hw548_0)).trans hw548_0)⟩ (fun hHeld => ?_)
                    clear hK K
                    refine norm_ (a' := ?_) ?_ ?_
                    rotate_left
                    ·
                     show Act.put _ (some 75) _ = _
                     simp only [Act.put, zs1, zs2, zs3, i64_w, i32_w]
                     rfl
                    refine pure_ (i := 10) (N := some 76) (v := ?_) (a' := ?_) #[true, true, true, true, true, true, true, true, true, true, true, false, false, false, false, false, false, false, false, false, false, false, false, false, false, false, false, false, false, false, false, false, false, false, false] rfl rfl (zat HT_.out (by kernel_rfl)) (fun _ _ _ h => h) (Or.inl ⟨by rfl, ?_⟩) ?_ ?_
                    rotate_left
                    ·
                     intro w'
                     go_simp
                     with_reducible rfl
                    rotate_left
                    ·
                     simp only [Act.put, zs1, zs2, zs3, i64_w, i32_w]
                     rfl
                    refine pure_ (i := 11) (N := some 77) (v := ?_) (a' := ?_) #[true, true, true, true, true, true, true, true, true, true, true, true, false, false, false, false, false, false, false, false, false, false, false, false, false, false, false, false, false, false, false, false, false, false, false] rfl rfl (zat HT_.out (by kernel_rfl)) (fun _ _ _ h => h) (Or.inl ⟨by rfl, ?_⟩) ?_ ?_
                    rotate_left
                    ·
                     intro w'
                     go_simp
                     with_reducible rfl
                    rotate_left
                    ·
                     simp only [Act.put, zs1, zs2, zs3, i64_w, i32_w]
                     rfl
                    refine pure_ (i := 12) (N := some 78) (v := undef) (a' := ?_) #[true, true, true, true, true, true, true, true, true, true, true, true, true, false, false, false, false, false, false, false, false, false, false, false, false, false, false, false, false, false, false, false, false, false, false] rfl rfl (zat HT_.out (by kernel_rfl)) (fun _ _ _ h => h) (Or.inr ⟨by rfl, rfl⟩) ?_ ?_
                    rotate_left
                    ·
                     simp only [Act.put, zs1, zs2, zs3, i64_w, i32_w]
                     rfl
                    refine pure_ (i := 13) (N := some 79) (v := undef) (a' := ?_) #[true, true, true, true, true, true, true, true, true, true, true, true, true, true, false, false, false, false, false, false, false, false, false, false, false, false, false, false, false, false, false, false, false, false, false] rfl rfl (zat HT_.out (by kernel_rfl)) (fun _ _ _ h => h) (Or.inr ⟨by rfl, rfl⟩) ?_ ?_
                    rotate_left
                    ·
                     simp only [Act.put, zs1, zs2, zs3, i64_w, i32_w]
                     rfl
                    refine pure_ (i := 14) (N := some 80) (v := undef) (a' := ?_) #[true, true, true, true, true, true, true, true, true, true, true, true, true, true, true, false, false, false, false, false, false, false, false, false, false, false, false, false, false, false, false, false, false, false, false] rfl rfl (zat HT_.out (by kernel_rfl)) (fun _ _ _ h => h) (Or.inr ⟨by rfl, rfl⟩) ?_ ?_
                    rotate_left
                    ·
                     simp only [Act.put, zs1, zs2, zs3, i64_w, i32_w]
                     rfl
                    refine pure_ (i := 15) (N := some 81) (v := undef) (a' := ?_) #[true, true, true, true, true, true, true, true, true, true, true, true, true, true, true, true, false, false, false, false, false, false, false, false, false, false, false, false, false, false, false, false, false, false, false] rfl rfl (zat HT_.out (by kernel_rfl)) (fun _ _ _ h => h) (Or.inr ⟨by rfl, rfl⟩) ?_ ?_
                    rotate_left
                    ·
                     simp only [Act.put, zs1, zs2, zs3, i64_w, i32_w]
                     rfl
                    refine pure_ (i := 16) (N := some 82) (v := undef) (a' := ?_) #[true, true, true, true, true, true, true, true, true, true, true, true, true, true, true, true, true, false, false, false, false, false, false, false, false, false, false, false, false, false, false, false, false, false, false] rfl rfl (zat HT_.out (by kernel_rfl)) (fun _ _ _ h => h) (Or.inr ⟨by rfl, rfl⟩) ?_ ?_
                    rotate_left
                    ·
                     simp only [Act.put, zs1, zs2, zs3, i64_w, i32_w]
                     rfl
                    refine pure_ (i := 17) (N := some 83) (v := undef) (a' := ?_) #[true, true, true, true, true, true, true, true, true, true, true, true, true, true, true, true, true, true, false, false, false, false, false, false, false, false, false, false, false, false, false, false, false, false, false] rfl rfl (zat HT_.out (by kernel_rfl)) (fun _ _ _ h => h) (Or.inr ⟨by rfl, rfl⟩) ?_ ?_
                    rotate_left
                    ·
                     simp only [Act.put, zs1, zs2, zs3, i64_w, i32_w]
                     rfl
                    refine pure_ (i := 18) (N := some 84) (v := undef) (a' := ?_) #[true, true, true, true, true, true, true, true, true, true, true, true, true, true, true, true, true, true, true, false, false, false, false, false, false, false, false, false, false, false, false, false, false, false, false] rfl rfl (zat HT_.out (by kernel_rfl)) (fun _ _ _ h => h) (Or.inr ⟨by rfl, rfl⟩) ?_ ?_
                    rotate_left
                    ·
                     simp only [Act.put, zs1, zs2, zs3, i64_w, i32_w]
                     rfl
                    refine pure_ (i := 19) (N := some 85) (v := undef) (a' := ?_) #[true, true, true, true, true, true, true, true, true, true, true, true, true, true, true, true, true, true, true, true, false, false, false, false, false, false, false, false, false, false, false, false, false, false, false] rfl rfl (zat HT_.out (by kernel_rfl)) (fun _ _ _ h => h) (Or.inr ⟨by rfl, rfl⟩) ?_ ?_
                    rotate_left
                    ·
                     simp only [Act.put, zs1, zs2, zs3, i64_w, i32_w]
                     rfl
                    refine pure_ (i := 20) (N := some 86) (v := undef) (a' := ?_) #[true, true, true, true, true, true, true, true, true, true, true, true, true, true, true, true, true, true, true, true, true, false, false, false, false, false, false, false, false, false, false, false, false, false, false] rfl rfl (zat HT_.out (by kernel_rfl)) (fun _ _ _ h => h) (Or.inr ⟨by rfl, rfl⟩) ?_ ?_
                    rotate_left
                    ·
                     simp only [Act.put, zs1, zs2, zs3, i64_w, i32_w]
                     rfl
                    refine pure_ (i := 21) (N := some 87) (v := undef) (a' := ?_) #[true, true, true, true, true, true, true, true, true, true, true, true, true, true, true, true, true, true, true, true, true, true, false, false, false, false, false, false, false, false, false, false, false, false, false] rfl rfl (zat HT_.out (by kernel_rfl)) (fun _ _ _ h => h) (Or.inr ⟨by rfl, rfl⟩) ?_ ?_
                    rotate_left
                    ·
                     simp only [Act.put, zs1, zs2, zs3, i64_w, i32_w]
                     rfl
                    refine pure_ (i := 22) (N := some 88) (v := undef) (a' := ?_) #[true, true, true, true, true, true, true, true, true, true, true, true, true, true, true, true, true, true, true, true, true, true, true, false, false, false, false, false, false, false, false, false, false, false, false] rfl rfl (zat HT_.out (by kernel_rfl)) (fun _ _ _ h => h) (Or.inr ⟨by rfl, rfl⟩) ?_ ?_
                    rotate_left
                    ·
                     simp only [Act.put, zs1, zs2, zs3, i64_w, i32_w]
                     rfl
                    refine pure_ (i := 23) (N := some 89) (v := undef) (a' := ?_) #[true, true, true, true, true, true, true, true, true, true, true, true, true, true, true, true, true, true, true, true, true, true, true, true, false, false, false, false, false, false, false, false, false, false, false] rfl rfl (zat HT_.out (by kernel_rfl)) (fun _ _ _ h => h) (Or.inr ⟨by rfl, rfl⟩) ?_ ?_
                    rotate_left
                    ·
                     simp only [Act.put, zs1, zs2, zs3, i64_w, i32_w]
                     rfl
                    refine pure_ (i := 24) (N := some 90) (v := undef) (a' := ?_) #[true, true, true, true, true, true, true, true, true, true, true, true, true, true, true, true, true, true, true, true, true, true, true, true, true, false, false, false, false, false, false, false, false, false, false] rfl rfl (zat HT_.out (by kernel_rfl)) (fun _ _ _ h => h) (Or.inr ⟨by rfl, rfl⟩) ?_ ?_
                    rotate_left
                    ·
                     simp only [Act.put, zs1, zs2, zs3, i64_w, i32_w]
                     rfl
                    refine pure_ (i := 25) (N := some 91) (v := undef) (a' := ?_) #[true, true, true, true, true, true, true, true, true, true, true, true, true, true, true, true, true, true, true, true, true, true, true, true, true, true, false, false, false, false, false, false, false, false, false] rfl rfl (zat HT_.out (by kernel_rfl)) (fun _ _ _ h => h) (Or.inr ⟨by rfl, rfl⟩) ?_ ?_
                    rotate_left
                    ·
                     simp only [Act.put, zs1, zs2, zs3, i64_w, i32_w]
                     rfl
                    refine pure_ (i := 26) (N := some 92) (v := undef) (a' := ?_) #[true, true, true, true, true, true, true, true, true, true, true, true, true, true, true, true, true, true, true, true, true, true, true, true, true, true, true, false, false, false, false, false, false, false, false] rfl rfl (zat HT_.out (by kernel_rfl)) (fun _ _ _ h => h) (Or.inr ⟨by rfl, rfl⟩) ?_ ?_
                    rotate_left
                    ·
                     simp only [Act.put, zs1, zs2, zs3, i64_w, i32_w]
                     rfl
                    refine pure_ (i := 27) (N := some 93) (v := undef) (a' := ?_) #[true, true, true, true, true, true, true, true, true, true, true, true, true, true, true, true, true, true, true, true, true, true, true, true, true, true, true, true, false, false, false, false, false, false, false] rfl rfl (zat HT_.out (by kernel_rfl)) (fun _ _ _ h => h) (Or.inr ⟨by rfl, rfl⟩) ?_ ?_
                    rotate_left
                    ·
                     simp only [Act.put, zs1, zs2, zs3, i64_w, i32_w]
                     rfl
                    refine pure_ (i := 28) (N := some 94) (v := undef) (a' := ?_) #[true, true, true, true, true, true, true, true, true, true, true, true, true, true, true, true, true, true, true, true, true, true, true, true, true, true, true, true, true, false, false, false, false, false, false] rfl rfl (zat HT_.out (by kernel_rfl)) (fun _ _ _ h => h) (Or.inr ⟨by rfl, rfl⟩) ?_ ?_
                    rotate_left
                    ·
                     simp only [Act.put, zs1, zs2, zs3, i64_w, i32_w]
                     rfl
                    refine pure_ (i := 29) (N := some 95) (v := undef) (a' := ?_) #[true, true, true, true, true, true, true, true, true, true, true, true, true, true, true, true, true, true, true, true, true, true, true, true, true, true, true, true, true, true, false, false, false, false, false] rfl rfl (zat HT_.out (by kernel_rfl)) (fun _ _ _ h => h) (Or.inr ⟨by rfl, rfl⟩) ?_ ?_
                    rotate_left
                    ·
                     simp only [Act.put, zs1, zs2, zs3, i64_w, i32_w]
                     rfl
                    refine pure_ (i := 30) (N := some 96) (v := undef) (a' := ?_) #[true, true, true, true, true, true, true, true, true, true, true, true, true, true, true, true, true, true, true, true, true, true, true, true, true, true, true, true, true, true, true, false, false, false, false] rfl rfl (zat HT_.out (by kernel_rfl)) (fun _ _ _ h => h) (Or.inr ⟨by rfl, rfl⟩) ?_ ?_
                    rotate_left
                    ·
                     simp only [Act.put, zs1, zs2, zs3, i64_w, i32_w]
                     rfl
                    refine pure_ (i := 31) (N := some 97) (v := undef) (a' := ?_) #[true, true, true, true, true, true, true, true, true, true, true, true, true, true, true, true, true, true, true, true, true, true, true, true, true, true, true, true, true, true, true, true, false, false, false] rfl rfl (zat HT_.out (by kernel_rfl)) (fun _ _ _ h => h) (Or.inr ⟨by rfl, rfl⟩) ?_ ?_
                    rotate_left
                    ·
                     simp only [Act.put, zs1, zs2, zs3, i64_w, i32_w]
                     rfl
                    refine pure_ (i := 32) (N := some 98) (v := undef) (a' := ?_) #[true, true, true, true, true, true, true, true, true, true, true, true, true, true, true, true, true, true, true, true, true, true, true, true, true, true, true, true, true, true, true, true, true, false, false] rfl rfl (zat HT_.out (by kernel_rfl)) (fun _ _ _ h => h) (Or.inr ⟨by rfl, rfl⟩) ?_ ?_
                    rotate_left
                    ·
                     simp only [Act.put, zs1, zs2, zs3, i64_w, i32_w]
                     rfl
                    refine pure_ (i := 33) (N := some 99) (v := undef) (a' := ?_) #[true, true, true, true, true, true, true, true, true, true, true, true, true, true, true, true, true, true, true, true, true, true, true, true, true, true, true, true, true, true, true, true, true, true, false] rfl rfl (zat HT_.out (by kernel_rfl)) (fun _ _ _ h => h) (Or.inr ⟨by rfl, rfl⟩) ?_ ?_
                    rotate_left
                    ·
                     simp only [Act.put, zs1, zs2, zs3, i64_w, i32_w]
                     rfl
                    refine pure_ (i := 34) (N := some 100) (v := ?_) (a' := ?_) #[true, true, true, true, true, true, true, true, true, true, true, true, true, true, true, true, true, true, true, true, true, true, true, true, true, true, true, true, true, true, true, true, true, true, true] rfl rfl (zat HT_.out (by kernel_rfl)) (fun _ _ _ h => h) (Or.inl ⟨by rfl, ?_⟩) ?_ ?_
                    rotate_left
                    ·
                     intro w'
                     go_simp
                     with_reducible rfl
                    rotate_left
                    ·
                     simp only [Act.put, zs1, zs2, zs3, i64_w, i32_w]
                     rfl
                    refine done_ (zdf HT_.out (by kernel_rfl)) ?_
                    try go_wp2
                    go_roundg k3
                    case measure => have := HJ3.out; have := HK2.out; have := HK3.out; omega
                    case rel => exact ⟨(wrap64 (x63_3 + 1)), (zF), H', ⟨by have := HJ3.out; have := HK2.out; have := HK3.out; omega⟩, ⟨zN HO_9⟩, ⟨zV HO_533000⟩, ⟨zV HO_533001⟩, ⟨zR HO_534000⟩, ⟨zR HO_534001⟩, ⟨zK BK517⟩, ⟨zK BK532⟩, ⟨zK BK533⟩, ⟨by repeat (first | (with_reducible exact HR538_0.out) | (with_reducible refine Kd.za6 ?_ _) | (with_reducible refine Kd.za5 ?_ _) | (with_reducible refine Kd.zbe ?_) | exact HR538_0.out)⟩, ⟨by repeat (first | (with_reducible exact HR538_1.out) | (with_reducible refine Kd.za6 ?_ _) | (with_reducible refine Kd.za5 ?_ _) | (with_reducible refine Kd.zbe ?_) | exact HR538_1.out)⟩, ⟨zB HB⟩⟩
                  ·
                   rw [if_neg c49] at H
                   exact absurd H (by simp)
                 ·
                  rw [if_neg c48] at H
                  exact absurd H (by simp)
                ·
                 rw [if_neg c47] at H
                 exact absurd H (by simp)
               ·
                rw [if_neg c46] at H
                have c46b0 : decide (x63_3 < (t534.length : Int)) = false := decide_eq_false c46
                clear c46
                have H' := zA H
                clear H
                go_wp2
                go_roundg k3
                case measure => have := HJ3.out; have := HK2.out; have := HK3.out; omega
                case rel => exact ⟨(wrap64 (x47_2 + 1)), (zF), H', ⟨by have := HJ3.out; have := HK2.out; have := HK3.out; omega⟩, ⟨zN HO_9⟩, ⟨zV HO_533000⟩, ⟨zV HO_533001⟩, ⟨zR HO_534000⟩, ⟨zR HO_534001⟩, ⟨zK BK517⟩, ⟨zK BK532⟩, ⟨zK BK533⟩, ⟨zB HB⟩⟩
           ·
            rw [if_neg c37] at H
            exact absurd H (by simp)
          ·
           rw [if_neg c36] at H
           exact absurd H (by simp)
         ·
          rw [if_neg c35] at H
          exact absurd H (by simp)
        ·
         rw [if_neg c34] at H
         have c34b0 : decide (x47_2 < (t534.length : Int)) = false := decide_eq_false c34
         clear c34
         obtain rfl := Option.some.inj H
         go_wp2
         go_ret
         exact ⟨zW, zB HB⟩
     ·
      rw [if_neg c18] at H
      exact absurd H (by simp)
    ·
     rw [if_neg c17] at H
     have c17b0 : (t537 == 0) = false := beq_eq_false_iff_ne.mpr c17
     have c17b1 : (t537 != 0) = true := bne_iff_ne.mpr c17
     obtain rfl := Option.some.inj H
     have hcz86_0 : wc.cell? ⟨gb517, 0, none⟩ = some (.int .i64 a0_0) := (zab BK517.out 0).trans rfl
     have hcz86_1 : wc.cell? ⟨gb517, 1, none⟩ = some (.int .i64 a0_1) := (zab BK517.out 1).trans rfl
     have hfz86_0 := zal BK517.out 0
     have hfz86_1 := zal BK517.out 1
     go_wp2_with (first | ((with_reducible refine zae (f := 15) rfl ?_); refine za2 (some 28) rfl rfl Tryz.func15 (by kernel_rfl) rfl #[.agg #[.int .i64 a0_0, .int .i64 a0_1]] rfl (zE) ?_; (with_reducible refine (zaw.calls kj3 a0_0 a0_1 t520 t523 t526 t529 _ A15.out).mono ?_); rintro e w87 ⟨v521, v524, v527, v530, rfl, ho0, ho1, ho2, ho3, hb⟩; refine ⟨_, rfl, ?_⟩; have n0_ := zA (Kd.zaz (Kd.zam (ok' := fun k_ => some k_ ≠ (v527 : Value).ownBlock ∧ some k_ ≠ (v530 : Value).ownBlock ∧ k_ ≠ gb517) ho0 (fun k_ hk_ => ⟨hk_.2.1, hk_.2.2, (Kd.freshB (g := gb517) (o := .cells #[.int .i64 a0_0, .int .i64 a0_1] 23 (0, 0)) (zK BK517) k_ hk_.1)⟩)) (za (zB HB))); have n1_ := zA (Kd.zaz (Kd.zam (ok' := fun k_ => some k_ ≠ (v527 : Value).ownBlock ∧ some k_ ≠ (v530 : Value).ownBlock ∧ k_ ≠ gb517) ho1 (fun k_ hk_ => ⟨hk_.2.1, hk_.2.2, (Kd.freshB (g := gb517) (o := .cells #[.int .i64 a0_0, .int .i64 a0_1] 23 (0, 0)) (zK BK517) k_ hk_.1)⟩)) (za (zB HB))); have n2_ := zA (Kd.zbs (Kd.zbp (ok' := fun k_ => some k_ ≠ (v530 : Value).ownBlock) ho2 (fun _ hk_ => hk_.2)) (za (zB HB))); have n3_ := zA (Kd.zbs (Kd.zbp (ok' := fun k_ => some k_ ≠ (v527 : Value).ownBlock) ho3 (fun _ hk_ => hk_.2)) (za (zB HB))); have n4_ := zA (zad (g := gb517) (o := .cells #[.int .i64 a0_0, .int .i64 a0_1] 23 (0, 0)) (zK BK517) hb); have n5_ := zA (zaa (zB HB) hb); clear BK517 HB; have HO522 := n0_; have HO525 := n1_; have HO528 := n2_; have HO531 := n3_; have BK517 := n4_; have HB := n5_; clear n0_ n1_ n2_ n3_ n4_ n5_; (try clear hb); (try clear hb2); (try clear hk); (try clear hi); (try clear ho0); (try clear ho1); (try clear ho2); (try clear ho3)) | ((with_reducible refine za8 (N := 7) rfl ?_); (try (refine zcd (by rfl) ?_; dsimp only)); refine zbd ?hg (N := 7) ?hd (cs := #[.slice none 0 0, .slice none 0 0]) (t := 29) ?hr ?_; (case hd => rfl); (case hg => rfl); (case hr => first | (go_simp; done) | (go_simp; rfl)); intro gb532 hg w88 hbox hb; have n0_ := zA (Kd.zau (Kd.zcz (zV HO522) gb532 (Nat.le_of_eq hg.symm)) hb); have n1_ := zA (Kd.zau (Kd.zcz (zV HO525) gb532 (Nat.le_of_eq hg.symm)) hb); have n2_ := zA (Kd.zbf (zR HO528) hb); have n3_ := zA (Kd.zbf (zR HO531) hb); have n4_ := zA (zad (g := gb517) (o := .cells #[.int .i64 a0_0, .int .i64 a0_1] 23 (0, 0)) (zK BK517) hb); have n5_ := zA (zaa (zB HB) hb); have n6_ := zA (hbox); have n8_ := zA ((by rw [hg]; exact (za (zB HB)) : w.heap.size ≤ gb532)); have n9_ := zA ((by rw [hg]; exact Nat.ne_of_lt (zax (g := gb517) (o := .cells #[.int .i64 a0_0, .int .i64 a0_1] 23 (0, 0)) (zK BK517)) : gb517 ≠ gb532)); have n10_ := zA ((by rw [hg]; exact Nat.ne_of_gt (zax (g := gb517) (o := .cells #[.int .i64 a0_0, .int .i64 a0_1] 23 (0, 0)) (zK BK517)) : gb532 ≠ gb517)); clear HO522 HO525 HO528 HO531 BK517 HB; have HO522 := n0_; have HO525 := n1_; have HO528 := n2_; have HO531 := n3_; have BK517 := n4_; have HB := n5_; have BK532 := n6_; have GE532 := n8_; have NB517_532 := n9_; have NB532_517 := n10_; clear n0_ n1_ n2_ n3_ n4_ n5_ n6_ n8_ n9_ n10_ hb hbox hg) | ((with_reducible refine za8 (N := 8) rfl ?_); (try (refine zcd (by rfl) ?_; dsimp only)); refine zbd ?hg (N := 8) ?hd (cs := #[.slice none 0 0, .slice none 0 0]) (t := 32) ?hr ?_; (case hd => rfl); (case hg => rfl); (case hr => first | (go_simp; done) | (go_simp; rfl)); intro gb533 hg w89 hbox hb; have n0_ := zA (Kd.zau (Kd.zcz (zV HO522) gb533 (Nat.le_of_eq hg.symm)) hb); have n1_ := zA (Kd.zau (Kd.zcz (zV HO525) gb533 (Nat.le_of_eq hg.symm)) hb); have n2_ := zA (Kd.zbf (zR HO528) hb); have n3_ := zA (Kd.zbf (zR HO531) hb); have n5_ := zA (zad (g := gb532) (o := .cells #[.slice none 0 0, .slice none 0 0] 29 (0, 0)) (zK BK532) hb); have n6_ := zA (zaa (zB HB) hb); have n7_ := zA (hbox); have n9_ := zA ((by rw [hg]; exact (za (zB HB)) : w.heap.size ≤ gb533)); have n10_ := zA ((by rw [hg]; exact Nat.ne_of_lt (zax (g := gb517) (o := .cells #[.int .i64 a0_0, .int .i64 a0_1] 23 (0, 0)) (zK BK517)) : gb517 ≠ gb533)); have n11_ := zA ((by rw [hg]; exact Nat.ne_of_gt (zax (g := gb517) (o := .cells #[.int .i64 a0_0, .int .i64 a0_1] 23 (0, 0)) (zK BK517)) : gb533 ≠ gb517)); have n12_ := zA ((by rw [hg]; exact Nat.ne_of_lt (zax (g := gb532) (o := .cells #[.slice none 0 0, .slice none 0 0] 29 (0, 0)) (zK BK532)) : gb532 ≠ gb533)); have n13_ := zA ((by rw [hg]; exact Nat.ne_of_gt (zax (g := gb532) (o := .cells #[.slice none 0 0, .slice none 0 0] 29 (0, 0)) (zK BK532)) : gb533 ≠ gb532)); clear HO522 HO525 HO528 HO531 BK532 HB; have HO522 := n0_; have HO525 := n1_; have HO528 := n2_; have HO531 := n3_; have BK532 := n5_; have HB := n6_; have BK533 := n7_; have GE533 := n9_; have NB517_533 := n10_; have NB533_517 := n11_; have NB532_533 := n12_; have NB533_532 := n13_; clear n0_ n1_ n2_ n3_ n5_ n6_ n7_ n9_ n10_ n11_ n12_ n13_ hb hbox hg; obtain ⟨Ao90, co90, eo90⟩ := Kd.za1 HO522.out; subst eo90; have hnb91 := NB532_517.out; have hnc91 := NB517_532.out; have hnb92 := NB532_533.out; have hnc92 := NB533_532.out; have hcz93_0 : w89.cell? ⟨gb532, 0, none⟩ = some (.slice none 0 0) := (zab BK532.out 0).trans rfl; have hcz93_1 : w89.cell? ⟨gb532, 1, none⟩ = some (.slice none 0 0) := (zab BK532.out 1).trans rfl; have hfz93_0 := zal BK532.out 0; have hfz93_1 := zal BK532.out 1; obtain ⟨Ao94, co94, eo94⟩ := Kd.za1 HO525.out; subst eo94; obtain ⟨Ao95, co95, eo95⟩ := Kd.zbm HO528.out; subst eo95; have hnb96 := NB533_517.out; have hnc96 := NB517_533.out; have hcz97_0 : w89.cell? ⟨gb533, 0, none⟩ = some (.slice none 0 0) := (zab BK533.out 0).trans rfl; have hcz97_1 : w89.cell? ⟨gb533, 1, none⟩ = some (.slice none 0 0) := (zab BK533.out 1).trans rfl; have hfz97_0 := zal BK533.out 0; have hfz97_1 := zal BK533.out 1; obtain ⟨Ao98, co98, eo98⟩ := Kd.zbm HO531.out; subst eo98) | ((with_reducible refine zae (f := 16) rfl ?_); refine za2 (some 35) rfl rfl Tryz.func16 (by kernel_rfl) rfl #[.agg #[.slice Ao90 t520.length co90, .slice Ao94 t523.length co94], .slice A1 l1.length c1, .slice A2 l2.length c2] rfl (zE) ?_; (with_reducible refine (zbz.calls kj3 _ _ t520 _ _ t523 _ _ l1 _ _ l2 t534 t537 _ ?side1 ?side2 ?side3 ?side4 ?side5 ?side6 ?side7 ?side8 A16.out).mono ?_); (case side1 => refine (Kd.zak (e := 82) (base := w.heap.size) (ok := fun k_ => (((some k_ ≠ (.slice Ao95 t526.length co95 : Value).ownBlock ∧ (some k_ ≠ (.slice Ao98 t529.length co98 : Value).ownBlock ∧ k_ ≠ gb517)) ∧ k_ ≠ gb532) ∧ k_ ≠ gb533)) (n := t520.length) (c := co90) ?_).2.2; exact (by (with_reducible repeat (first | apply Kd.zbr | apply Kd.zbq | apply Kd.zbt)); exact (Kd.zam (Kd.zam (Kd.V_far (p := ⟨gb533, 1, none⟩) (Kd.V_far (p := ⟨gb533, 0, none⟩) (Kd.V_far (p := ⟨gb532, 1, none⟩) (Kd.V_far (p := ⟨gb532, 0, none⟩) (Kd.zam (Kd.zam HO522.out (fun k_ hk => (⟨hk, hk.1.2⟩ : _ ∧ k_ ≠ gb532))) (fun k_ hk => (⟨hk, hk.1.2⟩ : _ ∧ k_ ≠ gb533))) (fun _ hk => hk.1.2) (.slice Ao90 t520.length co90)) (fun _ hk => hk.1.2) (.slice Ao94 t523.length co94)) (fun _ hk => hk.2) (.slice Ao95 t526.length co95)) (fun _ hk => hk.2) (.slice Ao98 t529.length co98)) (fun _ h_ => h_.1)) (fun _ h_ => h_.1)))); (case side2 => exact (Kd.zak HO522.out).2.1); (case side3 => refine (Kd.zak (e := 82) (base := w.heap.size) (ok := fun k_ => (((some k_ ≠ (.slice Ao95 t526.length co95 : Value).ownBlock ∧ (some k_ ≠ (.slice Ao98 t529.length co98 : Value).ownBlock ∧ k_ ≠ gb517)) ∧ k_ ≠ gb532) ∧ k_ ≠ gb533)) (n := t523.length) (c := co94) ?_).2.2; exact (by (with_reducible repeat (first | apply Kd.zbr | apply Kd.zbq | apply Kd.zbt)); exact (Kd.zam (Kd.zam (Kd.V_far (p := ⟨gb533, 1, none⟩) (Kd.V_far (p := ⟨gb533, 0, none⟩) (Kd.V_far (p := ⟨gb532, 1, none⟩) (Kd.V_far (p := ⟨gb532, 0, none⟩) (Kd.zam (Kd.zam HO525.out (fun k_ hk => (⟨hk, hk.1.2⟩ : _ ∧ k_ ≠ gb532))) (fun k_ hk => (⟨hk, hk.1.2⟩ : _ ∧ k_ ≠ gb533))) (fun _ hk => hk.1.2) (.slice Ao90 t520.length co90)) (fun _ hk => hk.1.2) (.slice Ao94 t523.length co94)) (fun _ hk => hk.2) (.slice Ao95 t526.length co95)) (fun _ hk => hk.2) (.slice Ao98 t529.length co98)) (fun _ h_ => h_.1)) (fun _ h_ => h_.1)))); (case side4 => exact (Kd.zak HO525.out).2.1); (case side5 => exact Kd.zas HR1.out (zB HB)); (case side6 => exact HC1.out); (case side7 => exact Kd.zas HR2.out (zB HB)); (case side8 => exact HC2.out); rintro e w99 ⟨v535, rfl, ho0, hb⟩; refine ⟨_, rfl, ?_⟩; have n8_ := zA (zaa (zB HB) hb); clear HB; have HB := n8_; clear n8_; (try clear hb); (try clear hb2); (try clear hk); (try clear hi); (try clear ho0)))
     go_ret
     exact ⟨zW, zB HB⟩
end Go.Proofs.YthiicmanfpmipaaGreatDoor.P
end
