-- Written by a program of this session (wip/tools/shake.py) out of its own texts and of the kit's printed ones; not trusted: Lean checks it.
import Derived.Test.YtbakdobjidjncaaZRoundSettled3
set_option maxHeartbeats 8000000
set_option maxRecDepth 100000
set_option linter.unusedVariables false
set_option linter.unusedSimpArgs false
section
namespace Go.Proofs.Ytbakdobjidjncaa.P
open Go.RowKit Go.Proofs.YtbakdobjidjncaaW.PrintWords Go.Proofs.YtbakdobjidjncaaW.PrintLast Go.Proofs.YtbakdobjidjncaaW.PrintMore
attribute [local go_sem] zbv zbu max_two min_two zbn zbo zby zbw
mutual
def zad.j0 : Nat → Bool → Int → List (S86) → Int → Int → Int → Int → Option (Int × (List (S86)) × Int)
 | 0, _, _, _, _, _, _, _ => none
 | k + 1, x38, x260000, x260001, x261000, x261001, x261002, x261003 => if x38 = true then (some (x260000, x260001, 14)) else (zad.l0 k 0 x260000 x260001 x261000 x261001 x261002 x261003)
def zad.l0 : Nat → Int → Int → List (S86) → Int → Int → Int → Int → Option (Int × (List (S86)) × Int)
 | 0, _, _, _, _, _, _, _ => none
 | k + 1, x6, x260000, x260001, x261000, x261001, x261002, x261003 => if x6 < (x260001.length : Int) then (if 0 ≤ x6 then (if ((rd_T86 x260001 x6).f0) < x261000 then (zad.l0 k (wrap64 (x6 + 1)) x260000 x260001 x261000 x261001 x261002 x261003) else ((some (([] : List (S86)) : List (S86))).bind fun y264 => (if x6 ≤ (x260001.length : Int) then ((some (x260001.take (x6 : Int).toNat : List (S86))).bind fun y267 => (if y264.length + y267.length < 4398046511104 then ((some (y264 ++ y267 : List (S86))).bind fun y272 => ((zaz.f x260000 x261000 x261001 x261002 x261003).bind fun bt275 => (if y272.length < 4398046511104 then ((some (y272 ++ [(⟨bt275.1, bt275.2.1, bt275.2.2.1, bt275.2.2.2⟩ : S86)] : List (S86))).bind fun y279 => ((some (x260001.drop (x6 : Int).toNat : List (S86))).bind fun y282 => (if y279.length + y282.length < 4398046511104 then (some (x260000, (y279 ++ y282), 0)) else (none)))) else (none)))) else (none))) else (none)))) else (none)) else ((some (([] : List (S86)) : List (S86))).bind fun y290 => (if 0 ≤ x6 then (if x6 ≤ (x260001.length : Int) then ((some (x260001.take (x6 : Int).toNat : List (S86))).bind fun y293 => (if y290.length + y293.length < 4398046511104 then ((some (y290 ++ y293 : List (S86))).bind fun y298 => ((zaz.f x260000 x261000 x261001 x261002 x261003).bind fun bt301 => (if y298.length < 4398046511104 then ((some (y298 ++ [(⟨bt301.1, bt301.2.1, bt301.2.2.1, bt301.2.2.2⟩ : S86)] : List (S86))).bind fun y305 => ((some (x260001.drop (x6 : Int).toNat : List (S86))).bind fun y308 => (if y305.length + y308.length < 4398046511104 then (some (x260000, (y305 ++ y308), 0)) else (none)))) else (none)))) else (none))) else (none)) else (none)))
end
def zad.f (k : Nat) (a0_0 : Int) (l0_1 : List (S86)) (a1_0 : Int) (a1_1 : Int) (a1_2 : Int) (a1_3 : Int) : Option (Int × (List (S86)) × Int) := (zam.f k a0_0 l0_1 a1_0).bind fun t262 => (if t262 ≥ 0 then (some (a0_0, l0_1, 10)) else (if a1_3 < 1 then (zad.j0 k true a0_0 l0_1 a1_0 a1_1 a1_2 a1_3) else (if a1_3 > 1000 then (zad.j0 k true a0_0 l0_1 a1_0 a1_1 a1_2 a1_3) else (if a1_2 < 0 then (zad.j0 k true a0_0 l0_1 a1_0 a1_1 a1_2 a1_3) else (if a1_1 < 0 then (zad.j0 k true a0_0 l0_1 a1_0 a1_1 a1_2 a1_3) else (zad.j0 k (decide (a1_1 > (wrap64 (a0_0 + 1)))) a0_0 l0_1 a1_0 a1_1 a1_2 a1_3))))))
def zad.T6 : Bool × List (List Nat × List Nat) := (true, [([], []), ([], []), ([1], [1]), ([2], [2]), ([0, 3], [0, 3]), ([4], [4]), ([5], [5]), ([6, 5], [5, 6]), ([5], [5]), ([7, 8, 5], [5, 7, 8]), ([9, 5], [5, 9]), ([10, 5], [5, 10]), ([5], [5]), ([12, 5], [5, 12]), ([11, 13, 5], [5, 11, 13]), ([5, 14], [5, 14])])
def zad.B6 : List Nat := [0, 0, 2, 6, 15, 31, 63, 127, 63, 511, 1023, 2047, 63, 4159, 16383, 32767]
theorem zad.tab6 : rtab .any (opsOf Try.f46 6) = zad.T6 := by kernel_rfl
theorem zad.bits6 : waitsOk zad.T6.2 zad.B6 = true := by kernel_rfl
def zad.T8 : Bool × List (List Nat × List Nat) := (true, [([], []), ([0], [0]), ([], []), ([], []), ([3], [3]), ([], []), ([4, 5], [4, 5]), ([2, 6], [2, 6]), ([], []), ([8], [8]), ([], []), ([9, 10, 7], [9, 10]), ([11], [11]), ([7, 12, 11], [7, 12]), ([], []), ([14], [14]), ([], []), ([15, 16], [15, 16]), ([13, 17, 13], [13, 17]), ([1, 18], [1, 18]), ([19, 18, 0, 1, 2, 3, 4, 5, 6, 7, 8, 9, 10, 11, 12, 13, 14, 15, 16, 17, 18, 19], [19]), ([20, 0, 1, 2, 3, 4, 5, 6, 7, 8, 9, 10, 11, 12, 13, 14, 15, 16, 17, 18, 19, 20], [])])
def zad.B8 : List Nat := [0, 1, 0, 0, 8, 0, 56, 124, 0, 256, 0, 2044, 4092, 8188, 0, 16384, 0, 114688, 262140, 524287, 1048575, 2097151]
theorem zad.tab8 : rtab .any (opsOf Try.f46 8) = zad.T8 := by kernel_rfl
theorem zad.bits8 : waitsOk zad.T8.2 zad.B8 = true := by kernel_rfl
theorem zad.calls (k : Nat) (a0_0 : Int) (P0_1_ : Nat → Prop) (A0_1 : Option Addr) (c0_1 : Nat) (l0_1 : List (S86)) (a1_0 : Int) (a1_1 : Int) (a1_2 : Int) (a1_3 : Int) (r1 : Int) (r2 : List (S86)) (r3 : Int) (w : World) (hs0_1 : Kd.V k86 86 w w.heap.size (fun k_ => P0_1_ k_) (.slice A0_1 l0_1.length c0_1) l0_1) (h : zad.f k a0_0 l0_1 a1_0 a1_1 a1_2 a1_3 = some (r1, r2, r3)) :
  Calls Try.prog 46 #[.agg #[.int .i64 a0_0, .slice A0_1 l0_1.length c0_1], .agg #[.int .i64 a1_0, .int .i64 a1_1, .int .i64 a1_2, .int .i64 a1_3]] w fun e w' => ∃ v1_ : Value, e = .returned (.tuple #[.agg #[.int .i64 r1, v1_], .int .i64 r3]) ∧ Kd.V k86 86 w' w.heap.size (fun k_ => (P0_1_ k_ ∨ w.heap.size ≤ k_)) v1_ r2 ∧ Below w.heap.size w w' := by
 have hu39 := Try.underlying39
 have hu86 := Try.underlying86
 have HO0_1 := zA (show Kd.V k86 86 w w.heap.size (fun k_ => (P0_1_ k_ ∨ w.heap.size ≤ k_)) (.slice A0_1 l0_1.length c0_1) l0_1 from Kd.za2 hs0_1 (fun k_ hk => .inl hk))
 have HB := zA (Below.refl w.heap.size w)
 have H : ((zam.f k a0_0 l0_1 a1_0).bind fun t262 => (if t262 ≥ 0 then (some (a0_0, l0_1, 10)) else (if a1_3 < 1 then (zad.j0 k true a0_0 l0_1 a1_0 a1_1 a1_2 a1_3) else (if a1_3 > 1000 then (zad.j0 k true a0_0 l0_1 a1_0 a1_1 a1_2 a1_3) else (if a1_2 < 0 then (zad.j0 k true a0_0 l0_1 a1_0 a1_1 a1_2 a1_3) else (if a1_1 < 0 then (zad.j0 k true a0_0 l0_1 a1_0 a1_1 a1_2 a1_3) else (zad.j0 k (decide (a1_1 > (wrap64 (a0_0 + 1)))) a0_0 l0_1 a1_0 a1_1 a1_2 a1_3))))))) = some (r1, r2, r3) := h
 clear h
 replace H := zO H
 obtain ⟨t262, A30, H⟩ := H
 try dsimp only at H
 have A3 := zA A30
 clear A30
 by_cases c4 : t262 ≥ 0
 ·
  rw [if_pos c4] at H
  have c4b0 : decide (0 ≤ t262) = true := decide_eq_true c4
  clear c4
  simp only [Option.some.injEq, Prod.mk.injEq] at H
  obtain ⟨rfl, rfl, rfl⟩ := H
  go_enter Try.func46, Try.ntmps46
  go_wp2_with (first | ((with_reducible refine zaw (N := 2) rfl ?_); refine zar ?hg (N := 2) ?hd (cs := #[.int .i64 a0_0, .slice A0_1 l0_1.length c0_1]) (t := 39) ?hr ?_; (case hd => rfl); (case hg => rfl); (case hr => first | (go_simp; done) | (go_simp; rfl)); intro gb259 hg w5 hbox hb; have n0_ := zA (Kd.zbg (Kd.V_elderB (zV HO0_1) gb259 (Nat.le_of_eq hg.symm)) hb); have n1_ := zA (zai (zB HB) hb); have n2_ := zA (hbox); have n3_ := zA ((by rw [hg]; exact (zah (zB HB)) : w.heap.size ≤ gb259)); have n4_ := zA ((by rw [hg]; exact (zah (zB HB)) : w.heap.size ≤ gb259)); clear HO0_1 HB; have HO0_1 := n0_; have HB := n1_; have BK259 := n2_; have GW259 := n3_; have GE259 := n4_; clear n0_ n1_ n2_ n3_ n4_ hb hbox hg) | ((with_reducible refine zaw (N := 3) rfl ?_); refine zar ?hg (N := 3) ?hd (cs := #[.int .i64 a1_0, .int .i64 a1_1, .int .i64 a1_2, .int .i64 a1_3]) (t := 86) ?hr ?_; (case hd => rfl); (case hg => rfl); (case hr => first | (go_simp; done) | (go_simp; rfl)); intro gb260 hg w6 hbox hb; have n0_ := zA (Kd.zbg (Kd.V_elderB (zV HO0_1) gb260 (Nat.le_of_eq hg.symm)) hb); have n1_ := zA (zan (g := gb259) (o := .cells #[.int .i64 a0_0, .slice A0_1 l0_1.length c0_1] 39 (0, 0)) (zK BK259) hb); have n2_ := zA (zai (zB HB) hb); have n3_ := zA (hbox); have n4_ := zA ((by rw [hg]; exact (zah (zB HB)) : w.heap.size ≤ gb260)); have n5_ := zA ((by rw [hg]; exact (zah (zB HB)) : w.heap.size ≤ gb260)); have n6_ := zA ((by rw [hg]; exact Nat.ne_of_lt (zak (g := gb259) (o := .cells #[.int .i64 a0_0, .slice A0_1 l0_1.length c0_1] 39 (0, 0)) (zK BK259)) : gb259 ≠ gb260)); have n7_ := zA ((by rw [hg]; exact Nat.ne_of_gt (zak (g := gb259) (o := .cells #[.int .i64 a0_0, .slice A0_1 l0_1.length c0_1] 39 (0, 0)) (zK BK259)) : gb260 ≠ gb259)); clear HO0_1 BK259 HB; have HO0_1 := n0_; have BK259 := n1_; have HB := n2_; have BK260 := n3_; have GW260 := n4_; have GE260 := n5_; have NB259_260 := n6_; have NB260_259 := n7_; clear n0_ n1_ n2_ n3_ n4_ n5_ n6_ n7_ hb hbox hg) | ((with_reducible refine zaw (N := 4) rfl ?_); refine zar ?hg (N := 4) ?hd (cs := #[.int .i64 0, .slice none 0 0]) (t := 39) ?hr ?_; (case hd => rfl); (case hg => rfl); (case hr => first | (go_simp; done) | (go_simp; rfl)); intro gb261 hg w7 hbox hb; have n0_ := zA (Kd.zbg (Kd.V_elderB (zV HO0_1) gb261 (Nat.le_of_eq hg.symm)) hb); have n1_ := zA (zan (g := gb259) (o := .cells #[.int .i64 a0_0, .slice A0_1 l0_1.length c0_1] 39 (0, 0)) (zK BK259) hb); have n2_ := zA (zan (g := gb260) (o := .cells #[.int .i64 a1_0, .int .i64 a1_1, .int .i64 a1_2, .int .i64 a1_3] 86 (0, 0)) (zK BK260) hb); have n3_ := zA (zai (zB HB) hb); have n4_ := zA (hbox); have n5_ := zA ((by rw [hg]; exact (zah (zB HB)) : w.heap.size ≤ gb261)); have n6_ := zA ((by rw [hg]; exact (zah (zB HB)) : w.heap.size ≤ gb261)); have n7_ := zA ((by rw [hg]; exact Nat.ne_of_lt (zak (g := gb259) (o := .cells #[.int .i64 a0_0, .slice A0_1 l0_1.length c0_1] 39 (0, 0)) (zK BK259)) : gb259 ≠ gb261)); have n8_ := zA ((by rw [hg]; exact Nat.ne_of_gt (zak (g := gb259) (o := .cells #[.int .i64 a0_0, .slice A0_1 l0_1.length c0_1] 39 (0, 0)) (zK BK259)) : gb261 ≠ gb259)); have n9_ := zA ((by rw [hg]; exact Nat.ne_of_lt (zak (g := gb260) (o := .cells #[.int .i64 a1_0, .int .i64 a1_1, .int .i64 a1_2, .int .i64 a1_3] 86 (0, 0)) (zK BK260)) : gb260 ≠ gb261)); have n10_ := zA ((by rw [hg]; exact Nat.ne_of_gt (zak (g := gb260) (o := .cells #[.int .i64 a1_0, .int .i64 a1_1, .int .i64 a1_2, .int .i64 a1_3] 86 (0, 0)) (zK BK260)) : gb261 ≠ gb260)); clear HO0_1 BK259 BK260 HB; have HO0_1 := n0_; have BK259 := n1_; have BK260 := n2_; have HB := n3_; have BK261 := n4_; have GW261 := n5_; have GE261 := n6_; have NB259_261 := n7_; have NB261_259 := n8_; have NB260_261 := n9_; have NB261_260 := n10_; clear n0_ n1_ n2_ n3_ n4_ n5_ n6_ n7_ n8_ n9_ n10_ hb hbox hg; have hnb8 := NB259_260.out; have hnc8 := NB260_259.out; have hnb9 := NB259_261.out; have hnc9 := NB261_259.out; have hcz10_0 : w7.cell? ⟨gb259, 0, none⟩ = some (.int .i64 a0_0) := (za BK259.out 0).trans rfl; have hcz10_1 : w7.cell? ⟨gb259, 1, none⟩ = some (.slice A0_1 l0_1.length c0_1) := (za BK259.out 1).trans rfl; have hfz10_0 := zaa BK259.out 0; have hfz10_1 := zaa BK259.out 1; have hnb11 := NB260_261.out; have hnc11 := NB261_260.out; have hcz12_0 : w7.cell? ⟨gb260, 0, none⟩ = some (.int .i64 a1_0) := (za BK260.out 0).trans rfl; have hcz12_1 : w7.cell? ⟨gb260, 1, none⟩ = some (.int .i64 a1_1) := (za BK260.out 1).trans rfl; have hcz12_2 : w7.cell? ⟨gb260, 2, none⟩ = some (.int .i64 a1_2) := (za BK260.out 2).trans rfl; have hcz12_3 : w7.cell? ⟨gb260, 3, none⟩ = some (.int .i64 a1_3) := (za BK260.out 3).trans rfl; have hfz12_0 := zaa BK260.out 0; have hfz12_1 := zaa BK260.out 1; have hfz12_2 := zaa BK260.out 2; have hfz12_3 := zaa BK260.out 3) | ((with_reducible refine gate_callee (f := 28) rfl ?_); refine goesL_ (some 10) rfl rfl Try.func28 (by kernel_rfl) rfl #[.agg #[.int .i64 a0_0, .slice A0_1 l0_1.length c0_1], .int .i64 a1_0] rfl (zE) ?_; (with_reducible refine (zam.calls k a0_0 _ _ l0_1 a1_0 t262 _ ?side1 ?side2 A3.out).mono ?_); (case side1 => exact zJ (Kd.zay HO0_1.out).2.2); (case side2 => exact (Kd.zay HO0_1.out).2.1); rintro e w13 ⟨rfl, hb⟩; refine ⟨_, rfl, ?_⟩; have n0_ := zA (Kd.zbg (zV HO0_1) hb); have n1_ := zA (zan (g := gb259) (o := .cells #[.int .i64 a0_0, .slice A0_1 l0_1.length c0_1] 39 (0, 0)) (zK BK259) hb); have n2_ := zA (zan (g := gb260) (o := .cells #[.int .i64 a1_0, .int .i64 a1_1, .int .i64 a1_2, .int .i64 a1_3] 86 (0, 0)) (zK BK260) hb); have n3_ := zA (zan (g := gb261) (o := .cells #[.int .i64 0, .slice none 0 0] 39 (0, 0)) (zK BK261) hb); have n4_ := zA (zai (zB HB) hb); clear HO0_1 BK259 BK260 BK261 HB; have HO0_1 := n0_; have BK259 := n1_; have BK260 := n2_; have BK261 := n3_; have HB := n4_; clear n0_ n1_ n2_ n3_ n4_; (try clear hb); (try clear hb2); (try clear hk); (try clear hi); have hcz14_0 : w13.cell? ⟨gb259, 0, none⟩ = some (.int .i64 a0_0) := (za BK259.out 0).trans rfl; have hcz14_1 : w13.cell? ⟨gb259, 1, none⟩ = some (.slice A0_1 l0_1.length c0_1) := (za BK259.out 1).trans rfl; have hfz14_0 := zaa BK259.out 0; have hfz14_1 := zaa BK259.out 1; have hcz15_0 : w13.cell? ⟨gb261, 0, none⟩ = some (.int .i64 0) := (za BK261.out 0).trans rfl; have hcz15_1 : w13.cell? ⟨gb261, 1, none⟩ = some (.slice none 0 0) := (za BK261.out 1).trans rfl; have hfz15_0 := zaa BK261.out 0; have hfz15_1 := zaa BK261.out 1))
  refine bodyPost_ret (za4 rfl _ _ gb261 39 #[.int .i64 a0_0, .slice A0_1 l0_1.length c0_1] (0, 0) _ rfl (by (with_reducible repeat (first | refine zaj ?_ _ | refine zaf ?_ | refine zac ?_ _)); refine zal (cs := #[.int .i64 a0_0, .slice none 0 0]) ?_ 1 _ rfl; (with_reducible repeat (first | refine zaj ?_ _ | refine zaf ?_ | refine zac ?_ _)); refine zal (cs := #[.int .i64 0, .slice none 0 0]) ?_ 0 _ rfl; (with_reducible repeat (first | refine zaj ?_ _ | refine zaf ?_ | refine zac ?_ _)); exact BK261.out) Try.underlying39 rfl (by kernel_rfl)) rfl ?_
  exact ⟨_, zW, by (with_reducible repeat (first | apply Kd.zb | apply Kd.zbf | apply Kd.zba)); exact Kd.za2 (Kd.V_far (p := ⟨gb261, 1, none⟩) (Kd.V_far (p := ⟨gb261, 0, none⟩) (Kd.za2 HO0_1.out (fun k_ hk => (⟨hk, hk.2⟩ : _ ∧ k_ ≠ gb261))) (fun _ hk => hk.2) (.int .i64 a0_0)) (fun _ hk => hk.2) (.slice A0_1 l0_1.length c0_1)) (fun _ hk => hk.1.1.1.1), zB HB⟩
 ·
  rw [if_neg c4] at H
  have c4b0 : decide (0 ≤ t262) = false := decide_eq_false c4
  clear c4
  have HC16 := zA H
  clear H
  go_enter Try.func46, Try.ntmps46
  go_upto_region 3 with (first | ((with_reducible refine zaw (N := 2) rfl ?_); refine zar ?hg (N := 2) ?hd (cs := #[.int .i64 a0_0, .slice A0_1 l0_1.length c0_1]) (t := 39) ?hr ?_; (case hd => rfl); (case hg => rfl); (case hr => first | (go_simp; done) | (go_simp; rfl)); intro gb259 hg w17 hbox hb; have n0_ := zA (Kd.zbg (Kd.V_elderB (zV HO0_1) gb259 (Nat.le_of_eq hg.symm)) hb); have n1_ := zA (zai (zB HB) hb); have n2_ := zA (hbox); have n3_ := zA ((by rw [hg]; exact (zah (zB HB)) : w.heap.size ≤ gb259)); have n4_ := zA ((by rw [hg]; exact (zah (zB HB)) : w.heap.size ≤ gb259)); clear HO0_1 HB; have HO0_1 := n0_; have HB := n1_; have BK259 := n2_; have GW259 := n3_; have GE259 := n4_; clear n0_ n1_ n2_ n3_ n4_ hb hbox hg) | ((with_reducible refine zaw (N := 3) rfl ?_); refine zar ?hg (N := 3) ?hd (cs := #[.int .i64 a1_0, .int .i64 a1_1, .int .i64 a1_2, .int .i64 a1_3]) (t := 86) ?hr ?_; (case hd => rfl); (case hg => rfl); (case hr => first | (go_simp; done) | (go_simp; rfl)); intro gb260 hg w18 hbox hb; have n0_ := zA (Kd.zbg (Kd.V_elderB (zV HO0_1) gb260 (Nat.le_of_eq hg.symm)) hb); have n1_ := zA (zan (g := gb259) (o := .cells #[.int .i64 a0_0, .slice A0_1 l0_1.length c0_1] 39 (0, 0)) (zK BK259) hb); have n2_ := zA (zai (zB HB) hb); have n3_ := zA (hbox); have n4_ := zA ((by rw [hg]; exact (zah (zB HB)) : w.heap.size ≤ gb260)); have n5_ := zA ((by rw [hg]; exact (zah (zB HB)) : w.heap.size ≤ gb260)); have n6_ := zA ((by rw [hg]; exact Nat.ne_of_lt (zak (g := gb259) (o := .cells #[.int .i64 a0_0, .slice A0_1 l0_1.length c0_1] 39 (0, 0)) (zK BK259)) : gb259 ≠ gb260)); have n7_ := zA ((by rw [hg]; exact Nat.ne_of_gt (zak (g := gb259) (o := .cells #[.int .i64 a0_0, .slice A0_1 l0_1.length c0_1] 39 (0, 0)) (zK BK259)) : gb260 ≠ gb259)); clear HO0_1 BK259 HB; have HO0_1 := n0_; have BK259 := n1_; have HB := n2_; have BK260 := n3_; have GW260 := n4_; have GE260 := n5_; have NB259_260 := n6_; have NB260_259 := n7_; clear n0_ n1_ n2_ n3_ n4_ n5_ n6_ n7_ hb hbox hg) | ((with_reducible refine zaw (N := 4) rfl ?_); refine zar ?hg (N := 4) ?hd (cs := #[.int .i64 0, .slice none 0 0]) (t := 39) ?hr ?_; (case hd => rfl); (case hg => rfl); (case hr => first | (go_simp; done) | (go_simp; rfl)); intro gb261 hg w19 hbox hb; have n0_ := zA (Kd.zbg (Kd.V_elderB (zV HO0_1) gb261 (Nat.le_of_eq hg.symm)) hb); have n1_ := zA (zan (g := gb259) (o := .cells #[.int .i64 a0_0, .slice A0_1 l0_1.length c0_1] 39 (0, 0)) (zK BK259) hb); have n2_ := zA (zan (g := gb260) (o := .cells #[.int .i64 a1_0, .int .i64 a1_1, .int .i64 a1_2, .int .i64 a1_3] 86 (0, 0)) (zK BK260) hb); have n3_ := zA (zai (zB HB) hb); have n4_ := zA (hbox); have n5_ := zA ((by rw [hg]; exact (zah (zB HB)) : w.heap.size ≤ gb261)); have n6_ := zA ((by rw [hg]; exact (zah (zB HB)) : w.heap.size ≤ gb261)); have n7_ := zA ((by rw [hg]; exact Nat.ne_of_lt (zak (g := gb259) (o := .cells #[.int .i64 a0_0, .slice A0_1 l0_1.length c0_1] 39 (0, 0)) (zK BK259)) : gb259 ≠ gb261)); have n8_ := zA ((by rw [hg]; exact Nat.ne_of_gt (zak (g := gb259) (o := .cells #[.int .i64 a0_0, .slice A0_1 l0_1.length c0_1] 39 (0, 0)) (zK BK259)) : gb261 ≠ gb259)); have n9_ := zA ((by rw [hg]; exact Nat.ne_of_lt (zak (g := gb260) (o := .cells #[.int .i64 a1_0, .int .i64 a1_1, .int .i64 a1_2, .int .i64 a1_3] 86 (0, 0)) (zK BK260)) : gb260 ≠ gb261)); have n10_ := zA ((by rw [hg]; exact Nat.ne_of_gt (zak (g := gb260) (o := .cells #[.int .i64 a1_0, .int .i64 a1_1, .int .i64 a1_2, .int .i64 a1_3] 86 (0, 0)) (zK BK260)) : gb261 ≠ gb260)); clear HO0_1 BK259 BK260 HB; have HO0_1 := n0_; have BK259 := n1_; have BK260 := n2_; have HB := n3_; have BK261 := n4_; have GW261 := n5_; have GE261 := n6_; have NB259_261 := n7_; have NB261_259 := n8_; have NB260_261 := n9_; have NB261_260 := n10_; clear n0_ n1_ n2_ n3_ n4_ n5_ n6_ n7_ n8_ n9_ n10_ hb hbox hg; have hnb20 := NB259_260.out; have hnc20 := NB260_259.out; have hnb21 := NB259_261.out; have hnc21 := NB261_259.out; have hcz22_0 : w19.cell? ⟨gb259, 0, none⟩ = some (.int .i64 a0_0) := (za BK259.out 0).trans rfl; have hcz22_1 : w19.cell? ⟨gb259, 1, none⟩ = some (.slice A0_1 l0_1.length c0_1) := (za BK259.out 1).trans rfl; have hfz22_0 := zaa BK259.out 0; have hfz22_1 := zaa BK259.out 1; have hnb23 := NB260_261.out; have hnc23 := NB261_260.out; have hcz24_0 : w19.cell? ⟨gb260, 0, none⟩ = some (.int .i64 a1_0) := (za BK260.out 0).trans rfl; have hcz24_1 : w19.cell? ⟨gb260, 1, none⟩ = some (.int .i64 a1_1) := (za BK260.out 1).trans rfl; have hcz24_2 : w19.cell? ⟨gb260, 2, none⟩ = some (.int .i64 a1_2) := (za BK260.out 2).trans rfl; have hcz24_3 : w19.cell? ⟨gb260, 3, none⟩ = some (.int .i64 a1_3) := (za BK260.out 3).trans rfl; have hfz24_0 := zaa BK260.out 0; have hfz24_1 := zaa BK260.out 1; have hfz24_2 := zaa BK260.out 2; have hfz24_3 := zaa BK260.out 3) | ((with_reducible refine gate_callee (f := 28) rfl ?_); refine goesL_ (some 10) rfl rfl Try.func28 (by kernel_rfl) rfl #[.agg #[.int .i64 a0_0, .slice A0_1 l0_1.length c0_1], .int .i64 a1_0] rfl (zE) ?_; (with_reducible refine (zam.calls k a0_0 _ _ l0_1 a1_0 t262 _ ?side1 ?side2 A3.out).mono ?_); (case side1 => exact zJ (Kd.zay HO0_1.out).2.2); (case side2 => exact (Kd.zay HO0_1.out).2.1); rintro e w25 ⟨rfl, hb⟩; refine ⟨_, rfl, ?_⟩; have n0_ := zA (Kd.zbg (zV HO0_1) hb); have n1_ := zA (zan (g := gb259) (o := .cells #[.int .i64 a0_0, .slice A0_1 l0_1.length c0_1] 39 (0, 0)) (zK BK259) hb); have n2_ := zA (zan (g := gb260) (o := .cells #[.int .i64 a1_0, .int .i64 a1_1, .int .i64 a1_2, .int .i64 a1_3] 86 (0, 0)) (zK BK260) hb); have n3_ := zA (zan (g := gb261) (o := .cells #[.int .i64 0, .slice none 0 0] 39 (0, 0)) (zK BK261) hb); have n4_ := zA (zai (zB HB) hb); clear HO0_1 BK259 BK260 BK261 HB; have HO0_1 := n0_; have BK259 := n1_; have BK260 := n2_; have BK261 := n3_; have HB := n4_; clear n0_ n1_ n2_ n3_ n4_; (try clear hb); (try clear hb2); (try clear hk); (try clear hi)))
  (try simp only [Act.put, zs1, zs2, zs3])
  go_cut [38] (fun v38 wc => ∃ (kq : Nat) (x38_15 : Bool), v38 = .bool x38_15 ∧ Aside0 (zad.j0 kq x38_15 a0_0 l0_1 a1_0 a1_1 a1_2 a1_3 = some (r1, r2, r3)) ∧ Aside0 (kq ≤ k) ∧ Aside0 (Kd.V k86 86 wc w.heap.size (fun k_ => (P0_1_ k_ ∨ w.heap.size ≤ k_) ∧ k_ ≠ gb259 ∧ k_ ≠ gb260 ∧ k_ ≠ gb261) (.slice A0_1 l0_1.length c0_1) l0_1) ∧ Aside0 (wc.heap[gb259]? = some (.cells #[.int .i64 a0_0, (.slice A0_1 l0_1.length c0_1)] 39 (0, 0))) ∧ Aside0 (wc.heap[gb260]? = some (.cells #[.int .i64 a1_0, .int .i64 a1_1, .int .i64 a1_2, .int .i64 a1_3] 86 (0, 0))) ∧ Aside0 (wc.heap[gb261]? = some (.cells #[.int .i64 0, (.slice none 0 0)] 39 (0, 0))) ∧ Aside0 (Below w.heap.size w wc))
  case first =>
   have H := HC16.out
   clear HC16
   by_cases c26 : a1_3 < 1
   ·
    rw [if_pos c26] at H
    have c26b0 : decide (a1_3 < 1) = true := decide_eq_true c26
    clear c26
    (first | rw [c26b0] | (simp only [i64_w, i32_w]; rw [c26b0]) | skip)
    have H' := zA H
    clear H
    have hnb27 := NB260_259.out
    have hnc27 := NB259_260.out
    have hnb28 := NB260_261.out
    have hnc28 := NB261_260.out
    have hcz29_0 : w25.cell? ⟨gb260, 0, none⟩ = some (.int .i64 a1_0) := (za BK260.out 0).trans rfl
    have hcz29_1 : w25.cell? ⟨gb260, 1, none⟩ = some (.int .i64 a1_1) := (za BK260.out 1).trans rfl
    have hcz29_2 : w25.cell? ⟨gb260, 2, none⟩ = some (.int .i64 a1_2) := (za BK260.out 2).trans rfl
    have hcz29_3 : w25.cell? ⟨gb260, 3, none⟩ = some (.int .i64 a1_3) := (za BK260.out 3).trans rfl
    have hfz29_0 := zaa BK260.out 0
    have hfz29_1 := zaa BK260.out 1
    have hfz29_2 := zaa BK260.out 2
    have hfz29_3 := zaa BK260.out 3
    go_wp2
    go_meet
    case rel => exact ⟨_, (true), (zF), H', ⟨by first | omega | exact Nat.le_refl _⟩, ⟨by (with_reducible repeat (first | apply Kd.zb | apply Kd.zbf | apply Kd.zba)); exact Kd.za2 HO0_1.out (fun _ hk => ⟨hk.1.1.1, ⟨hk.1.1.2, ⟨hk.1.2, hk.2⟩⟩⟩)⟩, ⟨zK BK259⟩, ⟨zK BK260⟩, ⟨zK BK261⟩, ⟨zB HB⟩⟩
   ·
    rw [if_neg c26] at H
    have c26b0 : decide (a1_3 < 1) = false := decide_eq_false c26
    clear c26
    (first | rw [c26b0] | (simp only [i64_w, i32_w]; rw [c26b0]) | skip)
    by_cases c30 : a1_3 > 1000
    ·
     rw [if_pos c30] at H
     have c30b0 : decide (1000 < a1_3) = true := decide_eq_true c30
     clear c30
     have H' := zA H
     clear H
     have hnb31 := NB260_259.out
     have hnc31 := NB259_260.out
     have hnb32 := NB260_261.out
     have hnc32 := NB261_260.out
     have hcz33_0 : w25.cell? ⟨gb260, 0, none⟩ = some (.int .i64 a1_0) := (za BK260.out 0).trans rfl
     have hcz33_1 : w25.cell? ⟨gb260, 1, none⟩ = some (.int .i64 a1_1) := (za BK260.out 1).trans rfl
     have hcz33_2 : w25.cell? ⟨gb260, 2, none⟩ = some (.int .i64 a1_2) := (za BK260.out 2).trans rfl
     have hcz33_3 : w25.cell? ⟨gb260, 3, none⟩ = some (.int .i64 a1_3) := (za BK260.out 3).trans rfl
     have hfz33_0 := zaa BK260.out 0
     have hfz33_1 := zaa BK260.out 1
     have hfz33_2 := zaa BK260.out 2
     have hfz33_3 := zaa BK260.out 3
     go_wp2
     go_meet
     case rel => exact ⟨_, (true), (zF), H', ⟨by first | omega | exact Nat.le_refl _⟩, ⟨by (with_reducible repeat (first | apply Kd.zb | apply Kd.zbf | apply Kd.zba)); exact Kd.za2 HO0_1.out (fun _ hk => ⟨hk.1.1.1, ⟨hk.1.1.2, ⟨hk.1.2, hk.2⟩⟩⟩)⟩, ⟨zK BK259⟩, ⟨zK BK260⟩, ⟨zK BK261⟩, ⟨zB HB⟩⟩
    ·
     rw [if_neg c30] at H
     have c30b0 : decide (1000 < a1_3) = false := decide_eq_false c30
     clear c30
     by_cases c34 : a1_2 < 0
     ·
      rw [if_pos c34] at H
      have c34b0 : decide (a1_2 < 0) = true := decide_eq_true c34
      clear c34
      have H' := zA H
      clear H
      have hnb35 := NB260_259.out
      have hnc35 := NB259_260.out
      have hnb36 := NB260_261.out
      have hnc36 := NB261_260.out
      have hcz37_0 : w25.cell? ⟨gb260, 0, none⟩ = some (.int .i64 a1_0) := (za BK260.out 0).trans rfl
      have hcz37_1 : w25.cell? ⟨gb260, 1, none⟩ = some (.int .i64 a1_1) := (za BK260.out 1).trans rfl
      have hcz37_2 : w25.cell? ⟨gb260, 2, none⟩ = some (.int .i64 a1_2) := (za BK260.out 2).trans rfl
      have hcz37_3 : w25.cell? ⟨gb260, 3, none⟩ = some (.int .i64 a1_3) := (za BK260.out 3).trans rfl
      have hfz37_0 := zaa BK260.out 0
      have hfz37_1 := zaa BK260.out 1
      have hfz37_2 := zaa BK260.out 2
      have hfz37_3 := zaa BK260.out 3
      go_wp2
      go_meet
      case rel => exact ⟨_, (true), (zF), H', ⟨by first | omega | exact Nat.le_refl _⟩, ⟨by (with_reducible repeat (first | apply Kd.zb | apply Kd.zbf | apply Kd.zba)); exact Kd.za2 HO0_1.out (fun _ hk => ⟨hk.1.1.1, ⟨hk.1.1.2, ⟨hk.1.2, hk.2⟩⟩⟩)⟩, ⟨zK BK259⟩, ⟨zK BK260⟩, ⟨zK BK261⟩, ⟨zB HB⟩⟩
     ·
      rw [if_neg c34] at H
      have c34b0 : decide (a1_2 < 0) = false := decide_eq_false c34
      clear c34
      by_cases c38 : a1_1 < 0
      ·
       rw [if_pos c38] at H
       have c38b0 : decide (a1_1 < 0) = true := decide_eq_true c38
       clear c38
       have H' := zA H
       clear H
       have hnb39 := NB260_259.out
       have hnc39 := NB259_260.out
       have hnb40 := NB260_261.out
       have hnc40 := NB261_260.out
       have hcz41_0 : w25.cell? ⟨gb260, 0, none⟩ = some (.int .i64 a1_0) := (za BK260.out 0).trans rfl
       have hcz41_1 : w25.cell? ⟨gb260, 1, none⟩ = some (.int .i64 a1_1) := (za BK260.out 1).trans rfl
       have hcz41_2 : w25.cell? ⟨gb260, 2, none⟩ = some (.int .i64 a1_2) := (za BK260.out 2).trans rfl
       have hcz41_3 : w25.cell? ⟨gb260, 3, none⟩ = some (.int .i64 a1_3) := (za BK260.out 3).trans rfl
       have hfz41_0 := zaa BK260.out 0
       have hfz41_1 := zaa BK260.out 1
       have hfz41_2 := zaa BK260.out 2
       have hfz41_3 := zaa BK260.out 3
       go_wp2
       go_meet
       case rel => exact ⟨_, (true), (zF), H', ⟨by first | omega | exact Nat.le_refl _⟩, ⟨by (with_reducible repeat (first | apply Kd.zb | apply Kd.zbf | apply Kd.zba)); exact Kd.za2 HO0_1.out (fun _ hk => ⟨hk.1.1.1, ⟨hk.1.1.2, ⟨hk.1.2, hk.2⟩⟩⟩)⟩, ⟨zK BK259⟩, ⟨zK BK260⟩, ⟨zK BK261⟩, ⟨zB HB⟩⟩
      ·
       rw [if_neg c38] at H
       have c38b0 : decide (a1_1 < 0) = false := decide_eq_false c38
       clear c38
       have H' := zA H
       clear H
       have hnb42 := NB260_259.out
       have hnc42 := NB259_260.out
       have hnb43 := NB260_261.out
       have hnc43 := NB261_260.out
       have hcz44_0 : w25.cell? ⟨gb260, 0, none⟩ = some (.int .i64 a1_0) := (za BK260.out 0).trans rfl
       have hcz44_1 : w25.cell? ⟨gb260, 1, none⟩ = some (.int .i64 a1_1) := (za BK260.out 1).trans rfl
       have hcz44_2 : w25.cell? ⟨gb260, 2, none⟩ = some (.int .i64 a1_2) := (za BK260.out 2).trans rfl
       have hcz44_3 : w25.cell? ⟨gb260, 3, none⟩ = some (.int .i64 a1_3) := (za BK260.out 3).trans rfl
       have hfz44_0 := zaa BK260.out 0
       have hfz44_1 := zaa BK260.out 1
       have hfz44_2 := zaa BK260.out 2
       have hfz44_3 := zaa BK260.out 3
       have hnb45 := NB259_261.out
       have hnc45 := NB261_259.out
       have hcz46_0 : w25.cell? ⟨gb259, 0, none⟩ = some (.int .i64 a0_0) := (za BK259.out 0).trans rfl
       have hcz46_1 : w25.cell? ⟨gb259, 1, none⟩ = some (.slice A0_1 l0_1.length c0_1) := (za BK259.out 1).trans rfl
       have hfz46_0 := zaa BK259.out 0
       have hfz46_1 := zaa BK259.out 1
       go_wp2
       go_meet
       case rel => exact ⟨_, (decide (a1_1 > (wrap64 (a0_0 + 1)))), (zF), H', ⟨by first | omega | exact Nat.le_refl _⟩, ⟨by (with_reducible repeat (first | apply Kd.zb | apply Kd.zbf | apply Kd.zba)); exact Kd.za2 HO0_1.out (fun _ hk => ⟨hk.1.1.1, ⟨hk.1.1.2, ⟨hk.1.2, hk.2⟩⟩⟩)⟩, ⟨zK BK259⟩, ⟨zK BK260⟩, ⟨zK BK261⟩, ⟨zB HB⟩⟩
  case rest =>
   clear HC16
   try clear c1
   try clear c2
   try clear p2
   try clear c3
   try clear c4
   try clear c4b0
   try clear p6
   try clear c8
   try clear c9
   try clear c11
   try clear c20
   try clear c21
   try clear c23
   try clear c26
   try clear c26b0
   try clear c27
   try clear c28
   try clear c30
   try clear c30b0
   try clear c31
   try clear c32
   try clear c34
   try clear c34b0
   try clear c35
   try clear c36
   try clear c38
   try clear c38b0
   try clear c39
   try clear c40
   try clear c42
   try clear c43
   try clear c45
   try clear c46
   try clear hcz10_0
   try clear hcz10_1
   try clear hcz12_0
   try clear hcz12_1
   try clear hcz12_2
   try clear hcz12_3
   try clear hcz14_0
   try clear hcz14_1
   try clear hcz15_0
   try clear hcz15_1
   try clear hcz22_0
   try clear hcz22_1
   try clear hcz24_0
   try clear hcz24_1
   try clear hcz24_2
   try clear hcz24_3
   try clear hcz29_0
   try clear hcz29_1
   try clear hcz29_2
   try clear hcz29_3
   try clear hcz33_0
   try clear hcz33_1
   try clear hcz33_2
   try clear hcz33_3
   try clear hcz37_0
   try clear hcz37_1
   try clear hcz37_2
   try clear hcz37_3
   try clear hcz41_0
   try clear hcz41_1
   try clear hcz41_2
   try clear hcz41_3
   try clear hcz44_0
   try clear hcz44_1
   try clear hcz44_2
   try clear hcz44_3
   try clear hcz46_0
   try clear hcz46_1
   try clear hfz10_0
   try clear hfz10_1
   try clear hfz12_0
   try clear hfz12_1
   try clear hfz12_2
   try clear hfz12_3
   try clear hfz14_0
   try clear hfz14_1
   try clear hfz15_0
   try clear hfz15_1
   try clear hfz22_0
   try clear hfz22_1
   try clear hfz24_0
   try clear hfz24_1
   try clear hfz24_2
   try clear hfz24_3
   try clear hfz29_0
   try clear hfz29_1
   try clear hfz29_2
   try clear hfz29_3
   try clear hfz33_0
   try clear hfz33_1
   try clear hfz33_2
   try clear hfz33_3
   try clear hfz37_0
   try clear hfz37_1
   try clear hfz37_2
   try clear hfz37_3
   try clear hfz41_0
   try clear hfz41_1
   try clear hfz41_2
   try clear hfz41_3
   try clear hfz44_0
   try clear hfz44_1
   try clear hfz44_2
   try clear hfz44_3
   try clear hfz46_0
   try clear hfz46_1
   obtain ⟨kq, x38_15, rfl, HA, HJ15, HO_260001, BK259, BK260, BK261, HB⟩ := hcut
   cases kq with
   | zero => exact absurd HA.out (by simp [zad.j0])
   | succ kj15 =>
    have H := HA.out
    clear HA
    simp only [zad.j0] at H
    by_cases c47 : x38_15 = true
    ·
     subst c47
     rw [if_pos rfl] at H
     simp only [Option.some.injEq, Prod.mk.injEq] at H
     obtain ⟨rfl, rfl, rfl⟩ := H
     have hnb48 := NB259_260.out
     have hnc48 := NB260_259.out
     have hnb49 := NB259_261.out
     have hnc49 := NB261_259.out
     have hcz50_0 : wc.cell? ⟨gb259, 0, none⟩ = some (.int .i64 a0_0) := (za BK259.out 0).trans rfl
     have hcz50_1 : wc.cell? ⟨gb259, 1, none⟩ = some (.slice A0_1 l0_1.length c0_1) := (za BK259.out 1).trans rfl
     have hfz50_0 := zaa BK259.out 0
     have hfz50_1 := zaa BK259.out 1
     have hnb51 := NB261_260.out
     have hnc51 := NB260_261.out
     have hcz52_0 : wc.cell? ⟨gb261, 0, none⟩ = some (.int .i64 0) := (za BK261.out 0).trans rfl
     have hcz52_1 : wc.cell? ⟨gb261, 1, none⟩ = some (.slice none 0 0) := (za BK261.out 1).trans rfl
     have hfz52_0 := zaa BK261.out 0
     have hfz52_1 := zaa BK261.out 1
     go_wp2
     refine bodyPost_ret (za4 rfl _ _ gb261 39 #[.int .i64 a0_0, .slice A0_1 l0_1.length c0_1] (0, 0) _ rfl (by (with_reducible repeat (first | refine zaj ?_ _ | refine zaf ?_ | refine zac ?_ _)); refine zal (cs := #[.int .i64 a0_0, .slice none 0 0]) ?_ 1 _ rfl; (with_reducible repeat (first | refine zaj ?_ _ | refine zaf ?_ | refine zac ?_ _)); refine zal (cs := #[.int .i64 0, .slice none 0 0]) ?_ 0 _ rfl; (with_reducible repeat (first | refine zaj ?_ _ | refine zaf ?_ | refine zac ?_ _)); exact BK261.out) Try.underlying39 rfl (by kernel_rfl)) rfl ?_
     exact ⟨_, zW, by (with_reducible repeat (first | apply Kd.zb | apply Kd.zbf | apply Kd.zba)); exact Kd.za2 (Kd.V_far (p := ⟨gb261, 1, none⟩) (Kd.V_far (p := ⟨gb261, 0, none⟩) (Kd.za2 HO_260001.out (fun k_ hk => (⟨hk, hk.2.2.2⟩ : _ ∧ k_ ≠ gb261))) (fun _ hk => hk.2) (.int .i64 a0_0)) (fun _ hk => hk.2) (.slice A0_1 l0_1.length c0_1)) (fun _ hk => hk.1.1), zB HB⟩
    ·
     replace c47 := Bool.eq_false_iff.mpr c47
     subst c47
     rw [if_neg (show ¬ (false = true) by decide)] at H
     have H' := zA H
     clear H
     go_wp2
     go_loopg [6] kj15 (fun kq v6 w' => ∃ (x6_2 : Int), v6 = .int .i64 x6_2 ∧ Aside0 (zad.l0 kq x6_2 a0_0 l0_1 a1_0 a1_1 a1_2 a1_3 = some (r1, r2, r3)) ∧ Aside0 (kq ≤ kj15) ∧ Aside0 (Kd.V k86 86 w' w.heap.size (fun k_ => (P0_1_ k_ ∨ w.heap.size ≤ k_) ∧ k_ ≠ gb259 ∧ k_ ≠ gb260 ∧ k_ ≠ gb261) (.slice A0_1 l0_1.length c0_1) l0_1) ∧ Aside0 (w'.heap[gb259]? = some (.cells #[.int .i64 a0_0, (.slice A0_1 l0_1.length c0_1)] 39 (0, 0))) ∧ Aside0 (w'.heap[gb260]? = some (.cells #[.int .i64 a1_0, .int .i64 a1_1, .int .i64 a1_2, .int .i64 a1_3] 86 (0, 0))) ∧ Aside0 (w'.heap[gb261]? = some (.cells #[.int .i64 0, (.slice none 0 0)] 39 (0, 0))) ∧ Aside0 (Below w.heap.size w w'))
     case atStart => exact ⟨(0), (zF), H', ⟨Nat.le_refl _⟩, ⟨zV HO_260001⟩, ⟨zK BK259⟩, ⟨zK BK260⟩, ⟨zK BK261⟩, ⟨zB HB⟩⟩
     case round =>
      clear H'
      try clear c1
      try clear c2
      try clear p2
      try clear c3
      try clear c4
      try clear c4b0
      try clear c5
      try clear p6
      try clear c8
      try clear c9
      try clear c11
      try clear c20
      try clear c21
      try clear c23
      try clear c26
      try clear c26b0
      try clear c27
      try clear c28
      try clear c30
      try clear c30b0
      try clear c31
      try clear c32
      try clear c34
      try clear c34b0
      try clear c35
      try clear c36
      try clear c38
      try clear c38b0
      try clear c39
      try clear c40
      try clear c42
      try clear c43
      try clear c45
      try clear c46
      try clear c47
      try clear c48
      try clear c49
      try clear c51
      try clear hcz10_0
      try clear hcz10_1
      try clear hcz12_0
      try clear hcz12_1
      try clear hcz12_2
      try clear hcz12_3
      try clear hcz14_0
      try clear hcz14_1
      try clear hcz15_0
      try clear hcz15_1
      try clear hcz22_0
      try clear hcz22_1
      try clear hcz24_0
      try clear hcz24_1
      try clear hcz24_2
      try clear hcz24_3
      try clear hcz29_0
      try clear hcz29_1
      try clear hcz29_2
      try clear hcz29_3
      try clear hcz33_0
      try clear hcz33_1
      try clear hcz33_2
      try clear hcz33_3
      try clear hcz37_0
      try clear hcz37_1
      try clear hcz37_2
      try clear hcz37_3
      try clear hcz41_0
      try clear hcz41_1
      try clear hcz41_2
      try clear hcz41_3
      try clear hcz44_0
      try clear hcz44_1
      try clear hcz44_2
      try clear hcz44_3
      try clear hcz46_0
      try clear hcz46_1
      try clear hcz50_0
      try clear hcz50_1
      try clear hcz52_0
      try clear hcz52_1
      try clear hfz10_0
      try clear hfz10_1
      try clear hfz12_0
      try clear hfz12_1
      try clear hfz12_2
      try clear hfz12_3
      try clear hfz14_0
      try clear hfz14_1
      try clear hfz15_0
      try clear hfz15_1
      try clear hfz22_0
      try clear hfz22_1
      try clear hfz24_0
      try clear hfz24_1
      try clear hfz24_2
      try clear hfz24_3
      try clear hfz29_0
      try clear hfz29_1
      try clear hfz29_2
      try clear hfz29_3
      try clear hfz33_0
      try clear hfz33_1
      try clear hfz33_2
      try clear hfz33_3
      try clear hfz37_0
      try clear hfz37_1
      try clear hfz37_2
      try clear hfz37_3
      try clear hfz41_0
      try clear hfz41_1
      try clear hfz41_2
      try clear hfz41_3
      try clear hfz44_0
      try clear hfz44_1
      try clear hfz44_2
      try clear hfz44_3
      try clear hfz46_0
      try clear hfz46_1
      try clear hfz50_0
      try clear hfz50_1
      try clear hfz52_0
      try clear hfz52_1
      try clear p2
      try clear p6
      obtain ⟨x6_2, rfl, HA, HK2, HO_260001, BK259, BK260, BK261, HB⟩ := hrel
      cases gk with
      | zero => exact absurd HA.out (by simp [zad.l0])
      | succ k2 =>
       have H := HA.out
       clear HA
       simp only [zad.l0] at H
       by_cases c53 : x6_2 < (l0_1.length : Int)
       ·
        rw [if_pos c53] at H
        have c53b0 : decide (x6_2 < (l0_1.length : Int)) = true := decide_eq_true c53
        clear c53
        by_cases c54 : 0 ≤ x6_2
        ·
         rw [if_pos c54] at H
         have c54b0 : decide (0 ≤ x6_2) = true := decide_eq_true c54
         clear c54
         by_cases c55 : ((rd_T86 l0_1 x6_2).f0) < a1_0
         ·
          rw [if_pos c55] at H
          have c55b0 : decide (((rd_T86 l0_1 x6_2).f0) < a1_0) = true := decide_eq_true c55
          clear c55
          have H' := zA H
          clear H
          try go_wp2
          have n0_ := zA (Kd.zba HO_260001.out)
          have n1_ := zA (zaf BK259.out)
          have n2_ := zA (zaf BK260.out)
          have n3_ := zA (zaf BK261.out)
          have n4_ := zA (zbd HB.out)
          clear HO_260001 BK259 BK260 BK261 HB
          have HO_260001 := n0_
          have BK259 := n1_
          have BK260 := n2_
          have BK261 := n3_
          have HB := n4_
          clear n0_ n1_ n2_ n3_ n4_
          have p263 : 0 ≤ (x6_2 : Int) := of_decide_eq_true (by first | (with_reducible assumption) | assumption)
          have q263 : x6_2 < (l0_1.length : Int) := of_decide_eq_true (by first | (with_reducible assumption) | assumption)
          obtain ⟨ad263, e263, hx263_0, hx263_1, hx263_2, hx263_3⟩ := at_T86 (Kd.zay HO_260001.out).2.2 x6_2 p263 q263
          cases e263
          replace p263 := eq_true p263
          replace q263 := eq_true q263
          refine start_ (n := 16) (S := fun w' => w'.cell? ⟨gb259, 0, none⟩ = some (.int .i64 a0_0) ∧ w'.cell? ⟨gb259, 1, none⟩ = some (.slice (some ad263) l0_1.length c0_1) ∧ w'.cell? ⟨gb260, 0, none⟩ = some (.int .i64 a1_0) ∧ w'.cell? ⟨gb260, 1, none⟩ = some (.int .i64 a1_1) ∧ w'.cell? ⟨gb260, 2, none⟩ = some (.int .i64 a1_2) ∧ w'.cell? ⟨gb260, 3, none⟩ = some (.int .i64 a1_3) ∧ w'.cell? (ad263.add ((x6_2).toNat * 4)) = some (.int .i64 ((rd_T86 l0_1 x6_2).f0)) ∧ w'.cell? ⟨(ad263.add ((x6_2).toNat * 4)).block, (ad263.add ((x6_2).toNat * 4)).off + 1, none⟩ = some (.int .i64 ((rd_T86 l0_1 x6_2).f1)) ∧ w'.cell? ⟨(ad263.add ((x6_2).toNat * 4)).block, (ad263.add ((x6_2).toNat * 4)).off + 2, none⟩ = some (.int .i64 ((rd_T86 l0_1 x6_2).f2)) ∧ w'.cell? ⟨(ad263.add ((x6_2).toNat * 4)).block, (ad263.add ((x6_2).toNat * 4)).off + 3, none⟩ = some (.int .i64 ((rd_T86 l0_1 x6_2).f3))) (ds := []) #[false, false, false, false, false, false, false, false, false, false, false, false, false, false, false, false] (by kernel_rfl) rfl rfl ⟨(za BK259.out 0).trans rfl, (za BK259.out 1).trans rfl, (za BK260.out 0).trans rfl, (za BK260.out 1).trans rfl, (za BK260.out 2).trans rfl, (za BK260.out 3).trans rfl, hx263_0, hx263_1, hx263_2, hx263_3⟩ (fun hHeld => ?_); refine zbp zad.tab6 zad.bits6 (fun HT_ HW_ => ?_)
          generalize wr.drew = w56 at HO_260001 BK259 BK260 BK261 HB hx263_0 hx263_1 hx263_2 hx263_3 hHeld ⊢
          refine pure_ (i := 0) (N := some 40) (v := ?_) (a' := ?_) #[true, false, false, false, false, false, false, false, false, false, false, false, false, false, false, false] rfl rfl (zao HT_.out (by kernel_rfl)) (fun _ _ _ h => h) (Or.inl ⟨by rfl, ?_⟩) ?_ ?_
          rotate_left
          ·
           intro w'
           go_simp
           with_reducible rfl
          rotate_left
          ·
           simp only [Act.put, zs1, zs2, zs3, i64_w, i32_w]
           rfl
          refine pure_ (i := 1) (N := some 41) (v := ?_) (a' := ?_) #[true, true, false, false, false, false, false, false, false, false, false, false, false, false, false, false] rfl rfl (zao HT_.out (by kernel_rfl)) (fun _ _ _ h => h) (Or.inl ⟨by rfl, ?_⟩) ?_ ?_
          rotate_left
          ·
           intro w'
           go_simp
           with_reducible rfl
          rotate_left
          ·
           simp only [Act.put, zs1, zs2, zs3, i64_w, i32_w]
           rfl
          refine take_ (i := 2) (N := some 42) (v := ?_) (a' := ?_) #[true, true, true, false, false, false, false, false, false, false, false, false, false, false, false, false] rfl rfl (zax HT_.out HW_.out (by kernel_rfl)) (fun _ _ _ h => h) (Or.inl ⟨by rfl, ?_⟩) hHeld ?_ ?_
          rotate_left
          ·
           rintro w' ⟨s0, s1, s2, s3, s4, s5, s6, s7, s8, s9⟩
           go_simp
           with_reducible rfl
          rotate_left
          ·
           simp only [Act.put, zs1, zs2, zs3, i64_w, i32_w]
           rfl
          refine pure_ (i := 3) (N := some 43) (v := ?_) (a' := ?_) #[true, true, true, true, false, false, false, false, false, false, false, false, false, false, false, false] rfl rfl (zao HT_.out (by kernel_rfl)) (fun _ _ _ h => h) (Or.inl ⟨by rfl, ?_⟩) ?_ ?_
          rotate_left
          ·
           intro w'
           go_simp
           with_reducible rfl
          rotate_left
          ·
           simp only [Act.put, zs1, zs2, zs3, i64_w, i32_w]
           rfl
          refine pure_ (i := 4) (N := some 44) (v := ?_) (a' := ?_) #[true, true, true, true, true, false, false, false, false, false, false, false, false, false, false, false] rfl rfl (zao HT_.out (by kernel_rfl)) (fun _ _ _ h => h) (Or.inl ⟨by rfl, ?_⟩) ?_ ?_
          rotate_left
          ·
           intro w'
           go_simp
           with_reducible rfl
          rotate_left
          ·
           simp only [Act.put, zs1, zs2, zs3, i64_w, i32_w]
           rfl
          refine pure_ (i := 5) (N := some 45) (v := ?_) (a' := ?_) #[true, true, true, true, true, true, false, false, false, false, false, false, false, false, false, false] rfl rfl (zao HT_.out (by kernel_rfl)) (fun _ _ _ h => h) (Or.inl ⟨by rfl, ?_⟩) ?_ ?_
          rotate_left
          ·
           intro w'
           go_simp
           with_reducible rfl
          rotate_left
          ·
           simp only [Act.put, zs1, zs2, zs3, i64_w, i32_w]
           rfl
          refine pure_ (i := 6) (N := some 46) (v := ?_) (a' := ?_) #[true, true, true, true, true, true, true, false, false, false, false, false, false, false, false, false] rfl rfl (zao HT_.out (by kernel_rfl)) (fun _ _ _ h => h) (Or.inl ⟨by rfl, ?_⟩) ?_ ?_
          rotate_left
          ·
           intro w'
           go_simp
           with_reducible rfl
          rotate_left
          ·
           simp only [Act.put, zs1, zs2, zs3, i64_w, i32_w]
           rfl
          refine pure_ (i := 8) (N := some 48) (v := ?_) (a' := ?_) #[true, true, true, true, true, true, true, false, true, false, false, false, false, false, false, false] rfl rfl (zao HT_.out (by kernel_rfl)) (fun _ _ _ h => h) (Or.inl ⟨by rfl, ?_⟩) ?_ ?_
          rotate_left
          ·
           intro w'
           go_simp
           with_reducible rfl
          rotate_left
          ·
           simp only [Act.put, zs1, zs2, zs3, i64_w, i32_w]
           rfl
          refine pure_ (i := 12) (N := some 52) (v := ?_) (a' := ?_) #[true, true, true, true, true, true, true, false, true, false, false, false, true, false, false, false] rfl rfl (zao HT_.out (by kernel_rfl)) (fun _ _ _ h => h) (Or.inl ⟨by rfl, ?_⟩) ?_ ?_
          rotate_left
          ·
           intro w'
           go_simp
           with_reducible rfl
          rotate_left
          ·
           simp only [Act.put, zs1, zs2, zs3, i64_w, i32_w]
           rfl
          refine take_ (i := 7) (N := some 47) (v := ?_) (a' := ?_) #[true, true, true, true, true, true, true, true, true, false, false, false, true, false, false, false] rfl rfl (zax HT_.out HW_.out (by kernel_rfl)) (fun _ _ _ h => h) (Or.inl ⟨by rfl, ?_⟩) hHeld ?_ ?_
          rotate_left
          ·
           rintro w' ⟨s0, s1, s2, s3, s4, s5, s6, s7, s8, s9⟩
           go_simp
           with_reducible rfl
          rotate_left
          ·
           simp only [Act.put, zs1, zs2, zs3, i64_w, i32_w]
           rfl
          refine pure_ (i := 9) (N := some 49) (v := ?_) (a' := ?_) #[true, true, true, true, true, true, true, true, true, true, false, false, true, false, false, false] rfl rfl (zao HT_.out (by kernel_rfl)) (fun _ _ _ h => h) (Or.inl ⟨by rfl, ?_⟩) ?_ ?_
          rotate_left
          ·
           intro w'
           go_simp
           with_reducible rfl
          rotate_left
          ·
           simp only [Act.put, zs1, zs2, zs3, i64_w, i32_w]
           rfl
          refine pure_ (i := 10) (N := some 50) (v := ?_) (a' := ?_) #[true, true, true, true, true, true, true, true, true, true, true, false, true, false, false, false] rfl rfl (zao HT_.out (by kernel_rfl)) (fun _ _ _ h => h) (Or.inl ⟨by rfl, ?_⟩) ?_ ?_
          rotate_left
          ·
           intro w'
           go_simp
           with_reducible rfl
          rotate_left
          ·
           simp only [Act.put, zs1, zs2, zs3, i64_w, i32_w]
           rfl
          refine take_ (i := 11) (N := some 51) (v := ?_) (a' := ?_) #[true, true, true, true, true, true, true, true, true, true, true, true, true, false, false, false] rfl rfl (zax HT_.out HW_.out (by kernel_rfl)) (fun _ _ _ h => h) (Or.inl ⟨by rfl, ?_⟩) hHeld ?_ ?_
          rotate_left
          ·
           rintro w' ⟨s0, s1, s2, s3, s4, s5, s6, s7, s8, s9⟩
           go_simp
           with_reducible rfl
          rotate_left
          ·
           simp only [Act.put, zs1, zs2, zs3, i64_w, i32_w]
           rfl
          refine take_ (i := 13) (N := some 53) (v := ?_) (a' := ?_) #[true, true, true, true, true, true, true, true, true, true, true, true, true, true, false, false] rfl rfl (zax HT_.out HW_.out (by kernel_rfl)) (fun _ _ _ h => h) (Or.inl ⟨by rfl, ?_⟩) hHeld ?_ ?_
          rotate_left
          ·
           rintro w' ⟨s0, s1, s2, s3, s4, s5, s6, s7, s8, s9⟩
           go_simp
           with_reducible rfl
          rotate_left
          ·
           simp only [Act.put, zs1, zs2, zs3, i64_w, i32_w]
           rfl
          refine pure_ (i := 14) (N := some 54) (v := ?_) (a' := ?_) #[true, true, true, true, true, true, true, true, true, true, true, true, true, true, true, false] rfl rfl (zao HT_.out (by kernel_rfl)) (fun _ _ _ h => h) (Or.inl ⟨by rfl, ?_⟩) ?_ ?_
          rotate_left
          ·
           intro w'
           go_simp
           with_reducible rfl
          rotate_left
          ·
           simp only [Act.put, zs1, zs2, zs3, i64_w, i32_w]
           rfl
          refine pure_ (i := 15) (N := some 55) (v := ?_) (a' := ?_) #[true, true, true, true, true, true, true, true, true, true, true, true, true, true, true, true] rfl rfl (zao HT_.out (by kernel_rfl)) (fun _ _ _ h => h) (Or.inl ⟨by rfl, ?_⟩) ?_ ?_
          rotate_left
          ·
           intro w'
           go_simp
           with_reducible rfl
          rotate_left
          ·
           simp only [Act.put, zs1, zs2, zs3, i64_w, i32_w]
           rfl
          refine done_ (done_of HT_.out (by kernel_rfl)) ?_
          try go_wp2
          go_roundg k2
          case measure => have := HJ15.out; have := HK2.out; omega
          case rel => exact ⟨(wrap64 (x6_2 + 1)), (zF), H', ⟨by have := HJ15.out; have := HK2.out; omega⟩, ⟨zV HO_260001⟩, ⟨zK BK259⟩, ⟨zK BK260⟩, ⟨zK BK261⟩, ⟨zB HB⟩⟩
         ·
          rw [if_neg c55] at H
          have c55b0 : decide (((rd_T86 l0_1 x6_2).f0) < a1_0) = false := decide_eq_false c55
          clear c55
          obtain ⟨y264, hy264⟩ : ∃ y_ : List (S86), y_ = (([] : List (S86))) := ⟨_, rfl⟩
          replace H : (if x6_2 ≤ (l0_1.length : Int) then ((some (l0_1.take (x6_2 : Int).toNat : List (S86))).bind fun y267 => (if y264.length + y267.length < 4398046511104 then ((some (y264 ++ y267 : List (S86))).bind fun y272 => ((zaz.f a0_0 a1_0 a1_1 a1_2 a1_3).bind fun bt275 => (if y272.length < 4398046511104 then ((some (y272 ++ [(⟨bt275.1, bt275.2.1, bt275.2.2.1, bt275.2.2.2⟩ : S86)] : List (S86))).bind fun y279 => ((some (l0_1.drop (x6_2 : Int).toNat : List (S86))).bind fun y282 => (if y279.length + y282.length < 4398046511104 then (some (a0_0, (y279 ++ y282), 0)) else (none)))) else (none)))) else (none))) else (none)) = some (r1, r2, r3) := by first | (rw [hy264]; with_reducible exact H) | (have H2_ := (Option.bind_some _ _).symm.trans H; rw [hy264]; with_reducible exact H2_) | (have H2_ := (Option.bind_some _ _).symm.trans H; with_reducible exact H2_) | with_reducible exact H | (rw [hy264]; exact H) | exact H
          have Ny264 := zA hy264
          clear hy264
          have c57b0 := eq_true (of_decide_eq_true (by first | (with_reducible assumption) | assumption) : 0 ≤ x6_2)
          by_cases c58 : x6_2 ≤ (l0_1.length : Int)
          ·
           rw [if_pos c58] at H
           have c58b0 := eq_true c58
           have c58b1 : decide (x6_2 ≤ (l0_1.length : Int)) = true := decide_eq_true c58
           clear c58
           obtain ⟨y267, hy267⟩ : ∃ y_ : List (S86), y_ = (l0_1.take (x6_2 : Int).toNat) := ⟨_, rfl⟩
           replace H : (if y264.length + y267.length < 4398046511104 then ((some (y264 ++ y267 : List (S86))).bind fun y272 => ((zaz.f a0_0 a1_0 a1_1 a1_2 a1_3).bind fun bt275 => (if y272.length < 4398046511104 then ((some (y272 ++ [(⟨bt275.1, bt275.2.1, bt275.2.2.1, bt275.2.2.2⟩ : S86)] : List (S86))).bind fun y279 => ((some (l0_1.drop (x6_2 : Int).toNat : List (S86))).bind fun y282 => (if y279.length + y282.length < 4398046511104 then (some (a0_0, (y279 ++ y282), 0)) else (none)))) else (none)))) else (none)) = some (r1, r2, r3) := by first | (rw [hy267]; with_reducible exact H) | (have H2_ := (Option.bind_some _ _).symm.trans H; rw [hy267]; with_reducible exact H2_) | (have H2_ := (Option.bind_some _ _).symm.trans H; with_reducible exact H2_) | with_reducible exact H | (rw [hy267]; exact H) | exact H
           have Ny267 := zA hy267
           clear hy267
           by_cases c59 : y264.length + y267.length < 4398046511104
           ·
            rw [if_pos c59] at H
            have LMc59 := zA c59
            clear c59
            obtain ⟨y272, hy272⟩ : ∃ y_ : List (S86), y_ = (y264 ++ y267) := ⟨_, rfl⟩
            replace H : ((zaz.f a0_0 a1_0 a1_1 a1_2 a1_3).bind fun bt275 => (if y272.length < 4398046511104 then ((some (y272 ++ [(⟨bt275.1, bt275.2.1, bt275.2.2.1, bt275.2.2.2⟩ : S86)] : List (S86))).bind fun y279 => ((some (l0_1.drop (x6_2 : Int).toNat : List (S86))).bind fun y282 => (if y279.length + y282.length < 4398046511104 then (some (a0_0, (y279 ++ y282), 0)) else (none)))) else (none))) = some (r1, r2, r3) := by first | (rw [hy272]; with_reducible exact H) | (have H2_ := (Option.bind_some _ _).symm.trans H; rw [hy272]; with_reducible exact H2_) | (have H2_ := (Option.bind_some _ _).symm.trans H; with_reducible exact H2_) | with_reducible exact H | (rw [hy272]; exact H) | exact H
            have Ny272 := zA hy272
            clear hy272
            replace H := zO H
            obtain ⟨⟨t275, t276, t277, t278⟩, A600, H⟩ := H
            try dsimp only at H
            have A60 := zA A600
            clear A600
            by_cases c61 : y272.length < 4398046511104
            ·
             rw [if_pos c61] at H
             have LMc61 := zA c61
             clear c61
             obtain ⟨y279, hy279⟩ : ∃ y_ : List (S86), y_ = (y272 ++ [(⟨t275, t276, t277, t278⟩ : S86)]) := ⟨_, rfl⟩
             replace H : ((some (l0_1.drop (x6_2 : Int).toNat : List (S86))).bind fun y282 => (if y279.length + y282.length < 4398046511104 then (some (a0_0, (y279 ++ y282), 0)) else (none))) = some (r1, r2, r3) := by first | (rw [hy279]; with_reducible exact H) | (have H2_ := (Option.bind_some _ _).symm.trans H; rw [hy279]; with_reducible exact H2_) | (have H2_ := (Option.bind_some _ _).symm.trans H; with_reducible exact H2_) | with_reducible exact H | (rw [hy279]; exact H) | exact H
             have Ny279 := zA hy279
             clear hy279
             have c62b0 := eq_true (of_decide_eq_true (by first | (with_reducible assumption) | assumption) : 0 ≤ x6_2)
             have c63b0 := eq_true (of_decide_eq_true (by first | (with_reducible assumption) | assumption) : x6_2 ≤ (l0_1.length : Int))
             obtain ⟨y282, hy282⟩ : ∃ y_ : List (S86), y_ = (l0_1.drop (x6_2 : Int).toNat) := ⟨_, rfl⟩
             replace H : (if y279.length + y282.length < 4398046511104 then (some (a0_0, (y279 ++ y282), 0)) else (none)) = some (r1, r2, r3) := by first | (rw [hy282]; with_reducible exact H) | (have H2_ := (Option.bind_some _ _).symm.trans H; rw [hy282]; with_reducible exact H2_) | (have H2_ := (Option.bind_some _ _).symm.trans H; with_reducible exact H2_) | with_reducible exact H | (rw [hy282]; exact H) | exact H
             have Ny282 := zA hy282
             clear hy282
             by_cases c64 : y279.length + y282.length < 4398046511104
             ·
              rw [if_pos c64] at H
              have LMc64 := zA c64
              clear c64
              obtain ⟨y287, hy287⟩ : ∃ y_ : List (S86), y_ = (y279 ++ y282) := ⟨_, rfl⟩
              replace H : (some (a0_0, y287, 0)) = some (r1, r2, r3) := by first | (rw [hy287]; with_reducible exact H) | (have H2_ := (Option.bind_some _ _).symm.trans H; rw [hy287]; with_reducible exact H2_) | (have H2_ := (Option.bind_some _ _).symm.trans H; with_reducible exact H2_) | with_reducible exact H | (rw [hy287]; exact H) | exact H
              have Ny287 := zA hy287
              clear hy287
              simp only [Option.some.injEq, Prod.mk.injEq] at H
              obtain ⟨rfl, rfl, rfl⟩ := H
              try go_wp2
              have n0_ := zA (Kd.zba HO_260001.out)
              have n1_ := zA (zaf BK259.out)
              have n2_ := zA (zaf BK260.out)
              have n3_ := zA (zaf BK261.out)
              have n4_ := zA (zbd HB.out)
              clear HO_260001 BK259 BK260 BK261 HB
              have HO_260001 := n0_
              have BK259 := n1_
              have BK260 := n2_
              have BK261 := n3_
              have HB := n4_
              clear n0_ n1_ n2_ n3_ n4_
              have p263 : 0 ≤ (x6_2 : Int) := of_decide_eq_true (by first | (with_reducible assumption) | assumption)
              have q263 : x6_2 < (l0_1.length : Int) := of_decide_eq_true (by first | (with_reducible assumption) | assumption)
              obtain ⟨ad263, e263, hx263_0, hx263_1, hx263_2, hx263_3⟩ := at_T86 (Kd.zay HO_260001.out).2.2 x6_2 p263 q263
              cases e263
              replace p263 := eq_true p263
              replace q263 := eq_true q263
              refine start_ (n := 16) (S := fun w' => w'.cell? ⟨gb259, 0, none⟩ = some (.int .i64 a0_0) ∧ w'.cell? ⟨gb259, 1, none⟩ = some (.slice (some ad263) l0_1.length c0_1) ∧ w'.cell? ⟨gb260, 0, none⟩ = some (.int .i64 a1_0) ∧ w'.cell? ⟨gb260, 1, none⟩ = some (.int .i64 a1_1) ∧ w'.cell? ⟨gb260, 2, none⟩ = some (.int .i64 a1_2) ∧ w'.cell? ⟨gb260, 3, none⟩ = some (.int .i64 a1_3) ∧ w'.cell? (ad263.add ((x6_2).toNat * 4)) = some (.int .i64 ((rd_T86 l0_1 x6_2).f0)) ∧ w'.cell? ⟨(ad263.add ((x6_2).toNat * 4)).block, (ad263.add ((x6_2).toNat * 4)).off + 1, none⟩ = some (.int .i64 ((rd_T86 l0_1 x6_2).f1)) ∧ w'.cell? ⟨(ad263.add ((x6_2).toNat * 4)).block, (ad263.add ((x6_2).toNat * 4)).off + 2, none⟩ = some (.int .i64 ((rd_T86 l0_1 x6_2).f2)) ∧ w'.cell? ⟨(ad263.add ((x6_2).toNat * 4)).block, (ad263.add ((x6_2).toNat * 4)).off + 3, none⟩ = some (.int .i64 ((rd_T86 l0_1 x6_2).f3))) (ds := []) #[false, false, false, false, false, false, false, false, false, false, false, false, false, false, false, false] (by kernel_rfl) rfl rfl ⟨(za BK259.out 0).trans rfl, (za BK259.out 1).trans rfl, (za BK260.out 0).trans rfl, (za BK260.out 1).trans rfl, (za BK260.out 2).trans rfl, (za BK260.out 3).trans rfl, hx263_0, hx263_1, hx263_2, hx263_3⟩ (fun hHeld => ?_); refine zbp zad.tab6 zad.bits6 (fun HT_ HW_ => ?_)
              generalize wr.drew = w65 at HO_260001 BK259 BK260 BK261 HB hx263_0 hx263_1 hx263_2 hx263_3 hHeld ⊢
              refine pure_ (i := 0) (N := some 40) (v := ?_) (a' := ?_) #[true, false, false, false, false, false, false, false, false, false, false, false, false, false, false, false] rfl rfl (zao HT_.out (by kernel_rfl)) (fun _ _ _ h => h) (Or.inl ⟨by rfl, ?_⟩) ?_ ?_
              rotate_left
              ·
               intro w'
               go_simp
               with_reducible rfl
              rotate_left
              ·
               simp only [Act.put, zs1, zs2, zs3, i64_w, i32_w]
               rfl
              refine pure_ (i := 1) (N := some 41) (v := ?_) (a' := ?_) #[true, true, false, false, false, false, false, false, false, false, false, false, false, false, false, false] rfl rfl (zao HT_.out (by kernel_rfl)) (fun _ _ _ h => h) (Or.inl ⟨by rfl, ?_⟩) ?_ ?_
              rotate_left
              ·
               intro w'
               go_simp
               with_reducible rfl
              rotate_left
              ·
               simp only [Act.put, zs1, zs2, zs3, i64_w, i32_w]
               rfl
              refine take_ (i := 2) (N := some 42) (v := ?_) (a' := ?_) #[true, true, true, false, false, false, false, false, false, false, false, false, false, false, false, false] rfl rfl (zax HT_.out HW_.out (by kernel_rfl)) (fun _ _ _ h => h) (Or.inl ⟨by rfl, ?_⟩) hHeld ?_ ?_
              rotate_left
              ·
               rintro w' ⟨s0, s1, s2, s3, s4, s5, s6, s7, s8, s9⟩
               go_simp
               with_reducible rfl
              rotate_left
              ·
               simp only [Act.put, zs1, zs2, zs3, i64_w, i32_w]
               rfl
              refine pure_ (i := 3) (N := some 43) (v := ?_) (a' := ?_) #[true, true, true, true, false, false, false, false, false, false, false, false, false, false, false, false] rfl rfl (zao HT_.out (by kernel_rfl)) (fun _ _ _ h => h) (Or.inl ⟨by rfl, ?_⟩) ?_ ?_
              rotate_left
              ·
               intro w'
               go_simp
               with_reducible rfl
              rotate_left
              ·
               simp only [Act.put, zs1, zs2, zs3, i64_w, i32_w]
               rfl
              refine pure_ (i := 4) (N := some 44) (v := ?_) (a' := ?_) #[true, true, true, true, true, false, false, false, false, false, false, false, false, false, false, false] rfl rfl (zao HT_.out (by kernel_rfl)) (fun _ _ _ h => h) (Or.inl ⟨by rfl, ?_⟩) ?_ ?_
              rotate_left
              ·
               intro w'
               go_simp
               with_reducible rfl
              rotate_left
              ·
               simp only [Act.put, zs1, zs2, zs3, i64_w, i32_w]
               rfl
              refine pure_ (i := 5) (N := some 45) (v := ?_) (a' := ?_) #[true, true, true, true, true, true, false, false, false, false, false, false, false, false, false, false] rfl rfl (zao HT_.out (by kernel_rfl)) (fun _ _ _ h => h) (Or.inl ⟨by rfl, ?_⟩) ?_ ?_
              rotate_left
              ·
               intro w'
               go_simp
               with_reducible rfl
              rotate_left
              ·
               simp only [Act.put, zs1, zs2, zs3, i64_w, i32_w]
               rfl
              refine pure_ (i := 6) (N := some 46) (v := ?_) (a' := ?_) #[true, true, true, true, true, true, true, false, false, false, false, false, false, false, false, false] rfl rfl (zao HT_.out (by kernel_rfl)) (fun _ _ _ h => h) (Or.inl ⟨by rfl, ?_⟩) ?_ ?_
              rotate_left
              ·
               intro w'
               go_simp
               with_reducible rfl
              rotate_left
              ·
               simp only [Act.put, zs1, zs2, zs3, i64_w, i32_w]
               rfl
              refine pure_ (i := 8) (N := some 48) (v := ?_) (a' := ?_) #[true, true, true, true, true, true, true, false, true, false, false, false, false, false, false, false] rfl rfl (zao HT_.out (by kernel_rfl)) (fun _ _ _ h => h) (Or.inl ⟨by rfl, ?_⟩) ?_ ?_
              rotate_left
              ·
               intro w'
               go_simp
               with_reducible rfl
              rotate_left
              ·
               simp only [Act.put, zs1, zs2, zs3, i64_w, i32_w]
               rfl
              refine pure_ (i := 12) (N := some 52) (v := ?_) (a' := ?_) #[true, true, true, true, true, true, true, false, true, false, false, false, true, false, false, false] rfl rfl (zao HT_.out (by kernel_rfl)) (fun _ _ _ h => h) (Or.inl ⟨by rfl, ?_⟩) ?_ ?_
              rotate_left
              ·
               intro w'
               go_simp
               with_reducible rfl
              rotate_left
              ·
               simp only [Act.put, zs1, zs2, zs3, i64_w, i32_w]
               rfl
              refine take_ (i := 7) (N := some 47) (v := ?_) (a' := ?_) #[true, true, true, true, true, true, true, true, true, false, false, false, true, false, false, false] rfl rfl (zax HT_.out HW_.out (by kernel_rfl)) (fun _ _ _ h => h) (Or.inl ⟨by rfl, ?_⟩) hHeld ?_ ?_
              rotate_left
              ·
               rintro w' ⟨s0, s1, s2, s3, s4, s5, s6, s7, s8, s9⟩
               go_simp
               with_reducible rfl
              rotate_left
              ·
               simp only [Act.put, zs1, zs2, zs3, i64_w, i32_w]
               rfl
              refine pure_ (i := 9) (N := some 49) (v := ?_) (a' := ?_) #[true, true, true, true, true, true, true, true, true, true, false, false, true, false, false, false] rfl rfl (zao HT_.out (by kernel_rfl)) (fun _ _ _ h => h) (Or.inl ⟨by rfl, ?_⟩) ?_ ?_
              rotate_left
              ·
               intro w'
               go_simp
               with_reducible rfl
              rotate_left
              ·
               simp only [Act.put, zs1, zs2, zs3, i64_w, i32_w]
               rfl
              refine pure_ (i := 10) (N := some 50) (v := ?_) (a' := ?_) #[true, true, true, true, true, true, true, true, true, true, true, false, true, false, false, false] rfl rfl (zao HT_.out (by kernel_rfl)) (fun _ _ _ h => h) (Or.inl ⟨by rfl, ?_⟩) ?_ ?_
              rotate_left
              ·
               intro w'
               go_simp
               with_reducible rfl
              rotate_left
              ·
               simp only [Act.put, zs1, zs2, zs3, i64_w, i32_w]
               rfl
              refine take_ (i := 11) (N := some 51) (v := ?_) (a' := ?_) #[true, true, true, true, true, true, true, true, true, true, true, true, true, false, false, false] rfl rfl (zax HT_.out HW_.out (by kernel_rfl)) (fun _ _ _ h => h) (Or.inl ⟨by rfl, ?_⟩) hHeld ?_ ?_
              rotate_left
              ·
               rintro w' ⟨s0, s1, s2, s3, s4, s5, s6, s7, s8, s9⟩
               go_simp
               with_reducible rfl
              rotate_left
              ·
               simp only [Act.put, zs1, zs2, zs3, i64_w, i32_w]
               rfl
              refine take_ (i := 13) (N := some 53) (v := ?_) (a' := ?_) #[true, true, true, true, true, true, true, true, true, true, true, true, true, true, false, false] rfl rfl (zax HT_.out HW_.out (by kernel_rfl)) (fun _ _ _ h => h) (Or.inl ⟨by rfl, ?_⟩) hHeld ?_ ?_
              rotate_left
              ·
               rintro w' ⟨s0, s1, s2, s3, s4, s5, s6, s7, s8, s9⟩
               go_simp
               with_reducible rfl
              rotate_left
              ·
               simp only [Act.put, zs1, zs2, zs3, i64_w, i32_w]
               rfl
              refine pure_ (i := 14) (N := some 54) (v := ?_) (a' := ?_) #[true, true, true, true, true, true, true, true, true, true, true, true, true, true, true, false] rfl rfl (zao HT_.out (by kernel_rfl)) (fun _ _ _ h => h) (Or.inl ⟨by rfl, ?_⟩) ?_ ?_
              rotate_left
              ·
               intro w'
               go_simp
               with_reducible rfl
              rotate_left
              ·
               simp only [Act.put, zs1, zs2, zs3, i64_w, i32_w]
               rfl
              refine pure_ (i := 15) (N := some 55) (v := ?_) (a' := ?_) #[true, true, true, true, true, true, true, true, true, true, true, true, true, true, true, true] rfl rfl (zao HT_.out (by kernel_rfl)) (fun _ _ _ h => h) (Or.inl ⟨by rfl, ?_⟩) ?_ ?_
              rotate_left
              ·
               intro w'
               go_simp
               with_reducible rfl
              rotate_left
              ·
               simp only [Act.put, zs1, zs2, zs3, i64_w, i32_w]
               rfl
              refine done_ (done_of HT_.out (by kernel_rfl)) ?_
              try go_wp2
              have n0_ := zA (Kd.zba HO_260001.out)
              have n1_ := zA (zaf BK259.out)
              have n2_ := zA (zaf BK260.out)
              have n3_ := zA (zaf BK261.out)
              have n4_ := zA (zbd HB.out)
              clear HO_260001 BK259 BK260 BK261 HB
              have HO_260001 := n0_
              have BK259 := n1_
              have BK260 := n2_
              have BK261 := n3_
              have HB := n4_
              clear n0_ n1_ n2_ n3_ n4_
              have q67 : (x6_2 : Int) ≤ ((l0_1.length : Int) : Int) := of_decide_eq_true (by first | (with_reducible assumption) | assumption)
              obtain ⟨i067, hi067, _, hsz67, _⟩ := info_parts info86
              have hroom67 : l0_1.length ≤ c0_1 := (Kd.zay HO_260001.out).2.1
              have hC67 : Kd.F k86 _ _ (some ad263) l0_1.length l0_1 := (Kd.V_at (base := w.heap.size) HO_260001.out).2.2
              have hcut67 := cut_to (P := Try.prog) 37 86 .i64 Try.underlying37 hi067 (some ad263) l0_1.length c0_1 x6_2 (of_decide_eq_true (by first | (with_reducible assumption) | assumption)) q67 hroom67
              have hr67 := Kd.F_take (m := (x6_2 : Int).toNat) hC67 (by omega)
              have hy67 : y267.length = (x6_2 : Int).toNat := (by rw [Ny267.out, List.length_take]; omega)
              rw [← Ny267.out] at hr67
              rw [← hy67] at hcut67
              have HO271 := zA (show Kd.V k86 86 _ w.heap.size _ (.slice (some ad263) y267.length c0_1) y267 from Kd.V_mk (by omega) hr67)
              have HC271 := zA (show y267.length ≤ c0_1 from by omega)
              clear hr67 hC67 hroom67 hi067 hsz67
              have KY67 := zA hy67
              clear hy67
              replace q67 := eq_true q67
              have q68 : (x6_2 : Int) ≤ ((l0_1.length : Int) : Int) := of_decide_eq_true (by first | (with_reducible assumption) | assumption)
              obtain ⟨i068, hi068, _, hsz68, _⟩ := info_parts info86
              have hroom68 : l0_1.length ≤ c0_1 := (Kd.zay HO_260001.out).2.1
              have hC68 : Kd.F k86 _ _ (some ad263) l0_1.length l0_1 := (Kd.V_at (base := w.heap.size) HO_260001.out).2.2
              have q068 : (0 : Int) ≤ (x6_2 : Int) := of_decide_eq_true (by first | (with_reducible assumption) | assumption)
              have hcut68 := cut_from (P := Try.prog) 37 86 .i64 Try.underlying37 hi068 4 hsz68 (some ad263) l0_1.length c0_1 x6_2 q068 q68
              have hr68 := Kd.F_cut (m := (x6_2 : Int).toNat) (c := c0_1) hC68 (by omega) hroom68
              obtain ⟨A68, hA68⟩ : ∃ A1, A1 = (if c0_1 = (x6_2 : Int).toNat then (some ad263) else ((some ad263) : Option Addr).map (·.add ((x6_2 : Int).toNat * 4))) := ⟨_, rfl⟩
              obtain ⟨c68, hc68⟩ : ∃ c1, c1 = c0_1 - (x6_2 : Int).toNat := ⟨_, rfl⟩
              have hy68 : y282.length = l0_1.length - (x6_2 : Int).toNat := (by rw [Ny282.out, List.length_drop] <;> omega)
              rw [show (l0_1).drop (x6_2 : Int).toNat = y282 from Ny282.out.symm] at hr68
              replace hr68 : Kd.F k86 _ _ A68 y282.length y282 := (by rw [hA68]; exact hr68)
              rw [← hy68, ← hA68, ← hc68] at hcut68
              have HO286 := zA (show Kd.V k86 86 _ w.heap.size _ (.slice A68 y282.length c68) y282 from Kd.V_mk (by rw [hy68, hc68]; exact Nat.sub_le_sub_right hroom68 _) hr68)
              have HC286 := zA (show y282.length ≤ c68 from by rw [hy68, hc68]; exact Nat.sub_le_sub_right hroom68 _)
              clear hr68 hC68 hroom68 hi068 hsz68 hc68
              have KY68 := zA hy68
              have KA68 := zA hA68
              clear hy68 hA68
              replace q68 := eq_true q68
              refine start_ (n := 22) (S := fun w' => w'.cell? ⟨gb259, 0, none⟩ = some (.int .i64 a0_0) ∧ w'.cell? ⟨gb259, 1, none⟩ = some (.slice (some ad263) l0_1.length c0_1) ∧ w'.cell? ⟨gb260, 0, none⟩ = some (.int .i64 a1_0) ∧ w'.cell? ⟨gb260, 1, none⟩ = some (.int .i64 a1_1) ∧ w'.cell? ⟨gb260, 2, none⟩ = some (.int .i64 a1_2) ∧ w'.cell? ⟨gb260, 3, none⟩ = some (.int .i64 a1_3)) (ds := []) #[false, false, false, false, false, false, false, false, false, false, false, false, false, false, false, false, false, false, false, false, false, false] (by kernel_rfl) rfl rfl ⟨(za BK259.out 0).trans rfl, (za BK259.out 1).trans rfl, (za BK260.out 0).trans rfl, (za BK260.out 1).trans rfl, (za BK260.out 2).trans rfl, (za BK260.out 3).trans rfl⟩ (fun hHeld => ?_); refine zbp zad.tab8 zad.bits8 (fun HT_ HW_ => ?_)
              generalize w65.drew = w66 at HO_260001 BK259 BK260 BK261 HB HO271 HO286 hHeld ⊢
              refine pure_ (i := 0) (N := some 58) (v := ?_) (a' := ?_) #[true, false, false, false, false, false, false, false, false, false, false, false, false, false, false, false, false, false, false, false, false, false] rfl rfl (zao HT_.out (by kernel_rfl)) (fun _ _ _ h => h) (Or.inl ⟨by rfl, ?_⟩) ?_ ?_
              rotate_left
              ·
               intro w'
               go_simp
               with_reducible rfl
              rotate_left
              ·
               simp only [Act.put, zs1, zs2, zs3, i64_w, i32_w]
               rfl
              refine pure_ (i := 3) (N := some 61) (v := ?_) (a' := ?_) #[true, false, false, true, false, false, false, false, false, false, false, false, false, false, false, false, false, false, false, false, false, false] rfl rfl (zao HT_.out (by kernel_rfl)) (fun _ _ _ h => h) (Or.inl ⟨by rfl, ?_⟩) ?_ ?_
              rotate_left
              ·
               intro w'
               go_simp
               with_reducible rfl
              rotate_left
              ·
               simp only [Act.put, zs1, zs2, zs3, i64_w, i32_w]
               rfl
              refine pure_ (i := 5) (N := some 63) (v := ?_) (a' := ?_) #[true, false, false, true, false, true, false, false, false, false, false, false, false, false, false, false, false, false, false, false, false, false] rfl rfl (zao HT_.out (by kernel_rfl)) (fun _ _ _ h => h) (Or.inl ⟨by rfl, ?_⟩) ?_ ?_
              rotate_left
              ·
               intro w'
               go_simp
               with_reducible rfl
              rotate_left
              ·
               simp only [Act.put, zs1, zs2, zs3, i64_w, i32_w]
               rfl
              refine pure_ (i := 8) (N := some 66) (v := ?_) (a' := ?_) #[true, false, false, true, false, true, false, false, true, false, false, false, false, false, false, false, false, false, false, false, false, false] rfl rfl (zao HT_.out (by kernel_rfl)) (fun _ _ _ h => h) (Or.inl ⟨by rfl, ?_⟩) ?_ ?_
              rotate_left
              ·
               intro w'
               go_simp
               with_reducible rfl
              rotate_left
              ·
               simp only [Act.put, zs1, zs2, zs3, i64_w, i32_w]
               rfl
              refine pure_ (i := 14) (N := some 72) (v := ?_) (a' := ?_) #[true, false, false, true, false, true, false, false, true, false, false, false, false, false, true, false, false, false, false, false, false, false] rfl rfl (zao HT_.out (by kernel_rfl)) (fun _ _ _ h => h) (Or.inl ⟨by rfl, ?_⟩) ?_ ?_
              rotate_left
              ·
               intro w'
               go_simp
               with_reducible rfl
              rotate_left
              ·
               simp only [Act.put, zs1, zs2, zs3, i64_w, i32_w]
               rfl
              refine pure_ (i := 16) (N := some 74) (v := ?_) (a' := ?_) #[true, false, false, true, false, true, false, false, true, false, false, false, false, false, true, false, true, false, false, false, false, false] rfl rfl (zao HT_.out (by kernel_rfl)) (fun _ _ _ h => h) (Or.inl ⟨by rfl, ?_⟩) ?_ ?_
              rotate_left
              ·
               intro w'
               go_simp
               with_reducible rfl
              rotate_left
              ·
               simp only [Act.put, zs1, zs2, zs3, i64_w, i32_w]
               rfl
              refine take_ (i := 1) (N := some 59) (v := ?_) (a' := ?_) #[true, true, false, true, false, true, false, false, true, false, false, false, false, false, true, false, true, false, false, false, false, false] rfl rfl (zax HT_.out HW_.out (by kernel_rfl)) (fun _ _ _ h => h) (Or.inl ⟨by rfl, ?_⟩) hHeld ?_ ?_
              rotate_left
              ·
               rintro w' ⟨s0, s1, s2, s3, s4, s5⟩
               go_simp
               with_reducible rfl
              rotate_left
              ·
               simp only [Act.put, zs1, zs2, zs3, i64_w, i32_w]
               rfl
              refine take_ (i := 4) (N := some 62) (v := ?_) (a' := ?_) #[true, true, false, true, true, true, false, false, true, false, false, false, false, false, true, false, true, false, false, false, false, false] rfl rfl (zax HT_.out HW_.out (by kernel_rfl)) (fun _ _ _ h => h) (Or.inl ⟨by rfl, ?_⟩) hHeld ?_ ?_
              rotate_left
              ·
               rintro w' ⟨s0, s1, s2, s3, s4, s5⟩
               go_simp
               with_reducible rfl
              rotate_left
              ·
               simp only [Act.put, zs1, zs2, zs3, i64_w, i32_w]
               rfl
              refine pure_ (i := 6) (N := some 64) (v := ?_) (a' := ?_) #[true, true, false, true, true, true, true, false, true, false, false, false, false, false, true, false, true, false, false, false, false, false] rfl rfl (zao HT_.out (by kernel_rfl)) (fun _ _ _ h => h) (Or.inl ⟨by rfl, ?_⟩) ?_ ?_
              rotate_left
              ·
               intro w'
               go_simp
               with_reducible rfl
              rotate_left
              ·
               simp only [Act.put, zs1, zs2, zs3, i64_w, i32_w]
               rfl
              refine take_ (i := 9) (N := some 67) (v := ?_) (a' := ?_) #[true, true, false, true, true, true, true, false, true, true, false, false, false, false, true, false, true, false, false, false, false, false] rfl rfl (zax HT_.out HW_.out (by kernel_rfl)) (fun _ _ _ h => h) (Or.inl ⟨by rfl, ?_⟩) hHeld ?_ ?_
              rotate_left
              ·
               rintro w' ⟨s0, s1, s2, s3, s4, s5⟩
               go_simp
               with_reducible rfl
              rotate_left
              ·
               simp only [Act.put, zs1, zs2, zs3, i64_w, i32_w]
               rfl
              refine take_ (i := 10) (N := some 68) (v := ?_) (a' := ?_) #[true, true, false, true, true, true, true, false, true, true, true, false, false, false, true, false, true, false, false, false, false, false] rfl rfl (zax HT_.out HW_.out (by kernel_rfl)) (fun _ _ _ h => h) (Or.inl ⟨by rfl, ?_⟩) hHeld ?_ ?_
              rotate_left
              ·
               rintro w' ⟨s0, s1, s2, s3, s4, s5⟩
               go_simp
               with_reducible rfl
              rotate_left
              ·
               simp only [Act.put, zs1, zs2, zs3, i64_w, i32_w]
               rfl
              refine take_ (i := 15) (N := some 73) (v := ?_) (a' := ?_) #[true, true, false, true, true, true, true, false, true, true, true, false, false, false, true, true, true, false, false, false, false, false] rfl rfl (zax HT_.out HW_.out (by kernel_rfl)) (fun _ _ _ h => h) (Or.inl ⟨by rfl, ?_⟩) hHeld ?_ ?_
              rotate_left
              ·
               rintro w' ⟨s0, s1, s2, s3, s4, s5⟩
               go_simp
               with_reducible rfl
              rotate_left
              ·
               simp only [Act.put, zs1, zs2, zs3, i64_w, i32_w]
               rfl
              refine pure_ (i := 17) (N := some 75) (v := ?_) (a' := ?_) #[true, true, false, true, true, true, true, false, true, true, true, false, false, false, true, true, true, true, false, false, false, false] rfl rfl (zao HT_.out (by kernel_rfl)) (fun _ _ _ h => h) (Or.inl ⟨by rfl, ?_⟩) ?_ ?_
              rotate_left
              ·
               intro w'
               go_simp
               with_reducible rfl
              rotate_left
              ·
               simp only [Act.put, zs1, zs2, zs3, i64_w, i32_w]
               rfl
              refine one_ (i := 2) (N := some 60) #[true, true, true, true, true, true, true, false, true, true, true, false, false, false, true, true, true, true, false, false, false, false] rfl rfl (one_of HT_.out (by kernel_rfl)) (by decide) (fun K hK => ?_)
              refine Kd.R_lit_step k86 _ 86 ?hg (N := 60) ?hd (xs := ([] : List (S86))) (inner := []) (ok := fun _ => True) (okp := fun _ => True) ?hr ?hp (fun _ hk => hk) trivial (Below.refl _ _) (Nat.le_refl _) (by simp) ?_; (case hd => rfl); (case hg => rfl); (case hr => first | (go_simp; done) | (go_simp; rfl)); (case hp => exact (Reps.none _ _))
              intro v265 w69 ho70 hb hg_ hnew_
              clear hg_ hnew_
              (first | rw [← Ny264.out] at ho70 | (simp only [Int.reduceToNat] at ho70; rw [← Ny264.out] at ho70))
              have n0_ := zA (Kd.V_elder' (zV HO_260001) (Kd.R_base ho70) hb)
              have n1_ := zA (Kd.V_elder' (zV HO271) (Kd.R_base ho70) hb)
              have n2_ := zA (Kd.V_elder' (zV HO286) (Kd.R_base ho70) hb)
              have n3_ := zA (Kd.R_lower (Kd.R_newB (Kd.R_newM (M := fun k_ => (w.heap.size ≤ k_)) ho70 (zah (zB HB)) (fun k_ h_ => h_)) (g := gb260) (o := .cells #[.int .i64 a1_0, .int .i64 a1_1, .int .i64 a1_2, .int .i64 a1_3] 86 (0, 0)) (zK BK260)) (zah (zB HB)))
              have n4_ := zA (zan (g := gb259) (o := .cells #[.int .i64 a0_0, .slice (some ad263) l0_1.length c0_1] 39 (0, 0)) (zK BK259) hb)
              have n5_ := zA (zan (g := gb260) (o := .cells #[.int .i64 a1_0, .int .i64 a1_1, .int .i64 a1_2, .int .i64 a1_3] 86 (0, 0)) (zK BK260) hb)
              have n6_ := zA (zan (g := gb261) (o := .cells #[.int .i64 0, .slice none 0 0] 39 (0, 0)) (zK BK261) hb)
              have n7_ := zA (zai (zB HB) hb)
              clear HO_260001 HO271 HO286 BK259 BK260 BK261 HB
              have HO_260001 := n0_
              have HO271 := n1_
              have HO286 := n2_
              have HO266 := n3_
              have BK259 := n4_
              have BK260 := n5_
              have BK261 := n6_
              have HB := n7_
              clear n0_ n1_ n2_ n3_ n4_ n5_ n6_ n7_ hb ho70
              refine hK.out _ _ ⟨(za BK259.out 0).trans rfl, (za BK259.out 1).trans rfl, (za BK260.out 0).trans rfl, (za BK260.out 1).trans rfl, (za BK260.out 2).trans rfl, (za BK260.out 3).trans rfl⟩ (fun hHeld => ?_)
              clear hK K
              refine norm_ (a' := ?_) ?_ ?_
              rotate_left
              ·
               show Act.put _ (some 60) _ = _
               simp only [Act.put, zs1, zs2, zs3, i64_w, i32_w]
               rfl
              refine one_ (i := 7) (N := some 65) #[true, true, true, true, true, true, true, true, true, true, true, false, false, false, true, true, true, true, false, false, false, false] rfl rfl (one_of HT_.out (by kernel_rfl)) (by decide) (fun K hK => ?_)
              refine Kd.za9 k86 (w0 := w) w.heap.size (by rfl) (.tmp 60) (.tmp 64) 37 86 (.agg #[(.int .i64 0), (.int .i64 0), (.int .i64 0), (.int .i64 0)]) 32 rfl Try.underlying37 info86 rfl (by decide) (by omega) v265 y264 y267 _ _ _ (fun k_ => (w.heap.size ≤ k_) ∧ k_ ≠ gb260) (fun _ => False) rfl rfl ?aO ?aR (fun _ _ h => h) (fun _ h => h.elim) ?aF ?aB ?aS ?aL ?_
              (case aR => exact zJ (Kd.zay HO271.out).2.2)
              (case aB => exact (zB HB))
              (case aF => exact (fun k_ hk => ⟨(Nat.le_trans (zah (zB HB)) hk), Kd.freshB (g := gb260) (o := .cells #[.int .i64 a1_0, .int .i64 a1_1, .int .i64 a1_2, .int .i64 a1_3] 86 (0, 0)) (zK BK260) k_ hk⟩))
              (case aO => exact (by (with_reducible repeat (first | apply Kd.R_alloc | apply Kd.R_drewN | apply Kd.R_drew)); exact Kd.zbs HO266.out (fun _ hk => ⟨hk.1.1, hk.2⟩)))
              (case aS => exact (zah (zB HB)))
              (case aL => have := LMc59.out; omega)
              intro v273 w71 ho hb hg hat
              rw [← Ny272.out] at ho
              have n0_ := zA (Kd.za8 (ok := (fun k_ => (P0_1_ k_ ∨ w.heap.size ≤ k_) ∧ k_ ≠ gb259 ∧ k_ ≠ gb260 ∧ k_ ≠ gb261)) (zV HO_260001) hg hat)
              have n1_ := zA (zat (g := gb259) (o := .cells #[.int .i64 a0_0, .slice (some ad263) l0_1.length c0_1] 39 (0, 0)) (zK BK259) hg (Kd.R_ne HO266.out BK259.out (by decide)))
              have n2_ := zA (zat (g := gb260) (o := .cells #[.int .i64 a1_0, .int .i64 a1_1, .int .i64 a1_2, .int .i64 a1_3] 86 (0, 0)) (zK BK260) hg (Kd.R_away HO266.out (fun _ hk => hk.2)))
              have n3_ := zA (zat (g := gb261) (o := .cells #[.int .i64 0, .slice none 0 0] 39 (0, 0)) (zK BK261) hg (Kd.R_ne HO266.out BK261.out (by decide)))
              have n4_ := zA (Kd.za8 (ok := (fun k_ => (P0_1_ k_ ∨ w.heap.size ≤ k_) ∧ k_ ≠ gb259 ∧ k_ ≠ gb260 ∧ k_ ≠ gb261)) (zV HO271) hg hat)
              have n5_ := zA (Kd.za8 (ok := (fun k_ => (P0_1_ k_ ∨ w.heap.size ≤ k_) ∧ k_ ≠ gb259 ∧ k_ ≠ gb260 ∧ k_ ≠ gb261)) (zV HO286) hg hat)
              have n6_ := zA (hb)
              have n7_ := zA (ho)
              clear HO_260001 BK259 BK260 BK261 HO271 HO286 HB HO266
              have HO_260001 := n0_
              have BK259 := n1_
              have BK260 := n2_
              have BK261 := n3_
              have HO271 := n4_
              have HO286 := n5_
              have HB := n6_
              have HO274 := n7_
              clear n0_ n1_ n2_ n3_ n4_ n5_ n6_ n7_ ho hb hg hat
              refine hK.out _ _ ⟨(za BK259.out 0).trans rfl, (za BK259.out 1).trans rfl, (za BK260.out 0).trans rfl, (za BK260.out 1).trans rfl, (za BK260.out 2).trans rfl, (za BK260.out 3).trans rfl⟩ (fun hHeld => ?_)
              clear hK K
              refine norm_ (a' := ?_) ?_ ?_
              rotate_left
              ·
               show Act.put _ (some 65) _ = _
               simp only [Act.put, zs1, zs2, zs3, i64_w, i32_w]
               rfl
              refine one_ (i := 11) (N := some 69) #[true, true, true, true, true, true, true, true, true, true, true, true, false, false, true, true, true, true, false, false, false, false] rfl rfl (one_of HT_.out (by kernel_rfl)) (by decide) (fun K hK => ?_)
              refine goes_ Try.func59 (by kernel_rfl) rfl #[.int .i64 a0_0, .agg #[.int .i64 a1_0, .int .i64 a1_1, .int .i64 a1_2, .int .i64 a1_3]] (by rfl) rfl rfl (zE) ?_
              with_reducible refine (zaz.calls a0_0 a1_0 a1_1 a1_2 a1_3 t275 t276 t277 t278 _ A60.out).mono ?_
              rintro e w72 ⟨rfl, hb⟩
              refine ⟨_, rfl, ?_⟩
              have n0_ := zA (Kd.zbg (zV HO_260001) hb)
              have n1_ := zA (Kd.zbg (zV HO271) hb)
              have n2_ := zA (Kd.zbg (zV HO286) hb)
              have n3_ := zA (Kd.R_below (zR HO274) hb)
              have n4_ := zA (zan (g := gb259) (o := .cells #[.int .i64 a0_0, .slice (some ad263) l0_1.length c0_1] 39 (0, 0)) (zK BK259) hb)
              have n5_ := zA (zan (g := gb260) (o := .cells #[.int .i64 a1_0, .int .i64 a1_1, .int .i64 a1_2, .int .i64 a1_3] 86 (0, 0)) (zK BK260) hb)
              have n6_ := zA (zan (g := gb261) (o := .cells #[.int .i64 0, .slice none 0 0] 39 (0, 0)) (zK BK261) hb)
              have n7_ := zA (zai (zB HB) hb)
              clear HO_260001 HO271 HO286 HO274 BK259 BK260 BK261 HB
              have HO_260001 := n0_
              have HO271 := n1_
              have HO286 := n2_
              have HO274 := n3_
              have BK259 := n4_
              have BK260 := n5_
              have BK261 := n6_
              have HB := n7_
              clear n0_ n1_ n2_ n3_ n4_ n5_ n6_ n7_
              (try clear hb)
              (try clear hb2)
              (try clear hk)
              (try clear hi)
              refine hK.out _ _ ⟨(za BK259.out 0).trans rfl, (za BK259.out 1).trans rfl, (za BK260.out 0).trans rfl, (za BK260.out 1).trans rfl, (za BK260.out 2).trans rfl, (za BK260.out 3).trans rfl⟩ (fun hHeld => ?_)
              clear hK K
              refine norm_ (a' := ?_) ?_ ?_
              rotate_left
              ·
               show Act.put _ (some 69) _ = _
               simp only [Act.put, zs1, zs2, zs3, i64_w, i32_w]
               rfl
              refine one_ (i := 12) (N := some 70) #[true, true, true, true, true, true, true, true, true, true, true, true, true, false, true, true, true, true, false, false, false, false] rfl rfl (one_of HT_.out (by kernel_rfl)) (by decide) (fun K hK => ?_)
              refine value_ (w1 := ?_) (v := ?_) (by rfl) rfl ?_ ?_
              rotate_left 2
              ·
               go_simp
               constructor
               ·
                rfl
               ·
                rfl
              refine hK.out _ _ ⟨(za (zac BK259.out _) 0).trans rfl, (za (zac BK259.out _) 1).trans rfl, (za (zac BK260.out _) 0).trans rfl, (za (zac BK260.out _) 1).trans rfl, (za (zac BK260.out _) 2).trans rfl, (za (zac BK260.out _) 3).trans rfl⟩ (fun hHeld => ?_)
              clear hK K
              refine norm_ (a' := ?_) ?_ ?_
              rotate_left
              ·
               show Act.put _ (some 70) _ = _
               simp only [Act.put, zs1, zs2, zs3, i64_w, i32_w]
               rfl
              refine one_ (i := 13) (N := some 71) #[true, true, true, true, true, true, true, true, true, true, true, true, true, true, true, true, true, true, false, false, false, false] rfl rfl (one_of HT_.out (by kernel_rfl)) (by decide) (fun K hK => ?_)
              refine Kd.R_append_step k86 (w0 := w) w.heap.size (by rfl) (.tmp 65) (.tmp 70) 37 86 (.agg #[(.int .i64 0), (.int .i64 0), (.int .i64 0), (.int .i64 0)]) 32 rfl Try.underlying37 info86 rfl (by decide) (by omega) v273 y272 (⟨t275, t276, t277, t278⟩ : S86) [.int .i64 t275, .int .i64 t276, .int .i64 t277, .int .i64 t278] (fun k_ => (w.heap.size ≤ k_) ∧ k_ ≠ gb260) (fun _ => False) rfl rfl ?aP (fun _ hk => hk.elim) ?aF ?aO ?aB ?aS ?aL ?_
              (case aP => exact k86_mkM _ _ _ (⟨t275, t276, t277, t278⟩ : S86))
              (case aB => exact (zB HB))
              (case aF => exact (fun k_ hk => ⟨(Nat.le_trans (zah (zB HB)) hk), Kd.freshB (g := gb260) (o := .cells #[.int .i64 a1_0, .int .i64 a1_1, .int .i64 a1_2, .int .i64 a1_3] 86 (0, 0)) (zK BK260) k_ hk⟩))
              (case aO => exact (zR HO274))
              (case aS => exact (zah (zB HB)))
              (case aL => have := LMc61.out; omega)
              intro v280 w73 ho hb hg hat
              rw [← Ny279.out] at ho
              have n0_ := zA (Kd.za8 (ok := (fun k_ => (P0_1_ k_ ∨ w.heap.size ≤ k_) ∧ k_ ≠ gb259 ∧ k_ ≠ gb260 ∧ k_ ≠ gb261)) (zV HO_260001) hg hat)
              have n1_ := zA (zat (g := gb259) (o := .cells #[.int .i64 a0_0, .slice (some ad263) l0_1.length c0_1] 39 (0, 0)) (zK BK259) hg (Kd.R_ne HO274.out BK259.out (by decide)))
              have n2_ := zA (zat (g := gb260) (o := .cells #[.int .i64 a1_0, .int .i64 a1_1, .int .i64 a1_2, .int .i64 a1_3] 86 (0, 0)) (zK BK260) hg (Kd.R_away HO274.out (fun _ hk => hk.2)))
              have n3_ := zA (zat (g := gb261) (o := .cells #[.int .i64 0, .slice none 0 0] 39 (0, 0)) (zK BK261) hg (Kd.R_ne HO274.out BK261.out (by decide)))
              have n4_ := zA (Kd.za8 (ok := (fun k_ => (P0_1_ k_ ∨ w.heap.size ≤ k_) ∧ k_ ≠ gb259 ∧ k_ ≠ gb260 ∧ k_ ≠ gb261)) (zV HO271) hg hat)
              have n5_ := zA (Kd.za8 (ok := (fun k_ => (P0_1_ k_ ∨ w.heap.size ≤ k_) ∧ k_ ≠ gb259 ∧ k_ ≠ gb260 ∧ k_ ≠ gb261)) (zV HO286) hg hat)
              have n6_ := zA (hb)
              have n7_ := zA (ho)
              clear HO_260001 BK259 BK260 BK261 HO271 HO286 HB HO274
              have HO_260001 := n0_
              have BK259 := n1_
              have BK260 := n2_
              have BK261 := n3_
              have HO271 := n4_
              have HO286 := n5_
              have HB := n6_
              have HO281 := n7_
              clear n0_ n1_ n2_ n3_ n4_ n5_ n6_ n7_ ho hb hg hat
              refine hK.out _ _ ⟨(za BK259.out 0).trans rfl, (za BK259.out 1).trans rfl, (za BK260.out 0).trans rfl, (za BK260.out 1).trans rfl, (za BK260.out 2).trans rfl, (za BK260.out 3).trans rfl⟩ (fun hHeld => ?_)
              clear hK K
              refine norm_ (a' := ?_) ?_ ?_
              rotate_left
              ·
               show Act.put _ (some 71) _ = _
               simp only [Act.put, zs1, zs2, zs3, i64_w, i32_w]
               rfl
              refine one_ (i := 18) (N := some 76) #[true, true, true, true, true, true, true, true, true, true, true, true, true, true, true, true, true, true, true, false, false, false] rfl rfl (one_of HT_.out (by kernel_rfl)) (by decide) (fun K hK => ?_)
              refine Kd.za9 k86 (w0 := w) w.heap.size (by rfl) (.tmp 71) (.tmp 75) 37 86 (.agg #[(.int .i64 0), (.int .i64 0), (.int .i64 0), (.int .i64 0)]) 32 rfl Try.underlying37 info86 rfl (by decide) (by omega) v280 y279 y282 _ _ _ (fun k_ => (w.heap.size ≤ k_) ∧ k_ ≠ gb260) (fun _ => False) rfl rfl ?aO ?aR (fun _ _ h => h) (fun _ h => h.elim) ?aF ?aB ?aS ?aL ?_
              (case aR => exact zJ (Kd.zay HO286.out).2.2)
              (case aB => exact (zB HB))
              (case aF => exact (fun k_ hk => ⟨(Nat.le_trans (zah (zB HB)) hk), Kd.freshB (g := gb260) (o := .cells #[.int .i64 a1_0, .int .i64 a1_1, .int .i64 a1_2, .int .i64 a1_3] 86 (0, 0)) (zK BK260) k_ hk⟩))
              (case aO => exact (zR HO281))
              (case aS => exact (zah (zB HB)))
              (case aL => have := LMc64.out; omega)
              intro v288 w74 ho hb hg hat
              rw [← Ny287.out] at ho
              have n0_ := zA (Kd.za8 (ok := (fun k_ => (P0_1_ k_ ∨ w.heap.size ≤ k_) ∧ k_ ≠ gb259 ∧ k_ ≠ gb260 ∧ k_ ≠ gb261)) (zV HO_260001) hg hat)
              have n1_ := zA (zat (g := gb259) (o := .cells #[.int .i64 a0_0, .slice (some ad263) l0_1.length c0_1] 39 (0, 0)) (zK BK259) hg (Kd.R_ne HO281.out BK259.out (by decide)))
              have n2_ := zA (zat (g := gb260) (o := .cells #[.int .i64 a1_0, .int .i64 a1_1, .int .i64 a1_2, .int .i64 a1_3] 86 (0, 0)) (zK BK260) hg (Kd.R_away HO281.out (fun _ hk => hk.2)))
              have n3_ := zA (zat (g := gb261) (o := .cells #[.int .i64 0, .slice none 0 0] 39 (0, 0)) (zK BK261) hg (Kd.R_ne HO281.out BK261.out (by decide)))
              have n4_ := zA (Kd.za8 (ok := (fun k_ => (P0_1_ k_ ∨ w.heap.size ≤ k_) ∧ k_ ≠ gb259 ∧ k_ ≠ gb260 ∧ k_ ≠ gb261)) (zV HO271) hg hat)
              have n5_ := zA (Kd.za8 (ok := (fun k_ => (P0_1_ k_ ∨ w.heap.size ≤ k_) ∧ k_ ≠ gb259 ∧ k_ ≠ gb260 ∧ k_ ≠ gb261)) (zV HO286) hg hat)
              have n6_ := zA (hb)
              have n7_ := zA (ho)
              clear HO_260001 BK259 BK260 BK261 HO271 HO286 HB HO281
              have HO_260001 := n0_
              have BK259 := n1_
              have BK260 := n2_
              have BK261 := n3_
              have HO271 := n4_
              have HO286 := n5_
              have HB := n6_
              have HO289 := n7_
              clear n0_ n1_ n2_ n3_ n4_ n5_ n6_ n7_ ho hb hg hat
              obtain ⟨Ao75, co75, eo75⟩ := Kd.zbr HO289.out
              (first | subst eo75 | (injection eo75 with f1_ f2_ f3_; have f4_ := f1_.symm; have f5_ := f3_.symm; clear f1_ f2_ f3_; subst f4_; subst f5_))
              refine hK.out _ _ ⟨(za BK259.out 0).trans rfl, (za BK259.out 1).trans rfl, (za BK260.out 0).trans rfl, (za BK260.out 1).trans rfl, (za BK260.out 2).trans rfl, (za BK260.out 3).trans rfl⟩ (fun hHeld => ?_)
              clear hK K
              refine norm_ (a' := ?_) ?_ ?_
              rotate_left
              ·
               show Act.put _ (some 76) _ = _
               simp only [Act.put, zs1, zs2, zs3, i64_w, i32_w]
               rfl
              refine pure_ (i := 19) (N := some 77) (v := ?_) (a' := ?_) #[true, true, true, true, true, true, true, true, true, true, true, true, true, true, true, true, true, true, true, true, false, false] rfl rfl (zao HT_.out (by kernel_rfl)) (fun _ _ _ h => h) (Or.inl ⟨by rfl, ?_⟩) ?_ ?_
              rotate_left
              ·
               intro w'
               go_simp
               with_reducible rfl
              rotate_left
              ·
               simp only [Act.put, zs1, zs2, zs3, i64_w, i32_w]
               rfl
              refine one_ (i := 20) (N := none) #[true, true, true, true, true, true, true, true, true, true, true, true, true, true, true, true, true, true, true, true, true, false] rfl rfl (one_of HT_.out (by kernel_rfl)) (by decide) (fun K hK => ?_)
              have hs76 : w74.cell? ⟨gb261, 0, none⟩ = some (.int .i64 0) := (za BK261.out 0).trans rfl
              have hfs76 := zaa BK261.out 0
              have hns76_0 := NB259_261.out
              have hns76_1 := NB260_261.out
              have hms76_0 := NB261_259.out
              have hms76_1 := NB261_260.out
              have hs77 : w74.cell? ⟨gb261, 1, none⟩ = some (.slice none 0 0) := (za BK261.out 1).trans rfl
              have hfs77 := zaa BK261.out 1
              have hns77_0 := NB259_261.out
              have hns77_1 := NB260_261.out
              have hms77_0 := NB261_259.out
              have hms77_1 := NB261_260.out
              refine skip_ (w1 := ?_) (by rfl) rfl ?_ ?_
              rotate_left
              ·
               go_simp
               rfl
              refine hK.out _ _ ⟨((cell_far (p := ⟨gb261, _, none⟩) NB259_261.out _).trans (((cell_far (p := ⟨gb261, _, none⟩) NB259_261.out _).trans (hHeld.1)))), ((cell_far (p := ⟨gb261, _, none⟩) NB259_261.out _).trans (((cell_far (p := ⟨gb261, _, none⟩) NB259_261.out _).trans (hHeld.2.1)))), ((cell_far (p := ⟨gb261, _, none⟩) NB260_261.out _).trans (((cell_far (p := ⟨gb261, _, none⟩) NB260_261.out _).trans (hHeld.2.2.1)))), ((cell_far (p := ⟨gb261, _, none⟩) NB260_261.out _).trans (((cell_far (p := ⟨gb261, _, none⟩) NB260_261.out _).trans (hHeld.2.2.2.1)))), ((cell_far (p := ⟨gb261, _, none⟩) NB260_261.out _).trans (((cell_far (p := ⟨gb261, _, none⟩) NB260_261.out _).trans (hHeld.2.2.2.2.1)))), ((cell_far (p := ⟨gb261, _, none⟩) NB260_261.out _).trans (((cell_far (p := ⟨gb261, _, none⟩) NB260_261.out _).trans (hHeld.2.2.2.2.2))))⟩ (fun hHeld => ?_)
              clear hK K
              refine pure_ (i := 21) (N := some 5) (v := ?_) (a' := ?_) #[true, true, true, true, true, true, true, true, true, true, true, true, true, true, true, true, true, true, true, true, true, true] rfl rfl (zao HT_.out (by kernel_rfl)) (fun _ _ _ h => h) (Or.inl ⟨by rfl, ?_⟩) ?_ ?_
              rotate_left
              ·
               intro w'
               go_simp
               with_reducible rfl
              rotate_left
              ·
               simp only [Act.put, zs1, zs2, zs3, i64_w, i32_w]
               rfl
              refine done_ (done_of HT_.out (by kernel_rfl)) ?_
              try go_wp2
              refine bodyPost_ret (za4 rfl _ _ gb261 39 #[.int .i64 a0_0, .slice Ao75 y287.length co75] (0, 0) _ rfl (by (with_reducible repeat (first | refine zaj ?_ _ | refine zaf ?_ | refine zac ?_ _)); refine zal (cs := #[.int .i64 a0_0, .slice none 0 0]) ?_ 1 _ rfl; (with_reducible repeat (first | refine zaj ?_ _ | refine zaf ?_ | refine zac ?_ _)); refine zal (cs := #[.int .i64 0, .slice none 0 0]) ?_ 0 _ rfl; (with_reducible repeat (first | refine zaj ?_ _ | refine zaf ?_ | refine zac ?_ _)); exact BK261.out) Try.underlying39 rfl (by kernel_rfl)) rfl ?_
              exact ⟨_, zW, Kd.za2 (Kd.R_V (by (with_reducible repeat (first | apply Kd.R_alloc | apply Kd.R_drewN | apply Kd.R_drew)); exact Kd.zbs (Kd.R_far (p := ⟨gb261, 1, none⟩) (Kd.R_far (p := ⟨gb261, 0, none⟩) (Kd.R_types HO289.out BK261.out (by decide)) (fun _ hk => hk.2) (.int .i64 a0_0)) (fun _ hk => hk.2) (.slice Ao75 y287.length co75)) (fun _ hk => hk.1.1))) (fun k_ hk => by first | exact ⟨(.inr (hk.1)), hk.2⟩ | exact (.inr (hk))), zB HB⟩
             ·
              rw [if_neg c64] at H
              exact absurd H (by simp)
            ·
             rw [if_neg c61] at H
             exact absurd H (by simp)
           ·
            rw [if_neg c59] at H
            exact absurd H (by simp)
          ·
           rw [if_neg c58] at H
           exact absurd H (by simp)
        ·
         rw [if_neg c54] at H
         exact absurd H (by simp)
       ·
        rw [if_neg c53] at H
        have c53b0 : decide (x6_2 < (l0_1.length : Int)) = false := decide_eq_false c53
        clear c53
        obtain ⟨y290, hy290⟩ : ∃ y_ : List (S86), y_ = (([] : List (S86))) := ⟨_, rfl⟩
        replace H : (if 0 ≤ x6_2 then (if x6_2 ≤ (l0_1.length : Int) then ((some (l0_1.take (x6_2 : Int).toNat : List (S86))).bind fun y293 => (if y290.length + y293.length < 4398046511104 then ((some (y290 ++ y293 : List (S86))).bind fun y298 => ((zaz.f a0_0 a1_0 a1_1 a1_2 a1_3).bind fun bt301 => (if y298.length < 4398046511104 then ((some (y298 ++ [(⟨bt301.1, bt301.2.1, bt301.2.2.1, bt301.2.2.2⟩ : S86)] : List (S86))).bind fun y305 => ((some (l0_1.drop (x6_2 : Int).toNat : List (S86))).bind fun y308 => (if y305.length + y308.length < 4398046511104 then (some (a0_0, (y305 ++ y308), 0)) else (none)))) else (none)))) else (none))) else (none)) else (none)) = some (r1, r2, r3) := by first | (rw [hy290]; with_reducible exact H) | (have H2_ := (Option.bind_some _ _).symm.trans H; rw [hy290]; with_reducible exact H2_) | (have H2_ := (Option.bind_some _ _).symm.trans H; with_reducible exact H2_) | with_reducible exact H | (rw [hy290]; exact H) | exact H
        have Ny290 := zA hy290
        clear hy290
        by_cases c78 : 0 ≤ x6_2
        ·
         rw [if_pos c78] at H
         have c78b0 := eq_true c78
         have c78b1 : decide (0 ≤ x6_2) = true := decide_eq_true c78
         clear c78
         by_cases c79 : x6_2 ≤ (l0_1.length : Int)
         ·
          rw [if_pos c79] at H
          have c79b0 := eq_true c79
          have c79b1 : decide (x6_2 ≤ (l0_1.length : Int)) = true := decide_eq_true c79
          clear c79
          obtain ⟨y293, hy293⟩ : ∃ y_ : List (S86), y_ = (l0_1.take (x6_2 : Int).toNat) := ⟨_, rfl⟩
          replace H : (if y290.length + y293.length < 4398046511104 then ((some (y290 ++ y293 : List (S86))).bind fun y298 => ((zaz.f a0_0 a1_0 a1_1 a1_2 a1_3).bind fun bt301 => (if y298.length < 4398046511104 then ((some (y298 ++ [(⟨bt301.1, bt301.2.1, bt301.2.2.1, bt301.2.2.2⟩ : S86)] : List (S86))).bind fun y305 => ((some (l0_1.drop (x6_2 : Int).toNat : List (S86))).bind fun y308 => (if y305.length + y308.length < 4398046511104 then (some (a0_0, (y305 ++ y308), 0)) else (none)))) else (none)))) else (none)) = some (r1, r2, r3) := by first | (rw [hy293]; with_reducible exact H) | (have H2_ := (Option.bind_some _ _).symm.trans H; rw [hy293]; with_reducible exact H2_) | (have H2_ := (Option.bind_some _ _).symm.trans H; with_reducible exact H2_) | with_reducible exact H | (rw [hy293]; exact H) | exact H
          have Ny293 := zA hy293
          clear hy293
          by_cases c80 : y290.length + y293.length < 4398046511104
          ·
           rw [if_pos c80] at H
           have LMc80 := zA c80
           clear c80
           obtain ⟨y298, hy298⟩ : ∃ y_ : List (S86), y_ = (y290 ++ y293) := ⟨_, rfl⟩
           replace H : ((zaz.f a0_0 a1_0 a1_1 a1_2 a1_3).bind fun bt301 => (if y298.length < 4398046511104 then ((some (y298 ++ [(⟨bt301.1, bt301.2.1, bt301.2.2.1, bt301.2.2.2⟩ : S86)] : List (S86))).bind fun y305 => ((some (l0_1.drop (x6_2 : Int).toNat : List (S86))).bind fun y308 => (if y305.length + y308.length < 4398046511104 then (some (a0_0, (y305 ++ y308), 0)) else (none)))) else (none))) = some (r1, r2, r3) := by first | (rw [hy298]; with_reducible exact H) | (have H2_ := (Option.bind_some _ _).symm.trans H; rw [hy298]; with_reducible exact H2_) | (have H2_ := (Option.bind_some _ _).symm.trans H; with_reducible exact H2_) | with_reducible exact H | (rw [hy298]; exact H) | exact H
           have Ny298 := zA hy298
           clear hy298
           replace H := zO H
           obtain ⟨⟨t301, t302, t303, t304⟩, A810, H⟩ := H
           try dsimp only at H
           have A81 := zA A810
           clear A810
           by_cases c82 : y298.length < 4398046511104
           ·
            rw [if_pos c82] at H
            have LMc82 := zA c82
            clear c82
            obtain ⟨y305, hy305⟩ : ∃ y_ : List (S86), y_ = (y298 ++ [(⟨t301, t302, t303, t304⟩ : S86)]) := ⟨_, rfl⟩
            replace H : ((some (l0_1.drop (x6_2 : Int).toNat : List (S86))).bind fun y308 => (if y305.length + y308.length < 4398046511104 then (some (a0_0, (y305 ++ y308), 0)) else (none))) = some (r1, r2, r3) := by first | (rw [hy305]; with_reducible exact H) | (have H2_ := (Option.bind_some _ _).symm.trans H; rw [hy305]; with_reducible exact H2_) | (have H2_ := (Option.bind_some _ _).symm.trans H; with_reducible exact H2_) | with_reducible exact H | (rw [hy305]; exact H) | exact H
            have Ny305 := zA hy305
            clear hy305
            have c83b0 := eq_true (of_decide_eq_true (by first | (with_reducible assumption) | assumption) : 0 ≤ x6_2)
            have c84b0 := eq_true (of_decide_eq_true (by first | (with_reducible assumption) | assumption) : x6_2 ≤ (l0_1.length : Int))
            obtain ⟨y308, hy308⟩ : ∃ y_ : List (S86), y_ = (l0_1.drop (x6_2 : Int).toNat) := ⟨_, rfl⟩
            replace H : (if y305.length + y308.length < 4398046511104 then (some (a0_0, (y305 ++ y308), 0)) else (none)) = some (r1, r2, r3) := by first | (rw [hy308]; with_reducible exact H) | (have H2_ := (Option.bind_some _ _).symm.trans H; rw [hy308]; with_reducible exact H2_) | (have H2_ := (Option.bind_some _ _).symm.trans H; with_reducible exact H2_) | with_reducible exact H | (rw [hy308]; exact H) | exact H
            have Ny308 := zA hy308
            clear hy308
            by_cases c85 : y305.length + y308.length < 4398046511104
            ·
             rw [if_pos c85] at H
             have LMc85 := zA c85
             clear c85
             obtain ⟨y313, hy313⟩ : ∃ y_ : List (S86), y_ = (y305 ++ y308) := ⟨_, rfl⟩
             replace H : (some (a0_0, y313, 0)) = some (r1, r2, r3) := by first | (rw [hy313]; with_reducible exact H) | (have H2_ := (Option.bind_some _ _).symm.trans H; rw [hy313]; with_reducible exact H2_) | (have H2_ := (Option.bind_some _ _).symm.trans H; with_reducible exact H2_) | with_reducible exact H | (rw [hy313]; exact H) | exact H
             have Ny313 := zA hy313
             clear hy313
             simp only [Option.some.injEq, Prod.mk.injEq] at H
             obtain ⟨rfl, rfl, rfl⟩ := H
             try go_wp2
             have n0_ := zA (Kd.zba HO_260001.out)
             have n1_ := zA (zaf BK259.out)
             have n2_ := zA (zaf BK260.out)
             have n3_ := zA (zaf BK261.out)
             have n4_ := zA (zbd HB.out)
             clear HO_260001 BK259 BK260 BK261 HB
             have HO_260001 := n0_
             have BK259 := n1_
             have BK260 := n2_
             have BK261 := n3_
             have HB := n4_
             clear n0_ n1_ n2_ n3_ n4_
             refine start_ (n := 16) (S := fun w' => w'.cell? ⟨gb259, 0, none⟩ = some (.int .i64 a0_0) ∧ w'.cell? ⟨gb259, 1, none⟩ = some (.slice A0_1 l0_1.length c0_1)) (ds := []) #[false, false, false, false, false, false, false, false, false, false, false, false, false, false, false, false] (by kernel_rfl) rfl rfl ⟨(za BK259.out 0).trans rfl, (za BK259.out 1).trans rfl⟩ (fun hHeld => ?_); refine zbp zad.tab6 zad.bits6 (fun HT_ HW_ => ?_)
             generalize wr.drew = w86 at HO_260001 BK259 BK260 BK261 HB hHeld ⊢
             refine pure_ (i := 0) (N := some 40) (v := ?_) (a' := ?_) #[true, false, false, false, false, false, false, false, false, false, false, false, false, false, false, false] rfl rfl (zao HT_.out (by kernel_rfl)) (fun _ _ _ h => h) (Or.inl ⟨by rfl, ?_⟩) ?_ ?_
             rotate_left
             ·
              intro w'
              go_simp
              with_reducible rfl
             rotate_left
             ·
              simp only [Act.put, zs1, zs2, zs3, i64_w, i32_w]
              rfl
             refine pure_ (i := 1) (N := some 41) (v := ?_) (a' := ?_) #[true, true, false, false, false, false, false, false, false, false, false, false, false, false, false, false] rfl rfl (zao HT_.out (by kernel_rfl)) (fun _ _ _ h => h) (Or.inl ⟨by rfl, ?_⟩) ?_ ?_
             rotate_left
             ·
              intro w'
              go_simp
              with_reducible rfl
             rotate_left
             ·
              simp only [Act.put, zs1, zs2, zs3, i64_w, i32_w]
              rfl
             refine take_ (i := 2) (N := some 42) (v := ?_) (a' := ?_) #[true, true, true, false, false, false, false, false, false, false, false, false, false, false, false, false] rfl rfl (zax HT_.out HW_.out (by kernel_rfl)) (fun _ _ _ h => h) (Or.inl ⟨by rfl, ?_⟩) hHeld ?_ ?_
             rotate_left
             ·
              rintro w' ⟨s0, s1⟩
              go_simp
              with_reducible rfl
             rotate_left
             ·
              simp only [Act.put, zs1, zs2, zs3, i64_w, i32_w]
              rfl
             refine pure_ (i := 3) (N := some 43) (v := ?_) (a' := ?_) #[true, true, true, true, false, false, false, false, false, false, false, false, false, false, false, false] rfl rfl (zao HT_.out (by kernel_rfl)) (fun _ _ _ h => h) (Or.inl ⟨by rfl, ?_⟩) ?_ ?_
             rotate_left
             ·
              intro w'
              go_simp
              with_reducible rfl
             rotate_left
             ·
              simp only [Act.put, zs1, zs2, zs3, i64_w, i32_w]
              rfl
             refine pure_ (i := 4) (N := some 44) (v := ?_) (a' := ?_) #[true, true, true, true, true, false, false, false, false, false, false, false, false, false, false, false] rfl rfl (zao HT_.out (by kernel_rfl)) (fun _ _ _ h => h) (Or.inl ⟨by rfl, ?_⟩) ?_ ?_
             rotate_left
             ·
              intro w'
              go_simp
              with_reducible rfl
             rotate_left
             ·
              simp only [Act.put, zs1, zs2, zs3, i64_w, i32_w]
              rfl
             refine pure_ (i := 5) (N := some 45) (v := ?_) (a' := ?_) #[true, true, true, true, true, true, false, false, false, false, false, false, false, false, false, false] rfl rfl (zao HT_.out (by kernel_rfl)) (fun _ _ _ h => h) (Or.inl ⟨by rfl, ?_⟩) ?_ ?_
             rotate_left
             ·
              intro w'
              go_simp
              with_reducible rfl
             rotate_left
             ·
              simp only [Act.put, zs1, zs2, zs3, i64_w, i32_w]
              rfl
             refine pure_ (i := 6) (N := some 46) (v := undef) (a' := ?_) #[true, true, true, true, true, true, true, false, false, false, false, false, false, false, false, false] rfl rfl (zao HT_.out (by kernel_rfl)) (fun _ _ _ h => h) (Or.inr ⟨by rfl, rfl⟩) ?_ ?_
             rotate_left
             ·
              simp only [Act.put, zs1, zs2, zs3, i64_w, i32_w]
              rfl
             refine pure_ (i := 7) (N := some 47) (v := undef) (a' := ?_) #[true, true, true, true, true, true, true, true, false, false, false, false, false, false, false, false] rfl rfl (zao HT_.out (by kernel_rfl)) (fun _ _ _ h => h) (Or.inr ⟨by rfl, rfl⟩) ?_ ?_
             rotate_left
             ·
              simp only [Act.put, zs1, zs2, zs3, i64_w, i32_w]
              rfl
             refine pure_ (i := 8) (N := some 48) (v := undef) (a' := ?_) #[true, true, true, true, true, true, true, true, true, false, false, false, false, false, false, false] rfl rfl (zao HT_.out (by kernel_rfl)) (fun _ _ _ h => h) (Or.inr ⟨by rfl, rfl⟩) ?_ ?_
             rotate_left
             ·
              simp only [Act.put, zs1, zs2, zs3, i64_w, i32_w]
              rfl
             refine pure_ (i := 9) (N := some 49) (v := undef) (a' := ?_) #[true, true, true, true, true, true, true, true, true, true, false, false, false, false, false, false] rfl rfl (zao HT_.out (by kernel_rfl)) (fun _ _ _ h => h) (Or.inr ⟨by rfl, rfl⟩) ?_ ?_
             rotate_left
             ·
              simp only [Act.put, zs1, zs2, zs3, i64_w, i32_w]
              rfl
             refine pure_ (i := 10) (N := some 50) (v := undef) (a' := ?_) #[true, true, true, true, true, true, true, true, true, true, true, false, false, false, false, false] rfl rfl (zao HT_.out (by kernel_rfl)) (fun _ _ _ h => h) (Or.inr ⟨by rfl, rfl⟩) ?_ ?_
             rotate_left
             ·
              simp only [Act.put, zs1, zs2, zs3, i64_w, i32_w]
              rfl
             refine pure_ (i := 11) (N := some 51) (v := undef) (a' := ?_) #[true, true, true, true, true, true, true, true, true, true, true, true, false, false, false, false] rfl rfl (zao HT_.out (by kernel_rfl)) (fun _ _ _ h => h) (Or.inr ⟨by rfl, rfl⟩) ?_ ?_
             rotate_left
             ·
              simp only [Act.put, zs1, zs2, zs3, i64_w, i32_w]
              rfl
             refine pure_ (i := 12) (N := some 52) (v := undef) (a' := ?_) #[true, true, true, true, true, true, true, true, true, true, true, true, true, false, false, false] rfl rfl (zao HT_.out (by kernel_rfl)) (fun _ _ _ h => h) (Or.inr ⟨by rfl, rfl⟩) ?_ ?_
             rotate_left
             ·
              simp only [Act.put, zs1, zs2, zs3, i64_w, i32_w]
              rfl
             refine pure_ (i := 13) (N := some 53) (v := undef) (a' := ?_) #[true, true, true, true, true, true, true, true, true, true, true, true, true, true, false, false] rfl rfl (zao HT_.out (by kernel_rfl)) (fun _ _ _ h => h) (Or.inr ⟨by rfl, rfl⟩) ?_ ?_
             rotate_left
             ·
              simp only [Act.put, zs1, zs2, zs3, i64_w, i32_w]
              rfl
             refine pure_ (i := 14) (N := some 54) (v := undef) (a' := ?_) #[true, true, true, true, true, true, true, true, true, true, true, true, true, true, true, false] rfl rfl (zao HT_.out (by kernel_rfl)) (fun _ _ _ h => h) (Or.inr ⟨by rfl, rfl⟩) ?_ ?_
             rotate_left
             ·
              simp only [Act.put, zs1, zs2, zs3, i64_w, i32_w]
              rfl
             refine pure_ (i := 15) (N := some 55) (v := ?_) (a' := ?_) #[true, true, true, true, true, true, true, true, true, true, true, true, true, true, true, true] rfl rfl (zao HT_.out (by kernel_rfl)) (fun _ _ _ h => h) (Or.inl ⟨by rfl, ?_⟩) ?_ ?_
             rotate_left
             ·
              intro w'
              go_simp
              with_reducible rfl
             rotate_left
             ·
              simp only [Act.put, zs1, zs2, zs3, i64_w, i32_w]
              rfl
             refine done_ (done_of HT_.out (by kernel_rfl)) ?_
             try go_wp2
             have n0_ := zA (Kd.zba HO_260001.out)
             have n1_ := zA (zaf BK259.out)
             have n2_ := zA (zaf BK260.out)
             have n3_ := zA (zaf BK261.out)
             have n4_ := zA (zbd HB.out)
             clear HO_260001 BK259 BK260 BK261 HB
             have HO_260001 := n0_
             have BK259 := n1_
             have BK260 := n2_
             have BK261 := n3_
             have HB := n4_
             clear n0_ n1_ n2_ n3_ n4_
             have q88 : (x6_2 : Int) ≤ ((l0_1.length : Int) : Int) := of_decide_eq_true (by first | (with_reducible assumption) | assumption)
             obtain ⟨i088, hi088, _, hsz88, _⟩ := info_parts info86
             have hroom88 : l0_1.length ≤ c0_1 := (Kd.zay HO_260001.out).2.1
             have hC88 : Kd.F k86 _ _ A0_1 l0_1.length l0_1 := (Kd.V_at (base := w.heap.size) HO_260001.out).2.2
             have hcut88 := cut_to (P := Try.prog) 37 86 .i64 Try.underlying37 hi088 A0_1 l0_1.length c0_1 x6_2 (of_decide_eq_true (by first | (with_reducible assumption) | assumption)) q88 hroom88
             have hr88 := Kd.F_take (m := (x6_2 : Int).toNat) hC88 (by omega)
             have hy88 : y293.length = (x6_2 : Int).toNat := (by rw [Ny293.out, List.length_take]; omega)
             rw [← Ny293.out] at hr88
             rw [← hy88] at hcut88
             have HO297 := zA (show Kd.V k86 86 _ w.heap.size _ (.slice A0_1 y293.length c0_1) y293 from Kd.V_mk (by omega) hr88)
             have HC297 := zA (show y293.length ≤ c0_1 from by omega)
             clear hr88 hC88 hroom88 hi088 hsz88
             have KY88 := zA hy88
             clear hy88
             replace q88 := eq_true q88
             have q89 : (x6_2 : Int) ≤ ((l0_1.length : Int) : Int) := of_decide_eq_true (by first | (with_reducible assumption) | assumption)
             obtain ⟨i089, hi089, _, hsz89, _⟩ := info_parts info86
             have hroom89 : l0_1.length ≤ c0_1 := (Kd.zay HO_260001.out).2.1
             have hC89 : Kd.F k86 _ _ A0_1 l0_1.length l0_1 := (Kd.V_at (base := w.heap.size) HO_260001.out).2.2
             have q089 : (0 : Int) ≤ (x6_2 : Int) := of_decide_eq_true (by first | (with_reducible assumption) | assumption)
             have hcut89 := cut_from (P := Try.prog) 37 86 .i64 Try.underlying37 hi089 4 hsz89 A0_1 l0_1.length c0_1 x6_2 q089 q89
             have hr89 := Kd.F_cut (m := (x6_2 : Int).toNat) (c := c0_1) hC89 (by omega) hroom89
             obtain ⟨A89, hA89⟩ : ∃ A1, A1 = (if c0_1 = (x6_2 : Int).toNat then A0_1 else (A0_1 : Option Addr).map (·.add ((x6_2 : Int).toNat * 4))) := ⟨_, rfl⟩
             obtain ⟨c89, hc89⟩ : ∃ c1, c1 = c0_1 - (x6_2 : Int).toNat := ⟨_, rfl⟩
             have hy89 : y308.length = l0_1.length - (x6_2 : Int).toNat := (by rw [Ny308.out, List.length_drop] <;> omega)
             rw [show (l0_1).drop (x6_2 : Int).toNat = y308 from Ny308.out.symm] at hr89
             replace hr89 : Kd.F k86 _ _ A89 y308.length y308 := (by rw [hA89]; exact hr89)
             rw [← hy89, ← hA89, ← hc89] at hcut89
             have HO312 := zA (show Kd.V k86 86 _ w.heap.size _ (.slice A89 y308.length c89) y308 from Kd.V_mk (by rw [hy89, hc89]; exact Nat.sub_le_sub_right hroom89 _) hr89)
             have HC312 := zA (show y308.length ≤ c89 from by rw [hy89, hc89]; exact Nat.sub_le_sub_right hroom89 _)
             clear hr89 hC89 hroom89 hi089 hsz89 hc89
             have KY89 := zA hy89
             have KA89 := zA hA89
             clear hy89 hA89
             replace q89 := eq_true q89
             refine start_ (n := 22) (S := fun w' => w'.cell? ⟨gb259, 0, none⟩ = some (.int .i64 a0_0) ∧ w'.cell? ⟨gb259, 1, none⟩ = some (.slice A0_1 l0_1.length c0_1) ∧ w'.cell? ⟨gb260, 0, none⟩ = some (.int .i64 a1_0) ∧ w'.cell? ⟨gb260, 1, none⟩ = some (.int .i64 a1_1) ∧ w'.cell? ⟨gb260, 2, none⟩ = some (.int .i64 a1_2) ∧ w'.cell? ⟨gb260, 3, none⟩ = some (.int .i64 a1_3)) (ds := []) #[false, false, false, false, false, false, false, false, false, false, false, false, false, false, false, false, false, false, false, false, false, false] (by kernel_rfl) rfl rfl ⟨(za BK259.out 0).trans rfl, (za BK259.out 1).trans rfl, (za BK260.out 0).trans rfl, (za BK260.out 1).trans rfl, (za BK260.out 2).trans rfl, (za BK260.out 3).trans rfl⟩ (fun hHeld => ?_); refine zbp zad.tab8 zad.bits8 (fun HT_ HW_ => ?_)
             generalize w86.drew = w87 at HO_260001 BK259 BK260 BK261 HB HO297 HO312 hHeld ⊢
             refine pure_ (i := 0) (N := some 58) (v := ?_) (a' := ?_) #[true, false, false, false, false, false, false, false, false, false, false, false, false, false, false, false, false, false, false, false, false, false] rfl rfl (zao HT_.out (by kernel_rfl)) (fun _ _ _ h => h) (Or.inl ⟨by rfl, ?_⟩) ?_ ?_
             rotate_left
             ·
              intro w'
              go_simp
              with_reducible rfl
             rotate_left
             ·
              simp only [Act.put, zs1, zs2, zs3, i64_w, i32_w]
              rfl
             refine pure_ (i := 3) (N := some 61) (v := ?_) (a' := ?_) #[true, false, false, true, false, false, false, false, false, false, false, false, false, false, false, false, false, false, false, false, false, false] rfl rfl (zao HT_.out (by kernel_rfl)) (fun _ _ _ h => h) (Or.inl ⟨by rfl, ?_⟩) ?_ ?_
             rotate_left
             ·
              intro w'
              go_simp
              with_reducible rfl
             rotate_left
             ·
              simp only [Act.put, zs1, zs2, zs3, i64_w, i32_w]
              rfl
             refine pure_ (i := 5) (N := some 63) (v := ?_) (a' := ?_) #[true, false, false, true, false, true, false, false, false, false, false, false, false, false, false, false, false, false, false, false, false, false] rfl rfl (zao HT_.out (by kernel_rfl)) (fun _ _ _ h => h) (Or.inl ⟨by rfl, ?_⟩) ?_ ?_
             rotate_left
             ·
              intro w'
              go_simp
              with_reducible rfl
             rotate_left
             ·
              simp only [Act.put, zs1, zs2, zs3, i64_w, i32_w]
              rfl
             refine pure_ (i := 8) (N := some 66) (v := ?_) (a' := ?_) #[true, false, false, true, false, true, false, false, true, false, false, false, false, false, false, false, false, false, false, false, false, false] rfl rfl (zao HT_.out (by kernel_rfl)) (fun _ _ _ h => h) (Or.inl ⟨by rfl, ?_⟩) ?_ ?_
             rotate_left
             ·
              intro w'
              go_simp
              with_reducible rfl
             rotate_left
             ·
              simp only [Act.put, zs1, zs2, zs3, i64_w, i32_w]
              rfl
             refine pure_ (i := 14) (N := some 72) (v := ?_) (a' := ?_) #[true, false, false, true, false, true, false, false, true, false, false, false, false, false, true, false, false, false, false, false, false, false] rfl rfl (zao HT_.out (by kernel_rfl)) (fun _ _ _ h => h) (Or.inl ⟨by rfl, ?_⟩) ?_ ?_
             rotate_left
             ·
              intro w'
              go_simp
              with_reducible rfl
             rotate_left
             ·
              simp only [Act.put, zs1, zs2, zs3, i64_w, i32_w]
              rfl
             refine pure_ (i := 16) (N := some 74) (v := ?_) (a' := ?_) #[true, false, false, true, false, true, false, false, true, false, false, false, false, false, true, false, true, false, false, false, false, false] rfl rfl (zao HT_.out (by kernel_rfl)) (fun _ _ _ h => h) (Or.inl ⟨by rfl, ?_⟩) ?_ ?_
             rotate_left
             ·
              intro w'
              go_simp
              with_reducible rfl
             rotate_left
             ·
              simp only [Act.put, zs1, zs2, zs3, i64_w, i32_w]
              rfl
             refine take_ (i := 1) (N := some 59) (v := ?_) (a' := ?_) #[true, true, false, true, false, true, false, false, true, false, false, false, false, false, true, false, true, false, false, false, false, false] rfl rfl (zax HT_.out HW_.out (by kernel_rfl)) (fun _ _ _ h => h) (Or.inl ⟨by rfl, ?_⟩) hHeld ?_ ?_
             rotate_left
             ·
              rintro w' ⟨s0, s1, s2, s3, s4, s5⟩
              go_simp
              with_reducible rfl
             rotate_left
             ·
              simp only [Act.put, zs1, zs2, zs3, i64_w, i32_w]
              rfl
             refine take_ (i := 4) (N := some 62) (v := ?_) (a' := ?_) #[true, true, false, true, true, true, false, false, true, false, false, false, false, false, true, false, true, false, false, false, false, false] rfl rfl (zax HT_.out HW_.out (by kernel_rfl)) (fun _ _ _ h => h) (Or.inl ⟨by rfl, ?_⟩) hHeld ?_ ?_
             rotate_left
             ·
              rintro w' ⟨s0, s1, s2, s3, s4, s5⟩
              go_simp
              with_reducible rfl
             rotate_left
             ·
              simp only [Act.put, zs1, zs2, zs3, i64_w, i32_w]
              rfl
             refine pure_ (i := 6) (N := some 64) (v := ?_) (a' := ?_) #[true, true, false, true, true, true, true, false, true, false, false, false, false, false, true, false, true, false, false, false, false, false] rfl rfl (zao HT_.out (by kernel_rfl)) (fun _ _ _ h => h) (Or.inl ⟨by rfl, ?_⟩) ?_ ?_
             rotate_left
             ·
              intro w'
              go_simp
              with_reducible rfl
             rotate_left
             ·
              simp only [Act.put, zs1, zs2, zs3, i64_w, i32_w]
              rfl
             refine take_ (i := 9) (N := some 67) (v := ?_) (a' := ?_) #[true, true, false, true, true, true, true, false, true, true, false, false, false, false, true, false, true, false, false, false, false, false] rfl rfl (zax HT_.out HW_.out (by kernel_rfl)) (fun _ _ _ h => h) (Or.inl ⟨by rfl, ?_⟩) hHeld ?_ ?_
             rotate_left
             ·
              rintro w' ⟨s0, s1, s2, s3, s4, s5⟩
              go_simp
              with_reducible rfl
             rotate_left
             ·
              simp only [Act.put, zs1, zs2, zs3, i64_w, i32_w]
              rfl
             refine take_ (i := 10) (N := some 68) (v := ?_) (a' := ?_) #[true, true, false, true, true, true, true, false, true, true, true, false, false, false, true, false, true, false, false, false, false, false] rfl rfl (zax HT_.out HW_.out (by kernel_rfl)) (fun _ _ _ h => h) (Or.inl ⟨by rfl, ?_⟩) hHeld ?_ ?_
             rotate_left
             ·
              rintro w' ⟨s0, s1, s2, s3, s4, s5⟩
              go_simp
              with_reducible rfl
             rotate_left
             ·
              simp only [Act.put, zs1, zs2, zs3, i64_w, i32_w]
              rfl
             refine take_ (i := 15) (N := some 73) (v := ?_) (a' := ?_) #[true, true, false, true, true, true, true, false, true, true, true, false, false, false, true, true, true, false, false, false, false, false] rfl rfl (zax HT_.out HW_.out (by kernel_rfl)) (fun _ _ _ h => h) (Or.inl ⟨by rfl, ?_⟩) hHeld ?_ ?_
             rotate_left
             ·
              rintro w' ⟨s0, s1, s2, s3, s4, s5⟩
              go_simp
              with_reducible rfl
             rotate_left
             ·
              simp only [Act.put, zs1, zs2, zs3, i64_w, i32_w]
              rfl
             refine pure_ (i := 17) (N := some 75) (v := ?_) (a' := ?_) #[true, true, false, true, true, true, true, false, true, true, true, false, false, false, true, true, true, true, false, false, false, false] rfl rfl (zao HT_.out (by kernel_rfl)) (fun _ _ _ h => h) (Or.inl ⟨by rfl, ?_⟩) ?_ ?_
             rotate_left
             ·
              intro w'
              go_simp
              with_reducible rfl
             rotate_left
             ·
              simp only [Act.put, zs1, zs2, zs3, i64_w, i32_w]
              rfl
             refine one_ (i := 2) (N := some 60) #[true, true, true, true, true, true, true, false, true, true, true, false, false, false, true, true, true, true, false, false, false, false] rfl rfl (one_of HT_.out (by kernel_rfl)) (by decide) (fun K hK => ?_)
             refine Kd.R_lit_step k86 _ 86 ?hg (N := 60) ?hd (xs := ([] : List (S86))) (inner := []) (ok := fun _ => True) (okp := fun _ => True) ?hr ?hp (fun _ hk => hk) trivial (Below.refl _ _) (Nat.le_refl _) (by simp) ?_; (case hd => rfl); (case hg => rfl); (case hr => first | (go_simp; done) | (go_simp; rfl)); (case hp => exact (Reps.none _ _))
             intro v291 w90 ho91 hb hg_ hnew_
             clear hg_ hnew_
             (first | rw [← Ny290.out] at ho91 | (simp only [Int.reduceToNat] at ho91; rw [← Ny290.out] at ho91))
             have n0_ := zA (Kd.V_elder' (zV HO_260001) (Kd.R_base ho91) hb)
             have n1_ := zA (Kd.V_elder' (zV HO297) (Kd.R_base ho91) hb)
             have n2_ := zA (Kd.V_elder' (zV HO312) (Kd.R_base ho91) hb)
             have n3_ := zA (Kd.R_lower (Kd.R_newB (Kd.R_newM (M := fun k_ => (w.heap.size ≤ k_)) ho91 (zah (zB HB)) (fun k_ h_ => h_)) (g := gb260) (o := .cells #[.int .i64 a1_0, .int .i64 a1_1, .int .i64 a1_2, .int .i64 a1_3] 86 (0, 0)) (zK BK260)) (zah (zB HB)))
             have n4_ := zA (zan (g := gb259) (o := .cells #[.int .i64 a0_0, .slice A0_1 l0_1.length c0_1] 39 (0, 0)) (zK BK259) hb)
             have n5_ := zA (zan (g := gb260) (o := .cells #[.int .i64 a1_0, .int .i64 a1_1, .int .i64 a1_2, .int .i64 a1_3] 86 (0, 0)) (zK BK260) hb)
             have n6_ := zA (zan (g := gb261) (o := .cells #[.int .i64 0, .slice none 0 0] 39 (0, 0)) (zK BK261) hb)
             have n7_ := zA (zai (zB HB) hb)
             clear HO_260001 HO297 HO312 BK259 BK260 BK261 HB
             have HO_260001 := n0_
             have HO297 := n1_
             have HO312 := n2_
             have HO292 := n3_
             have BK259 := n4_
             have BK260 := n5_
             have BK261 := n6_
             have HB := n7_
             clear n0_ n1_ n2_ n3_ n4_ n5_ n6_ n7_ hb ho91
             refine hK.out _ _ ⟨(za BK259.out 0).trans rfl, (za BK259.out 1).trans rfl, (za BK260.out 0).trans rfl, (za BK260.out 1).trans rfl, (za BK260.out 2).trans rfl, (za BK260.out 3).trans rfl⟩ (fun hHeld => ?_)
             clear hK K
             refine norm_ (a' := ?_) ?_ ?_
             rotate_left
             ·
              show Act.put _ (some 60) _ = _
              simp only [Act.put, zs1, zs2, zs3, i64_w, i32_w]
              rfl
             refine one_ (i := 7) (N := some 65) #[true, true, true, true, true, true, true, true, true, true, true, false, false, false, true, true, true, true, false, false, false, false] rfl rfl (one_of HT_.out (by kernel_rfl)) (by decide) (fun K hK => ?_)
             refine Kd.za9 k86 (w0 := w) w.heap.size (by rfl) (.tmp 60) (.tmp 64) 37 86 (.agg #[(.int .i64 0), (.int .i64 0), (.int .i64 0), (.int .i64 0)]) 32 rfl Try.underlying37 info86 rfl (by decide) (by omega) v291 y290 y293 _ _ _ (fun k_ => (w.heap.size ≤ k_) ∧ k_ ≠ gb260) (fun _ => False) rfl rfl ?aO ?aR (fun _ _ h => h) (fun _ h => h.elim) ?aF ?aB ?aS ?aL ?_
             (case aR => exact zJ (Kd.zay HO297.out).2.2)
             (case aB => exact (zB HB))
             (case aF => exact (fun k_ hk => ⟨(Nat.le_trans (zah (zB HB)) hk), Kd.freshB (g := gb260) (o := .cells #[.int .i64 a1_0, .int .i64 a1_1, .int .i64 a1_2, .int .i64 a1_3] 86 (0, 0)) (zK BK260) k_ hk⟩))
             (case aO => exact (by (with_reducible repeat (first | apply Kd.R_alloc | apply Kd.R_drewN | apply Kd.R_drew)); exact Kd.zbs HO292.out (fun _ hk => ⟨hk.1.1, hk.2⟩)))
             (case aS => exact (zah (zB HB)))
             (case aL => have := LMc80.out; omega)
             intro v299 w92 ho hb hg hat
             rw [← Ny298.out] at ho
             have n0_ := zA (Kd.za8 (ok := (fun k_ => (P0_1_ k_ ∨ w.heap.size ≤ k_) ∧ k_ ≠ gb259 ∧ k_ ≠ gb260 ∧ k_ ≠ gb261)) (zV HO_260001) hg hat)
             have n1_ := zA (zat (g := gb259) (o := .cells #[.int .i64 a0_0, .slice A0_1 l0_1.length c0_1] 39 (0, 0)) (zK BK259) hg (Kd.R_ne HO292.out BK259.out (by decide)))
             have n2_ := zA (zat (g := gb260) (o := .cells #[.int .i64 a1_0, .int .i64 a1_1, .int .i64 a1_2, .int .i64 a1_3] 86 (0, 0)) (zK BK260) hg (Kd.R_away HO292.out (fun _ hk => hk.2)))
             have n3_ := zA (zat (g := gb261) (o := .cells #[.int .i64 0, .slice none 0 0] 39 (0, 0)) (zK BK261) hg (Kd.R_ne HO292.out BK261.out (by decide)))
             have n4_ := zA (Kd.za8 (ok := (fun k_ => (P0_1_ k_ ∨ w.heap.size ≤ k_) ∧ k_ ≠ gb259 ∧ k_ ≠ gb260 ∧ k_ ≠ gb261)) (zV HO297) hg hat)
             have n5_ := zA (Kd.za8 (ok := (fun k_ => (P0_1_ k_ ∨ w.heap.size ≤ k_) ∧ k_ ≠ gb259 ∧ k_ ≠ gb260 ∧ k_ ≠ gb261)) (zV HO312) hg hat)
             have n6_ := zA (hb)
             have n7_ := zA (ho)
             clear HO_260001 BK259 BK260 BK261 HO297 HO312 HB HO292
             have HO_260001 := n0_
             have BK259 := n1_
             have BK260 := n2_
             have BK261 := n3_
             have HO297 := n4_
             have HO312 := n5_
             have HB := n6_
             have HO300 := n7_
             clear n0_ n1_ n2_ n3_ n4_ n5_ n6_ n7_ ho hb hg hat
             refine hK.out _ _ ⟨(za BK259.out 0).trans rfl, (za BK259.out 1).trans rfl, (za BK260.out 0).trans rfl, (za BK260.out 1).trans rfl, (za BK260.out 2).trans rfl, (za BK260.out 3).trans rfl⟩ (fun hHeld => ?_)
             clear hK K
             refine norm_ (a' := ?_) ?_ ?_
             rotate_left
             ·
              show Act.put _ (some 65) _ = _
              simp only [Act.put, zs1, zs2, zs3, i64_w, i32_w]
              rfl
             refine one_ (i := 11) (N := some 69) #[true, true, true, true, true, true, true, true, true, true, true, true, false, false, true, true, true, true, false, false, false, false] rfl rfl (one_of HT_.out (by kernel_rfl)) (by decide) (fun K hK => ?_)
             refine goes_ Try.func59 (by kernel_rfl) rfl #[.int .i64 a0_0, .agg #[.int .i64 a1_0, .int .i64 a1_1, .int .i64 a1_2, .int .i64 a1_3]] (by rfl) rfl rfl (zE) ?_
             with_reducible refine (zaz.calls a0_0 a1_0 a1_1 a1_2 a1_3 t301 t302 t303 t304 _ A81.out).mono ?_
             rintro e w93 ⟨rfl, hb⟩
             refine ⟨_, rfl, ?_⟩
             have n0_ := zA (Kd.zbg (zV HO_260001) hb)
             have n1_ := zA (Kd.zbg (zV HO297) hb)
             have n2_ := zA (Kd.zbg (zV HO312) hb)
             have n3_ := zA (Kd.R_below (zR HO300) hb)
             have n4_ := zA (zan (g := gb259) (o := .cells #[.int .i64 a0_0, .slice A0_1 l0_1.length c0_1] 39 (0, 0)) (zK BK259) hb)
             have n5_ := zA (zan (g := gb260) (o := .cells #[.int .i64 a1_0, .int .i64 a1_1, .int .i64 a1_2, .int .i64 a1_3] 86 (0, 0)) (zK BK260) hb)
             have n6_ := zA (zan (g := gb261) (o := .cells #[.int .i64 0, .slice none 0 0] 39 (0, 0)) (zK BK261) hb)
             have n7_ := zA (zai (zB HB) hb)
             clear HO_260001 HO297 HO312 HO300 BK259 BK260 BK261 HB
             have HO_260001 := n0_
             have HO297 := n1_
             have HO312 := n2_
             have HO300 := n3_
             have BK259 := n4_
             have BK260 := n5_
             have BK261 := n6_
             have HB := n7_
             clear n0_ n1_ n2_ n3_ n4_ n5_ n6_ n7_
             (try clear hb)
             (try clear hb2)
             (try clear hk)
             (try clear hi)
             refine hK.out _ _ ⟨(za BK259.out 0).trans rfl, (za BK259.out 1).trans rfl, (za BK260.out 0).trans rfl, (za BK260.out 1).trans rfl, (za BK260.out 2).trans rfl, (za BK260.out 3).trans rfl⟩ (fun hHeld => ?_)
             clear hK K
             refine norm_ (a' := ?_) ?_ ?_
             rotate_left
             ·
              show Act.put _ (some 69) _ = _
              simp only [Act.put, zs1, zs2, zs3, i64_w, i32_w]
              rfl
             refine one_ (i := 12) (N := some 70) #[true, true, true, true, true, true, true, true, true, true, true, true, true, false, true, true, true, true, false, false, false, false] rfl rfl (one_of HT_.out (by kernel_rfl)) (by decide) (fun K hK => ?_)
             refine value_ (w1 := ?_) (v := ?_) (by rfl) rfl ?_ ?_
             rotate_left 2
             ·
              go_simp
              constructor
              ·
               rfl
              ·
               rfl
             refine hK.out _ _ ⟨(za (zac BK259.out _) 0).trans rfl, (za (zac BK259.out _) 1).trans rfl, (za (zac BK260.out _) 0).trans rfl, (za (zac BK260.out _) 1).trans rfl, (za (zac BK260.out _) 2).trans rfl, (za (zac BK260.out _) 3).trans rfl⟩ (fun hHeld => ?_)
             clear hK K
             refine norm_ (a' := ?_) ?_ ?_
             rotate_left
             ·
              show Act.put _ (some 70) _ = _
              simp only [Act.put, zs1, zs2, zs3, i64_w, i32_w]
              rfl
             refine one_ (i := 13) (N := some 71) #[true, true, true, true, true, true, true, true, true, true, true, true, true, true, true, true, true, true, false, false, false, false] rfl rfl (one_of HT_.out (by kernel_rfl)) (by decide) (fun K hK => ?_)
             refine Kd.R_append_step k86 (w0 := w) w.heap.size (by rfl) (.tmp 65) (.tmp 70) 37 86 (.agg #[(.int .i64 0), (.int .i64 0), (.int .i64 0), (.int .i64 0)]) 32 rfl Try.underlying37 info86 rfl (by decide) (by omega) v299 y298 (⟨t301, t302, t303, t304⟩ : S86) [.int .i64 t301, .int .i64 t302, .int .i64 t303, .int .i64 t304] (fun k_ => (w.heap.size ≤ k_) ∧ k_ ≠ gb260) (fun _ => False) rfl rfl ?aP (fun _ hk => hk.elim) ?aF ?aO ?aB ?aS ?aL ?_
             (case aP => exact k86_mkM _ _ _ (⟨t301, t302, t303, t304⟩ : S86))
             (case aB => exact (zB HB))
             (case aF => exact (fun k_ hk => ⟨(Nat.le_trans (zah (zB HB)) hk), Kd.freshB (g := gb260) (o := .cells #[.int .i64 a1_0, .int .i64 a1_1, .int .i64 a1_2, .int .i64 a1_3] 86 (0, 0)) (zK BK260) k_ hk⟩))
             (case aO => exact (zR HO300))
             (case aS => exact (zah (zB HB)))
             (case aL => have := LMc82.out; omega)
             intro v306 w94 ho hb hg hat
             rw [← Ny305.out] at ho
             have n0_ := zA (Kd.za8 (ok := (fun k_ => (P0_1_ k_ ∨ w.heap.size ≤ k_) ∧ k_ ≠ gb259 ∧ k_ ≠ gb260 ∧ k_ ≠ gb261)) (zV HO_260001) hg hat)
             have n1_ := zA (zat (g := gb259) (o := .cells #[.int .i64 a0_0, .slice A0_1 l0_1.length c0_1] 39 (0, 0)) (zK BK259) hg (Kd.R_ne HO300.out BK259.out (by decide)))
             have n2_ := zA (zat (g := gb260) (o := .cells #[.int .i64 a1_0, .int .i64 a1_1, .int .i64 a1_2, .int .i64 a1_3] 86 (0, 0)) (zK BK260) hg (Kd.R_away HO300.out (fun _ hk => hk.2)))
             have n3_ := zA (zat (g := gb261) (o := .cells #[.int .i64 0, .slice none 0 0] 39 (0, 0)) (zK BK261) hg (Kd.R_ne HO300.out BK261.out (by decide)))
             have n4_ := zA (Kd.za8 (ok := (fun k_ => (P0_1_ k_ ∨ w.heap.size ≤ k_) ∧ k_ ≠ gb259 ∧ k_ ≠ gb260 ∧ k_ ≠ gb261)) (zV HO297) hg hat)
             have n5_ := zA (Kd.za8 (ok := (fun k_ => (P0_1_ k_ ∨ w.heap.size ≤ k_) ∧ k_ ≠ gb259 ∧ k_ ≠ gb260 ∧ k_ ≠ gb261)) (zV HO312) hg hat)
             have n6_ := zA (hb)
             have n7_ := zA (ho)
             clear HO_260001 BK259 BK260 BK261 HO297 HO312 HB HO300
             have HO_260001 := n0_
             have BK259 := n1_
             have BK260 := n2_
             have BK261 := n3_
             have HO297 := n4_
             have HO312 := n5_
             have HB := n6_
             have HO307 := n7_
             clear n0_ n1_ n2_ n3_ n4_ n5_ n6_ n7_ ho hb hg hat
             refine hK.out _ _ ⟨(za BK259.out 0).trans rfl, (za BK259.out 1).trans rfl, (za BK260.out 0).trans rfl, (za BK260.out 1).trans rfl, (za BK260.out 2).trans rfl, (za BK260.out 3).trans rfl⟩ (fun hHeld => ?_)
             clear hK K
             refine norm_ (a' := ?_) ?_ ?_
             rotate_left
             ·
              show Act.put _ (some 71) _ = _
              simp only [Act.put, zs1, zs2, zs3, i64_w, i32_w]
              rfl
             refine one_ (i := 18) (N := some 76) #[true, true, true, true, true, true, true, true, true, true, true, true, true, true, true, true, true, true, true, false, false, false] rfl rfl (one_of HT_.out (by kernel_rfl)) (by decide) (fun K hK => ?_)
             refine Kd.za9 k86 (w0 := w) w.heap.size (by rfl) (.tmp 71) (.tmp 75) 37 86 (.agg #[(.int .i64 0), (.int .i64 0), (.int .i64 0), (.int .i64 0)]) 32 rfl Try.underlying37 info86 rfl (by decide) (by omega) v306 y305 y308 _ _ _ (fun k_ => (w.heap.size ≤ k_) ∧ k_ ≠ gb260) (fun _ => False) rfl rfl ?aO ?aR (fun _ _ h => h) (fun _ h => h.elim) ?aF ?aB ?aS ?aL ?_
             (case aR => exact zJ (Kd.zay HO312.out).2.2)
             (case aB => exact (zB HB))
             (case aF => exact (fun k_ hk => ⟨(Nat.le_trans (zah (zB HB)) hk), Kd.freshB (g := gb260) (o := .cells #[.int .i64 a1_0, .int .i64 a1_1, .int .i64 a1_2, .int .i64 a1_3] 86 (0, 0)) (zK BK260) k_ hk⟩))
             (case aO => exact (zR HO307))
             (case aS => exact (zah (zB HB)))
             (case aL => have := LMc85.out; omega)
             intro v314 w95 ho hb hg hat
             rw [← Ny313.out] at ho
             have n0_ := zA (Kd.za8 (ok := (fun k_ => (P0_1_ k_ ∨ w.heap.size ≤ k_) ∧ k_ ≠ gb259 ∧ k_ ≠ gb260 ∧ k_ ≠ gb261)) (zV HO_260001) hg hat)
             have n1_ := zA (zat (g := gb259) (o := .cells #[.int .i64 a0_0, .slice A0_1 l0_1.length c0_1] 39 (0, 0)) (zK BK259) hg (Kd.R_ne HO307.out BK259.out (by decide)))
             have n2_ := zA (zat (g := gb260) (o := .cells #[.int .i64 a1_0, .int .i64 a1_1, .int .i64 a1_2, .int .i64 a1_3] 86 (0, 0)) (zK BK260) hg (Kd.R_away HO307.out (fun _ hk => hk.2)))
             have n3_ := zA (zat (g := gb261) (o := .cells #[.int .i64 0, .slice none 0 0] 39 (0, 0)) (zK BK261) hg (Kd.R_ne HO307.out BK261.out (by decide)))
             have n4_ := zA (Kd.za8 (ok := (fun k_ => (P0_1_ k_ ∨ w.heap.size ≤ k_) ∧ k_ ≠ gb259 ∧ k_ ≠ gb260 ∧ k_ ≠ gb261)) (zV HO297) hg hat)
             have n5_ := zA (Kd.za8 (ok := (fun k_ => (P0_1_ k_ ∨ w.heap.size ≤ k_) ∧ k_ ≠ gb259 ∧ k_ ≠ gb260 ∧ k_ ≠ gb261)) (zV HO312) hg hat)
             have n6_ := zA (hb)
             have n7_ := zA (ho)
             clear HO_260001 BK259 BK260 BK261 HO297 HO312 HB HO307
             have HO_260001 := n0_
             have BK259 := n1_
             have BK260 := n2_
             have BK261 := n3_
             have HO297 := n4_
             have HO312 := n5_
             have HB := n6_
             have HO315 := n7_
             clear n0_ n1_ n2_ n3_ n4_ n5_ n6_ n7_ ho hb hg hat
             obtain ⟨Ao96, co96, eo96⟩ := Kd.zbr HO315.out
             (first | subst eo96 | (injection eo96 with f1_ f2_ f3_; have f4_ := f1_.symm; have f5_ := f3_.symm; clear f1_ f2_ f3_; subst f4_; subst f5_))
             refine hK.out _ _ ⟨(za BK259.out 0).trans rfl, (za BK259.out 1).trans rfl, (za BK260.out 0).trans rfl, (za BK260.out 1).trans rfl, (za BK260.out 2).trans rfl, (za BK260.out 3).trans rfl⟩ (fun hHeld => ?_)
             clear hK K
             refine norm_ (a' := ?_) ?_ ?_
             rotate_left
             ·
              show Act.put _ (some 76) _ = _
              simp only [Act.put, zs1, zs2, zs3, i64_w, i32_w]
              rfl
             refine pure_ (i := 19) (N := some 77) (v := ?_) (a' := ?_) #[true, true, true, true, true, true, true, true, true, true, true, true, true, true, true, true, true, true, true, true, false, false] rfl rfl (zao HT_.out (by kernel_rfl)) (fun _ _ _ h => h) (Or.inl ⟨by rfl, ?_⟩) ?_ ?_
             rotate_left
             ·
              intro w'
              go_simp
              with_reducible rfl
             rotate_left
             ·
              simp only [Act.put, zs1, zs2, zs3, i64_w, i32_w]
              rfl
             refine one_ (i := 20) (N := none) #[true, true, true, true, true, true, true, true, true, true, true, true, true, true, true, true, true, true, true, true, true, false] rfl rfl (one_of HT_.out (by kernel_rfl)) (by decide) (fun K hK => ?_)
             have hs97 : w95.cell? ⟨gb261, 0, none⟩ = some (.int .i64 0) := (za BK261.out 0).trans rfl
             have hfs97 := zaa BK261.out 0
             have hns97_0 := NB259_261.out
             have hns97_1 := NB260_261.out
             have hms97_0 := NB261_259.out
             have hms97_1 := NB261_260.out
             have hs98 : w95.cell? ⟨gb261, 1, none⟩ = some (.slice none 0 0) := (za BK261.out 1).trans rfl
             have hfs98 := zaa BK261.out 1
             have hns98_0 := NB259_261.out
             have hns98_1 := NB260_261.out
             have hms98_0 := NB261_259.out
             have hms98_1 := NB261_260.out
             refine skip_ (w1 := ?_) (by rfl) rfl ?_ ?_
             rotate_left
             ·
              go_simp
              rfl
             refine hK.out _ _ ⟨((cell_far (p := ⟨gb261, _, none⟩) NB259_261.out _).trans (((cell_far (p := ⟨gb261, _, none⟩) NB259_261.out _).trans (hHeld.1)))), ((cell_far (p := ⟨gb261, _, none⟩) NB259_261.out _).trans (((cell_far (p := ⟨gb261, _, none⟩) NB259_261.out _).trans (hHeld.2.1)))), ((cell_far (p := ⟨gb261, _, none⟩) NB260_261.out _).trans (((cell_far (p := ⟨gb261, _, none⟩) NB260_261.out _).trans (hHeld.2.2.1)))), ((cell_far (p := ⟨gb261, _, none⟩) NB260_261.out _).trans (((cell_far (p := ⟨gb261, _, none⟩) NB260_261.out _).trans (hHeld.2.2.2.1)))), ((cell_far (p := ⟨gb261, _, none⟩) NB260_261.out _).trans (((cell_far (p := ⟨gb261, _, none⟩) NB260_261.out _).trans (hHeld.2.2.2.2.1)))), ((cell_far (p := ⟨gb261, _, none⟩) NB260_261.out _).trans (((cell_far (p := ⟨gb261, _, none⟩) NB260_261.out _).trans (hHeld.2.2.2.2.2))))⟩ (fun hHeld => ?_)
             clear hK K
             refine pure_ (i := 21) (N := some 5) (v := ?_) (a' := ?_) #[true, true, true, true, true, true, true, true, true, true, true, true, true, true, true, true, true, true, true, true, true, true] rfl rfl (zao HT_.out (by kernel_rfl)) (fun _ _ _ h => h) (Or.inl ⟨by rfl, ?_⟩) ?_ ?_
             rotate_left
             ·
              intro w'
              go_simp
              with_reducible rfl
             rotate_left
             ·
              simp only [Act.put, zs1, zs2, zs3, i64_w, i32_w]
              rfl
             refine done_ (done_of HT_.out (by kernel_rfl)) ?_
             try go_wp2
             refine bodyPost_ret (za4 rfl _ _ gb261 39 #[.int .i64 a0_0, .slice Ao96 y313.length co96] (0, 0) _ rfl (by (with_reducible repeat (first | refine zaj ?_ _ | refine zaf ?_ | refine zac ?_ _)); refine zal (cs := #[.int .i64 a0_0, .slice none 0 0]) ?_ 1 _ rfl; (with_reducible repeat (first | refine zaj ?_ _ | refine zaf ?_ | refine zac ?_ _)); refine zal (cs := #[.int .i64 0, .slice none 0 0]) ?_ 0 _ rfl; (with_reducible repeat (first | refine zaj ?_ _ | refine zaf ?_ | refine zac ?_ _)); exact BK261.out) Try.underlying39 rfl (by kernel_rfl)) rfl ?_
             exact ⟨_, zW, Kd.za2 (Kd.R_V (by (with_reducible repeat (first | apply Kd.R_alloc | apply Kd.R_drewN | apply Kd.R_drew)); exact Kd.zbs (Kd.R_far (p := ⟨gb261, 1, none⟩) (Kd.R_far (p := ⟨gb261, 0, none⟩) (Kd.R_types HO315.out BK261.out (by decide)) (fun _ hk => hk.2) (.int .i64 a0_0)) (fun _ hk => hk.2) (.slice Ao96 y313.length co96)) (fun _ hk => hk.1.1))) (fun k_ hk => by first | exact ⟨(.inr (hk.1)), hk.2⟩ | exact (.inr (hk))), zB HB⟩
            ·
             rw [if_neg c85] at H
             exact absurd H (by simp)
           ·
            rw [if_neg c82] at H
            exact absurd H (by simp)
          ·
           rw [if_neg c80] at H
           exact absurd H (by simp)
         ·
          rw [if_neg c79] at H
          exact absurd H (by simp)
        ·
         rw [if_neg c78] at H
         exact absurd H (by simp)
end Go.Proofs.Ytbakdobjidjncaa.P
end
