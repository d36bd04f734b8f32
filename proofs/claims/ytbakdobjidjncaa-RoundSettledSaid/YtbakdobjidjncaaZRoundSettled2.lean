-- Written by a program of this session (wip/tools/shake.py) out of its own texts and of the kit's printed ones; not trusted: Lean checks it.
import Derived.Test.YtbakdobjidjncaaZRoundSettled1
set_option maxHeartbeats 8000000
set_option maxRecDepth 100000
set_option linter.unusedVariables false
set_option linter.unusedSimpArgs false
section
namespace Go.Proofs.Ytbakdobjidjncaa.P
open Go.RowKit Go.Proofs.YtbakdobjidjncaaW.PrintWords Go.Proofs.YtbakdobjidjncaaW.PrintLast Go.Proofs.YtbakdobjidjncaaW.PrintMore
attribute [local go_sem] zbv zbu max_two min_two zbn zbo zby zbw
mutual
def zab.l0 : Nat → Int → List (S86) → Int → List (S86) → Option (Int × (List (S86)) × List Int)
 | 0, _, _, _, _ => none
 | k + 1, x234000, x234001, x236000, x236001 => if (x234001.length : Int) > 0 then ((zas.f k x234000 x234001).bind fun t236 => (zab.j1 k (!t236) x234000 x234001 x236000 x236001)) else (zab.j1 k false x234000 x234001 x236000 x236001)
def zab.j1 : Nat → Bool → Int → List (S86) → Int → List (S86) → Option (Int × (List (S86)) × List Int)
 | 0, _, _, _, _, _ => none
 | k + 1, x17, x234000, x234001, x236000, x236001 => if x17 = true then ((some (([] : List (S86)) : List (S86))).bind fun y237 => (if y237.length + x234001.length < 4398046511104 then ((some (y237 ++ x234001 : List (S86))).bind fun y240 => (zab.l1 k (y240.length : Int) 0 (wrap64 (x234000 + 1)) y240 x236000 x236001)) else (none))) else (zab.l2 k ([] : List Int) (x234001.length : Int) 0 x234000 x234001 x236000 x236001)
def zab.l1 : Nat → Int → Int → Int → List (S86) → Int → List (S86) → Option (Int × (List (S86)) × List Int)
 | 0, _, _, _, _, _, _ => none
 | k + 1, x28, x29, x234000, x234001, x236000, x236001 => if x29 < x28 then (if 0 ≤ x29 then (if x29 < (x234001.length : Int) then (if ((rd_T86 x234001 x29).f1) = x234000 then (if ((rd_T86 x234001 x29).f2) = 0 then ((some (x234001.set (x29 : Int).toNat (⟨(rd_T86 x234001 x29).f0, wrap64 (((rd_T86 x234001 x29).f1) + 1), (rd_T86 x234001 x29).f2, (rd_T86 x234001 x29).f3⟩ : S86) : List (S86))).bind fun y246 => (zab.l1 k x28 (wrap64 (x29 + 1)) x234000 (y246.set (x29 : Int).toNat (⟨(rd_T86 y246 x29).f0, (rd_T86 y246 x29).f1, (rd_T86 y246 x29).f3, (rd_T86 y246 x29).f3⟩ : S86)) x236000 x236001)) else (zab.l1 k x28 (wrap64 (x29 + 1)) x234000 x234001 x236000 x236001)) else (zab.l1 k x28 (wrap64 (x29 + 1)) x234000 x234001 x236000 x236001)) else (none)) else (none)) else (zab.l0 k x234000 x234001 x236000 x236001)
def zab.l2 : Nat → List Int → Int → Int → Int → List (S86) → Int → List (S86) → Option (Int × (List (S86)) × List Int)
 | 0, _, _, _, _, _, _, _ => none
 | k + 1, x6, x73, x74, x234000, x234001, x236000, x236001 => if x74 < x73 then (if 0 ≤ x74 then (if x74 < (x236001.length : Int) then (if ((rd_T86 x236001 x74).f2) = 0 then (if x74 < (x234001.length : Int) then (if ((rd_T86 x234001 x74).f2) > 0 then (if x6.length < 17592186044416 then (zab.l2 k (x6 ++ [(rd_T86 x234001 x74).f0]) x73 (wrap64 (x74 + 1)) x234000 x234001 x236000 x236001) else (none)) else (zab.l2 k x6 x73 (wrap64 (x74 + 1)) x234000 x234001 x236000 x236001)) else (none)) else (zab.l2 k x6 x73 (wrap64 (x74 + 1)) x234000 x234001 x236000 x236001)) else (none)) else (none)) else (some (x234000, x234001, x6))
end
def zab.f (k : Nat) (a0_0 : Int) (l0_1 : List (S86)) : Option (Int × (List (S86)) × List Int) := zab.l0 k a0_0 l0_1 a0_0 l0_1
def zab.T3 : Bool × List (List Nat × List Nat) := (true, [([], []), ([0], [0]), ([1], [1]), ([], []), ([], []), ([4], [4]), ([3, 5], [3, 5]), ([2, 6], [2, 6]), ([7, 6, 0, 1, 2, 3, 4, 5, 6, 7], [7])])
def zab.B3 : List Nat := [0, 1, 3, 0, 0, 16, 56, 127, 255]
theorem zab.tab3 : rtab .any (opsOf Try.f22 3) = zab.T3 := by kernel_rfl
theorem zab.bits3 : waitsOk zab.T3.2 zab.B3 = true := by kernel_rfl
def zab.T7 : Bool × List (List Nat × List Nat) := (true, [([], []), ([0], [0]), ([], []), ([1, 2], [1, 2]), ([3], [3]), ([4], [4]), ([], []), ([6], [6]), ([5, 7], [5, 7]), ([8], [8]), ([9], [9]), ([10, 9], [9, 10]), ([9], [9]), ([11, 12, 9], [9, 11, 12]), ([13, 9], [9, 13]), ([14, 9], [9, 14]), ([15, 9], [9, 15]), ([9, 16], [9, 16])])
def zab.B7 : List Nat := [0, 1, 0, 7, 15, 31, 0, 64, 255, 511, 1023, 2047, 1023, 8191, 16383, 32767, 65535, 131071]
theorem zab.tab7 : rtab .any (opsOf Try.f22 7) = zab.T7 := by kernel_rfl
theorem zab.bits7 : waitsOk zab.T7.2 zab.B7 = true := by kernel_rfl
def zab.T9 : Bool × List (List Nat × List Nat) := (true, [([], []), ([0], [0]), ([], []), ([], []), ([3], [3]), ([], []), ([4, 5], [4, 5]), ([6], [6]), ([7], [7]), ([1, 2, 0, 1, 2, 3, 4, 5, 6, 7, 8], [1, 2]), ([9, 0, 1, 2, 3, 4, 5, 6, 7, 8], [9]), ([10, 8, 0, 1, 2, 3, 4, 5, 6, 7, 8], [8, 10])])
def zab.B9 : List Nat := [0, 1, 0, 0, 8, 0, 56, 120, 248, 511, 1023, 2047]
theorem zab.tab9 : rtab .any (opsOf Try.f22 9) = zab.T9 := by kernel_rfl
theorem zab.bits9 : waitsOk zab.T9.2 zab.B9 = true := by kernel_rfl
theorem zab.calls (k : Nat) (a0_0 : Int) (P0_1_ : Nat → Prop) (A0_1 : Option Addr) (c0_1 : Nat) (l0_1 : List (S86)) (r1 : Int) (r2 : List (S86)) (r3 : List Int) (w : World) (hs0_1 : Kd.V k86 86 w w.heap.size (fun k_ => P0_1_ k_) (.slice A0_1 l0_1.length c0_1) l0_1) (h : zab.f k a0_0 l0_1 = some (r1, r2, r3)) :
  Calls Try.prog 22 #[.agg #[.int .i64 a0_0, .slice A0_1 l0_1.length c0_1]] w fun e w' => ∃ v1_ v2_ : Value, e = .returned (.tuple #[.agg #[.int .i64 r1, v1_], v2_]) ∧ Kd.V k86 86 w' w.heap.size (fun k_ => (P0_1_ k_ ∨ w.heap.size ≤ k_) ∧ some k_ ≠ (v2_ : Value).ownBlock) v1_ r2 ∧ Kd.R (Kd.int .i64) 3 w' w.heap.size (fun k_ => (w.heap.size ≤ k_)) v2_ r3 ∧ Below w.heap.size w w' := by
 have hu39 := Try.underlying39
 have HO0_1 := zA (show Kd.V k86 86 w w.heap.size (fun k_ => (P0_1_ k_ ∨ w.heap.size ≤ k_)) (.slice A0_1 l0_1.length c0_1) l0_1 from Kd.za2 hs0_1 (fun k_ hk => .inl hk))
 have HB := zA (Below.refl w.heap.size w)
 have H : (zab.l0 k a0_0 l0_1 a0_0 l0_1) = some (r1, r2, r3) := h
 clear h
 have H' := zA H
 clear H
 go_enter Try.func22, Try.ntmps22
 go_wp2_with (first | ((with_reducible refine zaw (N := 1) rfl ?_); refine zar ?hg (N := 1) ?hd (cs := #[.int .i64 a0_0, .slice A0_1 l0_1.length c0_1]) (t := 39) ?hr ?_; (case hd => rfl); (case hg => rfl); (case hr => first | (go_simp; done) | (go_simp; rfl)); intro gb233 hg w2 hbox hb; have n0_ := zA (Kd.zbg (Kd.V_elderB (zV HO0_1) gb233 (Nat.le_of_eq hg.symm)) hb); have n1_ := zA (zai (zB HB) hb); have n2_ := zA (hbox); have n3_ := zA ((by rw [hg]; exact (zah (zB HB)) : w.heap.size ≤ gb233)); have n4_ := zA ((by rw [hg]; exact (zah (zB HB)) : w.heap.size ≤ gb233)); clear HO0_1 HB; have HO0_1 := n0_; have HB := n1_; have BK233 := n2_; have GW233 := n3_; have GE233 := n4_; clear n0_ n1_ n2_ n3_ n4_ hb hbox hg) | ((with_reducible refine zaw (N := 2) rfl ?_); refine zar ?hg (N := 2) ?hd (cs := #[.int .i64 0, .slice none 0 0]) (t := 39) ?hr ?_; (case hd => rfl); (case hg => rfl); (case hr => first | (go_simp; done) | (go_simp; rfl)); intro gb234 hg w3 hbox hb; have n0_ := zA (Kd.zbg (Kd.V_elderB (zV HO0_1) gb234 (Nat.le_of_eq hg.symm)) hb); have n1_ := zA (zan (g := gb233) (o := .cells #[.int .i64 a0_0, .slice A0_1 l0_1.length c0_1] 39 (0, 0)) (zK BK233) hb); have n2_ := zA (zai (zB HB) hb); have n3_ := zA (hbox); have n4_ := zA ((by rw [hg]; exact (zah (zB HB)) : w.heap.size ≤ gb234)); have n5_ := zA ((by rw [hg]; exact (zah (zB HB)) : w.heap.size ≤ gb234)); have n6_ := zA ((by rw [hg]; exact Nat.ne_of_lt (zak (g := gb233) (o := .cells #[.int .i64 a0_0, .slice A0_1 l0_1.length c0_1] 39 (0, 0)) (zK BK233)) : gb233 ≠ gb234)); have n7_ := zA ((by rw [hg]; exact Nat.ne_of_gt (zak (g := gb233) (o := .cells #[.int .i64 a0_0, .slice A0_1 l0_1.length c0_1] 39 (0, 0)) (zK BK233)) : gb234 ≠ gb233)); clear HO0_1 BK233 HB; have HO0_1 := n0_; have BK233 := n1_; have HB := n2_; have BK234 := n3_; have GW234 := n4_; have GE234 := n5_; have NB233_234 := n6_; have NB234_233 := n7_; clear n0_ n1_ n2_ n3_ n4_ n5_ n6_ n7_ hb hbox hg; have hnb4 := NB233_234.out; have hnc4 := NB234_233.out; have hcz5_0 : w3.cell? ⟨gb233, 0, none⟩ = some (.int .i64 a0_0) := (za BK233.out 0).trans rfl; have hcz5_1 : w3.cell? ⟨gb233, 1, none⟩ = some (.slice A0_1 l0_1.length c0_1) := (za BK233.out 1).trans rfl; have hfz5_0 := zaa BK233.out 0; have hfz5_1 := zaa BK233.out 1) | ((with_reducible refine zaw (N := 4) rfl ?_); refine zar ?hg (N := 4) ?hd (cs := #[.int .i64 0, .slice none 0 0]) (t := 39) ?hr ?_; (case hd => rfl); (case hg => rfl); (case hr => first | (go_simp; done) | (go_simp; rfl)); intro gb235 hg w6 hbox hb; have n0_ := zA (Kd.zbg (Kd.V_elderB (zV HO0_1) gb235 (Nat.le_of_eq hg.symm)) hb); have n1_ := zA (zan (g := gb233) (o := .cells #[.int .i64 a0_0, .slice A0_1 l0_1.length c0_1] 39 (0, 0)) (zK BK233) hb); have n2_ := zA (zan (g := gb234) (o := .cells #[.int .i64 0, .slice none 0 0] 39 (0, 0)) (zK BK234) hb); have n3_ := zA (zai (zB HB) hb); have n4_ := zA (hbox); have n5_ := zA ((by rw [hg]; exact (zah (zB HB)) : w.heap.size ≤ gb235)); have n6_ := zA ((by rw [hg]; exact (zah (zB HB)) : w.heap.size ≤ gb235)); have n7_ := zA ((by rw [hg]; exact Nat.ne_of_lt (zak (g := gb233) (o := .cells #[.int .i64 a0_0, .slice A0_1 l0_1.length c0_1] 39 (0, 0)) (zK BK233)) : gb233 ≠ gb235)); have n8_ := zA ((by rw [hg]; exact Nat.ne_of_gt (zak (g := gb233) (o := .cells #[.int .i64 a0_0, .slice A0_1 l0_1.length c0_1] 39 (0, 0)) (zK BK233)) : gb235 ≠ gb233)); have n9_ := zA ((by rw [hg]; exact Nat.ne_of_lt (zak (g := gb234) (o := .cells #[.int .i64 0, .slice none 0 0] 39 (0, 0)) (zK BK234)) : gb234 ≠ gb235)); have n10_ := zA ((by rw [hg]; exact Nat.ne_of_gt (zak (g := gb234) (o := .cells #[.int .i64 0, .slice none 0 0] 39 (0, 0)) (zK BK234)) : gb235 ≠ gb234)); clear HO0_1 BK233 BK234 HB; have HO0_1 := n0_; have BK233 := n1_; have BK234 := n2_; have HB := n3_; have BK235 := n4_; have GW235 := n5_; have GE235 := n6_; have NB233_235 := n7_; have NB235_233 := n8_; have NB234_235 := n9_; have NB235_234 := n10_; clear n0_ n1_ n2_ n3_ n4_ n5_ n6_ n7_ n8_ n9_ n10_ hb hbox hg; have hnb7 := NB235_233.out; have hnc7 := NB233_235.out; have hnb8 := NB235_234.out; have hnc8 := NB234_235.out; have hcz9_0 : w6.cell? ⟨gb235, 0, none⟩ = some (.int .i64 0) := (za BK235.out 0).trans rfl; have hcz9_1 : w6.cell? ⟨gb235, 1, none⟩ = some (.slice none 0 0) := (za BK235.out 1).trans rfl; have hfz9_0 := zaa BK235.out 0; have hfz9_1 := zaa BK235.out 1))
 go_loopg [] k (fun kq w' => ∃ (x234000_1 : Int) (x234001_1 : List (S86)) (x236001_1 : List (S86)) (u234001 : Value) (u236001 : Value), Aside0 (zab.l0 kq x234000_1 x234001_1 a0_0 x236001_1 = some (r1, r2, r3)) ∧ Aside0 (kq ≤ k) ∧ Aside0 (Kd.V k86 86 w' w.heap.size (fun k_ => (P0_1_ k_ ∨ w.heap.size ≤ k_) ∧ k_ ≠ gb233 ∧ k_ ≠ gb234 ∧ k_ ≠ gb235) u234001 x234001_1) ∧ Aside0 (Kd.V k86 86 w' w.heap.size (fun k_ => (P0_1_ k_ ∨ w.heap.size ≤ k_) ∧ k_ ≠ gb233 ∧ k_ ≠ gb234 ∧ k_ ≠ gb235) u236001 x236001_1) ∧ Aside0 (w'.heap[gb233]? = some (.cells #[.int .i64 x234000_1, u234001] 39 (0, 0))) ∧ Aside0 (w'.heap[gb234]? = some (.cells #[.int .i64 0, (.slice none 0 0)] 39 (0, 0))) ∧ Aside0 (w'.heap[gb235]? = some (.cells #[.int .i64 a0_0, u236001] 39 (0, 0))) ∧ Aside0 (Below w.heap.size w w'))
 case atStart => exact ⟨(a0_0), (l0_1), (l0_1), (.slice A0_1 l0_1.length c0_1), (.slice A0_1 l0_1.length c0_1), H', ⟨Nat.le_refl _⟩, ⟨by (with_reducible repeat (first | apply Kd.zb | apply Kd.zbf | apply Kd.zba)); exact Kd.za2 (Kd.V_far (p := ⟨gb235, 1, none⟩) (Kd.V_far (p := ⟨gb235, 0, none⟩) (Kd.za2 HO0_1.out (fun k_ hk => (⟨hk, hk.2⟩ : _ ∧ k_ ≠ gb235))) (fun _ hk => hk.2) (.int .i64 a0_0)) (fun _ hk => hk.2) (.slice A0_1 l0_1.length c0_1)) (fun _ hk => ⟨hk.1.1.1.1, ⟨hk.1.1.1.2, ⟨hk.1.1.2, hk.1.2⟩⟩⟩)⟩, ⟨by (with_reducible repeat (first | apply Kd.zb | apply Kd.zbf | apply Kd.zba)); exact Kd.za2 (Kd.V_far (p := ⟨gb235, 1, none⟩) (Kd.V_far (p := ⟨gb235, 0, none⟩) (Kd.za2 HO0_1.out (fun k_ hk => (⟨hk, hk.2⟩ : _ ∧ k_ ≠ gb235))) (fun _ hk => hk.2) (.int .i64 a0_0)) (fun _ hk => hk.2) (.slice A0_1 l0_1.length c0_1)) (fun _ hk => ⟨hk.1.1.1.1, ⟨hk.1.1.1.2, ⟨hk.1.1.2, hk.1.2⟩⟩⟩)⟩, ⟨by (with_reducible repeat (first | refine zaj ?_ _ | refine zaf ?_ | refine zac ?_ _)); refine za3 ?_ NB233_235.out _; (with_reducible repeat (first | refine zaj ?_ _ | refine zaf ?_ | refine zac ?_ _)); refine za3 ?_ NB233_235.out _; (with_reducible repeat (first | refine zaj ?_ _ | refine zaf ?_ | refine zac ?_ _)); exact BK233.out⟩, ⟨by (with_reducible repeat (first | refine zaj ?_ _ | refine zaf ?_ | refine zac ?_ _)); refine za3 ?_ NB234_235.out _; (with_reducible repeat (first | refine zaj ?_ _ | refine zaf ?_ | refine zac ?_ _)); refine za3 ?_ NB234_235.out _; (with_reducible repeat (first | refine zaj ?_ _ | refine zaf ?_ | refine zac ?_ _)); exact BK234.out⟩, ⟨by (with_reducible repeat (first | refine zaj ?_ _ | refine zaf ?_ | refine zac ?_ _)); refine zal (cs := #[.int .i64 a0_0, .slice none 0 0]) ?_ 1 _ rfl; (with_reducible repeat (first | refine zaj ?_ _ | refine zaf ?_ | refine zac ?_ _)); refine zal (cs := #[.int .i64 0, .slice none 0 0]) ?_ 0 _ rfl; (with_reducible repeat (first | refine zaj ?_ _ | refine zaf ?_ | refine zac ?_ _)); exact BK235.out⟩, ⟨zB HB⟩⟩
 case round =>
  clear H'
  try clear c2
  try clear p2
  try clear c4
  try clear c7
  try clear c8
  try clear hcz5_0
  try clear hcz5_1
  try clear hcz9_0
  try clear hcz9_1
  try clear hfz5_0
  try clear hfz5_1
  try clear hfz9_0
  try clear hfz9_1
  obtain ⟨x234000_1, x234001_1, x236001_1, u234001, u236001, HA, HK1, HO_234001, HO_236001, BK233, BK234, BK235, HB⟩ := hrel
  cases gk with
  | zero => exact absurd HA.out (by simp [zab.l0])
  | succ k1 =>
   have H := HA.out
   clear HA
   simp only [zab.l0] at H
   have HC10 := zA H
   clear H
   go_upto_region 2 with (fail)
   go_cut [17] (fun v17 wc => ∃ (kq : Nat) (x17_9 : Bool), v17 = .bool x17_9 ∧ Aside0 (zab.j1 kq x17_9 x234000_1 x234001_1 a0_0 x236001_1 = some (r1, r2, r3)) ∧ Aside0 (kq ≤ k1) ∧ Aside0 (Kd.V k86 86 wc w.heap.size (fun k_ => (P0_1_ k_ ∨ w.heap.size ≤ k_) ∧ k_ ≠ gb233 ∧ k_ ≠ gb234 ∧ k_ ≠ gb235) u234001 x234001_1) ∧ Aside0 (Kd.V k86 86 wc w.heap.size (fun k_ => (P0_1_ k_ ∨ w.heap.size ≤ k_) ∧ k_ ≠ gb233 ∧ k_ ≠ gb234 ∧ k_ ≠ gb235) u236001 x236001_1) ∧ Aside0 (wc.heap[gb233]? = some (.cells #[.int .i64 x234000_1, u234001] 39 (0, 0))) ∧ Aside0 (wc.heap[gb234]? = some (.cells #[.int .i64 0, (.slice none 0 0)] 39 (0, 0))) ∧ Aside0 (wc.heap[gb235]? = some (.cells #[.int .i64 a0_0, u236001] 39 (0, 0))) ∧ Aside0 (Below w.heap.size w wc))
   case first =>
    have H := HC10.out
    clear HC10
    by_cases c11 : (x234001_1.length : Int) > 0
    ·
     rw [if_pos c11] at H
     have c11b0 : decide (0 < (x234001_1.length : Int)) = true := decide_eq_true c11
     have c11b1 : decide (0 < x234001_1.length) = true := decide_eq_true (by omega)
     clear c11
     (first | rw [c11b0] | (simp only [i64_w, i32_w]; rw [c11b0]) | skip)
     replace H := zO H
     obtain ⟨t236, A120, H⟩ := H
     try dsimp only at H
     have A12 := zA A120
     clear A120
     have H' := zA H
     clear H
     have hnb13 := NB233_234.out
     have hnc13 := NB234_233.out
     have hnb14 := NB233_235.out
     have hnc14 := NB235_233.out
     have hcz15_0 : wr.cell? ⟨gb233, 0, none⟩ = some (.int .i64 x234000_1) := (za BK233.out 0).trans rfl
     have hcz15_1 : wr.cell? ⟨gb233, 1, none⟩ = some (u234001) := (za BK233.out 1).trans rfl
     have hfz15_0 := zaa BK233.out 0
     have hfz15_1 := zaa BK233.out 1
     obtain ⟨Ao16, co16, eo16⟩ := Kd.V_slice HO_234001.out
     subst eo16
     go_wp2_with (first | (go_at_call 51; (with_reducible refine (zas.calls k1 x234000_1 _ _ x234001_1 t236 _ ?side1 ?side2 A12.out).mono ?_); (case side1 => exact zJ (Kd.zay HO_234001.out).2.2); (case side2 => exact (Kd.zay HO_234001.out).2.1); rintro e w17 ⟨rfl, hb⟩; have n0_ := zA (Kd.zbg (zV HO_234001) hb); have n1_ := zA (Kd.zbg (zV HO_236001) hb); have n2_ := zA (zan (g := gb233) (o := .cells #[.int .i64 x234000_1, .slice Ao16 x234001_1.length co16] 39 (0, 0)) (zK BK233) hb); have n3_ := zA (zan (g := gb234) (o := .cells #[.int .i64 0, .slice none 0 0] 39 (0, 0)) (zK BK234) hb); have n4_ := zA (zan (g := gb235) (o := .cells #[.int .i64 a0_0, u236001] 39 (0, 0)) (zK BK235) hb); have n5_ := zA (zai (zB HB) hb); clear HO_234001 HO_236001 BK233 BK234 BK235 HB; have HO_234001 := n0_; have HO_236001 := n1_; have BK233 := n2_; have BK234 := n3_; have BK235 := n4_; have HB := n5_; clear n0_ n1_ n2_ n3_ n4_ n5_; (try clear hb); (try clear hb2); (try clear hk); (try clear hi)))
     go_meet
     case rel => exact ⟨_, (!t236), (zF), H', ⟨by have := HK1.out; first | omega | exact Nat.le_refl _⟩, ⟨zV HO_234001⟩, ⟨zV HO_236001⟩, ⟨zK BK233⟩, ⟨zK BK234⟩, ⟨zK BK235⟩, ⟨zB HB⟩⟩
    ·
     rw [if_neg c11] at H
     have c11b0 : decide (0 < (x234001_1.length : Int)) = false := decide_eq_false c11
     have c11b1 : decide (0 < x234001_1.length) = false := decide_eq_false (by omega)
     clear c11
     (first | rw [c11b0] | (simp only [i64_w, i32_w]; rw [c11b0]) | skip)
     have H' := zA H
     clear H
     have hnb18 := NB233_234.out
     have hnc18 := NB234_233.out
     have hnb19 := NB233_235.out
     have hnc19 := NB235_233.out
     have hcz20_0 : wr.cell? ⟨gb233, 0, none⟩ = some (.int .i64 x234000_1) := (za BK233.out 0).trans rfl
     have hcz20_1 : wr.cell? ⟨gb233, 1, none⟩ = some (u234001) := (za BK233.out 1).trans rfl
     have hfz20_0 := zaa BK233.out 0
     have hfz20_1 := zaa BK233.out 1
     obtain ⟨Ao21, co21, eo21⟩ := Kd.V_slice HO_234001.out
     subst eo21
     go_wp2
     go_meet
     case rel => exact ⟨_, (false), (zF), H', ⟨by have := HK1.out; first | omega | exact Nat.le_refl _⟩, ⟨zV HO_234001⟩, ⟨zV HO_236001⟩, ⟨zK BK233⟩, ⟨zK BK234⟩, ⟨zK BK235⟩, ⟨zB HB⟩⟩
   case rest =>
    clear HC10
    try clear c1
    try clear c2
    try clear p2
    try clear c4
    try clear c7
    try clear c8
    try clear c11
    try clear c11b0
    try clear c11b1
    try clear c13
    try clear c14
    try clear c18
    try clear c19
    try clear hcz15_0
    try clear hcz15_1
    try clear hcz20_0
    try clear hcz20_1
    try clear hcz5_0
    try clear hcz5_1
    try clear hcz9_0
    try clear hcz9_1
    try clear hfz15_0
    try clear hfz15_1
    try clear hfz20_0
    try clear hfz20_1
    try clear hfz5_0
    try clear hfz5_1
    try clear hfz9_0
    try clear hfz9_1
    try clear p2
    obtain ⟨kq, x17_9, rfl, HA, HJ9, HO_234001, HO_236001, BK233, BK234, BK235, HB⟩ := hcut
    cases kq with
    | zero => exact absurd HA.out (by simp [zab.j1])
    | succ kj9 =>
     have H := HA.out
     clear HA
     simp only [zab.j1] at H
     by_cases c22 : x17_9 = true
     ·
      subst c22
      rw [if_pos rfl] at H
      obtain ⟨y237, hy237⟩ : ∃ y_ : List (S86), y_ = (([] : List (S86))) := ⟨_, rfl⟩
      replace H : (if y237.length + x234001_1.length < 4398046511104 then ((some (y237 ++ x234001_1 : List (S86))).bind fun y240 => (zab.l1 kj9 (y240.length : Int) 0 (wrap64 (x234000_1 + 1)) y240 a0_0 x236001_1)) else (none)) = some (r1, r2, r3) := by first | (rw [hy237]; with_reducible exact H) | (have H2_ := (Option.bind_some _ _).symm.trans H; rw [hy237]; with_reducible exact H2_) | (have H2_ := (Option.bind_some _ _).symm.trans H; with_reducible exact H2_) | with_reducible exact H | (rw [hy237]; exact H) | exact H
      have Ny237 := zA hy237
      clear hy237
      by_cases c23 : y237.length + x234001_1.length < 4398046511104
      ·
       rw [if_pos c23] at H
       have LMc23 := zA c23
       clear c23
       obtain ⟨y240, hy240⟩ : ∃ y_ : List (S86), y_ = (y237 ++ x234001_1) := ⟨_, rfl⟩
       replace H : (zab.l1 kj9 (y240.length : Int) 0 (wrap64 (x234000_1 + 1)) y240 a0_0 x236001_1) = some (r1, r2, r3) := by first | (rw [hy240]; with_reducible exact H) | (have H2_ := (Option.bind_some _ _).symm.trans H; rw [hy240]; with_reducible exact H2_) | (have H2_ := (Option.bind_some _ _).symm.trans H; with_reducible exact H2_) | with_reducible exact H | (rw [hy240]; exact H) | exact H
       have Ny240 := zA hy240
       clear hy240
       have H' := zA H
       clear H
       try go_wp2
       have n0_ := zA (Kd.zba HO_234001.out)
       have n1_ := zA (Kd.zba HO_236001.out)
       have n2_ := zA (zaf BK233.out)
       have n3_ := zA (zaf BK234.out)
       have n4_ := zA (zaf BK235.out)
       have n5_ := zA (zbd HB.out)
       clear HO_234001 HO_236001 BK233 BK234 BK235 HB
       have HO_234001 := n0_
       have HO_236001 := n1_
       have BK233 := n2_
       have BK234 := n3_
       have BK235 := n4_
       have HB := n5_
       clear n0_ n1_ n2_ n3_ n4_ n5_
       refine start_ (n := 9) (S := fun w' => w'.cell? ⟨gb233, 0, none⟩ = some (.int .i64 x234000_1) ∧ w'.cell? ⟨gb233, 1, none⟩ = some (u234001)) (ds := [8]) #[false, false, false, false, false, false, false, false, false] (by kernel_rfl) rfl rfl ⟨(za BK233.out 0).trans rfl, (za BK233.out 1).trans rfl⟩ (fun hHeld => ?_); refine zbp zab.tab3 zab.bits3 (fun HT_ HW_ => ?_)
       generalize wc.drew = w24 at HO_234001 HO_236001 BK233 BK234 BK235 HB hHeld ⊢
       refine pure_ (i := 0) (N := some 18) (v := ?_) (a' := ?_) #[true, false, false, false, false, false, false, false, false] rfl rfl (zao HT_.out (by kernel_rfl)) (fun _ _ _ h => h) (Or.inl ⟨by rfl, ?_⟩) ?_ ?_
       rotate_left
       ·
        intro w'
        go_simp
        with_reducible rfl
       rotate_left
       ·
        simp only [Act.put, zs1, zs2, zs3, i64_w, i32_w]
        rfl
       refine pure_ (i := 4) (N := some 22) (v := ?_) (a' := ?_) #[true, false, false, false, true, false, false, false, false] rfl rfl (zao HT_.out (by kernel_rfl)) (fun _ _ _ h => h) (Or.inl ⟨by rfl, ?_⟩) ?_ ?_
       rotate_left
       ·
        intro w'
        go_simp
        with_reducible rfl
       rotate_left
       ·
        simp only [Act.put, zs1, zs2, zs3, i64_w, i32_w]
        rfl
       refine take_ (i := 1) (N := some 19) (v := ?_) (a' := ?_) #[true, true, false, false, true, false, false, false, false] rfl rfl (zax HT_.out HW_.out (by kernel_rfl)) (fun _ _ _ h => h) (Or.inl ⟨by rfl, ?_⟩) hHeld ?_ ?_
       rotate_left
       ·
        rintro w' ⟨s0, s1⟩
        go_simp
        with_reducible rfl
       rotate_left
       ·
        simp only [Act.put, zs1, zs2, zs3, i64_w, i32_w]
        rfl
       refine pure_ (i := 2) (N := some 20) (v := ?_) (a' := ?_) #[true, true, true, false, true, false, false, false, false] rfl rfl (zao HT_.out (by kernel_rfl)) (fun _ _ _ h => h) (Or.inl ⟨by rfl, ?_⟩) ?_ ?_
       rotate_left
       ·
        intro w'
        go_simp
        with_reducible rfl
       rotate_left
       ·
        simp only [Act.put, zs1, zs2, zs3, i64_w, i32_w]
        rfl
       refine take_ (i := 5) (N := some 23) (v := ?_) (a' := ?_) #[true, true, true, false, true, true, false, false, false] rfl rfl (zax HT_.out HW_.out (by kernel_rfl)) (fun _ _ _ h => h) (Or.inl ⟨by rfl, ?_⟩) hHeld ?_ ?_
       rotate_left
       ·
        rintro w' ⟨s0, s1⟩
        go_simp
        with_reducible rfl
       rotate_left
       ·
        simp only [Act.put, zs1, zs2, zs3, i64_w, i32_w]
        rfl
       refine one_ (i := 3) (N := some 21) #[true, true, true, true, true, true, false, false, false] rfl rfl (one_of HT_.out (by kernel_rfl)) (by decide) (fun K hK => ?_)
       refine Kd.R_lit_step k86 _ 86 ?hg (N := 21) ?hd (xs := ([] : List (S86))) (inner := []) (ok := fun _ => True) (okp := fun _ => True) ?hr ?hp (fun _ hk => hk) trivial (Below.refl _ _) (Nat.le_refl _) (by simp) ?_; (case hd => rfl); (case hg => rfl); (case hr => first | (go_simp; done) | (go_simp; rfl)); (case hp => exact (Reps.none _ _))
       intro v238 w25 ho26 hb hg_ hnew_
       clear hg_ hnew_
       (first | rw [← Ny237.out] at ho26 | (simp only [Int.reduceToNat] at ho26; rw [← Ny237.out] at ho26))
       have n0_ := zA (Kd.V_elder' (zV HO_234001) (Kd.R_base ho26) hb)
       have n1_ := zA (Kd.V_elder' (zV HO_236001) (Kd.R_base ho26) hb)
       have n2_ := zA (Kd.R_lower (Kd.R_newM (M := fun k_ => (w.heap.size ≤ k_)) ho26 (zah (zB HB)) (fun k_ h_ => h_)) (zah (zB HB)))
       have n3_ := zA (zan (g := gb233) (o := .cells #[.int .i64 x234000_1, u234001] 39 (0, 0)) (zK BK233) hb)
       have n4_ := zA (zan (g := gb234) (o := .cells #[.int .i64 0, .slice none 0 0] 39 (0, 0)) (zK BK234) hb)
       have n5_ := zA (zan (g := gb235) (o := .cells #[.int .i64 a0_0, u236001] 39 (0, 0)) (zK BK235) hb)
       have n6_ := zA (zai (zB HB) hb)
       clear HO_234001 HO_236001 BK233 BK234 BK235 HB
       have HO_234001 := n0_
       have HO_236001 := n1_
       have HO239 := n2_
       have BK233 := n3_
       have BK234 := n4_
       have BK235 := n5_
       have HB := n6_
       clear n0_ n1_ n2_ n3_ n4_ n5_ n6_ hb ho26
       obtain ⟨Ao28, co28, eo28⟩ := Kd.V_slice HO_234001.out
       (first | subst eo28 | (injection eo28 with f1_ f2_ f3_; have f4_ := f1_.symm; have f5_ := f3_.symm; clear f1_ f2_ f3_; subst f4_; subst f5_))
       refine hK.out _ _ ⟨(za BK233.out 0).trans rfl, (za BK233.out 1).trans rfl⟩ (fun hHeld => ?_)
       clear hK K
       refine norm_ (a' := ?_) ?_ ?_
       rotate_left
       ·
        show Act.put _ (some 21) _ = _
        simp only [Act.put, zs1, zs2, zs3, i64_w, i32_w]
        rfl
       refine one_ (i := 6) (N := some 24) #[true, true, true, true, true, true, true, false, false] rfl rfl (one_of HT_.out (by kernel_rfl)) (by decide) (fun K hK => ?_)
       refine Kd.za9 k86 (w0 := w) w.heap.size (by rfl) (.tmp 21) (.tmp 23) 37 86 (.agg #[(.int .i64 0), (.int .i64 0), (.int .i64 0), (.int .i64 0)]) 32 rfl Try.underlying37 info86 rfl (by decide) (by omega) v238 y237 x234001_1 _ _ _ (fun k_ => (w.heap.size ≤ k_)) (fun _ => False) rfl rfl ?aO ?aR (fun _ _ h => h) (fun _ h => h.elim) ?aF ?aB ?aS ?aL ?_
       (case aR => exact zJ (Kd.zay HO_234001.out).2.2)
       (case aB => exact (zB HB))
       (case aF => exact (fun k_ hk => (Nat.le_trans (zah (zB HB)) hk)))
       (case aO => exact (by (with_reducible repeat (first | apply Kd.R_alloc | apply Kd.R_drewN | apply Kd.R_drew)); exact Kd.zbs HO239.out (fun _ hk => hk.1)))
       (case aS => exact (zah (zB HB)))
       (case aL => have := LMc23.out; omega)
       intro v241 w27 ho hb hg hat
       rw [← Ny240.out] at ho
       have n0_ := zA (Kd.za8 (ok := (fun k_ => (P0_1_ k_ ∨ w.heap.size ≤ k_) ∧ k_ ≠ gb233 ∧ k_ ≠ gb234 ∧ k_ ≠ gb235)) (zV HO_234001) hg hat)
       have n1_ := zA (Kd.za8 (ok := (fun k_ => (P0_1_ k_ ∨ w.heap.size ≤ k_) ∧ k_ ≠ gb233 ∧ k_ ≠ gb234 ∧ k_ ≠ gb235)) (zV HO_236001) hg hat)
       have n2_ := zA (zat (g := gb233) (o := .cells #[.int .i64 x234000_1, .slice Ao28 x234001_1.length co28] 39 (0, 0)) (zK BK233) hg (Kd.R_ne HO239.out BK233.out (by decide)))
       have n3_ := zA (zat (g := gb234) (o := .cells #[.int .i64 0, .slice none 0 0] 39 (0, 0)) (zK BK234) hg (Kd.R_ne HO239.out BK234.out (by decide)))
       have n4_ := zA (zat (g := gb235) (o := .cells #[.int .i64 a0_0, u236001] 39 (0, 0)) (zK BK235) hg (Kd.R_ne HO239.out BK235.out (by decide)))
       have n5_ := zA (hb)
       have n6_ := zA (ho)
       clear HO_234001 HO_236001 BK233 BK234 BK235 HB HO239
       have HO_234001 := n0_
       have HO_236001 := n1_
       have BK233 := n2_
       have BK234 := n3_
       have BK235 := n4_
       have HB := n5_
       have HO242 := n6_
       clear n0_ n1_ n2_ n3_ n4_ n5_ n6_ ho hb hg hat
       obtain ⟨Ao29, co29, eo29⟩ := Kd.zbr HO242.out
       (first | subst eo29 | (injection eo29 with f1_ f2_ f3_; have f4_ := f1_.symm; have f5_ := f3_.symm; clear f1_ f2_ f3_; subst f4_; subst f5_))
       refine hK.out _ _ ⟨(za BK233.out 0).trans rfl, (za BK233.out 1).trans rfl⟩ (fun hHeld => ?_)
       clear hK K
       refine norm_ (a' := ?_) ?_ ?_
       rotate_left
       ·
        show Act.put _ (some 24) _ = _
        simp only [Act.put, zs1, zs2, zs3, i64_w, i32_w]
        rfl
       refine pure_ (i := 7) (N := some 25) (v := ?_) (a' := ?_) #[true, true, true, true, true, true, true, true, false] rfl rfl (zao HT_.out (by kernel_rfl)) (fun _ _ _ h => h) (Or.inl ⟨by rfl, ?_⟩) ?_ ?_
       rotate_left
       ·
        intro w'
        go_simp
        with_reducible rfl
       rotate_left
       ·
        simp only [Act.put, zs1, zs2, zs3, i64_w, i32_w]
        rfl
       refine last_ (i := 8) (N := none) #[true, true, true, true, true, true, true, true, true] rfl rfl (one_of HT_.out (by kernel_rfl)) (by decide) (fun K hK => ?_)
       have hs30 : w27.cell? ⟨gb233, 0, none⟩ = some (.int .i64 x234000_1) := (za BK233.out 0).trans rfl
       have hfs30 := zaa BK233.out 0
       have hns30_1 := NB234_233.out
       have hns30_2 := NB235_233.out
       have hms30_1 := NB233_234.out
       have hms30_2 := NB233_235.out
       have hs31 : w27.cell? ⟨gb233, 1, none⟩ = some (.slice Ao28 x234001_1.length co28) := (za BK233.out 1).trans rfl
       have hfs31 := zaa BK233.out 1
       have hns31_1 := NB234_233.out
       have hns31_2 := NB235_233.out
       have hms31_1 := NB233_234.out
       have hms31_2 := NB233_235.out
       refine skip_ (w1 := ?_) (by rfl) rfl ?_ ?_
       rotate_left
       ·
        go_simp
        rfl
       refine hK.out _ _ ?_
       clear hK K
       refine done_ (done_of HT_.out (by kernel_rfl)) ?_
       have hnb32 := NB233_234.out
       have hnc32 := NB234_233.out
       have hnb33 := NB233_235.out
       have hnc33 := NB235_233.out
       have hcz34_0 : w27.cell? ⟨gb233, 0, none⟩ = some (.int .i64 x234000_1) := (za BK233.out 0).trans rfl
       have hcz34_1 : w27.cell? ⟨gb233, 1, none⟩ = some (.slice Ao28 x234001_1.length co28) := (za BK233.out 1).trans rfl
       have hfz34_0 := zaa BK233.out 0
       have hfz34_1 := zaa BK233.out 1
       try go_wp2
       go_loopg [29] kj9 (fun kq v29 w' => ∃ (x29_3 : Int) (x234001_3 : List (S86)) (x236001_3 : List (S86)) (u234001 : Value) (u236001 : Value), v29 = .int .i64 x29_3 ∧ Aside0 (zab.l1 kq (y240.length : Int) x29_3 (wrap64 (x234000_1 + 1)) x234001_3 a0_0 x236001_3 = some (r1, r2, r3)) ∧ Aside0 (kq ≤ kj9) ∧ Aside0 (Kd.R k86 86 w' w.heap.size (fun k_ => (w.heap.size ≤ k_)) u234001 x234001_3) ∧ Aside0 (Kd.V k86 86 w' w.heap.size (fun k_ => (P0_1_ k_ ∨ w.heap.size ≤ k_) ∧ some k_ ≠ (u234001 : Value).ownBlock ∧ k_ ≠ gb233 ∧ k_ ≠ gb234 ∧ k_ ≠ gb235) u236001 x236001_3) ∧ Aside0 (w'.heap[gb233]? = some (.cells #[.int .i64 (wrap64 (x234000_1 + 1)), u234001] 39 (0, 0))) ∧ Aside0 (w'.heap[gb234]? = some (.cells #[.int .i64 0, (.slice none 0 0)] 39 (0, 0))) ∧ Aside0 (w'.heap[gb235]? = some (.cells #[.int .i64 a0_0, u236001] 39 (0, 0))) ∧ Aside0 (Below w.heap.size w w'))
       case atStart => exact ⟨(0), (y240), (x236001_1), (.slice Ao29 y240.length co29), (u236001), (zF), H', ⟨Nat.le_refl _⟩, ⟨by (with_reducible repeat (first | apply Kd.R_alloc | apply Kd.R_drewN | apply Kd.R_drew)); exact Kd.zbs (Kd.R_far (p := ⟨gb233, 1, none⟩) (Kd.R_far (p := ⟨gb233, 0, none⟩) (Kd.R_types HO242.out BK233.out (by decide)) (fun _ hk => hk.2) (.int .i64 (wrap64 (x234000_1 + 1)))) (fun _ hk => hk.2) (.slice Ao29 y240.length co29)) (fun _ hk => hk.1)⟩, ⟨by (with_reducible repeat (first | apply Kd.zb | apply Kd.zbf | apply Kd.zba)); exact Kd.za2 (Kd.V_far (p := ⟨gb233, 1, none⟩) (Kd.V_far (p := ⟨gb233, 0, none⟩) (Kd.za2 HO_236001.out (fun k_ hk => (⟨hk, hk.1.2.1⟩ : _ ∧ k_ ≠ gb233))) (fun _ hk => hk.2) (.int .i64 (wrap64 (x234000_1 + 1)))) (fun _ hk => hk.2) (.slice Ao29 y240.length co29)) (fun _ hk => ⟨hk.1.1.1, ⟨hk.1.2, ⟨hk.1.1.2.1, ⟨hk.1.1.2.2.1, hk.1.1.2.2.2⟩⟩⟩⟩)⟩, ⟨by (with_reducible repeat (first | refine zaj ?_ _ | refine zaf ?_ | refine zac ?_ _)); refine zal (cs := #[.int .i64 (wrap64 (x234000_1 + 1)), .slice Ao28 x234001_1.length co28]) ?_ 1 _ rfl; (with_reducible repeat (first | refine zaj ?_ _ | refine zaf ?_ | refine zac ?_ _)); refine zal (cs := #[.int .i64 x234000_1, .slice Ao28 x234001_1.length co28]) ?_ 0 _ rfl; (with_reducible repeat (first | refine zaj ?_ _ | refine zaf ?_ | refine zac ?_ _)); exact BK233.out⟩, ⟨by (with_reducible repeat (first | refine zaj ?_ _ | refine zaf ?_ | refine zac ?_ _)); refine za3 ?_ NB234_233.out _; (with_reducible repeat (first | refine zaj ?_ _ | refine zaf ?_ | refine zac ?_ _)); refine za3 ?_ NB234_233.out _; (with_reducible repeat (first | refine zaj ?_ _ | refine zaf ?_ | refine zac ?_ _)); exact BK234.out⟩, ⟨by (with_reducible repeat (first | refine zaj ?_ _ | refine zaf ?_ | refine zac ?_ _)); refine za3 ?_ NB235_233.out _; (with_reducible repeat (first | refine zaj ?_ _ | refine zaf ?_ | refine zac ?_ _)); refine za3 ?_ NB235_233.out _; (with_reducible repeat (first | refine zaj ?_ _ | refine zaf ?_ | refine zac ?_ _)); exact BK235.out⟩, ⟨zB HB⟩⟩
       case round =>
        clear H'
        try clear c1
        try clear c2
        try clear p2
        try clear c3
        try clear c4
        try clear p6
        try clear c7
        try clear c8
        try clear c11
        try clear c11b0
        try clear c11b1
        try clear c13
        try clear c14
        try clear c18
        try clear c19
        try clear c22
        try clear c23
        try clear c32
        try clear c33
        try clear hcz15_0
        try clear hcz15_1
        try clear hcz20_0
        try clear hcz20_1
        try clear hcz34_0
        try clear hcz34_1
        try clear hcz5_0
        try clear hcz5_1
        try clear hcz9_0
        try clear hcz9_1
        try clear hfz15_0
        try clear hfz15_1
        try clear hfz20_0
        try clear hfz20_1
        try clear hfz34_0
        try clear hfz34_1
        try clear hfz5_0
        try clear hfz5_1
        try clear hfz9_0
        try clear hfz9_1
        try clear p2
        obtain ⟨x29_3, x234001_3, x236001_3, u234001, u236001, rfl, HA, HK3, HO_234001, HO_236001, BK233, BK234, BK235, HB⟩ := hrel
        cases gk with
        | zero => exact absurd HA.out (by simp [zab.l1])
        | succ k3 =>
         have H := HA.out
         clear HA
         simp only [zab.l1] at H
         by_cases c35 : x29_3 < (y240.length : Int)
         ·
          rw [if_pos c35] at H
          have c35b0 : decide (x29_3 < (y240.length : Int)) = true := decide_eq_true c35
          clear c35
          by_cases c36 : 0 ≤ x29_3
          ·
           rw [if_pos c36] at H
           have c36b0 : decide (0 ≤ x29_3) = true := decide_eq_true c36
           clear c36
           by_cases c37 : x29_3 < (x234001_3.length : Int)
           ·
            rw [if_pos c37] at H
            have c37b0 : decide (x29_3 < (x234001_3.length : Int)) = true := decide_eq_true c37
            clear c37
            by_cases c38 : ((rd_T86 x234001_3 x29_3).f1) = (wrap64 (x234000_1 + 1))
            ·
             rw [if_pos c38] at H
             have c38b0 : (((rd_T86 x234001_3 x29_3).f1) == (wrap64 (x234000_1 + 1))) = true := beq_iff_eq.mpr c38
             have c38b1 : (((rd_T86 x234001_3 x29_3).f1) != (wrap64 (x234000_1 + 1))) = false := bne_eq_false_iff_eq.mpr c38
             clear c38
             by_cases c39 : ((rd_T86 x234001_3 x29_3).f2) = 0
             ·
              rw [if_pos c39] at H
              have c39b0 : (((rd_T86 x234001_3 x29_3).f2) == 0) = true := beq_iff_eq.mpr c39
              have c39b1 : (((rd_T86 x234001_3 x29_3).f2) != 0) = false := bne_eq_false_iff_eq.mpr c39
              clear c39
              obtain ⟨y246, hy246⟩ : ∃ y_ : List (S86), y_ = (x234001_3.set (x29_3 : Int).toNat (⟨(rd_T86 x234001_3 x29_3).f0, wrap64 (((rd_T86 x234001_3 x29_3).f1) + 1), (rd_T86 x234001_3 x29_3).f2, (rd_T86 x234001_3 x29_3).f3⟩ : S86)) := ⟨_, rfl⟩
              replace H : (zab.l1 k3 (y240.length : Int) (wrap64 (x29_3 + 1)) (wrap64 (x234000_1 + 1)) (y246.set (x29_3 : Int).toNat (⟨(rd_T86 y246 x29_3).f0, (rd_T86 y246 x29_3).f1, (rd_T86 y246 x29_3).f3, (rd_T86 y246 x29_3).f3⟩ : S86)) a0_0 x236001_3) = some (r1, r2, r3) := by first | (rw [hy246]; with_reducible exact H) | (have H2_ := (Option.bind_some _ _).symm.trans H; rw [hy246]; with_reducible exact H2_) | (have H2_ := (Option.bind_some _ _).symm.trans H; with_reducible exact H2_) | with_reducible exact H | (rw [hy246]; exact H) | exact H
              have Ny246 := zA hy246
              clear hy246
              obtain ⟨y248, hy248⟩ : ∃ y_ : List (S86), y_ = (y246.set (x29_3 : Int).toNat (⟨(rd_T86 y246 x29_3).f0, (rd_T86 y246 x29_3).f1, (rd_T86 y246 x29_3).f3, (rd_T86 y246 x29_3).f3⟩ : S86)) := ⟨_, rfl⟩
              replace H : (zab.l1 k3 (y240.length : Int) (wrap64 (x29_3 + 1)) (wrap64 (x234000_1 + 1)) y248 a0_0 x236001_3) = some (r1, r2, r3) := by first | (rw [hy248]; with_reducible exact H) | (have H2_ := (Option.bind_some _ _).symm.trans H; rw [hy248]; with_reducible exact H2_) | (have H2_ := (Option.bind_some _ _).symm.trans H; with_reducible exact H2_) | with_reducible exact H | (rw [hy248]; exact H) | exact H
              have Ny248 := zA hy248
              clear hy248
              have H' := zA H
              clear H
              try go_wp2
              have n0_ := zA (Kd.R_drew HO_234001.out)
              have n1_ := zA (Kd.zba HO_236001.out)
              have n2_ := zA (zaf BK233.out)
              have n3_ := zA (zaf BK234.out)
              have n4_ := zA (zaf BK235.out)
              have n5_ := zA (zbd HB.out)
              clear HO_234001 HO_236001 BK233 BK234 BK235 HB
              have HO_234001 := n0_
              have HO_236001 := n1_
              have BK233 := n2_
              have BK234 := n3_
              have BK235 := n4_
              have HB := n5_
              clear n0_ n1_ n2_ n3_ n4_ n5_
              obtain ⟨Ao43, co43, eo43⟩ := Kd.zbr HO_234001.out
              (first | subst eo43 | (injection eo43 with f1_ f2_ f3_; have f4_ := f1_.symm; have f5_ := f3_.symm; clear f1_ f2_ f3_; subst f4_; subst f5_))
              have p243 : 0 ≤ (x29_3 : Int) := of_decide_eq_true (by first | (with_reducible assumption) | assumption)
              have q243 : x29_3 < (x234001_3.length : Int) := of_decide_eq_true (by first | (with_reducible assumption) | assumption)
              obtain ⟨ad243, e243, hx243_0, hx243_1, hx243_2, hx243_3⟩ := at_T86 (Kd.zbe HO_234001.out).2.2 x29_3 p243 q243
              cases e243
              replace p243 := eq_true p243
              replace q243 := eq_true q243
              have p244 : 0 ≤ (x29_3 : Int) := of_decide_eq_true (by first | (with_reducible assumption) | assumption)
              have q244 : x29_3 < (x234001_3.length : Int) := of_decide_eq_true (by first | (with_reducible assumption) | assumption)
              obtain ⟨ad244, e244, hx244_0, hx244_1, hx244_2, hx244_3⟩ := at_T86 (Kd.zbe HO_234001.out).2.2 x29_3 p244 q244
              obtain rfl : ad243 = ad244 := (by injection e244)
              replace p244 := eq_true p244
              replace q244 := eq_true q244
              refine start_ (n := 18) (S := fun w' => w'.cell? ⟨gb233, 0, none⟩ = some (.int .i64 (wrap64 (x234000_1 + 1))) ∧ w'.cell? ⟨gb233, 1, none⟩ = some (.slice (some ad243) x234001_3.length co43) ∧ w'.cell? (ad243.add ((x29_3).toNat * 4)) = some (.int .i64 ((rd_T86 x234001_3 x29_3).f0)) ∧ w'.cell? ⟨(ad243.add ((x29_3).toNat * 4)).block, (ad243.add ((x29_3).toNat * 4)).off + 1, none⟩ = some (.int .i64 ((rd_T86 x234001_3 x29_3).f1)) ∧ w'.cell? ⟨(ad243.add ((x29_3).toNat * 4)).block, (ad243.add ((x29_3).toNat * 4)).off + 2, none⟩ = some (.int .i64 ((rd_T86 x234001_3 x29_3).f2)) ∧ w'.cell? ⟨(ad243.add ((x29_3).toNat * 4)).block, (ad243.add ((x29_3).toNat * 4)).off + 3, none⟩ = some (.int .i64 ((rd_T86 x234001_3 x29_3).f3)) ∧ w'.cell? (ad243.add ((x29_3).toNat * 4)) = some (.int .i64 ((rd_T86 x234001_3 x29_3).f0)) ∧ w'.cell? ⟨(ad243.add ((x29_3).toNat * 4)).block, (ad243.add ((x29_3).toNat * 4)).off + 1, none⟩ = some (.int .i64 ((rd_T86 x234001_3 x29_3).f1)) ∧ w'.cell? ⟨(ad243.add ((x29_3).toNat * 4)).block, (ad243.add ((x29_3).toNat * 4)).off + 2, none⟩ = some (.int .i64 ((rd_T86 x234001_3 x29_3).f2)) ∧ w'.cell? ⟨(ad243.add ((x29_3).toNat * 4)).block, (ad243.add ((x29_3).toNat * 4)).off + 3, none⟩ = some (.int .i64 ((rd_T86 x234001_3 x29_3).f3))) (ds := []) #[false, false, false, false, false, false, false, false, false, false, false, false, false, false, false, false, false, false] (by kernel_rfl) rfl rfl ⟨(za BK233.out 0).trans rfl, (za BK233.out 1).trans rfl, hx243_0, hx243_1, hx243_2, hx243_3, hx244_0, hx244_1, hx244_2, hx244_3⟩ (fun hHeld => ?_); refine zbp zab.tab7 zab.bits7 (fun HT_ HW_ => ?_)
              generalize wr.drew = w42 at HO_234001 HO_236001 BK233 BK234 BK235 HB hx243_0 hx243_1 hx243_2 hx243_3 hx244_0 hx244_1 hx244_2 hx244_3 hHeld ⊢
              refine pure_ (i := 0) (N := some 32) (v := ?_) (a' := ?_) #[true, false, false, false, false, false, false, false, false, false, false, false, false, false, false, false, false, false] rfl rfl (zao HT_.out (by kernel_rfl)) (fun _ _ _ h => h) (Or.inl ⟨by rfl, ?_⟩) ?_ ?_
              rotate_left
              ·
               intro w'
               go_simp
               with_reducible rfl
              rotate_left
              ·
               simp only [Act.put, zs1, zs2, zs3, i64_w, i32_w]
               rfl
              refine pure_ (i := 2) (N := some 34) (v := ?_) (a' := ?_) #[true, false, true, false, false, false, false, false, false, false, false, false, false, false, false, false, false, false] rfl rfl (zao HT_.out (by kernel_rfl)) (fun _ _ _ h => h) (Or.inl ⟨by rfl, ?_⟩) ?_ ?_
              rotate_left
              ·
               intro w'
               go_simp
               with_reducible rfl
              rotate_left
              ·
               simp only [Act.put, zs1, zs2, zs3, i64_w, i32_w]
               rfl
              refine pure_ (i := 6) (N := some 38) (v := ?_) (a' := ?_) #[true, false, true, false, false, false, true, false, false, false, false, false, false, false, false, false, false, false] rfl rfl (zao HT_.out (by kernel_rfl)) (fun _ _ _ h => h) (Or.inl ⟨by rfl, ?_⟩) ?_ ?_
              rotate_left
              ·
               intro w'
               go_simp
               with_reducible rfl
              rotate_left
              ·
               simp only [Act.put, zs1, zs2, zs3, i64_w, i32_w]
               rfl
              refine take_ (i := 1) (N := some 33) (v := ?_) (a' := ?_) #[true, true, true, false, false, false, true, false, false, false, false, false, false, false, false, false, false, false] rfl rfl (zax HT_.out HW_.out (by kernel_rfl)) (fun _ _ _ h => h) (Or.inl ⟨by rfl, ?_⟩) hHeld ?_ ?_
              rotate_left
              ·
               rintro w' ⟨s0, s1, s2, s3, s4, s5, s6, s7, s8, s9⟩
               go_simp
               with_reducible rfl
              rotate_left
              ·
               simp only [Act.put, zs1, zs2, zs3, i64_w, i32_w]
               rfl
              refine pure_ (i := 3) (N := some 35) (v := ?_) (a' := ?_) #[true, true, true, true, false, false, true, false, false, false, false, false, false, false, false, false, false, false] rfl rfl (zao HT_.out (by kernel_rfl)) (fun _ _ _ h => h) (Or.inl ⟨by rfl, ?_⟩) ?_ ?_
              rotate_left
              ·
               intro w'
               go_simp
               with_reducible rfl
              rotate_left
              ·
               simp only [Act.put, zs1, zs2, zs3, i64_w, i32_w]
               rfl
              refine pure_ (i := 4) (N := some 36) (v := ?_) (a' := ?_) #[true, true, true, true, true, false, true, false, false, false, false, false, false, false, false, false, false, false] rfl rfl (zao HT_.out (by kernel_rfl)) (fun _ _ _ h => h) (Or.inl ⟨by rfl, ?_⟩) ?_ ?_
              rotate_left
              ·
               intro w'
               go_simp
               with_reducible rfl
              rotate_left
              ·
               simp only [Act.put, zs1, zs2, zs3, i64_w, i32_w]
               rfl
              refine take_ (i := 5) (N := some 37) (v := ?_) (a' := ?_) #[true, true, true, true, true, true, true, false, false, false, false, false, false, false, false, false, false, false] rfl rfl (zax HT_.out HW_.out (by kernel_rfl)) (fun _ _ _ h => h) (Or.inl ⟨by rfl, ?_⟩) hHeld ?_ ?_
              rotate_left
              ·
               rintro w' ⟨s0, s1, s2, s3, s4, s5, s6, s7, s8, s9⟩
               go_simp
               with_reducible rfl
              rotate_left
              ·
               simp only [Act.put, zs1, zs2, zs3, i64_w, i32_w]
               rfl
              refine take_ (i := 7) (N := some 39) (v := ?_) (a' := ?_) #[true, true, true, true, true, true, true, true, false, false, false, false, false, false, false, false, false, false] rfl rfl (zax HT_.out HW_.out (by kernel_rfl)) (fun _ _ _ h => h) (Or.inl ⟨by rfl, ?_⟩) hHeld ?_ ?_
              rotate_left
              ·
               rintro w' ⟨s0, s1, s2, s3, s4, s5, s6, s7, s8, s9⟩
               go_simp
               with_reducible rfl
              rotate_left
              ·
               simp only [Act.put, zs1, zs2, zs3, i64_w, i32_w]
               rfl
              refine pure_ (i := 8) (N := some 40) (v := ?_) (a' := ?_) #[true, true, true, true, true, true, true, true, true, false, false, false, false, false, false, false, false, false] rfl rfl (zao HT_.out (by kernel_rfl)) (fun _ _ _ h => h) (Or.inl ⟨by rfl, ?_⟩) ?_ ?_
              rotate_left
              ·
               intro w'
               go_simp
               with_reducible rfl
              rotate_left
              ·
               simp only [Act.put, zs1, zs2, zs3, i64_w, i32_w]
               rfl
              refine pure_ (i := 9) (N := some 41) (v := ?_) (a' := ?_) #[true, true, true, true, true, true, true, true, true, true, false, false, false, false, false, false, false, false] rfl rfl (zao HT_.out (by kernel_rfl)) (fun _ _ _ h => h) (Or.inl ⟨by rfl, ?_⟩) ?_ ?_
              rotate_left
              ·
               intro w'
               go_simp
               with_reducible rfl
              rotate_left
              ·
               simp only [Act.put, zs1, zs2, zs3, i64_w, i32_w]
               rfl
              refine pure_ (i := 10) (N := some 42) (v := ?_) (a' := ?_) #[true, true, true, true, true, true, true, true, true, true, true, false, false, false, false, false, false, false] rfl rfl (zao HT_.out (by kernel_rfl)) (fun _ _ _ h => h) (Or.inl ⟨by rfl, ?_⟩) ?_ ?_
              rotate_left
              ·
               intro w'
               go_simp
               with_reducible rfl
              rotate_left
              ·
               simp only [Act.put, zs1, zs2, zs3, i64_w, i32_w]
               rfl
              refine pure_ (i := 12) (N := some 44) (v := ?_) (a' := ?_) #[true, true, true, true, true, true, true, true, true, true, true, false, true, false, false, false, false, false] rfl rfl (zao HT_.out (by kernel_rfl)) (fun _ _ _ h => h) (Or.inl ⟨by rfl, ?_⟩) ?_ ?_
              rotate_left
              ·
               intro w'
               go_simp
               with_reducible rfl
              rotate_left
              ·
               simp only [Act.put, zs1, zs2, zs3, i64_w, i32_w]
               rfl
              refine take_ (i := 11) (N := some 43) (v := ?_) (a' := ?_) #[true, true, true, true, true, true, true, true, true, true, true, true, true, false, false, false, false, false] rfl rfl (zax HT_.out HW_.out (by kernel_rfl)) (fun _ _ _ h => h) (Or.inl ⟨by rfl, ?_⟩) hHeld ?_ ?_
              rotate_left
              ·
               rintro w' ⟨s0, s1, s2, s3, s4, s5, s6, s7, s8, s9⟩
               go_simp
               with_reducible rfl
              rotate_left
              ·
               simp only [Act.put, zs1, zs2, zs3, i64_w, i32_w]
               rfl
              refine pure_ (i := 13) (N := some 45) (v := ?_) (a' := ?_) #[true, true, true, true, true, true, true, true, true, true, true, true, true, true, false, false, false, false] rfl rfl (zao HT_.out (by kernel_rfl)) (fun _ _ _ h => h) (Or.inl ⟨by rfl, ?_⟩) ?_ ?_
              rotate_left
              ·
               intro w'
               go_simp
               with_reducible rfl
              rotate_left
              ·
               simp only [Act.put, zs1, zs2, zs3, i64_w, i32_w]
               rfl
              refine pure_ (i := 14) (N := some 46) (v := ?_) (a' := ?_) #[true, true, true, true, true, true, true, true, true, true, true, true, true, true, true, false, false, false] rfl rfl (zao HT_.out (by kernel_rfl)) (fun _ _ _ h => h) (Or.inl ⟨by rfl, ?_⟩) ?_ ?_
              rotate_left
              ·
               intro w'
               go_simp
               with_reducible rfl
              rotate_left
              ·
               simp only [Act.put, zs1, zs2, zs3, i64_w, i32_w]
               rfl
              refine take_ (i := 15) (N := some 47) (v := ?_) (a' := ?_) #[true, true, true, true, true, true, true, true, true, true, true, true, true, true, true, true, false, false] rfl rfl (zax HT_.out HW_.out (by kernel_rfl)) (fun _ _ _ h => h) (Or.inl ⟨by rfl, ?_⟩) hHeld ?_ ?_
              rotate_left
              ·
               rintro w' ⟨s0, s1, s2, s3, s4, s5, s6, s7, s8, s9⟩
               go_simp
               with_reducible rfl
              rotate_left
              ·
               simp only [Act.put, zs1, zs2, zs3, i64_w, i32_w]
               rfl
              refine pure_ (i := 16) (N := some 48) (v := ?_) (a' := ?_) #[true, true, true, true, true, true, true, true, true, true, true, true, true, true, true, true, true, false] rfl rfl (zao HT_.out (by kernel_rfl)) (fun _ _ _ h => h) (Or.inl ⟨by rfl, ?_⟩) ?_ ?_
              rotate_left
              ·
               intro w'
               go_simp
               with_reducible rfl
              rotate_left
              ·
               simp only [Act.put, zs1, zs2, zs3, i64_w, i32_w]
               rfl
              refine pure_ (i := 17) (N := some 49) (v := ?_) (a' := ?_) #[true, true, true, true, true, true, true, true, true, true, true, true, true, true, true, true, true, true] rfl rfl (zao HT_.out (by kernel_rfl)) (fun _ _ _ h => h) (Or.inl ⟨by rfl, ?_⟩) ?_ ?_
              rotate_left
              ·
               intro w'
               go_simp
               with_reducible rfl
              rotate_left
              ·
               simp only [Act.put, zs1, zs2, zs3, i64_w, i32_w]
               rfl
              refine done_ (done_of HT_.out (by kernel_rfl)) ?_
              have hnb44 := NB233_234.out
              have hnc44 := NB234_233.out
              have hnb45 := NB233_235.out
              have hnc45 := NB235_233.out
              have hcz46_0 : w42.cell? ⟨gb233, 0, none⟩ = some (.int .i64 (wrap64 (x234000_1 + 1))) := (za BK233.out 0).trans rfl
              have hcz46_1 : w42.cell? ⟨gb233, 1, none⟩ = some (.slice (some ad243) x234001_3.length co43) := (za BK233.out 1).trans rfl
              have hfz46_0 := zaa BK233.out 0
              have hfz46_1 := zaa BK233.out 1
              have p245 : 0 ≤ (x29_3 : Int) := of_decide_eq_true (by first | (with_reducible assumption) | assumption)
              have q245 : x29_3 < (x234001_3.length : Int) := of_decide_eq_true (by first | (with_reducible assumption) | assumption)
              obtain ⟨ad245, e245, hx245_0, hx245_1, hx245_2, hx245_3⟩ := at_T86 (Kd.zbe HO_234001.out).2.2 x29_3 p245 q245
              obtain rfl : ad243 = ad245 := (by injection e245)
              replace p245 := eq_true p245
              replace q245 := eq_true q245
              have p40 : 0 ≤ (x29_3 : Int) := of_decide_eq_true (by first | (with_reducible assumption) | assumption)
              have q40 : (x29_3 : Int) < ((x234001_3.length : Int) : Int) := of_decide_eq_true (by first | (with_reducible assumption) | assumption)
              obtain ⟨go40, co40, eo40, gb40, gl40, cl40, HG40⟩ := Kd.R_form HO_234001.out (by omega)
              (first | cases eo40 | (injection eo40 with ea_ en_ ec_; (first | subst ea_ | (injection ea_ with ea_; subst ea_)); subst ec_; clear en_))
              have GB40 := zA gb40
              have GG40 := zA HG40
              clear gb40 gl40 HG40
              (first | simp only [add_plain] at hx243_0 | skip)
              (first | simp only [add_plain] at hx243_1 | skip)
              (first | simp only [add_plain] at hx243_2 | skip)
              (first | simp only [add_plain] at hx243_3 | skip)
              (first | simp only [add_plain] at hx244_0 | skip)
              (first | simp only [add_plain] at hx244_1 | skip)
              (first | simp only [add_plain] at hx244_2 | skip)
              (first | simp only [add_plain] at hx244_3 | skip)
              (first | simp only [add_plain] at hx245_0 | skip)
              (first | simp only [add_plain] at hx245_1 | skip)
              (first | simp only [add_plain] at hx245_2 | skip)
              (first | simp only [add_plain] at hx245_3 | skip)
              obtain ⟨ce40, hcl40, hM40, hcc40, hfr40⟩ := Kd.R_elem HO_234001.out z86 (x29_3 : Int) p40 q40
              obtain rfl := k86_openM hM40
              have hx40_0 : w42.cell? ⟨go40, (x29_3 : Int).toNat * 4, none⟩ = some (.int .i64 ((rd_T86 x234001_3 x29_3).f0)) := hcc40 0 _ rfl
              have hx40_1 : w42.cell? ⟨go40, (x29_3 : Int).toNat * 4 + 1, none⟩ = some (.int .i64 ((rd_T86 x234001_3 x29_3).f1)) := hcc40 1 _ rfl
              have hx40_2 : w42.cell? ⟨go40, (x29_3 : Int).toNat * 4 + 2, none⟩ = some (.int .i64 ((rd_T86 x234001_3 x29_3).f2)) := hcc40 2 _ rfl
              have hx40_3 : w42.cell? ⟨go40, (x29_3 : Int).toNat * 4 + 3, none⟩ = some (.int .i64 ((rd_T86 x234001_3 x29_3).f3)) := hcc40 3 _ rfl
              have hf40_0 : w42.frozen? ⟨go40, (x29_3 : Int).toNat * 4, none⟩ = false := hfr40 0
              have hf40_1 : w42.frozen? ⟨go40, (x29_3 : Int).toNat * 4 + 1, none⟩ = false := hfr40 1
              have hf40_2 : w42.frozen? ⟨go40, (x29_3 : Int).toNat * 4 + 2, none⟩ = false := hfr40 2
              have hf40_3 : w42.frozen? ⟨go40, (x29_3 : Int).toNat * 4 + 3, none⟩ = false := hfr40 3
              clear hcl40 hcc40 hfr40 hM40
              replace p40 := eq_true p40
              replace q40 := eq_true q40
              have HX47 := zA (show Kd.R k86 86 w42 w.heap.size (fun k_ => (w.heap.size ≤ k_)) (.slice (some ⟨go40, 0, none⟩) x234001_3.length co43) x234001_3 from (zR HO_234001))
              obtain ⟨ce47, hcl47, hM47, hcc47, hfr47⟩ := Kd.R_elem HX47.out z86 (x29_3 : Int) (of_decide_eq_true (by first | (with_reducible assumption) | assumption)) (by have h_ : (x29_3 : Int) < ((x234001_3.length : Int) : Int) := of_decide_eq_true (by first | (with_reducible assumption) | assumption); first | exact h_ | (have e_ := (Kd.zbe HO_234001.out).1; omega) | simpa using h_)
              obtain rfl := k86_openM hM47
              have HP47 := Kd.R_seg HX47.out (x29_3 : Int) (of_decide_eq_true (by first | (with_reducible assumption) | assumption)) (by have h_ : (x29_3 : Int) < ((x234001_3.length : Int) : Int) := of_decide_eq_true (by first | (with_reducible assumption) | assumption); first | exact h_ | (have e_ := (Kd.zbe HO_234001.out).1; omega) | simpa using h_) (seg := [.int .i64 (wrap64 (((rd_T86 x234001_3 x29_3).f1) + 1))]) (j := 1) hcl47 hcc47 (show 2 ≤ 4 from by decide) (x' := (⟨(rd_T86 x234001_3 x29_3).f0, wrap64 (((rd_T86 x234001_3 x29_3).f1) + 1), (rd_T86 x234001_3 x29_3).f2, (rd_T86 x234001_3 x29_3).f3⟩ : S86)) (k86_mkM _ _ _ (⟨(rd_T86 x234001_3 x29_3).f0, wrap64 (((rd_T86 x234001_3 x29_3).f1) + 1), (rd_T86 x234001_3 x29_3).f2, (rd_T86 x234001_3 x29_3).f3⟩ : S86) ) (fun _ hk => hk)
              have hx47_1 := hcc47 1 _ rfl
              (try simp only [show (k86).sz = 4 from rfl, Nat.mul_one, Nat.add_zero] at hx47_1)
              have hf47_1 := hfr47 1
              (try simp only [show (k86).sz = 4 from rfl, Nat.mul_one, Nat.add_zero] at hf47_1)
              clear hcl47 hcc47 hfr47 hM47
              try go_wp2_with (first | ((with_reducible refine gate_store (t := 3) (p := 58) rfl ?_); refine store_event (t := 3) (p := 58) (v := ?vo_w48) (w1 := (w42.setCell ⟨go40, (x29_3 : Int).toNat * 4 + 1, none⟩ (.int .i64 (wrap64 (((rd_T86 x234001_3 x29_3).f1) + 1))))) ?hg ?ho ?hn ?hr ?_; (case ho => rfl); (case hg => rfl); (case hn => rfl); (case hr => first | (go_simp; done) | (go_simp; rfl)); intro w48 hw; have hg : w42.grownBy w48 (some go40) := (by rw [hw]; exact HP47.2); have hp_ : Kd.R k86 86 w48 w.heap.size (fun k_ => (w.heap.size ≤ k_)) (.slice (some ⟨go40, 0, none⟩) x234001_3.length co43) y246 := (by rw [hw, Ny246.out]; exact HP47.1); clear HP47; have n0_ := zA (hp_); have n1_ := zA (Kd.za8 (v := (.slice (some ⟨go40, 0, none⟩) x234001_3.length co43)) (v1 := (.slice (some ⟨go40, 0, none⟩) x234001_3.length co43)) (ok := (fun k_ => (P0_1_ k_ ∨ w.heap.size ≤ k_) ∧ k_ ≠ gb233 ∧ k_ ≠ gb234 ∧ k_ ≠ gb235)) (by (with_reducible repeat (first | apply Kd.zb | apply Kd.zbf | apply Kd.zba)); exact Kd.za2 HO_236001.out (fun _ hk => ⟨⟨hk.1, ⟨hk.2.2.1, ⟨hk.2.2.2.1, hk.2.2.2.2⟩⟩⟩, hk.2.1⟩)) hg (.inl rfl)); have n2_ := zA (zat (g := gb233) (o := .cells #[.int .i64 (wrap64 (x234000_1 + 1)), .slice (some ⟨go40, 0, none⟩) x234001_3.length co43] 39 (0, 0)) (zK BK233) hg (Kd.R_ne HO_234001.out BK233.out (by decide))); have n3_ := zA (zat (g := gb234) (o := .cells #[.int .i64 0, .slice none 0 0] 39 (0, 0)) (zK BK234) hg (Kd.R_ne HO_234001.out BK234.out (by decide))); have n4_ := zA (zat (g := gb235) (o := .cells #[.int .i64 a0_0, u236001] 39 (0, 0)) (zK BK235) hg (Kd.R_ne HO_234001.out BK235.out (by decide))); have n5_ := zA ((by rw [hw]; exact below_set (HB.out) GB40.out : Below w.heap.size w w48)); clear HO_234001 HO_236001 BK233 BK234 BK235 HB; have HO_234001 := n0_; have HO_236001 := n1_; have BK233 := n2_; have BK234 := n3_; have BK235 := n4_; have HB := n5_; clear n0_ n1_ n2_ n3_ n4_ n5_ hg hw hp_))
              have n0_ := zA (Kd.R_drew HO_234001.out)
              have n1_ := zA (Kd.zba HO_236001.out)
              have n2_ := zA (zaf BK233.out)
              have n3_ := zA (zaf BK234.out)
              have n4_ := zA (zaf BK235.out)
              have n5_ := zA (zbd HB.out)
              clear HO_234001 HO_236001 BK233 BK234 BK235 HB
              have HO_234001 := n0_
              have HO_236001 := n1_
              have BK233 := n2_
              have BK234 := n3_
              have BK235 := n4_
              have HB := n5_
              clear n0_ n1_ n2_ n3_ n4_ n5_
              have p247 : 0 ≤ (x29_3 : Int) := of_decide_eq_true (by first | (with_reducible assumption) | assumption)
              have q247 : x29_3 < (y246.length : Int) := (by have h_ : (x29_3 : Int) < ((x234001_3.length : Int) : Int) := of_decide_eq_true (by first | (with_reducible assumption) | assumption); first | (have e_ := (Kd.zbe HO_234001.out).1; omega) | simpa only [Ny246.out, List.length_set] using h_)
              have ql247 : ((x29_3 : Int) < ((x234001_3.length : Int) : Int)) = True := eq_true (of_decide_eq_true (by first | (with_reducible assumption) | assumption))
              obtain ⟨ad247, e247, hx247_0, hx247_1, hx247_2, hx247_3⟩ := at_T86 (Kd.zbe HO_234001.out).2.2 x29_3 p247 q247
              obtain rfl : (⟨go40, 0, none⟩ : Addr) = ad247 := (by injection e247)
              (first | simp only [add_plain] at hx247_0 | simp only [add_at] at hx247_0 | simp only [Addr.add, Nat.zero_add] at hx247_0 | skip)
              (first | simp only [add_plain] at hx247_1 | simp only [add_at] at hx247_1 | simp only [Addr.add, Nat.zero_add] at hx247_1 | skip)
              (first | simp only [add_plain] at hx247_2 | simp only [add_at] at hx247_2 | simp only [Addr.add, Nat.zero_add] at hx247_2 | skip)
              (first | simp only [add_plain] at hx247_3 | simp only [add_at] at hx247_3 | simp only [Addr.add, Nat.zero_add] at hx247_3 | skip)
              replace p247 := eq_true p247
              replace q247 := eq_true q247
              have p41 : 0 ≤ (x29_3 : Int) := of_decide_eq_true (by first | (with_reducible assumption) | assumption)
              have q41 : (x29_3 : Int) < ((x234001_3.length : Int) : Int) := of_decide_eq_true (by first | (with_reducible assumption) | assumption)
              obtain ⟨ce41, hcl41, hM41, hcc41, hfr41⟩ := Kd.R_elem HO_234001.out z86 (x29_3 : Int) p41 q41
              obtain rfl := k86_openM hM41
              have hx41_0 : World.cell? _ ⟨go40, (x29_3 : Int).toNat * 4, none⟩ = some (.int .i64 ((rd_T86 y246 x29_3).f0)) := hcc41 0 _ rfl
              have hx41_1 : World.cell? _ ⟨go40, (x29_3 : Int).toNat * 4 + 1, none⟩ = some (.int .i64 ((rd_T86 y246 x29_3).f1)) := hcc41 1 _ rfl
              have hx41_2 : World.cell? _ ⟨go40, (x29_3 : Int).toNat * 4 + 2, none⟩ = some (.int .i64 ((rd_T86 y246 x29_3).f2)) := hcc41 2 _ rfl
              have hx41_3 : World.cell? _ ⟨go40, (x29_3 : Int).toNat * 4 + 3, none⟩ = some (.int .i64 ((rd_T86 y246 x29_3).f3)) := hcc41 3 _ rfl
              have hf41_0 : World.frozen? _ ⟨go40, (x29_3 : Int).toNat * 4, none⟩ = false := hfr41 0
              have hf41_1 : World.frozen? _ ⟨go40, (x29_3 : Int).toNat * 4 + 1, none⟩ = false := hfr41 1
              have hf41_2 : World.frozen? _ ⟨go40, (x29_3 : Int).toNat * 4 + 2, none⟩ = false := hfr41 2
              have hf41_3 : World.frozen? _ ⟨go40, (x29_3 : Int).toNat * 4 + 3, none⟩ = false := hfr41 3
              clear hcl41 hcc41 hfr41 hM41
              replace p41 := eq_true p41
              replace q41 := eq_true q41
              obtain ⟨ce50, hcl50, hM50, hcc50, hfr50⟩ := Kd.R_elem HO_234001.out z86 (x29_3 : Int) (of_decide_eq_true (by first | (with_reducible assumption) | assumption)) (by have h_ : (x29_3 : Int) < ((x234001_3.length : Int) : Int) := of_decide_eq_true (by first | (with_reducible assumption) | assumption); first | exact h_ | (have e_ := (Kd.zbe HO_234001.out).1; omega) | simpa using h_)
              obtain rfl := k86_openM hM50
              have HP50 := (Kd.R_seg HO_234001.out (x29_3 : Int) (of_decide_eq_true (by first | (with_reducible assumption) | assumption)) (by have h_ : (x29_3 : Int) < ((x234001_3.length : Int) : Int) := of_decide_eq_true (by first | (with_reducible assumption) | assumption); first | exact h_ | (have e_ := (Kd.zbe HO_234001.out).1; omega) | simpa using h_) (seg := [.int .i64 ((rd_T86 y246 x29_3).f3)]) (j := 2) hcl50 hcc50 (show 3 ≤ 4 from by decide) (x' := (⟨(rd_T86 y246 x29_3).f0, (rd_T86 y246 x29_3).f1, (rd_T86 y246 x29_3).f3, (rd_T86 y246 x29_3).f3⟩ : S86)) (k86_mkM _ _ _ (⟨(rd_T86 y246 x29_3).f0, (rd_T86 y246 x29_3).f1, (rd_T86 y246 x29_3).f3, (rd_T86 y246 x29_3).f3⟩ : S86) ) (fun _ hk => hk)).1
              rw [← Ny248.out] at HP50
              have HQ50 := zA HP50
              clear hcl50 hcc50 hfr50 hM50 HP50
              refine start_ (n := 12) (S := fun w' => w'.cell? ⟨gb233, 0, none⟩ = some (.int .i64 (wrap64 (x234000_1 + 1))) ∧ w'.cell? ⟨gb233, 1, none⟩ = some (.slice (some ⟨go40, 0, none⟩) x234001_3.length co43) ∧ w'.cell? ⟨go40, (x29_3).toNat * 4, none⟩ = some (.int .i64 ((rd_T86 y246 x29_3).f0)) ∧ w'.cell? ⟨go40, (x29_3).toNat * 4 + 1, none⟩ = some (.int .i64 ((rd_T86 y246 x29_3).f1)) ∧ w'.cell? ⟨go40, (x29_3).toNat * 4 + 2, none⟩ = some (.int .i64 ((rd_T86 y246 x29_3).f2)) ∧ w'.cell? ⟨go40, (x29_3).toNat * 4 + 3, none⟩ = some (.int .i64 ((rd_T86 y246 x29_3).f3))) (ds := [11]) #[false, false, false, false, false, false, false, false, false, false, false, false] (by kernel_rfl) rfl rfl ⟨(za BK233.out 0).trans rfl, (za BK233.out 1).trans rfl, hx247_0, hx247_1, hx247_2, hx247_3⟩ (fun hHeld => ?_); refine zbp zab.tab9 zab.bits9 (fun HT_ HW_ => ?_)
              generalize w48.drew = w49 at HO_234001 HO_236001 BK233 BK234 BK235 HB HQ50 hf41_0 hf41_1 hf41_2 hf41_3 hx247_0 hx247_1 hx247_2 hx247_3 hx41_0 hx41_1 hx41_2 hx41_3 hHeld ⊢
              refine pure_ (i := 0) (N := some 59) (v := ?_) (a' := ?_) #[true, false, false, false, false, false, false, false, false, false, false, false] rfl rfl (zao HT_.out (by kernel_rfl)) (fun _ _ _ h => h) (Or.inl ⟨by rfl, ?_⟩) ?_ ?_
              rotate_left
              ·
               intro w'
               go_simp
               with_reducible rfl
              rotate_left
              ·
               simp only [Act.put, zs1, zs2, zs3, i64_w, i32_w]
               rfl
              refine pure_ (i := 2) (N := some 61) (v := ?_) (a' := ?_) #[true, false, true, false, false, false, false, false, false, false, false, false] rfl rfl (zao HT_.out (by kernel_rfl)) (fun _ _ _ h => h) (Or.inl ⟨by rfl, ?_⟩) ?_ ?_
              rotate_left
              ·
               intro w'
               go_simp
               with_reducible rfl
              rotate_left
              ·
               simp only [Act.put, zs1, zs2, zs3, i64_w, i32_w]
               rfl
              refine pure_ (i := 3) (N := some 62) (v := ?_) (a' := ?_) #[true, false, true, true, false, false, false, false, false, false, false, false] rfl rfl (zao HT_.out (by kernel_rfl)) (fun _ _ _ h => h) (Or.inl ⟨by rfl, ?_⟩) ?_ ?_
              rotate_left
              ·
               intro w'
               go_simp
               with_reducible rfl
              rotate_left
              ·
               simp only [Act.put, zs1, zs2, zs3, i64_w, i32_w]
               rfl
              refine pure_ (i := 5) (N := some 64) (v := ?_) (a' := ?_) #[true, false, true, true, false, true, false, false, false, false, false, false] rfl rfl (zao HT_.out (by kernel_rfl)) (fun _ _ _ h => h) (Or.inl ⟨by rfl, ?_⟩) ?_ ?_
              rotate_left
              ·
               intro w'
               go_simp
               with_reducible rfl
              rotate_left
              ·
               simp only [Act.put, zs1, zs2, zs3, i64_w, i32_w]
               rfl
              refine take_ (i := 1) (N := some 60) (v := ?_) (a' := ?_) #[true, true, true, true, false, true, false, false, false, false, false, false] rfl rfl (zax HT_.out HW_.out (by kernel_rfl)) (fun _ _ _ h => h) (Or.inl ⟨by rfl, ?_⟩) hHeld ?_ ?_
              rotate_left
              ·
               rintro w' ⟨s0, s1, s2, s3, s4, s5⟩
               go_simp
               with_reducible rfl
              rotate_left
              ·
               simp only [Act.put, zs1, zs2, zs3, i64_w, i32_w]
               rfl
              refine take_ (i := 4) (N := some 63) (v := ?_) (a' := ?_) #[true, true, true, true, true, true, false, false, false, false, false, false] rfl rfl (zax HT_.out HW_.out (by kernel_rfl)) (fun _ _ _ h => h) (Or.inl ⟨by rfl, ?_⟩) hHeld ?_ ?_
              rotate_left
              ·
               rintro w' ⟨s0, s1, s2, s3, s4, s5⟩
               go_simp
               with_reducible rfl
              rotate_left
              ·
               simp only [Act.put, zs1, zs2, zs3, i64_w, i32_w]
               rfl
              refine pure_ (i := 6) (N := some 65) (v := ?_) (a' := ?_) #[true, true, true, true, true, true, true, false, false, false, false, false] rfl rfl (zao HT_.out (by kernel_rfl)) (fun _ _ _ h => h) (Or.inl ⟨by rfl, ?_⟩) ?_ ?_
              rotate_left
              ·
               intro w'
               go_simp
               with_reducible rfl
              rotate_left
              ·
               simp only [Act.put, zs1, zs2, zs3, i64_w, i32_w]
               rfl
              refine pure_ (i := 7) (N := some 66) (v := ?_) (a' := ?_) #[true, true, true, true, true, true, true, true, false, false, false, false] rfl rfl (zao HT_.out (by kernel_rfl)) (fun _ _ _ h => h) (Or.inl ⟨by rfl, ?_⟩) ?_ ?_
              rotate_left
              ·
               intro w'
               go_simp
               with_reducible rfl
              rotate_left
              ·
               simp only [Act.put, zs1, zs2, zs3, i64_w, i32_w]
               rfl
              refine take_ (i := 8) (N := some 67) (v := ?_) (a' := ?_) #[true, true, true, true, true, true, true, true, true, false, false, false] rfl rfl (zax HT_.out HW_.out (by kernel_rfl)) (fun _ _ _ h => h) (Or.inl ⟨by rfl, ?_⟩) hHeld ?_ ?_
              rotate_left
              ·
               rintro w' ⟨s0, s1, s2, s3, s4, s5⟩
               go_simp
               with_reducible rfl
              rotate_left
              ·
               simp only [Act.put, zs1, zs2, zs3, i64_w, i32_w]
               rfl
              refine pure_ (i := 9) (N := some 68) (v := ?_) (a' := ?_) #[true, true, true, true, true, true, true, true, true, true, false, false] rfl rfl (zao HT_.out (by kernel_rfl)) (fun _ _ _ h => h) (Or.inl ⟨by rfl, ?_⟩) ?_ ?_
              rotate_left
              ·
               intro w'
               go_simp
               with_reducible rfl
              rotate_left
              ·
               simp only [Act.put, zs1, zs2, zs3, i64_w, i32_w]
               rfl
              refine pure_ (i := 10) (N := some 69) (v := ?_) (a' := ?_) #[true, true, true, true, true, true, true, true, true, true, true, false] rfl rfl (zao HT_.out (by kernel_rfl)) (fun _ _ _ h => h) (Or.inl ⟨by rfl, ?_⟩) ?_ ?_
              rotate_left
              ·
               intro w'
               go_simp
               with_reducible rfl
              rotate_left
              ·
               simp only [Act.put, zs1, zs2, zs3, i64_w, i32_w]
               rfl
              refine last_ (i := 11) (N := none) #[true, true, true, true, true, true, true, true, true, true, true, true] rfl rfl (one_of HT_.out (by kernel_rfl)) (by decide) (fun K hK => ?_)
              refine skip_ (w1 := ?_) (by rfl) rfl ?_ ?_
              rotate_left
              ·
               go_simp
               rfl
              refine hK.out _ _ ?_
              clear hK K
              refine done_ (done_of HT_.out (by kernel_rfl)) ?_
              try go_wp2
              go_roundg k3
              case measure => have := HK1.out; have := HJ9.out; have := HK3.out; omega
              case rel => exact ⟨(wrap64 (x29_3 + 1)), (y248), (x236001_3), (.slice (some ⟨go40, 0, none⟩) x234001_3.length co43), (u236001), (zF), H', ⟨by have := HK1.out; have := HJ9.out; have := HK3.out; omega⟩, ⟨zR HQ50⟩, ⟨by (with_reducible repeat (first | apply Kd.zb | apply Kd.zbf | apply Kd.zba)); exact Kd.za2 (Kd.V_far (p := ⟨go40, (x29_3 : Int).toNat * 4 + 2, none⟩) (Kd.za2 HO_236001.out (fun k_ hk => (⟨hk, fun e_ => hk.2 (by rw [e_]; rfl)⟩ : _ ∧ k_ ≠ go40))) (fun _ hk => hk.2) (.int .i64 ((rd_T86 y246 x29_3).f3))) (fun _ hk => ⟨hk.1.1.1, ⟨hk.1.2, ⟨hk.1.1.2.1, ⟨hk.1.1.2.2.1, hk.1.1.2.2.2⟩⟩⟩⟩)⟩, ⟨by (with_reducible repeat (first | refine zaj ?_ _ | refine zaf ?_ | refine zac ?_ _)); refine za3 ?_ (by have h_ := Kd.R_ne HO_234001.out BK233.out (by decide); intro e_; exact h_ (by rw [e_]; rfl)) _; (with_reducible repeat (first | refine zaj ?_ _ | refine zaf ?_ | refine zac ?_ _)); exact BK233.out⟩, ⟨by (with_reducible repeat (first | refine zaj ?_ _ | refine zaf ?_ | refine zac ?_ _)); refine za3 ?_ (by have h_ := Kd.R_ne HO_234001.out BK234.out (by decide); intro e_; exact h_ (by rw [e_]; rfl)) _; (with_reducible repeat (first | refine zaj ?_ _ | refine zaf ?_ | refine zac ?_ _)); exact BK234.out⟩, ⟨by (with_reducible repeat (first | refine zaj ?_ _ | refine zaf ?_ | refine zac ?_ _)); refine za3 ?_ (by have h_ := Kd.R_ne HO_234001.out BK235.out (by decide); intro e_; exact h_ (by rw [e_]; rfl)) _; (with_reducible repeat (first | refine zaj ?_ _ | refine zaf ?_ | refine zac ?_ _)); exact BK235.out⟩, ⟨zB HB⟩⟩
             ·
              rw [if_neg c39] at H
              have c39b0 : (((rd_T86 x234001_3 x29_3).f2) == 0) = false := beq_eq_false_iff_ne.mpr c39
              have c39b1 : (((rd_T86 x234001_3 x29_3).f2) != 0) = true := bne_iff_ne.mpr c39
              have H' := zA H
              clear H
              try go_wp2
              have n0_ := zA (Kd.R_drew HO_234001.out)
              have n1_ := zA (Kd.zba HO_236001.out)
              have n2_ := zA (zaf BK233.out)
              have n3_ := zA (zaf BK234.out)
              have n4_ := zA (zaf BK235.out)
              have n5_ := zA (zbd HB.out)
              clear HO_234001 HO_236001 BK233 BK234 BK235 HB
              have HO_234001 := n0_
              have HO_236001 := n1_
              have BK233 := n2_
              have BK234 := n3_
              have BK235 := n4_
              have HB := n5_
              clear n0_ n1_ n2_ n3_ n4_ n5_
              obtain ⟨Ao52, co52, eo52⟩ := Kd.zbr HO_234001.out
              (first | subst eo52 | (injection eo52 with f1_ f2_ f3_; have f4_ := f1_.symm; have f5_ := f3_.symm; clear f1_ f2_ f3_; subst f4_; subst f5_))
              have p243 : 0 ≤ (x29_3 : Int) := of_decide_eq_true (by first | (with_reducible assumption) | assumption)
              have q243 : x29_3 < (x234001_3.length : Int) := of_decide_eq_true (by first | (with_reducible assumption) | assumption)
              obtain ⟨ad243, e243, hx243_0, hx243_1, hx243_2, hx243_3⟩ := at_T86 (Kd.zbe HO_234001.out).2.2 x29_3 p243 q243
              cases e243
              replace p243 := eq_true p243
              replace q243 := eq_true q243
              have p244 : 0 ≤ (x29_3 : Int) := of_decide_eq_true (by first | (with_reducible assumption) | assumption)
              have q244 : x29_3 < (x234001_3.length : Int) := of_decide_eq_true (by first | (with_reducible assumption) | assumption)
              obtain ⟨ad244, e244, hx244_0, hx244_1, hx244_2, hx244_3⟩ := at_T86 (Kd.zbe HO_234001.out).2.2 x29_3 p244 q244
              obtain rfl : ad243 = ad244 := (by injection e244)
              replace p244 := eq_true p244
              replace q244 := eq_true q244
              refine start_ (n := 18) (S := fun w' => w'.cell? ⟨gb233, 0, none⟩ = some (.int .i64 (wrap64 (x234000_1 + 1))) ∧ w'.cell? ⟨gb233, 1, none⟩ = some (.slice (some ad243) x234001_3.length co52) ∧ w'.cell? (ad243.add ((x29_3).toNat * 4)) = some (.int .i64 ((rd_T86 x234001_3 x29_3).f0)) ∧ w'.cell? ⟨(ad243.add ((x29_3).toNat * 4)).block, (ad243.add ((x29_3).toNat * 4)).off + 1, none⟩ = some (.int .i64 ((rd_T86 x234001_3 x29_3).f1)) ∧ w'.cell? ⟨(ad243.add ((x29_3).toNat * 4)).block, (ad243.add ((x29_3).toNat * 4)).off + 2, none⟩ = some (.int .i64 ((rd_T86 x234001_3 x29_3).f2)) ∧ w'.cell? ⟨(ad243.add ((x29_3).toNat * 4)).block, (ad243.add ((x29_3).toNat * 4)).off + 3, none⟩ = some (.int .i64 ((rd_T86 x234001_3 x29_3).f3)) ∧ w'.cell? (ad243.add ((x29_3).toNat * 4)) = some (.int .i64 ((rd_T86 x234001_3 x29_3).f0)) ∧ w'.cell? ⟨(ad243.add ((x29_3).toNat * 4)).block, (ad243.add ((x29_3).toNat * 4)).off + 1, none⟩ = some (.int .i64 ((rd_T86 x234001_3 x29_3).f1)) ∧ w'.cell? ⟨(ad243.add ((x29_3).toNat * 4)).block, (ad243.add ((x29_3).toNat * 4)).off + 2, none⟩ = some (.int .i64 ((rd_T86 x234001_3 x29_3).f2)) ∧ w'.cell? ⟨(ad243.add ((x29_3).toNat * 4)).block, (ad243.add ((x29_3).toNat * 4)).off + 3, none⟩ = some (.int .i64 ((rd_T86 x234001_3 x29_3).f3))) (ds := []) #[false, false, false, false, false, false, false, false, false, false, false, false, false, false, false, false, false, false] (by kernel_rfl) rfl rfl ⟨(za BK233.out 0).trans rfl, (za BK233.out 1).trans rfl, hx243_0, hx243_1, hx243_2, hx243_3, hx244_0, hx244_1, hx244_2, hx244_3⟩ (fun hHeld => ?_); refine zbp zab.tab7 zab.bits7 (fun HT_ HW_ => ?_)
              generalize wr.drew = w51 at HO_234001 HO_236001 BK233 BK234 BK235 HB hx243_0 hx243_1 hx243_2 hx243_3 hx244_0 hx244_1 hx244_2 hx244_3 hHeld ⊢
              refine pure_ (i := 0) (N := some 32) (v := ?_) (a' := ?_) #[true, false, false, false, false, false, false, false, false, false, false, false, false, false, false, false, false, false] rfl rfl (zao HT_.out (by kernel_rfl)) (fun _ _ _ h => h) (Or.inl ⟨by rfl, ?_⟩) ?_ ?_
              rotate_left
              ·
               intro w'
               go_simp
               with_reducible rfl
              rotate_left
              ·
               simp only [Act.put, zs1, zs2, zs3, i64_w, i32_w]
               rfl
              refine pure_ (i := 2) (N := some 34) (v := ?_) (a' := ?_) #[true, false, true, false, false, false, false, false, false, false, false, false, false, false, false, false, false, false] rfl rfl (zao HT_.out (by kernel_rfl)) (fun _ _ _ h => h) (Or.inl ⟨by rfl, ?_⟩) ?_ ?_
              rotate_left
              ·
               intro w'
               go_simp
               with_reducible rfl
              rotate_left
              ·
               simp only [Act.put, zs1, zs2, zs3, i64_w, i32_w]
               rfl
              refine pure_ (i := 6) (N := some 38) (v := ?_) (a' := ?_) #[true, false, true, false, false, false, true, false, false, false, false, false, false, false, false, false, false, false] rfl rfl (zao HT_.out (by kernel_rfl)) (fun _ _ _ h => h) (Or.inl ⟨by rfl, ?_⟩) ?_ ?_
              rotate_left
              ·
               intro w'
               go_simp
               with_reducible rfl
              rotate_left
              ·
               simp only [Act.put, zs1, zs2, zs3, i64_w, i32_w]
               rfl
              refine take_ (i := 1) (N := some 33) (v := ?_) (a' := ?_) #[true, true, true, false, false, false, true, false, false, false, false, false, false, false, false, false, false, false] rfl rfl (zax HT_.out HW_.out (by kernel_rfl)) (fun _ _ _ h => h) (Or.inl ⟨by rfl, ?_⟩) hHeld ?_ ?_
              rotate_left
              ·
               rintro w' ⟨s0, s1, s2, s3, s4, s5, s6, s7, s8, s9⟩
               go_simp
               with_reducible rfl
              rotate_left
              ·
               simp only [Act.put, zs1, zs2, zs3, i64_w, i32_w]
               rfl
              refine pure_ (i := 3) (N := some 35) (v := ?_) (a' := ?_) #[true, true, true, true, false, false, true, false, false, false, false, false, false, false, false, false, false, false] rfl rfl (zao HT_.out (by kernel_rfl)) (fun _ _ _ h => h) (Or.inl ⟨by rfl, ?_⟩) ?_ ?_
              rotate_left
              ·
               intro w'
               go_simp
               with_reducible rfl
              rotate_left
              ·
               simp only [Act.put, zs1, zs2, zs3, i64_w, i32_w]
               rfl
              refine pure_ (i := 4) (N := some 36) (v := ?_) (a' := ?_) #[true, true, true, true, true, false, true, false, false, false, false, false, false, false, false, false, false, false] rfl rfl (zao HT_.out (by kernel_rfl)) (fun _ _ _ h => h) (Or.inl ⟨by rfl, ?_⟩) ?_ ?_
              rotate_left
              ·
               intro w'
               go_simp
               with_reducible rfl
              rotate_left
              ·
               simp only [Act.put, zs1, zs2, zs3, i64_w, i32_w]
               rfl
              refine take_ (i := 5) (N := some 37) (v := ?_) (a' := ?_) #[true, true, true, true, true, true, true, false, false, false, false, false, false, false, false, false, false, false] rfl rfl (zax HT_.out HW_.out (by kernel_rfl)) (fun _ _ _ h => h) (Or.inl ⟨by rfl, ?_⟩) hHeld ?_ ?_
              rotate_left
              ·
               rintro w' ⟨s0, s1, s2, s3, s4, s5, s6, s7, s8, s9⟩
               go_simp
               with_reducible rfl
              rotate_left
              ·
               simp only [Act.put, zs1, zs2, zs3, i64_w, i32_w]
               rfl
              refine take_ (i := 7) (N := some 39) (v := ?_) (a' := ?_) #[true, true, true, true, true, true, true, true, false, false, false, false, false, false, false, false, false, false] rfl rfl (zax HT_.out HW_.out (by kernel_rfl)) (fun _ _ _ h => h) (Or.inl ⟨by rfl, ?_⟩) hHeld ?_ ?_
              rotate_left
              ·
               rintro w' ⟨s0, s1, s2, s3, s4, s5, s6, s7, s8, s9⟩
               go_simp
               with_reducible rfl
              rotate_left
              ·
               simp only [Act.put, zs1, zs2, zs3, i64_w, i32_w]
               rfl
              refine pure_ (i := 8) (N := some 40) (v := ?_) (a' := ?_) #[true, true, true, true, true, true, true, true, true, false, false, false, false, false, false, false, false, false] rfl rfl (zao HT_.out (by kernel_rfl)) (fun _ _ _ h => h) (Or.inl ⟨by rfl, ?_⟩) ?_ ?_
              rotate_left
              ·
               intro w'
               go_simp
               with_reducible rfl
              rotate_left
              ·
               simp only [Act.put, zs1, zs2, zs3, i64_w, i32_w]
               rfl
              refine pure_ (i := 9) (N := some 41) (v := ?_) (a' := ?_) #[true, true, true, true, true, true, true, true, true, true, false, false, false, false, false, false, false, false] rfl rfl (zao HT_.out (by kernel_rfl)) (fun _ _ _ h => h) (Or.inl ⟨by rfl, ?_⟩) ?_ ?_
              rotate_left
              ·
               intro w'
               go_simp
               with_reducible rfl
              rotate_left
              ·
               simp only [Act.put, zs1, zs2, zs3, i64_w, i32_w]
               rfl
              refine pure_ (i := 10) (N := some 42) (v := ?_) (a' := ?_) #[true, true, true, true, true, true, true, true, true, true, true, false, false, false, false, false, false, false] rfl rfl (zao HT_.out (by kernel_rfl)) (fun _ _ _ h => h) (Or.inl ⟨by rfl, ?_⟩) ?_ ?_
              rotate_left
              ·
               intro w'
               go_simp
               with_reducible rfl
              rotate_left
              ·
               simp only [Act.put, zs1, zs2, zs3, i64_w, i32_w]
               rfl
              refine pure_ (i := 12) (N := some 44) (v := ?_) (a' := ?_) #[true, true, true, true, true, true, true, true, true, true, true, false, true, false, false, false, false, false] rfl rfl (zao HT_.out (by kernel_rfl)) (fun _ _ _ h => h) (Or.inl ⟨by rfl, ?_⟩) ?_ ?_
              rotate_left
              ·
               intro w'
               go_simp
               with_reducible rfl
              rotate_left
              ·
               simp only [Act.put, zs1, zs2, zs3, i64_w, i32_w]
               rfl
              refine take_ (i := 11) (N := some 43) (v := ?_) (a' := ?_) #[true, true, true, true, true, true, true, true, true, true, true, true, true, false, false, false, false, false] rfl rfl (zax HT_.out HW_.out (by kernel_rfl)) (fun _ _ _ h => h) (Or.inl ⟨by rfl, ?_⟩) hHeld ?_ ?_
              rotate_left
              ·
               rintro w' ⟨s0, s1, s2, s3, s4, s5, s6, s7, s8, s9⟩
               go_simp
               with_reducible rfl
              rotate_left
              ·
               simp only [Act.put, zs1, zs2, zs3, i64_w, i32_w]
               rfl
              refine pure_ (i := 13) (N := some 45) (v := ?_) (a' := ?_) #[true, true, true, true, true, true, true, true, true, true, true, true, true, true, false, false, false, false] rfl rfl (zao HT_.out (by kernel_rfl)) (fun _ _ _ h => h) (Or.inl ⟨by rfl, ?_⟩) ?_ ?_
              rotate_left
              ·
               intro w'
               go_simp
               with_reducible rfl
              rotate_left
              ·
               simp only [Act.put, zs1, zs2, zs3, i64_w, i32_w]
               rfl
              refine pure_ (i := 14) (N := some 46) (v := ?_) (a' := ?_) #[true, true, true, true, true, true, true, true, true, true, true, true, true, true, true, false, false, false] rfl rfl (zao HT_.out (by kernel_rfl)) (fun _ _ _ h => h) (Or.inl ⟨by rfl, ?_⟩) ?_ ?_
              rotate_left
              ·
               intro w'
               go_simp
               with_reducible rfl
              rotate_left
              ·
               simp only [Act.put, zs1, zs2, zs3, i64_w, i32_w]
               rfl
              refine take_ (i := 15) (N := some 47) (v := ?_) (a' := ?_) #[true, true, true, true, true, true, true, true, true, true, true, true, true, true, true, true, false, false] rfl rfl (zax HT_.out HW_.out (by kernel_rfl)) (fun _ _ _ h => h) (Or.inl ⟨by rfl, ?_⟩) hHeld ?_ ?_
              rotate_left
              ·
               rintro w' ⟨s0, s1, s2, s3, s4, s5, s6, s7, s8, s9⟩
               go_simp
               with_reducible rfl
              rotate_left
              ·
               simp only [Act.put, zs1, zs2, zs3, i64_w, i32_w]
               rfl
              refine pure_ (i := 16) (N := some 48) (v := ?_) (a' := ?_) #[true, true, true, true, true, true, true, true, true, true, true, true, true, true, true, true, true, false] rfl rfl (zao HT_.out (by kernel_rfl)) (fun _ _ _ h => h) (Or.inl ⟨by rfl, ?_⟩) ?_ ?_
              rotate_left
              ·
               intro w'
               go_simp
               with_reducible rfl
              rotate_left
              ·
               simp only [Act.put, zs1, zs2, zs3, i64_w, i32_w]
               rfl
              refine pure_ (i := 17) (N := some 49) (v := ?_) (a' := ?_) #[true, true, true, true, true, true, true, true, true, true, true, true, true, true, true, true, true, true] rfl rfl (zao HT_.out (by kernel_rfl)) (fun _ _ _ h => h) (Or.inl ⟨by rfl, ?_⟩) ?_ ?_
              rotate_left
              ·
               intro w'
               go_simp
               with_reducible rfl
              rotate_left
              ·
               simp only [Act.put, zs1, zs2, zs3, i64_w, i32_w]
               rfl
              refine done_ (done_of HT_.out (by kernel_rfl)) ?_
              try go_wp2
              go_roundg k3
              case measure => have := HK1.out; have := HJ9.out; have := HK3.out; omega
              case rel => exact ⟨(wrap64 (x29_3 + 1)), (x234001_3), (x236001_3), (.slice (some ad243) x234001_3.length co52), (u236001), (zF), H', ⟨by have := HK1.out; have := HJ9.out; have := HK3.out; omega⟩, ⟨zR HO_234001⟩, ⟨zV HO_236001⟩, ⟨zK BK233⟩, ⟨zK BK234⟩, ⟨zK BK235⟩, ⟨zB HB⟩⟩
            ·
             rw [if_neg c38] at H
             have c38b0 : (((rd_T86 x234001_3 x29_3).f1) == (wrap64 (x234000_1 + 1))) = false := beq_eq_false_iff_ne.mpr c38
             have c38b1 : (((rd_T86 x234001_3 x29_3).f1) != (wrap64 (x234000_1 + 1))) = true := bne_iff_ne.mpr c38
             have H' := zA H
             clear H
             try go_wp2
             have n0_ := zA (Kd.R_drew HO_234001.out)
             have n1_ := zA (Kd.zba HO_236001.out)
             have n2_ := zA (zaf BK233.out)
             have n3_ := zA (zaf BK234.out)
             have n4_ := zA (zaf BK235.out)
             have n5_ := zA (zbd HB.out)
             clear HO_234001 HO_236001 BK233 BK234 BK235 HB
             have HO_234001 := n0_
             have HO_236001 := n1_
             have BK233 := n2_
             have BK234 := n3_
             have BK235 := n4_
             have HB := n5_
             clear n0_ n1_ n2_ n3_ n4_ n5_
             obtain ⟨Ao54, co54, eo54⟩ := Kd.zbr HO_234001.out
             (first | subst eo54 | (injection eo54 with f1_ f2_ f3_; have f4_ := f1_.symm; have f5_ := f3_.symm; clear f1_ f2_ f3_; subst f4_; subst f5_))
             have p243 : 0 ≤ (x29_3 : Int) := of_decide_eq_true (by first | (with_reducible assumption) | assumption)
             have q243 : x29_3 < (x234001_3.length : Int) := of_decide_eq_true (by first | (with_reducible assumption) | assumption)
             obtain ⟨ad243, e243, hx243_0, hx243_1, hx243_2, hx243_3⟩ := at_T86 (Kd.zbe HO_234001.out).2.2 x29_3 p243 q243
             cases e243
             replace p243 := eq_true p243
             replace q243 := eq_true q243
             refine start_ (n := 18) (S := fun w' => w'.cell? ⟨gb233, 0, none⟩ = some (.int .i64 (wrap64 (x234000_1 + 1))) ∧ w'.cell? ⟨gb233, 1, none⟩ = some (.slice (some ad243) x234001_3.length co54) ∧ w'.cell? (ad243.add ((x29_3).toNat * 4)) = some (.int .i64 ((rd_T86 x234001_3 x29_3).f0)) ∧ w'.cell? ⟨(ad243.add ((x29_3).toNat * 4)).block, (ad243.add ((x29_3).toNat * 4)).off + 1, none⟩ = some (.int .i64 ((rd_T86 x234001_3 x29_3).f1)) ∧ w'.cell? ⟨(ad243.add ((x29_3).toNat * 4)).block, (ad243.add ((x29_3).toNat * 4)).off + 2, none⟩ = some (.int .i64 ((rd_T86 x234001_3 x29_3).f2)) ∧ w'.cell? ⟨(ad243.add ((x29_3).toNat * 4)).block, (ad243.add ((x29_3).toNat * 4)).off + 3, none⟩ = some (.int .i64 ((rd_T86 x234001_3 x29_3).f3))) (ds := []) #[false, false, false, false, false, false, false, false, false, false, false, false, false, false, false, false, false, false] (by kernel_rfl) rfl rfl ⟨(za BK233.out 0).trans rfl, (za BK233.out 1).trans rfl, hx243_0, hx243_1, hx243_2, hx243_3⟩ (fun hHeld => ?_); refine zbp zab.tab7 zab.bits7 (fun HT_ HW_ => ?_)
             generalize wr.drew = w53 at HO_234001 HO_236001 BK233 BK234 BK235 HB hx243_0 hx243_1 hx243_2 hx243_3 hHeld ⊢
             refine pure_ (i := 0) (N := some 32) (v := ?_) (a' := ?_) #[true, false, false, false, false, false, false, false, false, false, false, false, false, false, false, false, false, false] rfl rfl (zao HT_.out (by kernel_rfl)) (fun _ _ _ h => h) (Or.inl ⟨by rfl, ?_⟩) ?_ ?_
             rotate_left
             ·
              intro w'
              go_simp
              with_reducible rfl
             rotate_left
             ·
              simp only [Act.put, zs1, zs2, zs3, i64_w, i32_w]
              rfl
             refine pure_ (i := 2) (N := some 34) (v := ?_) (a' := ?_) #[true, false, true, false, false, false, false, false, false, false, false, false, false, false, false, false, false, false] rfl rfl (zao HT_.out (by kernel_rfl)) (fun _ _ _ h => h) (Or.inl ⟨by rfl, ?_⟩) ?_ ?_
             rotate_left
             ·
              intro w'
              go_simp
              with_reducible rfl
             rotate_left
             ·
              simp only [Act.put, zs1, zs2, zs3, i64_w, i32_w]
              rfl
             refine pure_ (i := 6) (N := some 38) (v := ?_) (a' := ?_) #[true, false, true, false, false, false, true, false, false, false, false, false, false, false, false, false, false, false] rfl rfl (zao HT_.out (by kernel_rfl)) (fun _ _ _ h => h) (Or.inl ⟨by rfl, ?_⟩) ?_ ?_
             rotate_left
             ·
              intro w'
              go_simp
              with_reducible rfl
             rotate_left
             ·
              simp only [Act.put, zs1, zs2, zs3, i64_w, i32_w]
              rfl
             refine take_ (i := 1) (N := some 33) (v := ?_) (a' := ?_) #[true, true, true, false, false, false, true, false, false, false, false, false, false, false, false, false, false, false] rfl rfl (zax HT_.out HW_.out (by kernel_rfl)) (fun _ _ _ h => h) (Or.inl ⟨by rfl, ?_⟩) hHeld ?_ ?_
             rotate_left
             ·
              rintro w' ⟨s0, s1, s2, s3, s4, s5⟩
              go_simp
              with_reducible rfl
             rotate_left
             ·
              simp only [Act.put, zs1, zs2, zs3, i64_w, i32_w]
              rfl
             refine pure_ (i := 3) (N := some 35) (v := ?_) (a' := ?_) #[true, true, true, true, false, false, true, false, false, false, false, false, false, false, false, false, false, false] rfl rfl (zao HT_.out (by kernel_rfl)) (fun _ _ _ h => h) (Or.inl ⟨by rfl, ?_⟩) ?_ ?_
             rotate_left
             ·
              intro w'
              go_simp
              with_reducible rfl
             rotate_left
             ·
              simp only [Act.put, zs1, zs2, zs3, i64_w, i32_w]
              rfl
             refine pure_ (i := 4) (N := some 36) (v := ?_) (a' := ?_) #[true, true, true, true, true, false, true, false, false, false, false, false, false, false, false, false, false, false] rfl rfl (zao HT_.out (by kernel_rfl)) (fun _ _ _ h => h) (Or.inl ⟨by rfl, ?_⟩) ?_ ?_
             rotate_left
             ·
              intro w'
              go_simp
              with_reducible rfl
             rotate_left
             ·
              simp only [Act.put, zs1, zs2, zs3, i64_w, i32_w]
              rfl
             refine take_ (i := 5) (N := some 37) (v := ?_) (a' := ?_) #[true, true, true, true, true, true, true, false, false, false, false, false, false, false, false, false, false, false] rfl rfl (zax HT_.out HW_.out (by kernel_rfl)) (fun _ _ _ h => h) (Or.inl ⟨by rfl, ?_⟩) hHeld ?_ ?_
             rotate_left
             ·
              rintro w' ⟨s0, s1, s2, s3, s4, s5⟩
              go_simp
              with_reducible rfl
             rotate_left
             ·
              simp only [Act.put, zs1, zs2, zs3, i64_w, i32_w]
              rfl
             refine take_ (i := 7) (N := some 39) (v := ?_) (a' := ?_) #[true, true, true, true, true, true, true, true, false, false, false, false, false, false, false, false, false, false] rfl rfl (zax HT_.out HW_.out (by kernel_rfl)) (fun _ _ _ h => h) (Or.inl ⟨by rfl, ?_⟩) hHeld ?_ ?_
             rotate_left
             ·
              rintro w' ⟨s0, s1, s2, s3, s4, s5⟩
              go_simp
              with_reducible rfl
             rotate_left
             ·
              simp only [Act.put, zs1, zs2, zs3, i64_w, i32_w]
              rfl
             refine pure_ (i := 8) (N := some 40) (v := ?_) (a' := ?_) #[true, true, true, true, true, true, true, true, true, false, false, false, false, false, false, false, false, false] rfl rfl (zao HT_.out (by kernel_rfl)) (fun _ _ _ h => h) (Or.inl ⟨by rfl, ?_⟩) ?_ ?_
             rotate_left
             ·
              intro w'
              go_simp
              with_reducible rfl
             rotate_left
             ·
              simp only [Act.put, zs1, zs2, zs3, i64_w, i32_w]
              rfl
             refine pure_ (i := 9) (N := some 41) (v := ?_) (a' := ?_) #[true, true, true, true, true, true, true, true, true, true, false, false, false, false, false, false, false, false] rfl rfl (zao HT_.out (by kernel_rfl)) (fun _ _ _ h => h) (Or.inl ⟨by rfl, ?_⟩) ?_ ?_
             rotate_left
             ·
              intro w'
              go_simp
              with_reducible rfl
             rotate_left
             ·
              simp only [Act.put, zs1, zs2, zs3, i64_w, i32_w]
              rfl
             refine pure_ (i := 10) (N := some 42) (v := undef) (a' := ?_) #[true, true, true, true, true, true, true, true, true, true, true, false, false, false, false, false, false, false] rfl rfl (zao HT_.out (by kernel_rfl)) (fun _ _ _ h => h) (Or.inr ⟨by rfl, rfl⟩) ?_ ?_
             rotate_left
             ·
              simp only [Act.put, zs1, zs2, zs3, i64_w, i32_w]
              rfl
             refine pure_ (i := 11) (N := some 43) (v := undef) (a' := ?_) #[true, true, true, true, true, true, true, true, true, true, true, true, false, false, false, false, false, false] rfl rfl (zao HT_.out (by kernel_rfl)) (fun _ _ _ h => h) (Or.inr ⟨by rfl, rfl⟩) ?_ ?_
             rotate_left
             ·
              simp only [Act.put, zs1, zs2, zs3, i64_w, i32_w]
              rfl
             refine pure_ (i := 12) (N := some 44) (v := undef) (a' := ?_) #[true, true, true, true, true, true, true, true, true, true, true, true, true, false, false, false, false, false] rfl rfl (zao HT_.out (by kernel_rfl)) (fun _ _ _ h => h) (Or.inr ⟨by rfl, rfl⟩) ?_ ?_
             rotate_left
             ·
              simp only [Act.put, zs1, zs2, zs3, i64_w, i32_w]
              rfl
             refine pure_ (i := 13) (N := some 45) (v := undef) (a' := ?_) #[true, true, true, true, true, true, true, true, true, true, true, true, true, true, false, false, false, false] rfl rfl (zao HT_.out (by kernel_rfl)) (fun _ _ _ h => h) (Or.inr ⟨by rfl, rfl⟩) ?_ ?_
             rotate_left
             ·
              simp only [Act.put, zs1, zs2, zs3, i64_w, i32_w]
              rfl
             refine pure_ (i := 14) (N := some 46) (v := undef) (a' := ?_) #[true, true, true, true, true, true, true, true, true, true, true, true, true, true, true, false, false, false] rfl rfl (zao HT_.out (by kernel_rfl)) (fun _ _ _ h => h) (Or.inr ⟨by rfl, rfl⟩) ?_ ?_
             rotate_left
             ·
              simp only [Act.put, zs1, zs2, zs3, i64_w, i32_w]
              rfl
             refine pure_ (i := 15) (N := some 47) (v := undef) (a' := ?_) #[true, true, true, true, true, true, true, true, true, true, true, true, true, true, true, true, false, false] rfl rfl (zao HT_.out (by kernel_rfl)) (fun _ _ _ h => h) (Or.inr ⟨by rfl, rfl⟩) ?_ ?_
             rotate_left
             ·
              simp only [Act.put, zs1, zs2, zs3, i64_w, i32_w]
              rfl
             refine pure_ (i := 16) (N := some 48) (v := undef) (a' := ?_) #[true, true, true, true, true, true, true, true, true, true, true, true, true, true, true, true, true, false] rfl rfl (zao HT_.out (by kernel_rfl)) (fun _ _ _ h => h) (Or.inr ⟨by rfl, rfl⟩) ?_ ?_
             rotate_left
             ·
              simp only [Act.put, zs1, zs2, zs3, i64_w, i32_w]
              rfl
             refine pure_ (i := 17) (N := some 49) (v := ?_) (a' := ?_) #[true, true, true, true, true, true, true, true, true, true, true, true, true, true, true, true, true, true] rfl rfl (zao HT_.out (by kernel_rfl)) (fun _ _ _ h => h) (Or.inl ⟨by rfl, ?_⟩) ?_ ?_
             rotate_left
             ·
              intro w'
              go_simp
              with_reducible rfl
             rotate_left
             ·
              simp only [Act.put, zs1, zs2, zs3, i64_w, i32_w]
              rfl
             refine done_ (done_of HT_.out (by kernel_rfl)) ?_
             try go_wp2
             go_roundg k3
             case measure => have := HK1.out; have := HJ9.out; have := HK3.out; omega
             case rel => exact ⟨(wrap64 (x29_3 + 1)), (x234001_3), (x236001_3), (.slice (some ad243) x234001_3.length co54), (u236001), (zF), H', ⟨by have := HK1.out; have := HJ9.out; have := HK3.out; omega⟩, ⟨zR HO_234001⟩, ⟨zV HO_236001⟩, ⟨zK BK233⟩, ⟨zK BK234⟩, ⟨zK BK235⟩, ⟨zB HB⟩⟩
           ·
            rw [if_neg c37] at H
            exact absurd H (by simp)
          ·
           rw [if_neg c36] at H
           exact absurd H (by simp)
         ·
          rw [if_neg c35] at H
          have c35b0 : decide (x29_3 < (y240.length : Int)) = false := decide_eq_false c35
          clear c35
          have H' := zA H
          clear H
          go_wp2
          go_roundg k3
          case measure => have := HK1.out; have := HJ9.out; have := HK3.out; omega
          case rel => exact ⟨((wrap64 (x234000_1 + 1))), (x234001_3), (x236001_3), (u234001), (u236001), H', ⟨by have := HK1.out; have := HJ9.out; have := HK3.out; omega⟩, ⟨Kd.za2 (Kd.R_V (by (with_reducible repeat (first | apply Kd.R_alloc | apply Kd.R_drewN | apply Kd.R_drew)); exact Kd.R_types (Kd.R_types (Kd.R_types HO_234001.out BK233.out (by decide)) BK234.out (by decide)) BK235.out (by decide))) (fun k_ hk => by first | exact ⟨(.inr (hk.1.1.1)), ⟨hk.1.1.2, ⟨hk.1.2, hk.2⟩⟩⟩ | exact ⟨(.inr (hk.1.1.1)), hk.1.1.2, hk.1.2, hk.2⟩ | exact (.inr hk.1.1.1))⟩, ⟨by (with_reducible repeat (first | apply Kd.zb | apply Kd.zbf | apply Kd.zba)); exact Kd.za2 HO_236001.out (fun _ hk => ⟨hk.1, ⟨hk.2.2.1, ⟨hk.2.2.2.1, hk.2.2.2.2⟩⟩⟩)⟩, ⟨zK BK233⟩, ⟨zK BK234⟩, ⟨zK BK235⟩, ⟨zB HB⟩⟩
      ·
       rw [if_neg c23] at H
       exact absurd H (by simp)
     ·
      replace c22 := Bool.eq_false_iff.mpr c22
      subst c22
      rw [if_neg (show ¬ (false = true) by decide)] at H
      have H' := zA H
      clear H
      have hnb55 := NB233_234.out
      have hnc55 := NB234_233.out
      have hnb56 := NB233_235.out
      have hnc56 := NB235_233.out
      have hcz57_0 : wc.cell? ⟨gb233, 0, none⟩ = some (.int .i64 x234000_1) := (za BK233.out 0).trans rfl
      have hcz57_1 : wc.cell? ⟨gb233, 1, none⟩ = some (u234001) := (za BK233.out 1).trans rfl
      have hfz57_0 := zaa BK233.out 0
      have hfz57_1 := zaa BK233.out 1
      obtain ⟨Ao58, co58, eo58⟩ := Kd.V_slice HO_234001.out
      subst eo58
      go_wp2
      go_loopg [6, 74] kj9 (fun kq v6 v74 w' => ∃ (x6_3 : List Int) (x74_3 : Int), v74 = .int .i64 x74_3 ∧ Aside0 (zab.l2 kq x6_3 (x234001_1.length : Int) x74_3 x234000_1 x234001_1 a0_0 x236001_1 = some (r1, r2, r3)) ∧ Aside0 (kq ≤ kj9) ∧ Aside0 (Kd.R (Kd.int .i64) 3 w' w.heap.size (fun k_ => (w.heap.size ≤ k_)) v6 x6_3) ∧ Aside0 (Kd.V k86 86 w' w.heap.size (fun k_ => (P0_1_ k_ ∨ w.heap.size ≤ k_) ∧ some k_ ≠ (v6 : Value).ownBlock ∧ k_ ≠ gb233 ∧ k_ ≠ gb234 ∧ k_ ≠ gb235) (.slice Ao58 x234001_1.length co58) x234001_1) ∧ Aside0 (Kd.V k86 86 w' w.heap.size (fun k_ => (P0_1_ k_ ∨ w.heap.size ≤ k_) ∧ some k_ ≠ (v6 : Value).ownBlock ∧ k_ ≠ gb233 ∧ k_ ≠ gb234 ∧ k_ ≠ gb235) u236001 x236001_1) ∧ Aside0 (w'.heap[gb233]? = some (.cells #[.int .i64 x234000_1, (.slice Ao58 x234001_1.length co58)] 39 (0, 0))) ∧ Aside0 (w'.heap[gb234]? = some (.cells #[.int .i64 0, (.slice none 0 0)] 39 (0, 0))) ∧ Aside0 (w'.heap[gb235]? = some (.cells #[.int .i64 a0_0, u236001] 39 (0, 0))) ∧ Aside0 (Below w.heap.size w w'))
      case atStart => exact ⟨(([] : List Int)), (0), (zF), H', ⟨Nat.le_refl _⟩, ⟨by first | exact Kd.R_nil _ _ _ _ _ | exact Kd.N_nil _ _ _ _ _ | exact Kd.V_nil _ _ _ _ _ | exact Kd.Q_nil _ _ _ _ _ | exact Kd.S_nil _ _ _ _ _⟩, ⟨by (with_reducible repeat (first | apply Kd.zb | apply Kd.zbf | apply Kd.zba)); exact Kd.za2 HO_234001.out (fun _ hk => ⟨hk.1, ⟨(by simp [Value.ownBlock]), ⟨hk.2.1, ⟨hk.2.2.1, hk.2.2.2⟩⟩⟩⟩)⟩, ⟨by (with_reducible repeat (first | apply Kd.zb | apply Kd.zbf | apply Kd.zba)); exact Kd.za2 HO_236001.out (fun _ hk => ⟨hk.1, ⟨(by simp [Value.ownBlock]), ⟨hk.2.1, ⟨hk.2.2.1, hk.2.2.2⟩⟩⟩⟩)⟩, ⟨zK BK233⟩, ⟨zK BK234⟩, ⟨zK BK235⟩, ⟨zB HB⟩⟩
      case round =>
       clear H'
       try clear c2
       try clear p2
       try clear q2
       try clear hx2
       try clear c3
       try clear c4
       try clear p4
       try clear q4
       try clear hx4
       try clear hf4
       try clear c5
       try clear p6
       try clear c22
       try clear c23
       try clear p24
       try clear q24
       try clear hx24
       try clear c35
       try clear c35b0
       try clear c36
       try clear c37
       try clear c38
       try clear c38b0
       try clear c38b1
       try clear c39
       try clear c39b0
       try clear c39b1
       try clear c40
       try clear p40
       try clear q40
       try clear hx40
       try clear hf40
       try clear c41
       try clear p41
       try clear q41
       try clear hx41
       try clear hf41
       try clear c44
       try clear c45
       try clear c47
       try clear hx47
       try clear hf47
       try clear c50
       try clear c55
       try clear c56
       try clear hcz46_0
       try clear hcz46_1
       try clear hcz57_0
       try clear hcz57_1
       try clear hfz46_0
       try clear hfz46_1
       try clear hfz57_0
       try clear hfz57_1
       try clear hx243_0
       try clear hx243_1
       try clear hx243_2
       try clear hx243_3
       try clear hx244_0
       try clear hx244_1
       try clear hx244_2
       try clear hx244_3
       try clear hx245_0
       try clear hx245_1
       try clear hx245_2
       try clear hx245_3
       try clear hx247_0
       try clear hx247_1
       try clear hx247_2
       try clear hx247_3
       try clear hx40_0
       try clear hx40_1
       try clear hx40_2
       try clear hx40_3
       try clear hx41_0
       try clear hx41_1
       try clear hx41_2
       try clear hx41_3
       try clear hx47_1
       try clear p243
       try clear p244
       try clear p245
       try clear p247
       try clear p40
       try clear p41
       try clear q243
       try clear q244
       try clear q245
       try clear q247
       try clear q40
       try clear q41
       obtain ⟨x6_3, x74_3, rfl, HA, HK3, HO_6, HO_234001, HO_236001, BK233, BK234, BK235, HB⟩ := hrel
       cases gk with
       | zero => exact absurd HA.out (by simp [zab.l2])
       | succ k3 =>
        have H := HA.out
        clear HA
        simp only [zab.l2] at H
        by_cases c59 : x74_3 < (x234001_1.length : Int)
        ·
         rw [if_pos c59] at H
         have c59b0 : decide (x74_3 < (x234001_1.length : Int)) = true := decide_eq_true c59
         clear c59
         by_cases c60 : 0 ≤ x74_3
         ·
          rw [if_pos c60] at H
          have c60b0 : decide (0 ≤ x74_3) = true := decide_eq_true c60
          clear c60
          by_cases c61 : x74_3 < (x236001_1.length : Int)
          ·
           rw [if_pos c61] at H
           have c61b0 : decide (x74_3 < (x236001_1.length : Int)) = true := decide_eq_true c61
           clear c61
           by_cases c62 : ((rd_T86 x236001_1 x74_3).f2) = 0
           ·
            rw [if_pos c62] at H
            have c62b0 : (((rd_T86 x236001_1 x74_3).f2) == 0) = true := beq_iff_eq.mpr c62
            have c62b1 : (((rd_T86 x236001_1 x74_3).f2) != 0) = false := bne_eq_false_iff_eq.mpr c62
            clear c62
            by_cases c63 : x74_3 < (x234001_1.length : Int)
            ·
             rw [if_pos c63] at H
             have c63b0 : decide (x74_3 < (x234001_1.length : Int)) = true := decide_eq_true c63
             clear c63
             by_cases c64 : ((rd_T86 x234001_1 x74_3).f2) > 0
             ·
              rw [if_pos c64] at H
              have c64b0 : decide (0 < ((rd_T86 x234001_1 x74_3).f2)) = true := decide_eq_true c64
              clear c64
              by_cases c65 : x6_3.length < 17592186044416
              ·
               rw [if_pos c65] at H
               have LMc65 := zA c65
               clear c65
               obtain ⟨y252, hy252⟩ : ∃ y_ : List Int, y_ = (x6_3 ++ [(rd_T86 x234001_1 x74_3).f0]) := ⟨_, rfl⟩
               replace H : (zab.l2 k3 y252 (x234001_1.length : Int) (wrap64 (x74_3 + 1)) x234000_1 x234001_1 a0_0 x236001_1) = some (r1, r2, r3) := by first | (rw [hy252]; with_reducible exact H) | (have H2_ := (Option.bind_some _ _).symm.trans H; rw [hy252]; with_reducible exact H2_) | (have H2_ := (Option.bind_some _ _).symm.trans H; with_reducible exact H2_) | with_reducible exact H | (rw [hy252]; exact H) | exact H
               have Ny252 := zA hy252
               clear hy252
               have H' := zA H
               clear H
               have hnb66 := NB235_233.out
               have hnc66 := NB233_235.out
               have hnb67 := NB235_234.out
               have hnc67 := NB234_235.out
               have hcz68_0 : wr.cell? ⟨gb235, 0, none⟩ = some (.int .i64 a0_0) := (za BK235.out 0).trans rfl
               have hcz68_1 : wr.cell? ⟨gb235, 1, none⟩ = some (u236001) := (za BK235.out 1).trans rfl
               have hfz68_0 := zaa BK235.out 0
               have hfz68_1 := zaa BK235.out 1
               obtain ⟨Ao69, co69, eo69⟩ := Kd.V_slice HO_236001.out
               subst eo69
               have p249 : 0 ≤ (x74_3 : Int) := of_decide_eq_true (by first | (with_reducible assumption) | assumption)
               have q249 : x74_3 < (x236001_1.length : Int) := of_decide_eq_true (by first | (with_reducible assumption) | assumption)
               obtain ⟨ad249, e249, hx249_0, hx249_1, hx249_2, hx249_3⟩ := at_T86 (Kd.zay HO_236001.out).2.2 x74_3 p249 q249
               cases e249
               replace p249 := eq_true p249
               replace q249 := eq_true q249
               have hnb70 := NB233_234.out
               have hnc70 := NB234_233.out
               have hcz71_0 : wr.cell? ⟨gb233, 0, none⟩ = some (.int .i64 x234000_1) := (za BK233.out 0).trans rfl
               have hcz71_1 : wr.cell? ⟨gb233, 1, none⟩ = some (.slice Ao58 x234001_1.length co58) := (za BK233.out 1).trans rfl
               have hfz71_0 := zaa BK233.out 0
               have hfz71_1 := zaa BK233.out 1
               have p250 : 0 ≤ (x74_3 : Int) := of_decide_eq_true (by first | (with_reducible assumption) | assumption)
               have q250 : x74_3 < (x234001_1.length : Int) := of_decide_eq_true (by first | (with_reducible assumption) | assumption)
               obtain ⟨ad250, e250, hx250_0, hx250_1, hx250_2, hx250_3⟩ := at_T86 (Kd.zay HO_234001.out).2.2 x74_3 p250 q250
               cases e250
               replace p250 := eq_true p250
               replace q250 := eq_true q250
               have p251 : 0 ≤ (x74_3 : Int) := of_decide_eq_true (by first | (with_reducible assumption) | assumption)
               have q251 : x74_3 < (x234001_1.length : Int) := of_decide_eq_true (by first | (with_reducible assumption) | assumption)
               obtain ⟨ad251, e251, hx251_0, hx251_1, hx251_2, hx251_3⟩ := at_T86 (Kd.zay HO_234001.out).2.2 x74_3 p251 q251
               obtain rfl : ad250 = ad251 := (by injection e251)
               replace p251 := eq_true p251
               replace q251 := eq_true q251
               go_wp2_with (first | ((with_reducible refine gate_builtin (b := .append) (xs := #[.tmp 93, .tmp 100]) rfl ?_); at_builtin; refine Kd.R_append (Kd.int .i64) (w0 := w) w.heap.size rfl (.tmp 93) (.tmp 100) 26 3 (.int .i64 0) 8 rfl Try.underlying26 info3 rfl (by decide) (by omega) u6 x6_3 ((rd_T86 x234001_1 x74_3).f0) [.int .i64 ((rd_T86 x234001_1 x74_3).f0)] (fun k_ => (w.heap.size ≤ k_)) (fun _ => False) rfl rfl ?aP (fun _ hk => hk.elim) ?aF ?aO ?aB ?aS ?aL ?_; (case aP => exact rfl); (case aB => exact (zB HB)); (case aF => exact (fun k_ hk => (Nat.le_trans (zah (zB HB)) hk))); (case aO => exact (zR HO_6)); (case aS => exact (zah (zB HB))); (case aL => have := LMc65.out; omega); intro v253 w72 ho hb hg hat; rw [← Ny252.out] at ho; have n0_ := zA (Kd.za8 (ok := (fun k_ => (P0_1_ k_ ∨ w.heap.size ≤ k_) ∧ k_ ≠ gb233 ∧ k_ ≠ gb234 ∧ k_ ≠ gb235)) (by (with_reducible repeat (first | apply Kd.zb | apply Kd.zbf | apply Kd.zba)); exact Kd.za2 HO_234001.out (fun _ hk => ⟨⟨hk.1, ⟨hk.2.2.1, ⟨hk.2.2.2.1, hk.2.2.2.2⟩⟩⟩, hk.2.1⟩)) hg hat); have n1_ := zA (Kd.za8 (ok := (fun k_ => (P0_1_ k_ ∨ w.heap.size ≤ k_) ∧ k_ ≠ gb233 ∧ k_ ≠ gb234 ∧ k_ ≠ gb235)) (by (with_reducible repeat (first | apply Kd.zb | apply Kd.zbf | apply Kd.zba)); exact Kd.za2 HO_236001.out (fun _ hk => ⟨⟨hk.1, ⟨hk.2.2.1, ⟨hk.2.2.2.1, hk.2.2.2.2⟩⟩⟩, hk.2.1⟩)) hg hat); have n2_ := zA (zat (g := gb233) (o := .cells #[.int .i64 x234000_1, .slice (some ad250) x234001_1.length co58] 39 (0, 0)) (zK BK233) hg (Kd.R_ne HO_6.out BK233.out (by decide))); have n3_ := zA (zat (g := gb234) (o := .cells #[.int .i64 0, .slice none 0 0] 39 (0, 0)) (zK BK234) hg (Kd.R_ne HO_6.out BK234.out (by decide))); have n4_ := zA (zat (g := gb235) (o := .cells #[.int .i64 a0_0, .slice (some ad249) x236001_1.length co69] 39 (0, 0)) (zK BK235) hg (Kd.R_ne HO_6.out BK235.out (by decide))); have n5_ := zA (hb); have n6_ := zA (ho); clear HO_234001 HO_236001 BK233 BK234 BK235 HB HO_6; have HO_234001 := n0_; have HO_236001 := n1_; have BK233 := n2_; have BK234 := n3_; have BK235 := n4_; have HB := n5_; have HO254 := n6_; clear n0_ n1_ n2_ n3_ n4_ n5_ n6_ ho hb hg hat))
               go_roundg k3
               case measure => have := HK1.out; have := HJ9.out; have := HK3.out; omega
               case rel => exact ⟨(y252), (wrap64 (x74_3 + 1)), (zF), H', ⟨by have := HK1.out; have := HJ9.out; have := HK3.out; omega⟩, ⟨zR HO254⟩, ⟨by (with_reducible repeat (first | apply Kd.zb | apply Kd.zbf | apply Kd.zba)); exact Kd.za2 HO_234001.out (fun _ hk => ⟨hk.1.1, ⟨hk.2, ⟨hk.1.2.1, ⟨hk.1.2.2.1, hk.1.2.2.2⟩⟩⟩⟩)⟩, ⟨by (with_reducible repeat (first | apply Kd.zb | apply Kd.zbf | apply Kd.zba)); exact Kd.za2 HO_236001.out (fun _ hk => ⟨hk.1.1, ⟨hk.2, ⟨hk.1.2.1, ⟨hk.1.2.2.1, hk.1.2.2.2⟩⟩⟩⟩)⟩, ⟨zK BK233⟩, ⟨zK BK234⟩, ⟨zK BK235⟩, ⟨zB HB⟩⟩
              ·
               rw [if_neg c65] at H
               exact absurd H (by simp)
             ·
              rw [if_neg c64] at H
              have c64b0 : decide (0 < ((rd_T86 x234001_1 x74_3).f2)) = false := decide_eq_false c64
              clear c64
              have H' := zA H
              clear H
              have hnb73 := NB235_233.out
              have hnc73 := NB233_235.out
              have hnb74 := NB235_234.out
              have hnc74 := NB234_235.out
              have hcz75_0 : wr.cell? ⟨gb235, 0, none⟩ = some (.int .i64 a0_0) := (za BK235.out 0).trans rfl
              have hcz75_1 : wr.cell? ⟨gb235, 1, none⟩ = some (u236001) := (za BK235.out 1).trans rfl
              have hfz75_0 := zaa BK235.out 0
              have hfz75_1 := zaa BK235.out 1
              obtain ⟨Ao76, co76, eo76⟩ := Kd.V_slice HO_236001.out
              subst eo76
              have p249 : 0 ≤ (x74_3 : Int) := of_decide_eq_true (by first | (with_reducible assumption) | assumption)
              have q249 : x74_3 < (x236001_1.length : Int) := of_decide_eq_true (by first | (with_reducible assumption) | assumption)
              obtain ⟨ad249, e249, hx249_0, hx249_1, hx249_2, hx249_3⟩ := at_T86 (Kd.zay HO_236001.out).2.2 x74_3 p249 q249
              cases e249
              replace p249 := eq_true p249
              replace q249 := eq_true q249
              have hnb77 := NB233_234.out
              have hnc77 := NB234_233.out
              have hcz78_0 : wr.cell? ⟨gb233, 0, none⟩ = some (.int .i64 x234000_1) := (za BK233.out 0).trans rfl
              have hcz78_1 : wr.cell? ⟨gb233, 1, none⟩ = some (.slice Ao58 x234001_1.length co58) := (za BK233.out 1).trans rfl
              have hfz78_0 := zaa BK233.out 0
              have hfz78_1 := zaa BK233.out 1
              have p250 : 0 ≤ (x74_3 : Int) := of_decide_eq_true (by first | (with_reducible assumption) | assumption)
              have q250 : x74_3 < (x234001_1.length : Int) := of_decide_eq_true (by first | (with_reducible assumption) | assumption)
              obtain ⟨ad250, e250, hx250_0, hx250_1, hx250_2, hx250_3⟩ := at_T86 (Kd.zay HO_234001.out).2.2 x74_3 p250 q250
              cases e250
              replace p250 := eq_true p250
              replace q250 := eq_true q250
              go_wp2
              go_roundg k3
              case measure => have := HK1.out; have := HJ9.out; have := HK3.out; omega
              case rel => exact ⟨(x6_3), (wrap64 (x74_3 + 1)), (zF), H', ⟨by have := HK1.out; have := HJ9.out; have := HK3.out; omega⟩, ⟨zR HO_6⟩, ⟨zV HO_234001⟩, ⟨zV HO_236001⟩, ⟨zK BK233⟩, ⟨zK BK234⟩, ⟨zK BK235⟩, ⟨zB HB⟩⟩
            ·
             rw [if_neg c63] at H
             exact absurd H (by simp)
           ·
            rw [if_neg c62] at H
            have c62b0 : (((rd_T86 x236001_1 x74_3).f2) == 0) = false := beq_eq_false_iff_ne.mpr c62
            have c62b1 : (((rd_T86 x236001_1 x74_3).f2) != 0) = true := bne_iff_ne.mpr c62
            have H' := zA H
            clear H
            have hnb79 := NB235_233.out
            have hnc79 := NB233_235.out
            have hnb80 := NB235_234.out
            have hnc80 := NB234_235.out
            have hcz81_0 : wr.cell? ⟨gb235, 0, none⟩ = some (.int .i64 a0_0) := (za BK235.out 0).trans rfl
            have hcz81_1 : wr.cell? ⟨gb235, 1, none⟩ = some (u236001) := (za BK235.out 1).trans rfl
            have hfz81_0 := zaa BK235.out 0
            have hfz81_1 := zaa BK235.out 1
            obtain ⟨Ao82, co82, eo82⟩ := Kd.V_slice HO_236001.out
            subst eo82
            have p249 : 0 ≤ (x74_3 : Int) := of_decide_eq_true (by first | (with_reducible assumption) | assumption)
            have q249 : x74_3 < (x236001_1.length : Int) := of_decide_eq_true (by first | (with_reducible assumption) | assumption)
            obtain ⟨ad249, e249, hx249_0, hx249_1, hx249_2, hx249_3⟩ := at_T86 (Kd.zay HO_236001.out).2.2 x74_3 p249 q249
            cases e249
            replace p249 := eq_true p249
            replace q249 := eq_true q249
            go_wp2
            go_roundg k3
            case measure => have := HK1.out; have := HJ9.out; have := HK3.out; omega
            case rel => exact ⟨(x6_3), (wrap64 (x74_3 + 1)), (zF), H', ⟨by have := HK1.out; have := HJ9.out; have := HK3.out; omega⟩, ⟨zR HO_6⟩, ⟨zV HO_234001⟩, ⟨zV HO_236001⟩, ⟨zK BK233⟩, ⟨zK BK234⟩, ⟨zK BK235⟩, ⟨zB HB⟩⟩
          ·
           rw [if_neg c61] at H
           exact absurd H (by simp)
         ·
          rw [if_neg c60] at H
          exact absurd H (by simp)
        ·
         rw [if_neg c59] at H
         have c59b0 : decide (x74_3 < (x234001_1.length : Int)) = false := decide_eq_false c59
         clear c59
         simp only [Option.some.injEq, Prod.mk.injEq] at H
         obtain ⟨rfl, rfl, rfl⟩ := H
         have hnb83 := NB233_234.out
         have hnc83 := NB234_233.out
         have hnb84 := NB233_235.out
         have hnc84 := NB235_233.out
         have hcz85_0 : wr.cell? ⟨gb233, 0, none⟩ = some (.int .i64 x234000_1) := (za BK233.out 0).trans rfl
         have hcz85_1 : wr.cell? ⟨gb233, 1, none⟩ = some (.slice Ao58 x234001_1.length co58) := (za BK233.out 1).trans rfl
         have hfz85_0 := zaa BK233.out 0
         have hfz85_1 := zaa BK233.out 1
         have hnb86 := NB234_235.out
         have hnc86 := NB235_234.out
         have hcz87_0 : wr.cell? ⟨gb234, 0, none⟩ = some (.int .i64 0) := (za BK234.out 0).trans rfl
         have hcz87_1 : wr.cell? ⟨gb234, 1, none⟩ = some (.slice none 0 0) := (za BK234.out 1).trans rfl
         have hfz87_0 := zaa BK234.out 0
         have hfz87_1 := zaa BK234.out 1
         go_wp2
         refine bodyPost_ret (za4 rfl _ _ gb234 39 #[.int .i64 x234000_1, .slice Ao58 x234001_1.length co58] (0, 0) _ rfl (by (with_reducible repeat (first | refine zaj ?_ _ | refine zaf ?_ | refine zac ?_ _)); refine zal (cs := #[.int .i64 x234000_1, .slice none 0 0]) ?_ 1 _ rfl; (with_reducible repeat (first | refine zaj ?_ _ | refine zaf ?_ | refine zac ?_ _)); refine zal (cs := #[.int .i64 0, .slice none 0 0]) ?_ 0 _ rfl; (with_reducible repeat (first | refine zaj ?_ _ | refine zaf ?_ | refine zac ?_ _)); exact BK234.out) Try.underlying39 rfl (by kernel_rfl)) rfl ?_
         exact ⟨_, _, zW, by (with_reducible repeat (first | apply Kd.zb | apply Kd.zbf | apply Kd.zba)); exact Kd.za2 (Kd.V_far (p := ⟨gb234, 1, none⟩) (Kd.V_far (p := ⟨gb234, 0, none⟩) (Kd.za2 HO_234001.out (fun k_ hk => (⟨hk, hk.2.2.2.1⟩ : _ ∧ k_ ≠ gb234))) (fun _ hk => hk.2) (.int .i64 x234000_1)) (fun _ hk => hk.2) (.slice Ao58 x234001_1.length co58)) (fun _ hk => ⟨hk.1.1, hk.1.2.1⟩), by (with_reducible repeat (first | apply Kd.R_alloc | apply Kd.R_drewN | apply Kd.R_drew)); exact Kd.zbs (Kd.R_far (p := ⟨gb234, 1, none⟩) (Kd.R_far (p := ⟨gb234, 0, none⟩) (Kd.R_types HO_6.out BK234.out (by decide)) (fun _ hk => hk.2) (.int .i64 x234000_1)) (fun _ hk => hk.2) (.slice Ao58 x234001_1.length co58)) (fun _ hk => hk.1), zB HB⟩
def zam.l0 : Nat → Int → Int → Int → Int → List (S86) → Option (Int)
 | 0, _, _, _, _, _ => none
 | k + 1, x1, x8, x9, x256000, x256001 => if x9 < x8 then (if 0 ≤ x9 then (if x9 < (x256001.length : Int) then (if ((rd_T86 x256001 x9).f0) = x1 then (some x9) else (zam.l0 k x1 x8 (wrap64 (x9 + 1)) x256000 x256001)) else (none)) else (none)) else (some (-1))
def zam.f (k : Nat) (a0_0 : Int) (l0_1 : List (S86)) (a1 : Int) : Option (Int) := zam.l0 k a1 (l0_1.length : Int) 0 a0_0 l0_1
theorem zam.calls (k : Nat) (a0_0 : Int) (A0_1 : Option Addr) (c0_1 : Nat) (l0_1 : List (S86)) (a1 : Int) (r : Int) (w : World) (hr0_1 : Kd.C k86 w A0_1 l0_1.length l0_1) (hc0_1 : l0_1.length ≤ c0_1) (h : zam.f k a0_0 l0_1 a1 = some r) :
  Calls Try.prog 28 #[.agg #[.int .i64 a0_0, .slice A0_1 l0_1.length c0_1], .int .i64 a1] w fun e w' => e = .returned (.int .i64 r) ∧ Below w.heap.size w w' := by
 have hu39 := Try.underlying39
 have HR0_1 := zA hr0_1
 have HC0_1 := zA hc0_1
 clear hr0_1 hc0_1
 have HB := zA (Below.refl w.heap.size w)
 have H : (zam.l0 k a1 (l0_1.length : Int) 0 a0_0 l0_1) = some r := h
 clear h
 have H' := zA H
 clear H
 go_enter Try.func28, Try.ntmps28
 go_wp2_with (first | ((with_reducible refine zaw (N := 2) rfl ?_); refine zar ?hg (N := 2) ?hd (cs := #[.int .i64 a0_0, .slice A0_1 l0_1.length c0_1]) (t := 39) ?hr ?_; (case hd => rfl); (case hg => rfl); (case hr => first | (go_simp; done) | (go_simp; rfl)); intro gb255 hg w3 hbox hb; have n0_ := zA (zai (zB HB) hb); have n1_ := zA (hbox); have n2_ := zA ((by rw [hg]; exact (zah (zB HB)) : w.heap.size ≤ gb255)); have n3_ := zA ((by rw [hg]; exact (zah (zB HB)) : w.heap.size ≤ gb255)); clear HB; have HB := n0_; have BK255 := n1_; have GW255 := n2_; have GE255 := n3_; clear n0_ n1_ n2_ n3_ hb hbox hg; have hcz4_0 : w3.cell? ⟨gb255, 0, none⟩ = some (.int .i64 a0_0) := (za BK255.out 0).trans rfl; have hcz4_1 : w3.cell? ⟨gb255, 1, none⟩ = some (.slice A0_1 l0_1.length c0_1) := (za BK255.out 1).trans rfl; have hfz4_0 := zaa BK255.out 0; have hfz4_1 := zaa BK255.out 1))
 go_loopg [9] k (fun kq v9 w' => ∃ (x9_1 : Int), v9 = .int .i64 x9_1 ∧ Aside0 (zam.l0 kq a1 (l0_1.length : Int) x9_1 a0_0 l0_1 = some r) ∧ Aside0 (kq ≤ k) ∧ Aside0 (w'.heap[gb255]? = some (.cells #[.int .i64 a0_0, (.slice A0_1 l0_1.length c0_1)] 39 (0, 0))) ∧ Aside0 (Below w.heap.size w w'))
 case atStart => exact ⟨(0), (zF), H', ⟨Nat.le_refl _⟩, ⟨zK BK255⟩, ⟨zB HB⟩⟩
 case round =>
  clear H'
  try clear c2
  try clear p2
  try clear hcz4_0
  try clear hcz4_1
  try clear hfz4_0
  try clear hfz4_1
  obtain ⟨x9_1, rfl, HA, HK1, BK255, HB⟩ := hrel
  cases gk with
  | zero => exact absurd HA.out (by simp [zam.l0])
  | succ k1 =>
   have H := HA.out
   clear HA
   simp only [zam.l0] at H
   by_cases c5 : x9_1 < (l0_1.length : Int)
   ·
    rw [if_pos c5] at H
    have c5b0 : decide (x9_1 < (l0_1.length : Int)) = true := decide_eq_true c5
    clear c5
    by_cases c6 : 0 ≤ x9_1
    ·
     rw [if_pos c6] at H
     have c6b0 : decide (0 ≤ x9_1) = true := decide_eq_true c6
     clear c6
     by_cases c7 : x9_1 < (l0_1.length : Int)
     ·
      rw [if_pos c7] at H
      have c7b0 : decide (x9_1 < (l0_1.length : Int)) = true := decide_eq_true c7
      clear c7
      by_cases c8 : ((rd_T86 l0_1 x9_1).f0) = a1
      ·
       rw [if_pos c8] at H
       have c8b0 : (((rd_T86 l0_1 x9_1).f0) == a1) = true := beq_iff_eq.mpr c8
       have c8b1 : (((rd_T86 l0_1 x9_1).f0) != a1) = false := bne_eq_false_iff_eq.mpr c8
       clear c8
       obtain rfl := Option.some.inj H
       have hcz9_0 : wr.cell? ⟨gb255, 0, none⟩ = some (.int .i64 a0_0) := (za BK255.out 0).trans rfl
       have hcz9_1 : wr.cell? ⟨gb255, 1, none⟩ = some (.slice A0_1 l0_1.length c0_1) := (za BK255.out 1).trans rfl
       have hfz9_0 := zaa BK255.out 0
       have hfz9_1 := zaa BK255.out 1
       have p256 : 0 ≤ (x9_1 : Int) := of_decide_eq_true (by first | (with_reducible assumption) | assumption)
       have q256 : x9_1 < (l0_1.length : Int) := of_decide_eq_true (by first | (with_reducible assumption) | assumption)
       obtain ⟨ad256, e256, hx256_0, hx256_1, hx256_2, hx256_3⟩ := at_T86 HR0_1.out x9_1 p256 q256
       cases e256
       replace hx256_0 := (HB.out.cell (World.block_lt_of_cell? w _ hx256_0)).trans hx256_0
       replace hx256_1 := (HB.out.cell (World.block_lt_of_cell? w _ hx256_1)).trans hx256_1
       replace hx256_2 := (HB.out.cell (World.block_lt_of_cell? w _ hx256_2)).trans hx256_2
       replace hx256_3 := (HB.out.cell (World.block_lt_of_cell? w _ hx256_3)).trans hx256_3
       replace p256 := eq_true p256
       replace q256 := eq_true q256
       go_wp2
       go_ret
       exact ⟨zW, zB HB⟩
      ·
       rw [if_neg c8] at H
       have c8b0 : (((rd_T86 l0_1 x9_1).f0) == a1) = false := beq_eq_false_iff_ne.mpr c8
       have c8b1 : (((rd_T86 l0_1 x9_1).f0) != a1) = true := bne_iff_ne.mpr c8
       have H' := zA H
       clear H
       have hcz10_0 : wr.cell? ⟨gb255, 0, none⟩ = some (.int .i64 a0_0) := (za BK255.out 0).trans rfl
       have hcz10_1 : wr.cell? ⟨gb255, 1, none⟩ = some (.slice A0_1 l0_1.length c0_1) := (za BK255.out 1).trans rfl
       have hfz10_0 := zaa BK255.out 0
       have hfz10_1 := zaa BK255.out 1
       have p256 : 0 ≤ (x9_1 : Int) := of_decide_eq_true (by first | (with_reducible assumption) | assumption)
       have q256 : x9_1 < (l0_1.length : Int) := of_decide_eq_true (by first | (with_reducible assumption) | assumption)
       obtain ⟨ad256, e256, hx256_0, hx256_1, hx256_2, hx256_3⟩ := at_T86 HR0_1.out x9_1 p256 q256
       cases e256
       replace hx256_0 := (HB.out.cell (World.block_lt_of_cell? w _ hx256_0)).trans hx256_0
       replace hx256_1 := (HB.out.cell (World.block_lt_of_cell? w _ hx256_1)).trans hx256_1
       replace hx256_2 := (HB.out.cell (World.block_lt_of_cell? w _ hx256_2)).trans hx256_2
       replace hx256_3 := (HB.out.cell (World.block_lt_of_cell? w _ hx256_3)).trans hx256_3
       replace p256 := eq_true p256
       replace q256 := eq_true q256
       go_wp2
       go_roundg k1
       case measure => have := HK1.out; omega
       case rel => exact ⟨(wrap64 (x9_1 + 1)), (zF), H', ⟨by have := HK1.out; omega⟩, ⟨zK BK255⟩, ⟨zB HB⟩⟩
     ·
      rw [if_neg c7] at H
      exact absurd H (by simp)
    ·
     rw [if_neg c6] at H
     exact absurd H (by simp)
   ·
    rw [if_neg c5] at H
    have c5b0 : decide (x9_1 < (l0_1.length : Int)) = false := decide_eq_false c5
    clear c5
    obtain rfl := Option.some.inj H
    go_wp2
    go_ret
    exact ⟨zW, zB HB⟩
end Go.Proofs.Ytbakdobjidjncaa.P
end
