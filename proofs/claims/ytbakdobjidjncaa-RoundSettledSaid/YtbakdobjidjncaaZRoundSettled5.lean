-- Written by a program of this session (wip/tools/shake.py) out of its own texts and of the kit's printed ones; not trusted: Lean checks it.
import Derived.Test.YtbakdobjidjncaaZRoundSettled4
set_option maxHeartbeats 8000000
set_option maxRecDepth 100000
set_option linter.unusedVariables false
set_option linter.unusedSimpArgs false
section
namespace Go.Proofs.Ytbakdobjidjncaa.P
open Go.RowKit Go.Proofs.YtbakdobjidjncaaW.PrintWords Go.Proofs.YtbakdobjidjncaaW.PrintLast Go.Proofs.YtbakdobjidjncaaW.PrintMore
attribute [local go_sem] zbv zbu max_two min_two zbn zbo zby zbw
def zbm.f (a0 : Int) : Option (Bool) := if a0 ≥ 1 then (some (decide (a0 ≤ 1000))) else (some false)
theorem zbm.calls (a0 : Int) (r : Bool) (w : World) (h : zbm.f a0 = some r) :
  Calls Try.prog 40 #[.int .i64 a0] w fun e w' => e = .returned (.bool r) ∧ Drawn0 w w' := by
 have H : (if a0 ≥ 1 then (some (decide (a0 ≤ 1000))) else (some false)) = some r := h
 clear h
 by_cases c2 : a0 ≥ 1
 ·
  rw [if_pos c2] at H
  have c2b0 : decide (1 ≤ a0) = true := decide_eq_true c2
  clear c2
  obtain rfl := Option.some.inj H
  go_enter Try.func40, Try.ntmps40
  go_wp2
  go_ret
  exact ⟨zF, by repeat (first | exact Drawn0.refl _ | apply Drawn0.step)⟩
 ·
  rw [if_neg c2] at H
  have c2b0 : decide (1 ≤ a0) = false := decide_eq_false c2
  clear c2
  obtain rfl := Option.some.inj H
  go_enter Try.func40, Try.ntmps40
  go_wp2
  go_ret
  exact ⟨zF, by repeat (first | exact Drawn0.refl _ | apply Drawn0.step)⟩
def zav.f (a0_0 : Int) (a0_1 : Int) (a0_2 : Int) : Option (Bool) := some (decide (a0_1 > 0))
theorem zav.calls (a0_0 : Int) (a0_1 : Int) (a0_2 : Int) (r : Bool) (w : World) (h : zav.f a0_0 a0_1 a0_2 = some r) :
  Calls Try.prog 42 #[.agg #[.int .i64 a0_0, .int .i64 a0_1, .int .i64 a0_2]] w fun e w' => e = .returned (.bool r) ∧ Below w.heap.size w w' := by
 have hu48 := Try.underlying48
 have HB := zA (Below.refl w.heap.size w)
 have H : (some (decide (a0_1 > 0))) = some r := h
 clear h
 obtain rfl := Option.some.inj H
 go_enter Try.func42, Try.ntmps42
 go_wp2_with (first | ((with_reducible refine zaw (N := 1) rfl ?_); refine zar ?hg (N := 1) ?hd (cs := #[.int .i64 a0_0, .int .i64 a0_1, .int .i64 a0_2]) (t := 48) ?hr ?_; (case hd => rfl); (case hg => rfl); (case hr => first | (go_simp; done) | (go_simp; rfl)); intro gb101 hg w2 hbox hb; have n0_ := zA (zai (zB HB) hb); have n1_ := zA (hbox); have n2_ := zA ((by rw [hg]; exact (zah (zB HB)) : w.heap.size ≤ gb101)); have n3_ := zA ((by rw [hg]; exact (zah (zB HB)) : w.heap.size ≤ gb101)); clear HB; have HB := n0_; have BK101 := n1_; have GW101 := n2_; have GE101 := n3_; clear n0_ n1_ n2_ n3_ hb hbox hg; have hcz3_0 : w2.cell? ⟨gb101, 0, none⟩ = some (.int .i64 a0_0) := (za BK101.out 0).trans rfl; have hcz3_1 : w2.cell? ⟨gb101, 1, none⟩ = some (.int .i64 a0_1) := (za BK101.out 1).trans rfl; have hcz3_2 : w2.cell? ⟨gb101, 2, none⟩ = some (.int .i64 a0_2) := (za BK101.out 2).trans rfl; have hfz3_0 := zaa BK101.out 0; have hfz3_1 := zaa BK101.out 1; have hfz3_2 := zaa BK101.out 2))
 go_ret
 exact ⟨zW, zB HB⟩
def za0.f (a0_0 : Int) (a0_1 : Int) (a0_2 : Int) : Option (Int × Int × Int) := some (wrap64 (a0_0 + 1), a0_2, a0_2)
theorem za0.calls (a0_0 : Int) (a0_1 : Int) (a0_2 : Int) (r1 : Int) (r2 : Int) (r3 : Int) (w : World) (h : za0.f a0_0 a0_1 a0_2 = some (r1, r2, r3)) :
  Calls Try.prog 43 #[.agg #[.int .i64 a0_0, .int .i64 a0_1, .int .i64 a0_2]] w fun e w' => e = .returned (.agg #[.int .i64 r1, .int .i64 r2, .int .i64 r3]) ∧ Below w.heap.size w w' := by
 have hu48 := Try.underlying48
 have HB := zA (Below.refl w.heap.size w)
 have H : (some (wrap64 (a0_0 + 1), a0_2, a0_2)) = some (r1, r2, r3) := h
 clear h
 simp only [Option.some.injEq, Prod.mk.injEq] at H
 obtain ⟨rfl, rfl, rfl⟩ := H
 go_enter Try.func43, Try.ntmps43
 go_wp2_with (first | ((with_reducible refine zaw (N := 1) rfl ?_); refine zar ?hg (N := 1) ?hd (cs := #[.int .i64 a0_0, .int .i64 a0_1, .int .i64 a0_2]) (t := 48) ?hr ?_; (case hd => rfl); (case hg => rfl); (case hr => first | (go_simp; done) | (go_simp; rfl)); intro gb102 hg w2 hbox hb; have n0_ := zA (zai (zB HB) hb); have n1_ := zA (hbox); have n2_ := zA ((by rw [hg]; exact (zah (zB HB)) : w.heap.size ≤ gb102)); have n3_ := zA ((by rw [hg]; exact (zah (zB HB)) : w.heap.size ≤ gb102)); clear HB; have HB := n0_; have BK102 := n1_; have GW102 := n2_; have GE102 := n3_; clear n0_ n1_ n2_ n3_ hb hbox hg) | ((with_reducible refine zaw (N := 2) rfl ?_); refine zar ?hg (N := 2) ?hd (cs := #[.int .i64 0, .int .i64 0, .int .i64 0]) (t := 48) ?hr ?_; (case hd => rfl); (case hg => rfl); (case hr => first | (go_simp; done) | (go_simp; rfl)); intro gb103 hg w3 hbox hb; have n0_ := zA (zan (g := gb102) (o := .cells #[.int .i64 a0_0, .int .i64 a0_1, .int .i64 a0_2] 48 (0, 0)) (zK BK102) hb); have n1_ := zA (zai (zB HB) hb); have n2_ := zA (hbox); have n3_ := zA ((by rw [hg]; exact (zah (zB HB)) : w.heap.size ≤ gb103)); have n4_ := zA ((by rw [hg]; exact (zah (zB HB)) : w.heap.size ≤ gb103)); have n5_ := zA ((by rw [hg]; exact Nat.ne_of_lt (zak (g := gb102) (o := .cells #[.int .i64 a0_0, .int .i64 a0_1, .int .i64 a0_2] 48 (0, 0)) (zK BK102)) : gb102 ≠ gb103)); have n6_ := zA ((by rw [hg]; exact Nat.ne_of_gt (zak (g := gb102) (o := .cells #[.int .i64 a0_0, .int .i64 a0_1, .int .i64 a0_2] 48 (0, 0)) (zK BK102)) : gb103 ≠ gb102)); clear BK102 HB; have BK102 := n0_; have HB := n1_; have BK103 := n2_; have GW103 := n3_; have GE103 := n4_; have NB102_103 := n5_; have NB103_102 := n6_; clear n0_ n1_ n2_ n3_ n4_ n5_ n6_ hb hbox hg; have hnb4 := NB102_103.out; have hnc4 := NB103_102.out; have hcz5_0 : w3.cell? ⟨gb102, 0, none⟩ = some (.int .i64 a0_0) := (za BK102.out 0).trans rfl; have hcz5_1 : w3.cell? ⟨gb102, 1, none⟩ = some (.int .i64 a0_1) := (za BK102.out 1).trans rfl; have hcz5_2 : w3.cell? ⟨gb102, 2, none⟩ = some (.int .i64 a0_2) := (za BK102.out 2).trans rfl; have hfz5_0 := zaa BK102.out 0; have hfz5_1 := zaa BK102.out 1; have hfz5_2 := zaa BK102.out 2; have hcz6_0 : w3.cell? ⟨gb103, 0, none⟩ = some (.int .i64 0) := (za BK103.out 0).trans rfl; have hcz6_1 : w3.cell? ⟨gb103, 1, none⟩ = some (.int .i64 0) := (za BK103.out 1).trans rfl; have hcz6_2 : w3.cell? ⟨gb103, 2, none⟩ = some (.int .i64 0) := (za BK103.out 2).trans rfl; have hfz6_0 := zaa BK103.out 0; have hfz6_1 := zaa BK103.out 1; have hfz6_2 := zaa BK103.out 2))
 refine bodyPost_ret (results_cell_row rfl _ _ gb103 48 #[.int .i64 (wrap64 (a0_0 + 1)), .int .i64 a0_2, .int .i64 a0_2] (0, 0) _ rfl (by (with_reducible repeat (first | refine zaj ?_ _ | refine zaf ?_ | refine zac ?_ _)); refine zal (cs := #[.int .i64 (wrap64 (a0_0 + 1)), .int .i64 a0_2, .int .i64 0]) ?_ 2 _ rfl; (with_reducible repeat (first | refine zaj ?_ _ | refine zaf ?_ | refine zac ?_ _)); refine zal (cs := #[.int .i64 (wrap64 (a0_0 + 1)), .int .i64 0, .int .i64 0]) ?_ 1 _ rfl; (with_reducible repeat (first | refine zaj ?_ _ | refine zaf ?_ | refine zac ?_ _)); refine zal (cs := #[.int .i64 0, .int .i64 0, .int .i64 0]) ?_ 0 _ rfl; (with_reducible repeat (first | refine zaj ?_ _ | refine zaf ?_ | refine zac ?_ _)); exact BK103.out) Try.underlying48 rfl (by kernel_rfl)) rfl ?_
 exact ⟨zW, zB HB⟩
def zbq.f (a0_0 : Int) (a0_1 : Int) (a0_2 : Int) (a1 : Int) : Option (Int × Int × Int) := if a0_0 < a1 then (some (a1, a0_2, a0_2)) else ((zav.f a0_0 (mn a0_1 a0_2) a0_2).bind fun t106 => (if t106 = true then (some (a0_0, mn a0_1 a0_2, a0_2)) else (if a0_0 = a1 then ((za0.f a0_0 (mn a0_1 a0_2) a0_2).bind fun bt107 => (some (bt107.1, bt107.2.1, bt107.2.2))) else (some (a0_0, mn a0_1 a0_2, a0_2)))))
theorem zbq.calls (a0_0 : Int) (a0_1 : Int) (a0_2 : Int) (a1 : Int) (r1 : Int) (r2 : Int) (r3 : Int) (w : World) (h : zbq.f a0_0 a0_1 a0_2 a1 = some (r1, r2, r3)) :
  Calls Try.prog 41 #[.agg #[.int .i64 a0_0, .int .i64 a0_1, .int .i64 a0_2], .int .i64 a1] w fun e w' => e = .returned (.agg #[.int .i64 r1, .int .i64 r2, .int .i64 r3]) ∧ Below w.heap.size w w' := by
 have hu48 := Try.underlying48
 have HB := zA (Below.refl w.heap.size w)
 have H : (if a0_0 < a1 then (some (a1, a0_2, a0_2)) else ((zav.f a0_0 (mn a0_1 a0_2) a0_2).bind fun t106 => (if t106 = true then (some (a0_0, mn a0_1 a0_2, a0_2)) else (if a0_0 = a1 then ((za0.f a0_0 (mn a0_1 a0_2) a0_2).bind fun bt107 => (some (bt107.1, bt107.2.1, bt107.2.2))) else (some (a0_0, mn a0_1 a0_2, a0_2)))))) = some (r1, r2, r3) := h
 clear h
 by_cases c3 : a0_0 < a1
 ·
  rw [if_pos c3] at H
  have c3b0 : decide (a0_0 < a1) = true := decide_eq_true c3
  clear c3
  simp only [Option.some.injEq, Prod.mk.injEq] at H
  obtain ⟨rfl, rfl, rfl⟩ := H
  go_enter Try.func41, Try.ntmps41
  go_wp2_with (first | ((with_reducible refine zaw (N := 2) rfl ?_); refine zar ?hg (N := 2) ?hd (cs := #[.int .i64 a0_0, .int .i64 a0_1, .int .i64 a0_2]) (t := 48) ?hr ?_; (case hd => rfl); (case hg => rfl); (case hr => first | (go_simp; done) | (go_simp; rfl)); intro gb104 hg w4 hbox hb; have n0_ := zA (zai (zB HB) hb); have n1_ := zA (hbox); have n2_ := zA ((by rw [hg]; exact (zah (zB HB)) : w.heap.size ≤ gb104)); have n3_ := zA ((by rw [hg]; exact (zah (zB HB)) : w.heap.size ≤ gb104)); clear HB; have HB := n0_; have BK104 := n1_; have GW104 := n2_; have GE104 := n3_; clear n0_ n1_ n2_ n3_ hb hbox hg) | ((with_reducible refine zaw (N := 4) rfl ?_); refine zar ?hg (N := 4) ?hd (cs := #[.int .i64 0, .int .i64 0, .int .i64 0]) (t := 48) ?hr ?_; (case hd => rfl); (case hg => rfl); (case hr => first | (go_simp; done) | (go_simp; rfl)); intro gb105 hg w5 hbox hb; have n0_ := zA (zan (g := gb104) (o := .cells #[.int .i64 a0_0, .int .i64 a0_1, .int .i64 a0_2] 48 (0, 0)) (zK BK104) hb); have n1_ := zA (zai (zB HB) hb); have n2_ := zA (hbox); have n3_ := zA ((by rw [hg]; exact (zah (zB HB)) : w.heap.size ≤ gb105)); have n4_ := zA ((by rw [hg]; exact (zah (zB HB)) : w.heap.size ≤ gb105)); have n5_ := zA ((by rw [hg]; exact Nat.ne_of_lt (zak (g := gb104) (o := .cells #[.int .i64 a0_0, .int .i64 a0_1, .int .i64 a0_2] 48 (0, 0)) (zK BK104)) : gb104 ≠ gb105)); have n6_ := zA ((by rw [hg]; exact Nat.ne_of_gt (zak (g := gb104) (o := .cells #[.int .i64 a0_0, .int .i64 a0_1, .int .i64 a0_2] 48 (0, 0)) (zK BK104)) : gb105 ≠ gb104)); clear BK104 HB; have BK104 := n0_; have HB := n1_; have BK105 := n2_; have GW105 := n3_; have GE105 := n4_; have NB104_105 := n5_; have NB105_104 := n6_; clear n0_ n1_ n2_ n3_ n4_ n5_ n6_ hb hbox hg; have hnb6 := NB104_105.out; have hnc6 := NB105_104.out; have hcz7_0 : w5.cell? ⟨gb104, 0, none⟩ = some (.int .i64 a0_0) := (za BK104.out 0).trans rfl; have hcz7_1 : w5.cell? ⟨gb104, 1, none⟩ = some (.int .i64 a0_1) := (za BK104.out 1).trans rfl; have hcz7_2 : w5.cell? ⟨gb104, 2, none⟩ = some (.int .i64 a0_2) := (za BK104.out 2).trans rfl; have hfz7_0 := zaa BK104.out 0; have hfz7_1 := zaa BK104.out 1; have hfz7_2 := zaa BK104.out 2; have hcz8_0 : w5.cell? ⟨gb105, 0, none⟩ = some (.int .i64 0) := (za BK105.out 0).trans rfl; have hcz8_1 : w5.cell? ⟨gb105, 1, none⟩ = some (.int .i64 0) := (za BK105.out 1).trans rfl; have hcz8_2 : w5.cell? ⟨gb105, 2, none⟩ = some (.int .i64 0) := (za BK105.out 2).trans rfl; have hfz8_0 := zaa BK105.out 0; have hfz8_1 := zaa BK105.out 1; have hfz8_2 := zaa BK105.out 2))
  refine bodyPost_ret (results_cell_row rfl _ _ gb105 48 #[.int .i64 a1, .int .i64 a0_2, .int .i64 a0_2] (0, 0) _ rfl (by (with_reducible repeat (first | refine zaj ?_ _ | refine zaf ?_ | refine zac ?_ _)); refine zal (cs := #[.int .i64 a1, .int .i64 a0_2, .int .i64 0]) ?_ 2 _ rfl; (with_reducible repeat (first | refine zaj ?_ _ | refine zaf ?_ | refine zac ?_ _)); refine zal (cs := #[.int .i64 a1, .int .i64 0, .int .i64 0]) ?_ 1 _ rfl; (with_reducible repeat (first | refine zaj ?_ _ | refine zaf ?_ | refine zac ?_ _)); refine zal (cs := #[.int .i64 0, .int .i64 0, .int .i64 0]) ?_ 0 _ rfl; (with_reducible repeat (first | refine zaj ?_ _ | refine zaf ?_ | refine zac ?_ _)); exact BK105.out) Try.underlying48 rfl (by kernel_rfl)) rfl ?_
  exact ⟨zW, zB HB⟩
 ·
  rw [if_neg c3] at H
  have c3b0 : decide (a0_0 < a1) = false := decide_eq_false c3
  clear c3
  obtain ⟨ji9, hji9⟩ : ∃ j_ : Int, (mn a0_1 a0_2) = j_ := ⟨_, rfl⟩
  replace H : ((zav.f a0_0 (ji9) a0_2).bind fun t106 => (if t106 = true then (some (a0_0, ji9, a0_2)) else (if a0_0 = a1 then ((za0.f a0_0 (ji9) a0_2).bind fun bt107 => (some (bt107.1, bt107.2.1, bt107.2.2))) else (some (a0_0, ji9, a0_2))))) = some (r1, r2, r3) := by first | (rw [hji9] at H; exact H) | (simp only [hji9] at H ⊢; exact H)
  have hji9_ : (if a0_2 < a0_1 then a0_2 else a0_1) = ji9 := hji9
  (try (have hji9n_ := hji9_; simp only [Int.ofNat_lt] at hji9n_))
  replace H := zO H
  obtain ⟨t106, A100, H⟩ := H
  try dsimp only at H
  have A10 := zA A100
  clear A100
  by_cases c11 : t106 = true
  ·
   subst c11
   rw [if_pos rfl] at H
   simp only [Option.some.injEq, Prod.mk.injEq] at H
   obtain ⟨rfl, rfl, rfl⟩ := H
   go_enter Try.func41, Try.ntmps41
   go_wp2_with (first | ((with_reducible refine zaw (N := 2) rfl ?_); refine zar ?hg (N := 2) ?hd (cs := #[.int .i64 a0_0, .int .i64 a0_1, .int .i64 a0_2]) (t := 48) ?hr ?_; (case hd => rfl); (case hg => rfl); (case hr => first | (go_simp; done) | (go_simp; rfl)); intro gb104 hg w12 hbox hb; have n0_ := zA (zai (zB HB) hb); have n1_ := zA (hbox); have n2_ := zA ((by rw [hg]; exact (zah (zB HB)) : w.heap.size ≤ gb104)); have n3_ := zA ((by rw [hg]; exact (zah (zB HB)) : w.heap.size ≤ gb104)); clear HB; have HB := n0_; have BK104 := n1_; have GW104 := n2_; have GE104 := n3_; clear n0_ n1_ n2_ n3_ hb hbox hg) | ((with_reducible refine zaw (N := 4) rfl ?_); refine zar ?hg (N := 4) ?hd (cs := #[.int .i64 0, .int .i64 0, .int .i64 0]) (t := 48) ?hr ?_; (case hd => rfl); (case hg => rfl); (case hr => first | (go_simp; done) | (go_simp; rfl)); intro gb105 hg w13 hbox hb; have n0_ := zA (zan (g := gb104) (o := .cells #[.int .i64 a0_0, .int .i64 a0_1, .int .i64 a0_2] 48 (0, 0)) (zK BK104) hb); have n1_ := zA (zai (zB HB) hb); have n2_ := zA (hbox); have n3_ := zA ((by rw [hg]; exact (zah (zB HB)) : w.heap.size ≤ gb105)); have n4_ := zA ((by rw [hg]; exact (zah (zB HB)) : w.heap.size ≤ gb105)); have n5_ := zA ((by rw [hg]; exact Nat.ne_of_lt (zak (g := gb104) (o := .cells #[.int .i64 a0_0, .int .i64 a0_1, .int .i64 a0_2] 48 (0, 0)) (zK BK104)) : gb104 ≠ gb105)); have n6_ := zA ((by rw [hg]; exact Nat.ne_of_gt (zak (g := gb104) (o := .cells #[.int .i64 a0_0, .int .i64 a0_1, .int .i64 a0_2] 48 (0, 0)) (zK BK104)) : gb105 ≠ gb104)); clear BK104 HB; have BK104 := n0_; have HB := n1_; have BK105 := n2_; have GW105 := n3_; have GE105 := n4_; have NB104_105 := n5_; have NB105_104 := n6_; clear n0_ n1_ n2_ n3_ n4_ n5_ n6_ hb hbox hg; have hnb14 := NB104_105.out; have hnc14 := NB105_104.out; have hcz15_0 : w13.cell? ⟨gb104, 0, none⟩ = some (.int .i64 a0_0) := (za BK104.out 0).trans rfl; have hcz15_1 : w13.cell? ⟨gb104, 1, none⟩ = some (.int .i64 a0_1) := (za BK104.out 1).trans rfl; have hcz15_2 : w13.cell? ⟨gb104, 2, none⟩ = some (.int .i64 a0_2) := (za BK104.out 2).trans rfl; have hfz15_0 := zaa BK104.out 0; have hfz15_1 := zaa BK104.out 1; have hfz15_2 := zaa BK104.out 2) | ((with_reducible refine gate_callee (f := 42) rfl ?_); refine goesL_ (some 22) rfl rfl Try.func42 (by kernel_rfl) rfl #[.agg #[.int .i64 a0_0, .int .i64 ji9, .int .i64 a0_2]] rfl (by (try simp only [List.map_toArray, List.map_cons, List.map_nil]); first | done | (simp only [hji9]; rfl) | rfl | (simp only [List.length_drop, List.length_take]; rfl) | ((simp [Act.eval, wrap64]) <;> omega) | ((simp [Act.eval, wrap64, IntKind.wrap, IntKind.bits, IntKind.signed]) <;> omega)) ?_; (with_reducible refine (zav.calls a0_0 ji9 a0_2 true _ A10.out).mono ?_); rintro e w16 ⟨rfl, hb⟩; refine ⟨_, rfl, ?_⟩; have n0_ := zA (zan (g := gb104) (o := .cells #[.int .i64 a0_0, .int .i64 ji9, .int .i64 a0_2] 48 (0, 0)) (by (with_reducible repeat (first | refine zaj ?_ _ | refine zaf ?_ | refine zac ?_ _)); refine zal (cs := #[.int .i64 a0_0, .int .i64 a0_1, .int .i64 a0_2]) ?_ 1 _ rfl; (with_reducible repeat (first | refine zaj ?_ _ | refine zaf ?_ | refine zac ?_ _)); exact BK104.out) hb); have n1_ := zA (zan (g := gb105) (o := .cells #[.int .i64 0, .int .i64 0, .int .i64 0] 48 (0, 0)) (by (with_reducible repeat (first | refine zaj ?_ _ | refine zaf ?_ | refine zac ?_ _)); refine za3 ?_ NB105_104.out _; (with_reducible repeat (first | refine zaj ?_ _ | refine zaf ?_ | refine zac ?_ _)); exact BK105.out) hb); have n2_ := zA (zai (zB HB) hb); clear BK104 BK105 HB; have BK104 := n0_; have BK105 := n1_; have HB := n2_; clear n0_ n1_ n2_; (try clear hb); (try clear hb2); (try clear hk); (try clear hi); have hcz17_0 : w16.cell? ⟨gb104, 0, none⟩ = some (.int .i64 a0_0) := (za BK104.out 0).trans rfl; have hcz17_1 : w16.cell? ⟨gb104, 1, none⟩ = some (.int .i64 ji9) := (za BK104.out 1).trans rfl; have hcz17_2 : w16.cell? ⟨gb104, 2, none⟩ = some (.int .i64 a0_2) := (za BK104.out 2).trans rfl; have hfz17_0 := zaa BK104.out 0; have hfz17_1 := zaa BK104.out 1; have hfz17_2 := zaa BK104.out 2; have hcz18_0 : w16.cell? ⟨gb105, 0, none⟩ = some (.int .i64 0) := (za BK105.out 0).trans rfl; have hcz18_1 : w16.cell? ⟨gb105, 1, none⟩ = some (.int .i64 0) := (za BK105.out 1).trans rfl; have hcz18_2 : w16.cell? ⟨gb105, 2, none⟩ = some (.int .i64 0) := (za BK105.out 2).trans rfl; have hfz18_0 := zaa BK105.out 0; have hfz18_1 := zaa BK105.out 1; have hfz18_2 := zaa BK105.out 2))
   refine bodyPost_ret (results_cell_row rfl _ _ gb105 48 #[.int .i64 a0_0, .int .i64 ji9, .int .i64 a0_2] (0, 0) _ rfl (by (with_reducible repeat (first | refine zaj ?_ _ | refine zaf ?_ | refine zac ?_ _)); refine zal (cs := #[.int .i64 a0_0, .int .i64 ji9, .int .i64 0]) ?_ 2 _ rfl; (with_reducible repeat (first | refine zaj ?_ _ | refine zaf ?_ | refine zac ?_ _)); refine zal (cs := #[.int .i64 a0_0, .int .i64 0, .int .i64 0]) ?_ 1 _ rfl; (with_reducible repeat (first | refine zaj ?_ _ | refine zaf ?_ | refine zac ?_ _)); refine zal (cs := #[.int .i64 0, .int .i64 0, .int .i64 0]) ?_ 0 _ rfl; (with_reducible repeat (first | refine zaj ?_ _ | refine zaf ?_ | refine zac ?_ _)); exact BK105.out) Try.underlying48 rfl (by kernel_rfl)) rfl ?_
   exact ⟨by first | rfl | (simp [za7, za6] <;> rfl) | (simp only [← hji9]; first | rfl | (simp [za7, za6] <;> rfl)) | (simp [*, za7, za6] <;> rfl), zB HB⟩
  ·
   replace c11 := Bool.eq_false_iff.mpr c11
   subst c11
   rw [if_neg (show ¬ (false = true) by decide)] at H
   by_cases c19 : a0_0 = a1
   ·
    rw [if_pos c19] at H
    have c19b0 : (a0_0 == a1) = true := beq_iff_eq.mpr c19
    have c19b1 : (a0_0 != a1) = false := bne_eq_false_iff_eq.mpr c19
    clear c19
    replace H := zO H
    obtain ⟨⟨t107, t108, t109⟩, A200, H⟩ := H
    try dsimp only at H
    have A20 := zA A200
    clear A200
    simp only [Option.some.injEq, Prod.mk.injEq] at H
    obtain ⟨rfl, rfl, rfl⟩ := H
    go_enter Try.func41, Try.ntmps41
    go_wp2_with (first | ((with_reducible refine zaw (N := 2) rfl ?_); refine zar ?hg (N := 2) ?hd (cs := #[.int .i64 a0_0, .int .i64 a0_1, .int .i64 a0_2]) (t := 48) ?hr ?_; (case hd => rfl); (case hg => rfl); (case hr => first | (go_simp; done) | (go_simp; rfl)); intro gb104 hg w21 hbox hb; have n0_ := zA (zai (zB HB) hb); have n1_ := zA (hbox); have n2_ := zA ((by rw [hg]; exact (zah (zB HB)) : w.heap.size ≤ gb104)); have n3_ := zA ((by rw [hg]; exact (zah (zB HB)) : w.heap.size ≤ gb104)); clear HB; have HB := n0_; have BK104 := n1_; have GW104 := n2_; have GE104 := n3_; clear n0_ n1_ n2_ n3_ hb hbox hg) | ((with_reducible refine zaw (N := 4) rfl ?_); refine zar ?hg (N := 4) ?hd (cs := #[.int .i64 0, .int .i64 0, .int .i64 0]) (t := 48) ?hr ?_; (case hd => rfl); (case hg => rfl); (case hr => first | (go_simp; done) | (go_simp; rfl)); intro gb105 hg w22 hbox hb; have n0_ := zA (zan (g := gb104) (o := .cells #[.int .i64 a0_0, .int .i64 a0_1, .int .i64 a0_2] 48 (0, 0)) (zK BK104) hb); have n1_ := zA (zai (zB HB) hb); have n2_ := zA (hbox); have n3_ := zA ((by rw [hg]; exact (zah (zB HB)) : w.heap.size ≤ gb105)); have n4_ := zA ((by rw [hg]; exact (zah (zB HB)) : w.heap.size ≤ gb105)); have n5_ := zA ((by rw [hg]; exact Nat.ne_of_lt (zak (g := gb104) (o := .cells #[.int .i64 a0_0, .int .i64 a0_1, .int .i64 a0_2] 48 (0, 0)) (zK BK104)) : gb104 ≠ gb105)); have n6_ := zA ((by rw [hg]; exact Nat.ne_of_gt (zak (g := gb104) (o := .cells #[.int .i64 a0_0, .int .i64 a0_1, .int .i64 a0_2] 48 (0, 0)) (zK BK104)) : gb105 ≠ gb104)); clear BK104 HB; have BK104 := n0_; have HB := n1_; have BK105 := n2_; have GW105 := n3_; have GE105 := n4_; have NB104_105 := n5_; have NB105_104 := n6_; clear n0_ n1_ n2_ n3_ n4_ n5_ n6_ hb hbox hg; have hnb23 := NB104_105.out; have hnc23 := NB105_104.out; have hcz24_0 : w22.cell? ⟨gb104, 0, none⟩ = some (.int .i64 a0_0) := (za BK104.out 0).trans rfl; have hcz24_1 : w22.cell? ⟨gb104, 1, none⟩ = some (.int .i64 a0_1) := (za BK104.out 1).trans rfl; have hcz24_2 : w22.cell? ⟨gb104, 2, none⟩ = some (.int .i64 a0_2) := (za BK104.out 2).trans rfl; have hfz24_0 := zaa BK104.out 0; have hfz24_1 := zaa BK104.out 1; have hfz24_2 := zaa BK104.out 2) | ((with_reducible refine gate_callee (f := 42) rfl ?_); refine goesL_ (some 22) rfl rfl Try.func42 (by kernel_rfl) rfl #[.agg #[.int .i64 a0_0, .int .i64 ji9, .int .i64 a0_2]] rfl (by (try simp only [List.map_toArray, List.map_cons, List.map_nil]); first | done | (simp only [hji9]; rfl) | rfl | (simp only [List.length_drop, List.length_take]; rfl) | ((simp [Act.eval, wrap64]) <;> omega) | ((simp [Act.eval, wrap64, IntKind.wrap, IntKind.bits, IntKind.signed]) <;> omega)) ?_; (with_reducible refine (zav.calls a0_0 ji9 a0_2 false _ A10.out).mono ?_); rintro e w25 ⟨rfl, hb⟩; refine ⟨_, rfl, ?_⟩; have n0_ := zA (zan (g := gb104) (o := .cells #[.int .i64 a0_0, .int .i64 ji9, .int .i64 a0_2] 48 (0, 0)) (by (with_reducible repeat (first | refine zaj ?_ _ | refine zaf ?_ | refine zac ?_ _)); refine zal (cs := #[.int .i64 a0_0, .int .i64 a0_1, .int .i64 a0_2]) ?_ 1 _ rfl; (with_reducible repeat (first | refine zaj ?_ _ | refine zaf ?_ | refine zac ?_ _)); exact BK104.out) hb); have n1_ := zA (zan (g := gb105) (o := .cells #[.int .i64 0, .int .i64 0, .int .i64 0] 48 (0, 0)) (by (with_reducible repeat (first | refine zaj ?_ _ | refine zaf ?_ | refine zac ?_ _)); refine za3 ?_ NB105_104.out _; (with_reducible repeat (first | refine zaj ?_ _ | refine zaf ?_ | refine zac ?_ _)); exact BK105.out) hb); have n2_ := zA (zai (zB HB) hb); clear BK104 BK105 HB; have BK104 := n0_; have BK105 := n1_; have HB := n2_; clear n0_ n1_ n2_; (try clear hb); (try clear hb2); (try clear hk); (try clear hi); have hcz26_0 : w25.cell? ⟨gb104, 0, none⟩ = some (.int .i64 a0_0) := (za BK104.out 0).trans rfl; have hcz26_1 : w25.cell? ⟨gb104, 1, none⟩ = some (.int .i64 ji9) := (za BK104.out 1).trans rfl; have hcz26_2 : w25.cell? ⟨gb104, 2, none⟩ = some (.int .i64 a0_2) := (za BK104.out 2).trans rfl; have hfz26_0 := zaa BK104.out 0; have hfz26_1 := zaa BK104.out 1; have hfz26_2 := zaa BK104.out 2) | ((with_reducible refine gate_callee (f := 43) rfl ?_); refine goesL_ (some 31) rfl rfl Try.func43 (by kernel_rfl) rfl #[.agg #[.int .i64 a0_0, .int .i64 ji9, .int .i64 a0_2]] rfl (by (try simp only [List.map_toArray, List.map_cons, List.map_nil]); first | done | (simp only [hji9]; rfl) | rfl | (simp only [List.length_drop, List.length_take]; rfl) | ((simp [Act.eval, wrap64]) <;> omega) | ((simp [Act.eval, wrap64, IntKind.wrap, IntKind.bits, IntKind.signed]) <;> omega)) ?_; (with_reducible refine (za0.calls a0_0 ji9 a0_2 t107 t108 t109 _ A20.out).mono ?_); rintro e w27 ⟨rfl, hb⟩; refine ⟨_, rfl, ?_⟩; have n0_ := zA (zan (g := gb104) (o := .cells #[.int .i64 a0_0, .int .i64 ji9, .int .i64 a0_2] 48 (0, 0)) (zK BK104) hb); have n1_ := zA (zan (g := gb105) (o := .cells #[.int .i64 0, .int .i64 0, .int .i64 0] 48 (0, 0)) (zK BK105) hb); have n2_ := zA (zai (zB HB) hb); clear BK104 BK105 HB; have BK104 := n0_; have BK105 := n1_; have HB := n2_; clear n0_ n1_ n2_; (try clear hb); (try clear hb2); (try clear hk); (try clear hi); have hcz28_0 : w27.cell? ⟨gb105, 0, none⟩ = some (.int .i64 0) := (za BK105.out 0).trans rfl; have hcz28_1 : w27.cell? ⟨gb105, 1, none⟩ = some (.int .i64 0) := (za BK105.out 1).trans rfl; have hcz28_2 : w27.cell? ⟨gb105, 2, none⟩ = some (.int .i64 0) := (za BK105.out 2).trans rfl; have hfz28_0 := zaa BK105.out 0; have hfz28_1 := zaa BK105.out 1; have hfz28_2 := zaa BK105.out 2))
    refine bodyPost_ret (results_cell_row rfl _ _ gb105 48 #[.int .i64 t107, .int .i64 t108, .int .i64 t109] (0, 0) _ rfl (by (with_reducible repeat (first | refine zaj ?_ _ | refine zaf ?_ | refine zac ?_ _)); refine zal (cs := #[.int .i64 t107, .int .i64 t108, .int .i64 0]) ?_ 2 _ rfl; (with_reducible repeat (first | refine zaj ?_ _ | refine zaf ?_ | refine zac ?_ _)); refine zal (cs := #[.int .i64 t107, .int .i64 0, .int .i64 0]) ?_ 1 _ rfl; (with_reducible repeat (first | refine zaj ?_ _ | refine zaf ?_ | refine zac ?_ _)); refine zal (cs := #[.int .i64 0, .int .i64 0, .int .i64 0]) ?_ 0 _ rfl; (with_reducible repeat (first | refine zaj ?_ _ | refine zaf ?_ | refine zac ?_ _)); exact BK105.out) Try.underlying48 rfl (by kernel_rfl)) rfl ?_
    exact ⟨by first | rfl | (simp [za7, za6] <;> rfl) | (simp only [← hji9]; first | rfl | (simp [za7, za6] <;> rfl)) | (simp [*, za7, za6] <;> rfl), zB HB⟩
   ·
    rw [if_neg c19] at H
    have c19b0 : (a0_0 == a1) = false := beq_eq_false_iff_ne.mpr c19
    have c19b1 : (a0_0 != a1) = true := bne_iff_ne.mpr c19
    simp only [Option.some.injEq, Prod.mk.injEq] at H
    obtain ⟨rfl, rfl, rfl⟩ := H
    go_enter Try.func41, Try.ntmps41
    go_wp2_with (first | ((with_reducible refine zaw (N := 2) rfl ?_); refine zar ?hg (N := 2) ?hd (cs := #[.int .i64 a0_0, .int .i64 a0_1, .int .i64 a0_2]) (t := 48) ?hr ?_; (case hd => rfl); (case hg => rfl); (case hr => first | (go_simp; done) | (go_simp; rfl)); intro gb104 hg w29 hbox hb; have n0_ := zA (zai (zB HB) hb); have n1_ := zA (hbox); have n2_ := zA ((by rw [hg]; exact (zah (zB HB)) : w.heap.size ≤ gb104)); have n3_ := zA ((by rw [hg]; exact (zah (zB HB)) : w.heap.size ≤ gb104)); clear HB; have HB := n0_; have BK104 := n1_; have GW104 := n2_; have GE104 := n3_; clear n0_ n1_ n2_ n3_ hb hbox hg) | ((with_reducible refine zaw (N := 4) rfl ?_); refine zar ?hg (N := 4) ?hd (cs := #[.int .i64 0, .int .i64 0, .int .i64 0]) (t := 48) ?hr ?_; (case hd => rfl); (case hg => rfl); (case hr => first | (go_simp; done) | (go_simp; rfl)); intro gb105 hg w30 hbox hb; have n0_ := zA (zan (g := gb104) (o := .cells #[.int .i64 a0_0, .int .i64 a0_1, .int .i64 a0_2] 48 (0, 0)) (zK BK104) hb); have n1_ := zA (zai (zB HB) hb); have n2_ := zA (hbox); have n3_ := zA ((by rw [hg]; exact (zah (zB HB)) : w.heap.size ≤ gb105)); have n4_ := zA ((by rw [hg]; exact (zah (zB HB)) : w.heap.size ≤ gb105)); have n5_ := zA ((by rw [hg]; exact Nat.ne_of_lt (zak (g := gb104) (o := .cells #[.int .i64 a0_0, .int .i64 a0_1, .int .i64 a0_2] 48 (0, 0)) (zK BK104)) : gb104 ≠ gb105)); have n6_ := zA ((by rw [hg]; exact Nat.ne_of_gt (zak (g := gb104) (o := .cells #[.int .i64 a0_0, .int .i64 a0_1, .int .i64 a0_2] 48 (0, 0)) (zK BK104)) : gb105 ≠ gb104)); clear BK104 HB; have BK104 := n0_; have HB := n1_; have BK105 := n2_; have GW105 := n3_; have GE105 := n4_; have NB104_105 := n5_; have NB105_104 := n6_; clear n0_ n1_ n2_ n3_ n4_ n5_ n6_ hb hbox hg; have hnb31 := NB104_105.out; have hnc31 := NB105_104.out; have hcz32_0 : w30.cell? ⟨gb104, 0, none⟩ = some (.int .i64 a0_0) := (za BK104.out 0).trans rfl; have hcz32_1 : w30.cell? ⟨gb104, 1, none⟩ = some (.int .i64 a0_1) := (za BK104.out 1).trans rfl; have hcz32_2 : w30.cell? ⟨gb104, 2, none⟩ = some (.int .i64 a0_2) := (za BK104.out 2).trans rfl; have hfz32_0 := zaa BK104.out 0; have hfz32_1 := zaa BK104.out 1; have hfz32_2 := zaa BK104.out 2) | ((with_reducible refine gate_callee (f := 42) rfl ?_); refine goesL_ (some 22) rfl rfl Try.func42 (by kernel_rfl) rfl #[.agg #[.int .i64 a0_0, .int .i64 ji9, .int .i64 a0_2]] rfl (by (try simp only [List.map_toArray, List.map_cons, List.map_nil]); first | done | (simp only [hji9]; rfl) | rfl | (simp only [List.length_drop, List.length_take]; rfl) | ((simp [Act.eval, wrap64]) <;> omega) | ((simp [Act.eval, wrap64, IntKind.wrap, IntKind.bits, IntKind.signed]) <;> omega)) ?_; (with_reducible refine (zav.calls a0_0 ji9 a0_2 false _ A10.out).mono ?_); rintro e w33 ⟨rfl, hb⟩; refine ⟨_, rfl, ?_⟩; have n0_ := zA (zan (g := gb104) (o := .cells #[.int .i64 a0_0, .int .i64 ji9, .int .i64 a0_2] 48 (0, 0)) (by (with_reducible repeat (first | refine zaj ?_ _ | refine zaf ?_ | refine zac ?_ _)); refine zal (cs := #[.int .i64 a0_0, .int .i64 a0_1, .int .i64 a0_2]) ?_ 1 _ rfl; (with_reducible repeat (first | refine zaj ?_ _ | refine zaf ?_ | refine zac ?_ _)); exact BK104.out) hb); have n1_ := zA (zan (g := gb105) (o := .cells #[.int .i64 0, .int .i64 0, .int .i64 0] 48 (0, 0)) (by (with_reducible repeat (first | refine zaj ?_ _ | refine zaf ?_ | refine zac ?_ _)); refine za3 ?_ NB105_104.out _; (with_reducible repeat (first | refine zaj ?_ _ | refine zaf ?_ | refine zac ?_ _)); exact BK105.out) hb); have n2_ := zA (zai (zB HB) hb); clear BK104 BK105 HB; have BK104 := n0_; have BK105 := n1_; have HB := n2_; clear n0_ n1_ n2_; (try clear hb); (try clear hb2); (try clear hk); (try clear hi); have hcz34_0 : w33.cell? ⟨gb104, 0, none⟩ = some (.int .i64 a0_0) := (za BK104.out 0).trans rfl; have hcz34_1 : w33.cell? ⟨gb104, 1, none⟩ = some (.int .i64 ji9) := (za BK104.out 1).trans rfl; have hcz34_2 : w33.cell? ⟨gb104, 2, none⟩ = some (.int .i64 a0_2) := (za BK104.out 2).trans rfl; have hfz34_0 := zaa BK104.out 0; have hfz34_1 := zaa BK104.out 1; have hfz34_2 := zaa BK104.out 2; have hcz35_0 : w33.cell? ⟨gb105, 0, none⟩ = some (.int .i64 0) := (za BK105.out 0).trans rfl; have hcz35_1 : w33.cell? ⟨gb105, 1, none⟩ = some (.int .i64 0) := (za BK105.out 1).trans rfl; have hcz35_2 : w33.cell? ⟨gb105, 2, none⟩ = some (.int .i64 0) := (za BK105.out 2).trans rfl; have hfz35_0 := zaa BK105.out 0; have hfz35_1 := zaa BK105.out 1; have hfz35_2 := zaa BK105.out 2))
    refine bodyPost_ret (results_cell_row rfl _ _ gb105 48 #[.int .i64 a0_0, .int .i64 ji9, .int .i64 a0_2] (0, 0) _ rfl (by (with_reducible repeat (first | refine zaj ?_ _ | refine zaf ?_ | refine zac ?_ _)); refine zal (cs := #[.int .i64 a0_0, .int .i64 ji9, .int .i64 0]) ?_ 2 _ rfl; (with_reducible repeat (first | refine zaj ?_ _ | refine zaf ?_ | refine zac ?_ _)); refine zal (cs := #[.int .i64 a0_0, .int .i64 0, .int .i64 0]) ?_ 1 _ rfl; (with_reducible repeat (first | refine zaj ?_ _ | refine zaf ?_ | refine zac ?_ _)); refine zal (cs := #[.int .i64 0, .int .i64 0, .int .i64 0]) ?_ 0 _ rfl; (with_reducible repeat (first | refine zaj ?_ _ | refine zaf ?_ | refine zac ?_ _)); exact BK105.out) Try.underlying48 rfl (by kernel_rfl)) rfl ?_
    exact ⟨by first | rfl | (simp [za7, za6] <;> rfl) | (simp only [← hji9]; first | rfl | (simp [za7, za6] <;> rfl)) | (simp [*, za7, za6] <;> rfl), zB HB⟩
end Go.Proofs.Ytbakdobjidjncaa.P
end
section
namespace Go.Proofs.Ytbakdobjidjncaa.P
open Go.RowKit Go.Proofs.YtbakdobjidjncaaW.PrintWords Go.Proofs.YtbakdobjidjncaaW.PrintLast Go.Proofs.YtbakdobjidjncaaW.PrintMore
attribute [local go_sem] zbv zbu max_two min_two zbn zbo zby zbw
def Ev {α : Type} (F : Nat → Option α) (r : α) : Prop := ∃ K, ∀ k, K ≤ k → F k = some r
theorem Ev.const {α : Type} (r : α) : Ev (fun _ => some r) r := ⟨0, fun _ _ => rfl⟩
theorem Ev.of {α : Type} {F : Nat → Option α} {r : α} (h : ∀ k, F k = some r) : Ev F r := ⟨0, fun k _ => h k⟩
theorem Ev.congr {α : Type} {F G : Nat → Option α} {r : α} (h : ∀ k, F k = G k) (hg : Ev G r) : Ev F r := by
 obtain ⟨K, hK⟩ := hg
 exact ⟨K, fun k hk => (h k).trans (hK k hk)⟩
theorem Ev.step {α : Type} {F G : Nat → Option α} {r : α} (h : ∀ k, F (k + 1) = G k) (hg : Ev G r) : Ev F r := by
 obtain ⟨K, hK⟩ := hg
 refine ⟨K + 1, fun k hk => ?_⟩
 obtain ⟨m, rfl⟩ : ∃ m, k = m + 1 := ⟨k - 1, by omega⟩
 exact (h m).trans (hK m (by omega))
theorem Ev.bind {α β : Type} {F : Nat → Option α} {G : Nat → α → Option β} {x : α} {r : β} (hf : Ev F x) (hg : Ev (fun k => G k x) r) : Ev (fun k => (F k).bind (G k)) r := by
 obtain ⟨K, hK⟩ := hf
 obtain ⟨L, hL⟩ := hg
 refine ⟨K + L, fun k hk => ?_⟩
 show (F k).bind (G k) = some r
 rw [hK k (by omega)]
 exact hL k (by omega)
theorem Ev.get {α : Type} {F : Nat → Option α} {r : α} (h : Ev F r) : ∃ k, F k = some r := by
 obtain ⟨K, hK⟩ := h
 exact ⟨K, hK K (Nat.le_refl _)⟩
theorem w64s {x : Int} (h0 : -9223372036854775808 ≤ x) (h1 : x < 9223372036854775808) : wrap64 x = x := by unfold wrap64; omega
def val (B : Nat) : List Int → Nat
 | [] => 0
 | x :: xs => x.toNat + B * val B xs
def Dig (B : Nat) (l : List Int) : Prop := ∀ x ∈ l, 0 ≤ x ∧ x < (B : Int)
theorem Dig.cons {B : Nat} {x : Int} {l : List Int} (h : Dig B (x :: l)) : (0 ≤ x ∧ x < (B : Int)) ∧ Dig B l := ⟨h x (by simp), fun y hy => h y (by simp [hy])⟩
theorem Dig.mk {B : Nat} {x : Int} {l : List Int} (h0 : 0 ≤ x) (h1 : x < (B : Int)) (h : Dig B l) : Dig B (x :: l) := by
 intro y hy
 rcases List.mem_cons.1 hy with rfl | hy
 ·
  exact ⟨h0, h1⟩
 ·
  exact h y hy
theorem Dig.nil (B : Nat) : Dig B [] := by intro x hx; cases hx
def V (B : Nat) (l : List Int) (i : Nat) : Nat := val B (l.drop i)
theorem V_end (B : Nat) {l : List Int} {i : Nat} (h : l.length ≤ i) : V B l i = 0 := by
 unfold V
 rw [List.drop_eq_nil_of_le h]
 rfl
theorem V_step (B : Nat) (l : List Int) (i : Nat) : V B l i = (l.getD i 0).toNat + B * V B l (i + 1) := by
 by_cases h : i < l.length
 ·
  unfold V
  rw [List.drop_eq_getElem_cons h, val, List.getD_eq_getElem?_getD, List.getElem?_eq_getElem h]
  rfl
 ·
  rw [V_end B (by omega), V_end B (by omega), List.getD_eq_getElem?_getD, List.getElem?_eq_none (by omega)]
  rfl
theorem Dig.get {B : Nat} (hB : 0 < B) {l : List Int} (h : Dig B l) (i : Nat) : 0 ≤ l.getD i 0 ∧ l.getD i 0 < (B : Int) := by
 by_cases hi : i < l.length
 ·
  rw [List.getD_eq_getElem?_getD, List.getElem?_eq_getElem hi]
  exact h _ (List.getElem_mem hi)
 ·
  rw [List.getD_eq_getElem?_getD, List.getElem?_eq_none (by omega)]
  simp
  omega
def TabAt (w : World) (b s : Nat) (l : List Int) (last : Int) : Prop :=
 b ≠ s ∧ w.heap[b]? = some (.cells #[.slice (some ⟨s, 0, none⟩) l.length l.length, .int .i64 last] 95 (0, 0)) ∧ w.heap[s]? = some (.cells (l.map (Value.int .i64)).toArray 3 (0, 0)) ∧ l.length ≤ 64
theorem TabAt.below {w w' : World} {b s n : Nat} {l : List Int} {last : Int} (h : TabAt w b s l last) (hb : Below n w w') (h1 : b < n) (h2 : s < n) : TabAt w' b s l last :=
 ⟨h.1, (hb.block b h1).trans h.2.1, (hb.block s h2).trans h.2.2.1, h.2.2.2⟩
theorem TabAt.lt {w : World} {b s : Nat} {l : List Int} {last : Int} (h : TabAt w b s l last) : b < w.heap.size ∧ s < w.heap.size := ⟨zak h.2.1, zak h.2.2.1⟩
theorem TabAt.keep {w w' : World} {b s : Nat} {l : List Int} {last : Int} (h : TabAt w b s l last) (hb : Below w.heap.size w w') : TabAt w' b s l last := h.below hb h.lt.1 h.lt.2
theorem TabAt.set {w : World} {b s : Nat} {l : List Int} {last : Int} (h : TabAt w b s l last) (i : Nat) (x : Int) : TabAt (w.setCell ⟨s, i, none⟩ (.int .i64 x)) b s (l.set i x) last := by
 refine ⟨h.1, ?_, ?_, by rw [List.length_set]; exact h.2.2.2⟩
 ·
  rw [Below.heap_setCell _ _ _ _ h.1, h.2.1, List.length_set]
 ·
  rw [blk_set h.2.2.1]
  simp [List.map_set]
theorem TabAt.facts {w : World} {b s : Nat} {l : List Int} {last : Int} (h : TabAt w b s l last) :
  w.cell? ⟨b, 0, none⟩ = some (.slice (some ⟨s, 0, none⟩) l.length l.length) ∧ w.cell? ⟨b, 1, none⟩ = some (.int .i64 last) ∧ w.frozen? ⟨b, 1, none⟩ = false ∧ ∀ i : Nat, w.frozen? ⟨s, i, none⟩ = false :=
 ⟨(za h.2.1 0).trans rfl, (za h.2.1 1).trans rfl, zaa h.2.1 1, fun i => zaa h.2.2.1 i⟩
theorem TabAt.drew {w : World} {b s : Nat} {l : List Int} {last : Int} (h : TabAt w b s l last) : TabAt w.drew b s l last := h
theorem TabAt.drawn {w w' : World} {b s : Nat} {l : List Int} {last : Int} (h : TabAt w b s l last) (hd : Drawn0 w w') : TabAt w' b s l last := h.keep hd.below
def RowC (w : World) (g : Nat) (l : List Int) : Prop := g < w.heap.size ∧ ∀ i, i < l.length → w.cell? ⟨g, i, none⟩ = some (.int .i64 (l.getD i 0)) ∧ w.frozen? ⟨g, i, none⟩ = false
def z0 : List Int → Nat → Int
 | [], _ => -1
 | x :: xs, i => if x = 0 then (i : Int) else z0 xs (i + 1)
theorem RowC.set {w : World} {g : Nat} {l : List Int} (h : RowC w g l) (i : Nat) (x : Int) (hi : i < l.length) : RowC (w.setCell ⟨g, i, none⟩ (.int .i64 x)) g (l.set i x) := by
 refine ⟨by simpa using h.1, fun j hj => ?_⟩
 rw [List.length_set] at hj
 obtain ⟨h1, h2⟩ := h.2 j hj
 rw [World.frozen?_setCell]
 refine ⟨?_, h2⟩
 by_cases e : i = j
 ·
  subst e
  rw [World.cell?_setCell_same' _ _ _ (by rw [h1]; rfl)]
  simp [hj]
 ·
  rw [World.cell?_setCell_other _ _ _ _ (fun h => e (by injection h)), h1]
  simp [e]
section
open Go.Sort
theorem below_grew {B : Nat} {w0 w : World} (h : Below B w0 w) (hB : B ≤ w.heap.size) (os : Array Obj) : Below B w0 (grow w os) :=
 ⟨h.os, h.tape, h.output, by rw [size_grow]; have := h.size; omega, fun k hk => by rw [heap_grow_old w os (by omega)]; exact h.block k hk⟩
theorem RowC.holds {w : World} {g : Nat} {l : List Int} (h : RowC w g l) : Holds (Value.int .i64) w g 0 l.toArray := by
 intro j hj
 have hj' : j < l.length := by simpa using hj
 obtain ⟨h1, h2⟩ := h.2 j hj'
 rw [Nat.zero_add]
 refine ⟨?_, h2⟩
 rw [h1]
 simp [hj']
theorem RowC.of_holds {w : World} {g : Nat} {l : List Int} (hg : g < w.heap.size) (h : Holds (Value.int .i64) w g 0 l.toArray) : RowC w g l := by
 refine ⟨hg, fun i hi => ?_⟩
 obtain ⟨h1, h2⟩ := h i (by simpa using hi)
 rw [Nat.zero_add] at h1 h2
 refine ⟨?_, h2⟩
 rw [h1]
 simp [hi]
end
end Go.Proofs.Ytbakdobjidjncaa.P
end
section
namespace Go.Proofs.Ytbakdobjidjncaa.P
open Go.RowKit Go.Proofs.YtbakdobjidjncaaW.PrintWords Go.Proofs.YtbakdobjidjncaaW.PrintLast Go.Proofs.YtbakdobjidjncaaW.PrintMore
attribute [local go_sem] zbv zbu max_two min_two zbn zbo zby zbw
theorem getD_set (l : List Int) (k : Nat) (x : Int) (j : Nat) (hk : k < l.length) : (l.set k x).getD j 0 = if j = k then x else l.getD j 0 := by
 by_cases e : j = k
 ·
  subst e
  rw [if_pos rfl]
  simp [hk]
 ·
  rw [if_neg e]
  simp [show ¬ k = j from fun h => e h.symm]
def Inv (l : List Int) (last : Int) : Prop :=
 0 ≤ last ∧ (∀ j, j < l.length → 0 ≤ l.getD j 0 ∧ l.getD j 0 ≤ last) ∧ ∀ i j, i < l.length → j < l.length → l.getD i 0 ≠ 0 → l.getD i 0 = l.getD j 0 → i = j
theorem Inv.add {l : List Int} {last : Int} (h : Inv l last) {i : Nat} (hi : i < l.length) : Inv (l.set i (last + 1)) (last + 1) := by
 obtain ⟨h0, h1, h2⟩ := h
 refine ⟨by omega, fun j hj => ?_, fun p q hp hq hz he => ?_⟩
 ·
  rw [List.length_set] at hj
  rw [getD_set _ _ _ _ hi]
  have := h1 j hj
  by_cases e : j = i
  ·
   rw [if_pos e]
   omega
  ·
   rw [if_neg e]
   omega
 ·
  rw [List.length_set] at hp hq
  rw [getD_set _ _ _ _ hi] at hz he
  rw [getD_set _ _ _ _ hi] at he
  have b1 := h1 p hp
  have b2 := h1 q hq
  by_cases e : p = i
  ·
   rw [if_pos e] at he
   by_cases e2 : q = i
   ·
    omega
   ·
    rw [if_neg e2] at he
    omega
  ·
   rw [if_neg e] at he hz
   by_cases e2 : q = i
   ·
    rw [if_pos e2] at he
    omega
   ·
    rw [if_neg e2] at he
    exact h2 p q hp hq hz he
theorem Inv.drop {l : List Int} {last : Int} (h : Inv l last) {i : Nat} (hi : i < l.length) : Inv (l.set i 0) last := by
 obtain ⟨h0, h1, h2⟩ := h
 refine ⟨h0, fun j hj => ?_, fun p q hp hq hz he => ?_⟩
 ·
  rw [List.length_set] at hj
  rw [getD_set _ _ _ _ hi]
  have := h1 j hj
  by_cases e : j = i
  ·
   rw [if_pos e]
   omega
  ·
   rw [if_neg e]
   omega
 ·
  rw [List.length_set] at hp hq
  rw [getD_set _ _ _ _ hi] at hz he
  rw [getD_set _ _ _ _ hi] at he
  by_cases e : p = i
  ·
   rw [if_pos e] at hz
   omega
  ·
   rw [if_neg e] at he hz
   by_cases e2 : q = i
   ·
    rw [if_pos e2] at he
    omega
   ·
    rw [if_neg e2] at he
    exact h2 p q hp hq hz he
def cnt (l : List Int) (i : Nat) : Nat := ((l.take i).filter fun x => !(x == 0)).length
noncomputable def mkR {α : Type} (mk : α → Value) (v : Value) : Option (DataW α × List MemPlace) :=
 open Classical in if h : ∃ a, mk a = v then some (.held h.choose, []) else none
theorem mkR_mk {α : Type} {mk : α → Value} (hi : ∀ a b, mk a = mk b → a = b) (a : α) : mkR mk (mk a) = some (.held a, []) := by
 have h : ∃ b, mk b = mk a := ⟨a, rfl⟩
 unfold mkR
 rw [dif_pos h, hi _ _ h.choose_spec]
theorem mkR_inv {α : Type} {mk : α → Value} {v : Value} {y : DataW α × List MemPlace} (h : mkR mk v = some y) : ∃ a, v = mk a ∧ y = (.held a, []) := by
 unfold mkR at h
 split at h
 ·
  rename_i hx
  cases h
  exact ⟨_, hx.choose_spec.symm, rfl⟩
 ·
  cases h
def HoldsM {α : Type} (D : DataW α) (g : Int → Option α) : Prop :=
 ∀ k, (g k = none → Maps.has D (.int .i64 k) = false) ∧ ∀ a, g k = some a → ∀ z, D.atKey (.int .i64 k) z = .held a
theorem HoldsM.has {α : Type} {D : DataW α} {g : Int → Option α} (h : HoldsM D g) (k : Int) : Maps.has D (.int .i64 k) = (g k).isSome := by
 cases hg : g k with
 | none => exact (h k).1 hg
 | some a => exact Maps.has_true_of_atKey ((h k).2 a hg)
def MapAt {α : Type} (P : Program) (kt : TypeId) (mk : α → Value) (w : World) (b n : Nat) (g : Int → Option α) : Prop :=
 ∃ D : DataW α, w.ownsMap P kt (mkR mk) b n D ∧ HoldsM D g
section
variable {α : Type} {P : Program} {kt : TypeId} {mk : α → Value} {w : World} {b n : Nat} {g : Int → Option α}
theorem MapAt.lt (h : MapAt P kt mk w b n g) : b < w.heap.size := by
 obtain ⟨D, h, _⟩ := h
 exact h.lt
theorem MapAt.kept {w' : World} {row : Option Nat} (h : MapAt P kt mk w b n g) (hg : w.grownBy w' row) (hne : some b ≠ row) : MapAt P kt mk w' b n g := by
 obtain ⟨D, h, hd⟩ := h
 exact ⟨D, h.kept hg hne, hd⟩
theorem MapAt.below {w' : World} {m : Nat} (h : MapAt P kt mk w b n g) (hb : Below m w w') (hm : b < m) : MapAt P kt mk w' b n g := by
 obtain ⟨D, ⟨es, clock, h1, h2⟩, hd⟩ := h
 exact ⟨D, ⟨es, clock, (hb.block b hm).trans h1, h2⟩, hd⟩
theorem MapAt.keep {w' : World} (h : MapAt P kt mk w b n g) (hb : Below w.heap.size w w') : MapAt P kt mk w' b n g := h.below hb h.lt
theorem MapAt.mono {n' : Nat} (h : MapAt P kt mk w b n g) (hn : n ≤ n') : MapAt P kt mk w b n' g := by
 obtain ⟨D, h, hd⟩ := h
 exact ⟨D, h.mono hn, hd⟩
theorem MapAt.set {a : Addr} (h : MapAt P kt mk w b n g) (ha : b ≠ a.block) (u : Value) : MapAt P kt mk (w.setCell a u) b n g := by
 obtain ⟨D, h, hd⟩ := h
 exact ⟨D, h.setCell ha u, hd⟩
theorem MapAt.ext {g' : Int → Option α} (h : MapAt P kt mk w b n g) (e : ∀ k, g' k = g k) : MapAt P kt mk w b n g' := by
 rw [show g' = g from funext e]
 exact h
theorem MapAt.made (P : Program) (kt : TypeId) (mk : α → Value) (w : World) : MapAt P kt mk (w.alloc (.map #[] 0)) w.heap.size 0 (fun _ => none) :=
 ⟨_, World.ownsMap_made w P kt (mkR mk), fun k => ⟨fun _ => rfl, fun a h => by cases h⟩⟩
theorem mapTurned_below {w' : World} (h : w.mapTurned w' b) {m : Nat} (hm : m ≤ b) : Below m w w' := by
 have hg := h.grown
 obtain ⟨es, clock, es', clock', hb, rfl⟩ := h
 have := zak hb
 exact (Below.refl m w).grown hg (by omega) (fun k e => by cases e; exact hm)
theorem MapAt.look {t e : TypeId} {z : Value} {k : Int} (h : MapAt P kt mk w b n g) (hk : P.underlying kt = some (.int .i64)) (ht : P.underlying t = some (.map kt e)) (hz : (zeroValue e).run P w = .ok z w) (wf : (Lit.int .i64 k).wf = true) :
  (∀ a, g k = some a → (Instr.lookup t (.map (some b)) (.int .i64 k) false).run P w = .ok (mk a) w) ∧ (g k = none → (Instr.lookup t (.map (some b)) (.int .i64 k) false).run P w = .ok z w) := by
 obtain ⟨D, ⟨es, clock, hb, F, _, rfl⟩, hd⟩ := h
 rcases Maps.fit_look false (Maps.int_keyed hk) ht hz hb F (Maps.keyOf_int_mk hk wf) with ⟨hrun, _, hat⟩ | ⟨e0, y, _, _, hrun, hRv, hat, _⟩
 ·
  refine ⟨fun a ha => ?_, fun _ => hrun⟩
  have h1 := hd.has k
  rw [Maps.has_false_of_atKey hat, ha] at h1
  cases h1
 ·
  refine ⟨fun a ha => ?_, fun hn => ?_⟩
  ·
   obtain ⟨a', e1, e2⟩ := mkR_inv hRv
   have h2 := (hd k).2 a ha .nil
   rw [hat .nil, e2] at h2
   cases h2
   rw [e1] at hrun
   exact hrun
  ·
   have h1 := hd.has k
   rw [Maps.has_true_of_atKey hat, hn] at h1
   cases h1
theorem MapAt.look2 {t e : TypeId} {z : Value} {k : Int} (h : MapAt P kt mk w b n g) (hk : P.underlying kt = some (.int .i64)) (ht : P.underlying t = some (.map kt e)) (hz : (zeroValue e).run P w = .ok z w) (wf : (Lit.int .i64 k).wf = true) :
  (∀ a, g k = some a → (Instr.lookup t (.map (some b)) (.int .i64 k) true).run P w = .ok (.tuple #[mk a, .bool true]) w) ∧ (g k = none → (Instr.lookup t (.map (some b)) (.int .i64 k) true).run P w = .ok (.tuple #[z, .bool false]) w) := by
 obtain ⟨D, ⟨es, clock, hb, F, _, rfl⟩, hd⟩ := h
 rcases Maps.fit_look true (Maps.int_keyed hk) ht hz hb F (Maps.keyOf_int_mk hk wf) with ⟨hrun, _, hat⟩ | ⟨e0, y, _, _, hrun, hRv, hat, _⟩
 ·
  refine ⟨fun a ha => ?_, fun _ => hrun⟩
  have h1 := hd.has k
  rw [Maps.has_false_of_atKey hat, ha] at h1
  cases h1
 ·
  refine ⟨fun a ha => ?_, fun hn => ?_⟩
  ·
   obtain ⟨a', e1, e2⟩ := mkR_inv hRv
   have h2 := (hd k).2 a ha .nil
   rw [hat .nil, e2] at h2
   cases h2
   rw [e1] at hrun
   exact hrun
  ·
   have h1 := hd.has k
   rw [Maps.has_true_of_atKey hat, hn] at h1
   cases h1
theorem HoldsM.put {D : DataW α} (h : HoldsM D g) (hD : Maps.IsMap D) (k : Int) (a : α) : HoldsM (D.put (.int .i64 k) (.held a)) (fun j => if j = k then some a else g j) := by
 intro j
 by_cases e : j = k
 ·
  subst e
  refine ⟨fun hn => ?_, fun a' ha z => ?_⟩
  ·
   dsimp only at hn
   rw [if_pos rfl] at hn
   cases hn
  ·
   dsimp only at ha
   rw [if_pos rfl] at ha
   cases ha
   exact Maps.atKey_put_same hD (show WideAt.IsKeyLit (.int .i64 j) from trivial) _ _
 ·
  have hne : (Lit.int .i64 j) ≠ .int .i64 k := fun e1 => e (by cases e1; rfl)
  refine ⟨fun hn => ?_, fun a' ha z => ?_⟩
  ·
   dsimp only at hn
   rw [if_neg e] at hn
   rw [Maps.has_put_other hne]
   exact (h j).1 hn
  ·
   dsimp only at ha
   rw [if_neg e] at ha
   rw [Maps.atKey_put_other hne]
   exact (h j).2 a' ha z
theorem HoldsM.del {D : DataW α} (h : HoldsM D g) (k : Int) : HoldsM (D.del (.int .i64 k)) (fun j => if j = k then none else g j) := by
 intro j
 by_cases e : j = k
 ·
  subst e
  refine ⟨fun _ => Maps.has_del_same, fun a' ha z => ?_⟩
  dsimp only at ha
  rw [if_pos rfl] at ha
  cases ha
 ·
  have hne : (Lit.int .i64 j) ≠ .int .i64 k := fun e1 => e (by cases e1; rfl)
  refine ⟨fun hn => ?_, fun a' ha z => ?_⟩
  ·
   dsimp only at hn
   rw [if_neg e] at hn
   rw [Maps.has_del_other hne]
   exact (h j).1 hn
  ·
   dsimp only at ha
   rw [if_neg e] at ha
   rw [Maps.atKey_del_other hne]
   exact (h j).2 a' ha z
theorem MapAt.store {t e : TypeId} (h : MapAt P kt mk w b n g) (hi : ∀ a b, mk a = mk b → a = b) (hk : P.underlying kt = some (.int .i64)) (ht : P.underlying t = some (.map kt e)) (hn : n < maxLen) {k : Int} (wf : (Lit.int .i64 k).wf = true) (a : α) :
  ∃ w', (Instr.mapUpdate t (.map (some b)) (.int .i64 k) (mk a)).run P w = .ok () w' ∧ MapAt P kt mk w' b (n + 1) (fun j => if j = k then some a else g j) ∧ w.mapTurned w' b := by
 obtain ⟨D, h, hd⟩ := h
 obtain ⟨w', hrun, ho, ht'⟩ := h.store (Maps.int_keyed hk) ht hn (Maps.keyOf_int_mk hk wf) (mkR_mk hi a)
 exact ⟨w', hrun, ⟨_, ho, hd.put h.isMap k a⟩, ht'⟩
theorem MapAt.drop {t e : TypeId} (h : MapAt P kt mk w b n g) (hk : P.underlying kt = some (.int .i64)) (ht : P.underlying t = some (.map kt e)) {k : Int} (wf : (Lit.int .i64 k).wf = true) (ty : TypeId) :
  ∃ w', (Builtin.delete_ #[t, kt] ty #[.map (some b), .int .i64 k]).run P w = .ok (.tuple #[]) w' ∧ MapAt P kt mk w' b n (fun j => if j = k then none else g j) ∧ w.mapTurned w' b := by
 obtain ⟨D, h, hd⟩ := h
 obtain ⟨w', hrun, ho, ht'⟩ := h.drop (Maps.int_keyed hk) ht (Maps.keyOf_int_mk hk wf) ty
 exact ⟨w', hrun, ⟨_, ho, hd.del k⟩, ht'⟩
theorem MapAt.len {t e : TypeId} (h : MapAt P kt mk w b n g) (ht : P.underlying t = some (.map kt e)) (hk : P.underlying kt = some (.int .i64)) : ∃ m : Nat, m ≤ n ∧ (m = 0 ↔ ∀ k, g k = none) ∧ ∀ ty, (Builtin.len_ #[t] ty #[.map (some b)]).run P w = .ok (.int .i64 m) w := by
 obtain ⟨D, h, hd⟩ := h
 refine ⟨Maps.size D, h.size_le, ⟨fun e0 k => ?_, fun hn => ?_⟩, fun ty => h.len ht ty⟩
 ·
  obtain ⟨es, rfl⟩ := h.isMap
  have h1 := hd.has k
  rw [Maps.size_eq] at e0
  rw [List.length_eq_zero_iff.1 e0] at h1
  cases hg : g k with
  | none => rfl
  | some a =>
   rw [hg] at h1
   cases h1
 ·
  obtain ⟨es, e1, _, hp⟩ := h.entries (Maps.int_keyed hk)
  subst e1
  cases es with
  | nil => rfl
  | cons p r =>
   obtain ⟨es', clock, hb, F, hs, hD⟩ := h
   have h1 : p ∈ (es'.toList.map (WideElems.rg P kt (mkR mk))).foldr DataW.insert [] := by
    have : DataW.map (p :: r) = DataW.map ((es'.toList.map (WideElems.rg P kt (mkR mk))).foldr DataW.insert []) := hD
    injection this with this
    rw [← this]
    exact List.mem_cons_self
   obtain ⟨x, hx, rfl⟩ := List.mem_map.1 (mem_sorted.1 h1)
   obtain ⟨y, hy⟩ := F.reads x hx
   obtain ⟨k, _, e2, _⟩ := Maps.keyOf_int_inv hk (WideElems.rd_key hy)
   have h2 := hd.has k
   rw [hn k, Maps.has_eq, WideElems.rg_of hy] at h2
   rw [← e2] at h2
   simp [WideAt.sameKey_self (show WideAt.IsKeyLit y.1 by rw [e2]; trivial)] at h2
end
def RangeAt {α : Type} (P : Program) (kt : TypeId) (mk : α → Value) (w : World) (b r n : Nat) (g : Int → Option α) (left : Int → Bool) (cnt : Nat) : Prop :=
 ∃ (D : DataW α) (l : Lit → Bool), w.ranges P kt (mkR mk) b r n D l cnt ∧ HoldsM D g ∧ ∀ k, l (.int .i64 k) = left k
section
variable {α : Type} {P : Program} {kt : TypeId} {mk : α → Value} {w : World} {b r n cnt : Nat} {g : Int → Option α} {left : Int → Bool}
theorem RangeAt.owns (h : RangeAt P kt mk w b r n g left cnt) : MapAt P kt mk w b n g := by
 obtain ⟨D, l, h, hd, _⟩ := h
 exact ⟨D, h.owns, hd⟩
theorem RangeAt.lt (h : RangeAt P kt mk w b r n g left cnt) : r < w.heap.size := by
 obtain ⟨D, l, h, hd, _⟩ := h
 exact h.lt
theorem RangeAt.ne (h : RangeAt P kt mk w b r n g left cnt) : r ≠ b := by
 obtain ⟨D, l, h, hd, _⟩ := h
 exact h.ne
theorem RangeAt.below {w' : World} {m : Nat} (h : RangeAt P kt mk w b r n g left cnt) (hb : Below m w w') (h1 : b < m) (h2 : r < m) : RangeAt P kt mk w' b r n g left cnt := by
 obtain ⟨D, l, ⟨es, clock, since, seen, c0, e1, F, hs, hD, e2, rest⟩, hd⟩ := h
 exact ⟨D, l, ⟨es, clock, since, seen, c0, (hb.block b h1).trans e1, F, hs, hD, (hb.block r h2).trans e2, rest⟩, hd⟩
theorem RangeAt.keep {w' : World} (h : RangeAt P kt mk w b r n g left cnt) (hb : Below w.heap.size w w') : RangeAt P kt mk w' b r n g left cnt := h.below hb h.owns.lt h.lt
theorem RangeAt.set {a : Addr} (h : RangeAt P kt mk w b r n g left cnt) (h1 : b ≠ a.block) (h2 : r ≠ a.block) (u : Value) : RangeAt P kt mk (w.setCell a u) b r n g left cnt := by
 obtain ⟨D, l, ⟨es, clock, since, seen, c0, e1, F, hs, hD, e2, rest⟩, hd⟩ := h
 exact ⟨D, l, ⟨es, clock, since, seen, c0, by rw [Below.heap_setCell _ _ _ _ h1]; exact e1, F, hs, hD, by rw [Below.heap_setCell _ _ _ _ h2]; exact e2, rest⟩, hd⟩
theorem MapAt.range {t e : TypeId} (h : MapAt P kt mk w b n g) (hk : P.underlying kt = some (.int .i64)) (ht : P.underlying t = some (.map kt e)) :
  ∃ w' cnt, (Instr.range t (.map (some b))).run P w = .ok (.pointer (some ⟨w.heap.size, 0, none⟩)) w' ∧ RangeAt P kt mk w' b w.heap.size n g (fun k => (g k).isSome) cnt ∧ Below w.heap.size w w' ∧ cnt ≤ n := by
 obtain ⟨D, h, hd⟩ := h
 obtain ⟨w', hrun, hr, hg, _⟩ := h.range (Maps.int_keyed hk) ht
 exact ⟨w', _, hrun, ⟨D, _, hr, hd, fun k => hd.has k⟩, (Below.refl _ _).grown hg (Nat.le_refl _) (fun k e => by cases e), h.size_le⟩
theorem RangeAt.next (h : RangeAt P kt mk w b r n g left cnt) (hk : P.underlying kt = some (.int .i64)) (ty : TypeId) :
  (cnt = 0 ∧ (∀ k, left k = false) ∧ (Instr.next (.pointer (some ⟨r, 0, none⟩)) false ty).run P w = .ok (.tuple #[.bool false]) w) ∨
  ∃ k a w' cnt', (Lit.int .i64 k).wf = true ∧ left k = true ∧ g k = some a ∧ (Instr.next (.pointer (some ⟨r, 0, none⟩)) false ty).run P w = .ok (.tuple #[.bool true, .int .i64 k, mk a]) w' ∧
   RangeAt P kt mk w' b r n g (fun j => left j && !(j == k)) cnt' ∧ cnt' < cnt ∧ (∀ m, m ≤ r → Below m w w') ∧ (Instr.entry (.pointer (some ⟨r, 0, none⟩))).run P w' = .ok (.tuple #[.int .i64 k, mk a]) w' ∧ w.grownBy w' (some r) := by
 obtain ⟨D, l, h, hd, hl⟩ := h
 have hrl := h.lt
 rcases h.next (Maps.int_keyed hk) ty with ⟨h0, h1, hrun⟩ | ⟨key, v, kl, y, w', cnt', hkey, hlk, hv, hat, hrun, hrg, hlt, hgr, hsz, hen⟩
 ·
  exact .inl ⟨h0, fun k => by rw [← hl k]; exact h1 _, hrun⟩
 ·
  obtain ⟨k, rfl, rfl, wf⟩ := Maps.keyOf_int_inv hk hkey
  obtain ⟨a, rfl, rfl⟩ := mkR_inv hv
  refine .inr ⟨k, a, w', cnt', wf, by rw [← hl k]; exact hlk, ?_, hrun, ⟨D, _, hrg, hd, fun j => ?_⟩, hlt, fun m hm => (Below.refl m w).grown hgr (by omega) (fun k e => by cases e; exact hm), hen, hgr⟩
  ·
   cases hg : g k with
   | none =>
    have h1 := (hd k).1 hg
    rw [Maps.has_true_of_atKey hat] at h1
    cases h1
   | some a' =>
    have h1 := (hd k).2 a' hg .nil
    rw [hat .nil] at h1
    injection h1 with h1
    rw [h1]
  ·
   show (l (.int .i64 j) && !(Lit.int .i64 j).sameKey (.int .i64 k)) = _
   rw [hl j]
   have : (Lit.int .i64 j).sameKey (.int .i64 k) = (j == k) := by
    by_cases e : j = k
    ·
     subst e
     rw [WideAt.sameKey_self (show WideAt.IsKeyLit (.int .i64 j) from trivial)]
     simp
    ·
     rw [Maps.sameKey_ne (fun e1 => e (by cases e1; rfl))]
     simp [e]
   rw [this]
theorem RangeAt.store {t e : TypeId} (h : RangeAt P kt mk w b r n g left cnt) (hi : ∀ a b, mk a = mk b → a = b) (hk : P.underlying kt = some (.int .i64)) (ht : P.underlying t = some (.map kt e)) {k : Int} (wf : (Lit.int .i64 k).wf = true) (a : α) (hin : (g k).isSome = true) :
  ∃ w', (Instr.mapUpdate t (.map (some b)) (.int .i64 k) (mk a)).run P w = .ok () w' ∧ RangeAt P kt mk w' b r n (fun j => if j = k then some a else g j) left cnt ∧ w.mapTurned w' b := by
 have hne := h.ne
 obtain ⟨D, l, ⟨es, clock, since, seen, c0, hb, F, hs, rfl, hr, hold, hc, hl1, hl2, hsc, hsk⟩, hd, hl⟩ := h
 have K := Maps.int_keyed (P := P) (k := kt) (q := .i64) hk
 have hkey := Maps.keyOf_int_mk (P := P) (k := kt) (q := .i64) hk wf
 have hv := mkR_mk hi a
 rcases K.find w hkey es.toList F.keys with ⟨h1, h2⟩ | ⟨j, e0, h1, h2, h3⟩
 ·
  exfalso
  have h4 := hd.has k
  rw [hin] at h4
  obtain ⟨p, hp, hpk⟩ := List.any_eq_true.1 h4
  obtain ⟨x, hx, rfl⟩ := List.mem_map.1 (mem_sorted.1 hp)
  obtain ⟨y, hy⟩ := F.reads x hx
  rw [WideElems.rg_of hy] at hpk
  exact h2 x hx (K.inj (WideElems.rd_key hy) ((WideAt.sameKey_eq hpk) ▸ hkey))
 ·
  have hj : es[j]? = some e0 := by simpa using h2
  have hkeyf : ∀ e', es[j]? = some e' → ({ e' with key := .int .i64 k, val := mk a } : MapEntry).key = e'.key := fun e' he' => by rw [hj] at he'; cases he'; exact h3.symm
  have hlist : (es.modify j (fun e' => { e' with key := .int .i64 k, val := mk a })).toList = es.toList.set j { e0 with key := .int .i64 k, val := mk a } := by rw [Array.toList_modify, ChangeMaps.modify_eq_set _ _ _ _ h2]
  have hmem0 : e0 ∈ es.toList := List.mem_of_getElem? h2
  obtain ⟨y0, hy0⟩ := F.reads e0 hmem0
  have who : ∀ x ∈ es.toList.set j { e0 with key := .int .i64 k, val := mk a }, x = { e0 with key := .int .i64 k, val := mk a } ∨ (x ∈ es.toList ∧ x.key ≠ .int .i64 k) := by
   intro x hx
   obtain ⟨i, hi, ex⟩ := List.getElem_of_mem hx
   rw [List.getElem_set] at ex
   split at ex
   ·
    exact Or.inl ex.symm
   ·
    rename_i hne
    have hi' : i < es.toList.length := by simpa using hi
    refine Or.inr ⟨ex ▸ List.getElem_mem hi', ?_⟩
    rw [← h3]
    exact WideElems.other_key F h2 (by rw [List.getElem?_eq_getElem hi', ex]) (fun e1 => hne e1.symm)
  have hy1 := WideElems.rd_mk (born := e0.born) hkey hv
  have e00 : (WideElems.rg P kt (mkR mk) e0).1 = .int .i64 k := by
   rw [WideElems.rg_of hy0]
   have h5 := WideElems.rd_key hy0
   rw [h3, hkey] at h5
   exact (Option.some.inj h5).symm
  have keyEq : ∀ x ∈ es.toList.set j { e0 with key := .int .i64 k, val := mk a }, ∃ x0 ∈ es.toList, x0.born = x.born ∧ (WideElems.rg P kt (mkR mk) x).1 = (WideElems.rg P kt (mkR mk) x0).1 := by
   intro x hx
   rcases who x hx with rfl | ⟨hx', _⟩
   ·
    exact ⟨e0, hmem0, rfl, by rw [e00, WideElems.rg_of hy1]⟩
   ·
    exact ⟨x, hx', rfl, rfl⟩
  have keyEq2 : ∀ x0 ∈ es.toList, ∃ x ∈ es.toList.set j { e0 with key := .int .i64 k, val := mk a }, x.born = x0.born ∧ (WideElems.rg P kt (mkR mk) x).1 = (WideElems.rg P kt (mkR mk) x0).1 := by
   intro x0 hx0
   obtain ⟨i, hi, ex⟩ := List.getElem_of_mem hx0
   by_cases e1 : i = j
   ·
    subst e1
    have : x0 = e0 := by
     rw [List.getElem?_eq_getElem hi, ex] at h2
     exact Option.some.inj h2
    subst this
    exact ⟨{ x0 with key := .int .i64 k, val := mk a }, List.mem_set hi _, rfl, by rw [e00, WideElems.rg_of hy1]⟩
   ·
    refine ⟨x0, ?_, rfl, rfl⟩
    have : (es.toList.set j { e0 with key := .int .i64 k, val := mk a })[i]'(by simpa using hi) = x0 := by
     rw [List.getElem_set_ne (fun e2 => e1 e2.symm)]
     exact ex
    rw [← this]
    exact List.getElem_mem _
  have hF' : WideElems.Fit P kt (mkR mk) (es.modify j (fun e' => { e' with key := .int .i64 k, val := mk a })) clock := by
   refine ⟨by simpa using F.size, MapKept.stamped_modify F.stamped _ _ (fun _ _ => rfl) (fun e' _ he' => hkeyf e' he'), fun x hx => ?_⟩
   rw [hlist] at hx
   rcases who x hx with rfl | ⟨hx', hne⟩
   ·
    exact ⟨_, hy1⟩
   ·
    exact F.reads x hx'
  have hput : ((es.modify j (fun e' => { e' with key := .int .i64 k, val := mk a })).toList.map (WideElems.rg P kt (mkR mk))).foldr DataW.insert [] = ChangeMaps.putKey (.int .i64 k) (.held a) ((es.toList.map (WideElems.rg P kt (mkR mk))).foldr DataW.insert []) := by
   refine Maps.sorted_put K.one ⟨_, hkey⟩ (Maps.fit_keys F) (Maps.fit_apart K F) ?_
   rw [Maps.filter_one K F hkey h2 h3, hlist, List.map_set, WideElems.rg_of hy1]
   exact ChangeMaps.set_perm _ _ (by simpa using (List.getElem?_eq_some_iff.1 h2).1) _
  refine ⟨ChangeMaps.setBlock w b (.map (es.modify j (fun e' => { e' with key := .int .i64 k, val := mk a })) clock), ?_, ⟨_, l, ⟨_, clock, since, seen, c0, ChangeMaps.heap_setBlock_same hb _, hF', by simpa using hs, rfl, (ChangeMaps.heap_setBlock_other hb _ hne).trans hr, fun x hx => ?_, ?_, fun x hx => ?_, fun kl hkl => ?_, hsc, hsk⟩, ?_, hl⟩, ⟨es, clock, _, clock, hb, rfl⟩⟩
  ·
   simp [Instr.mapUpdate, run_underlying ht, MapKept.run_getObj_map hb, K.check w false hkey, h1, hj, h3, K.stays w hkey, MapKept.run_setObj_map _ hb, Result.andThen, ChangeMaps.setBlock]
  ·
   rw [hlist] at hx
   obtain ⟨x0, hx0, e1, _⟩ := keyEq x hx
   rw [← e1]
   exact hold x0 hx0
  ·
   rw [← hc]
   have e1 : ∀ a : Array MapEntry, (leftOf a seen).size = (a.toList.map (fun e => e.born)).countP (fun b => !seen.contains b) := fun a => by
    unfold leftOf
    rw [List.countP_map, ← Array.length_toList, Array.toList_filter, List.countP_eq_length_filter]
    rfl
   rw [e1, e1, hlist, List.map_set]
   congr 1
   have : (es.toList.map (fun e => e.born))[j]? = some e0.born := by rw [List.getElem?_map, h2]; rfl
   obtain ⟨hj2, hj3⟩ := List.getElem?_eq_some_iff.1 this
   show List.set _ j e0.born = _
   rw [← hj3]
   exact List.set_getElem_self hj2
  ·
   rw [hlist] at hx
   obtain ⟨x0, hx0, e1, e2⟩ := keyEq x hx
   rw [e2, hl1 x0 hx0, e1]
  ·
   obtain ⟨x0, hx0, e1⟩ := hl2 kl hkl
   obtain ⟨x, hx, _, e2⟩ := keyEq2 x0 hx0
   exact ⟨x, by rw [hlist]; exact hx, e2.trans e1⟩
  ·
   rw [hput]
   have := hd.put ⟨_, rfl⟩ k a
   rw [DataW.put_eq] at this
   exact this
end
def BytesAt (w : World) (A : Option Addr) (n : Nat) (f : Nat → Nat) : Prop :=
 ∀ i, i < n → ∃ ad, A = some ad ∧ ad.block < w.heap.size ∧ w.cell? (ad.add i) = some (.int .u8 ((f i : Nat) : Int)) ∧ f i < 256
theorem BytesAt.below {w w' : World} {A : Option Addr} {n : Nat} {f : Nat → Nat} (h : BytesAt w A n f) (hb : Below w.heap.size w w') : BytesAt w' A n f := by
 intro i hi
 obtain ⟨ad, e, h1, h2, h3⟩ := h i hi
 exact ⟨ad, e, Nat.lt_of_lt_of_le h1 hb.size, by rw [hb.cell (by rw [add_block]; exact h1), h2], h3⟩
def Only (b s : Nat) (w w' : World) : Prop := w.heap.size ≤ w'.heap.size ∧ ∀ i, i < w.heap.size → i ≠ b → i ≠ s → w'.heap[i]? = w.heap[i]?
theorem Only.of_below {b s : Nat} {w w' : World} (h : Below w.heap.size w w') : Only b s w w' := ⟨h.size, fun i hi _ _ => h.block i hi⟩
theorem Only.set1 {b s : Nat} {w w' : World} (h : Only b s w w') (i : Nat) (v : Value) : Only b s w (w'.setCell ⟨b, i, none⟩ v) :=
 ⟨by rw [World.size_setCell]; exact h.1, fun j hj h1 h2 => by rw [Below.heap_setCell _ _ _ _ h1]; exact h.2 j hj h1 h2⟩
theorem MapAt.only {α : Type} {P : Program} {kt : TypeId} {mk : α → Value} {w w' : World} {b s c n : Nat} {g : Int → Option α} (h : MapAt P kt mk w c n g) (ho : Only b s w w') (h1 : c ≠ b) (h2 : c ≠ s) : MapAt P kt mk w' c n g := by
 have hl := h.lt
 obtain ⟨D, ⟨es, clock, h3, h4⟩, hd⟩ := h
 exact ⟨D, ⟨es, clock, (ho.2 c hl h1 h2).trans h3, h4⟩, hd⟩
abbrev E3 := Int × Int × Int
def mkE (e : E3) : Value := .agg #[.int .i64 e.1, .int .i64 e.2.1, .int .i64 e.2.2]
theorem mkE_inj : ∀ a b : E3, mkE a = mkE b → a = b := by
 rintro ⟨a1, a2, a3⟩ ⟨b1, b2, b3⟩ h
 simp [mkE] at h
 simp [h]
def ent (o : Option E3) : E3 := o.getD (0, 0, 0)
def entCode : Option E3 → Int
 | some _ => 0
 | none => 3
def BookAt (w : World) (b m n : Nat) (low : Int) (g : Int → Option E3) : Prop :=
 b ≠ m ∧ w.heap[b]? = some (.cells #[.int .i64 low, .map (some m)] 78 (0, 0)) ∧ MapAt Try.prog 3 mkE w m n g
theorem BookAt.lt {w : World} {b m n : Nat} {low : Int} {g : Int → Option E3} (h : BookAt w b m n low g) : b < w.heap.size ∧ m < w.heap.size := ⟨zak h.2.1, h.2.2.lt⟩
theorem BookAt.below {w w' : World} {b m n k : Nat} {low : Int} {g : Int → Option E3} (h : BookAt w b m n low g) (hb : Below k w w') (h1 : b < k) (h2 : m < k) : BookAt w' b m n low g :=
 ⟨h.1, (hb.block b h1).trans h.2.1, h.2.2.below hb h2⟩
theorem BookAt.keep {w w' : World} {b m n : Nat} {low : Int} {g : Int → Option E3} (h : BookAt w b m n low g) (hb : Below w.heap.size w w') : BookAt w' b m n low g := h.below hb h.lt.1 h.lt.2
theorem BookAt.mono {w : World} {b m n n' : Nat} {low : Int} {g : Int → Option E3} (h : BookAt w b m n low g) (hn : n ≤ n') : BookAt w b m n' low g := ⟨h.1, h.2.1, h.2.2.mono hn⟩
theorem BookAt.facts {w : World} {b m n : Nat} {low : Int} {g : Int → Option E3} (h : BookAt w b m n low g) :
  w.cell? ⟨b, 0, none⟩ = some (.int .i64 low) ∧ w.cell? ⟨b, 1, none⟩ = some (.map (some m)) ∧ w.frozen? ⟨b, 0, none⟩ = false :=
 ⟨(za h.2.1 0).trans rfl, (za h.2.1 1).trans rfl, zaa h.2.1 0⟩
theorem BookAt.kept {w w' : World} {b m n : Nat} {low : Int} {g : Int → Option E3} {S : Nat → Prop} (h : BookAt w b m n low g) (hk : Kept w w' S) (h1 : ¬ S b) (h2 : ¬ S m) : BookAt w' b m n low g := by
 obtain ⟨e1, e2, D, ⟨es, clock, e3, e4⟩, hd⟩ := h
 have hm : m < w.heap.size := zak e3
 exact ⟨e1, (hk.2 b (zak e2) h1).trans e2, D, ⟨es, clock, (hk.2 m hm h2).trans e3, e4⟩, hd⟩
theorem BookAt.set {w : World} {b m n : Nat} {low : Int} {g : Int → Option E3} (h : BookAt w b m n low g) (x : Int) : BookAt (w.setCell ⟨b, 0, none⟩ (.int .i64 x)) b m n x g := by
 refine ⟨h.1, ?_, h.2.2.set (fun e => h.1 e.symm) _⟩
 rw [blk_set h.2.1]
 rfl
theorem zbx {w w' : World} {b i : Nat} (h : w.mapTurned w' b) (hi : i ≠ b) : w'.heap[i]? = w.heap[i]? := by
 obtain ⟨es, clock, es', clock', hb, rfl⟩ := h
 exact ChangeMaps.heap_setBlock_other hb _ hi
theorem mapTurned_size {w w' : World} {b : Nat} (h : w.mapTurned w' b) : w'.heap.size = w.heap.size := by
 obtain ⟨es, clock, es', clock', hb, rfl⟩ := h
 simp [ChangeMaps.setBlock]
theorem BookAt.turned {w w' : World} {b m n n' : Nat} {low : Int} {g g' : Int → Option E3} (h : BookAt w b m n low g) (ht : w.mapTurned w' m) (hm : MapAt Try.prog 3 mkE w' m n' g') : BookAt w' b m n' low g' :=
 ⟨h.1, (zbx ht h.1).trans h.2.1, hm⟩
theorem Only.turned {b m : Nat} {w w1 w2 : World} (h : Only b m w w1) (ht : w1.mapTurned w2 m) : Only b m w w2 :=
 ⟨by rw [mapTurned_size ht]; exact h.1, fun i hi h1 h2 => (zbx ht h2).trans (h.2 i hi h1 h2)⟩
theorem Only.refl (b m : Nat) (w : World) : Only b m w w := ⟨Nat.le_refl _, fun _ _ _ _ => rfl⟩
theorem Only.step {b m : Nat} {w w1 w2 : World} (h : Only b m w w1) (hb : Below w1.heap.size w1 w2) : Only b m w w2 :=
 ⟨Nat.le_trans h.1 hb.size, fun i hi h1 h2 => (hb.block i (Nat.lt_of_lt_of_le hi h.1)).trans (h.2 i hi h1 h2)⟩
theorem Only.trans {b m : Nat} {w w1 w2 : World} (h : Only b m w w1) (h2 : Only b m w1 w2) : Only b m w w2 :=
 ⟨Nat.le_trans h.1 h2.1, fun i hi e1 e2 => (h2.2 i (Nat.lt_of_lt_of_le hi h.1) e1 e2).trans (h.2 i hi e1 e2)⟩
def Wrote (b m : Nat) (w w' : World) : Prop := Only b m w w' ∧ ∀ k, k ≤ b → k ≤ m → Below k w w'
theorem Wrote.of_below {b m : Nat} {w w' : World} (h : Below w.heap.size w w') (hb : b < w.heap.size) : Wrote b m w w' := ⟨Only.of_below h, fun k h1 _ => h.mono (by omega)⟩
theorem Wrote.step {b m : Nat} {w w1 w2 : World} (h : Wrote b m w w1) (hb : Below w1.heap.size w1 w2) (hl : b < w1.heap.size) : Wrote b m w w2 :=
 ⟨h.1.step hb, fun k h1 h2 => (h.2 k h1 h2).trans (hb.mono (by omega))⟩
theorem Wrote.turned {b m : Nat} {w w1 w2 : World} (h : Wrote b m w w1) (ht : w1.mapTurned w2 m) : Wrote b m w w2 :=
 ⟨h.1.turned ht, fun k h1 h2 => (h.2 k h1 h2).trans (mapTurned_below ht h2)⟩
theorem Wrote.trans {b m : Nat} {w w1 w2 : World} (h : Wrote b m w w1) (h' : Wrote b m w1 w2) : Wrote b m w w2 :=
 ⟨h.1.trans h'.1, fun k h1 h2 => (h.2 k h1 h2).trans (h'.2 k h1 h2)⟩
theorem Wrote.low {b m : Nat} {w w1 : World} (h : Wrote b m w w1) (x : Value) : Wrote b m w (w1.setCell ⟨b, 0, none⟩ x) :=
 ⟨h.1.set1 _ _, fun k h1 h2 => (h.2 k h1 h2).setCell h1 _⟩
theorem Wrote.drew {b m : Nat} {w w1 : World} (h : Wrote b m w w1) : Wrote b m w w1.drew := ⟨h.1, fun k h1 h2 => (h.2 k h1 h2).drew⟩
theorem BookAt.other {w : World} {b m n q i : Nat} {low : Int} {g : Int → Option E3} (h : BookAt w b m n low g) (h1 : b ≠ q) (h2 : m ≠ q) (x : Value) : BookAt (w.setCell ⟨q, i, none⟩ x) b m n low g := by
 refine ⟨h.1, ?_, h.2.2.set h2 _⟩
 rw [Below.heap_setCell _ _ _ _ h1]
 exact h.2.1
theorem Wrote.other {b m q i : Nat} {w w1 : World} (h : Wrote b m w w1) (h1 : b ≤ q) (h2 : w.heap.size ≤ q) (x : Value) : Wrote b m w (w1.setCell ⟨q, i, none⟩ x) :=
 ⟨⟨by rw [World.size_setCell]; exact h.1.1, fun j hj e1 e2 => by rw [Below.heap_setCell _ _ _ _ (show j ≠ q by omega)]; exact h.1.2 j hj e1 e2⟩, fun k h3 h4 => (h.2 k h3 h4).setCell (show k ≤ q by omega) _⟩
theorem book_New_ok (w : World) : Calls Try.prog 14 #[] w fun e w' => ∃ b m, e = .returned (.pointer (some ⟨b, 0, none⟩)) ∧ w.heap.size ≤ b ∧ w.heap.size ≤ m ∧ BookAt w' b m 0 1 (fun _ => none) ∧ Below w.heap.size w w' := by
 have hmm := @run_makeMap Try.prog
 go_enter Try.func14, Try.ntmps14
 go_wp2_with fail
 go_ret
 refine ⟨w.heap.size + 1, w.heap.size, by simp, by omega, Nat.le_refl _, ⟨by omega, ?_, (MapAt.made Try.prog 3 mkE w).keep (zae (Below.refl _ _) _)⟩, zae (zae (Below.refl _ _) _) _⟩
 have := zau (w.alloc (.map #[] 0)) (.cells #[.int .i64 1, .map (some w.heap.size)] 78)
 rw [show (w.alloc (.map #[] 0)).heap.size = w.heap.size + 1 by simp] at this
 exact this
theorem book_Low_ok {w : World} {b m n : Nat} {low : Int} {g : Int → Option E3} (h : BookAt w b m n low g) :
  Calls Try.prog 19 #[.pointer (some ⟨b, 0, none⟩)] w fun e w' => e = .returned (.int .i64 low) ∧ Drawn0 w w' := by
 obtain ⟨f0, f1, f2⟩ := h.facts
 have H := Aside0.mk h
 clear h
 go_enter Try.func19, Try.ntmps19
 go_wp2_with fail
 go_ret
 exact ⟨rfl, Drawn0.refl _⟩
theorem run_zeroE (w : World) : (zeroValue 48).run Try.prog w = .ok (mkE (0, 0, 0)) w := by kernel_rfl
theorem book_look2 {w : World} {b m n : Nat} {low : Int} {g : Int → Option E3} (h : BookAt w b m n low g) {k : Int} (wf : (Lit.int .i64 k).wf = true) :
  (Instr.lookup 76 (.map (some m)) (.int .i64 k) true).run Try.prog w = .ok (.tuple #[.agg #[.int .i64 (ent (g k)).1, .int .i64 (ent (g k)).2.1, .int .i64 (ent (g k)).2.2], .bool (g k).isSome]) w := by
 obtain ⟨h1, h2⟩ := h.2.2.look2 (t := 76) (e := 48) (k := k) Try.underlying3 Try.underlying76 (run_zeroE w) wf
 cases hg : g k with
 | none => exact h2 hg
 | some a => exact h1 a hg
theorem book_store {w : World} {b m n : Nat} {low : Int} {g : Int → Option E3} (h : BookAt w b m n low g) (hn : n < 1000000) {k : Int} (wf : (Lit.int .i64 k).wf = true) (a1 a2 a3 : Int) :
  ∃ w', (Instr.mapUpdate 76 (.map (some m)) (.int .i64 k) (.agg #[.int .i64 a1, .int .i64 a2, .int .i64 a3])).run Try.prog w = .ok () w' ∧ BookAt w' b m (n + 1) low (fun j => if j = k then some (a1, a2, a3) else g j) ∧ w.mapTurned w' m := by
 have hmx : maxLen = 9223372036854775807 := rfl
 obtain ⟨w', h1, h2, h3⟩ := h.2.2.store (t := 76) (e := 48) mkE_inj Try.underlying3 Try.underlying76 (by omega) (k := k) wf (a1, a2, a3)
 exact ⟨w', h1, h.turned h3 h2, h3⟩
theorem zbc {w : World} {b m n : Nat} {low : Int} {g : Int → Option E3} (h : BookAt w b m n low g) {k : Int} (wf : (Lit.int .i64 k).wf = true) :
  Calls Try.prog 24 #[.pointer (some ⟨b, 0, none⟩), .int .i64 k] w fun e w' => e = .returned (.tuple #[.agg #[.int .i64 (ent (g k)).1, .int .i64 (ent (g k)).2.1, .int .i64 (ent (g k)).2.2], .int .i64 (entCode (g k))]) ∧ Below w.heap.size w w' := by
 have hkey : ∀ (W : World), Below w.heap.size w W → (Instr.lookup 76 (.map (some m)) (.int .i64 k) true).run Try.prog W = .ok (.tuple #[.agg #[.int .i64 (ent (g k)).1, .int .i64 (ent (g k)).2.1, .int .i64 (ent (g k)).2.2], .bool (g k).isSome]) W := fun W hW => book_look2 (h.keep hW) wf
 have L1 := hkey _ (zae (Below.refl _ w) (.cells #[.int .i64 0, .int .i64 0, .int .i64 0] 48))
 obtain ⟨f0, f1, f2⟩ := (h.keep (zae (Below.refl _ w) (.cells #[.int .i64 0, .int .i64 0, .int .i64 0] 48))).facts
 have H := Aside0.mk h
 clear h hkey
 cases hg : g k with
 | none =>
  rw [hg] at L1
  dsimp only [ent, Option.getD, Option.isSome] at L1
  go_enter Try.func24, Try.ntmps24
  go_wp2_with fail
  refine bodyPost_ret (za4 rfl _ _ w.heap.size 48 #[.int .i64 0, .int .i64 0, .int .i64 0] (0, 0) _ rfl (zac (zau w _) _) Try.underlying48 rfl (by kernel_rfl)) rfl ?_
  exact ⟨rfl, zae (zae (Below.refl _ w) _) _⟩
 | some a =>
  rw [hg] at L1
  dsimp only [ent, Option.getD, Option.isSome] at L1
  go_enter Try.func24, Try.ntmps24
  go_wp2_with fail
  refine bodyPost_ret (za4 rfl _ _ w.heap.size 48 #[.int .i64 a.1, .int .i64 a.2.1, .int .i64 a.2.2] (0, 0) _ rfl (zac (zau w _) _) Try.underlying48 rfl (by kernel_rfl)) rfl ?_
  exact ⟨rfl, zae (zae (Below.refl _ w) _) _⟩
theorem book_Leave_ok {w : World} {b m n : Nat} {low : Int} {g : Int → Option E3} (h : BookAt w b m n low g) {k : Int} (wf : (Lit.int .i64 k).wf = true) :
  Calls Try.prog 23 #[.pointer (some ⟨b, 0, none⟩), .int .i64 k] w fun e w' => e = .returned (.tuple #[.agg #[.int .i64 (ent (g k)).1, .int .i64 (ent (g k)).2.1, .int .i64 (ent (g k)).2.2], .int .i64 (entCode (g k))]) ∧ BookAt w' b m n low (fun j => if j = k then none else g j) ∧ Wrote b m w w' := by
 have H := Aside0.mk h
 have hl := h.lt
 clear h
 go_enter Try.func23, Try.ntmps23
 go_wp2_with fail
 go_at_call 24
 refine (zbc (H.out.keep (zae (Below.refl _ w) _)) wf).mono ?_
 rintro e w1 ⟨rfl, hb⟩
 have hz : w1.heap[w.heap.size]? = some (.cells #[.int .i64 0, .int .i64 0, .int .i64 0] 48 (0, 0)) := (hb.block _ (by simp)).trans (zau w _)
 have HB := Aside0.mk (zai (zae (Below.refl _ w) _) hb)
 have hz1 := zac hz (.cells #[.int .i64 (ent (g k)).1, .int .i64 (ent (g k)).2.1, .int .i64 (ent (g k)).2.2] 48)
 have hy1 := zau w1 (.cells #[.int .i64 (ent (g k)).1, .int .i64 (ent (g k)).2.1, .int .i64 (ent (g k)).2.2] 48)
 have H1 := (H.out.keep HB.out).keep (zae (Below.refl _ w1) (.cells #[.int .i64 (ent (g k)).1, .int .i64 (ent (g k)).2.1, .int .i64 (ent (g k)).2.2] 48))
 have hW1 := Wrote.of_below (m := m) (zae HB.out (.cells #[.int .i64 (ent (g k)).1, .int .i64 (ent (g k)).2.1, .int .i64 (ent (g k)).2.2] 48)) hl.1
 have hsz := HB.out.size
 obtain ⟨f0, f1, f2⟩ := H1.facts
 obtain ⟨w2, s1, s2, s3⟩ := H1.2.2.drop (t := 76) (e := 48) Try.underlying3 Try.underlying76 wf 0
 have H2 := Aside0.mk (H1.turned s3 s2)
 have HW2 := Aside0.mk (hW1.turned s3)
 have hz2 := (zbx s3 (show w.heap.size ≠ m by omega)).trans hz1
 have hy2 := (zbx s3 (show w1.heap.size ≠ m by omega)).trans hy1
 have c0 := (za hy2 0).trans rfl
 have c1 := (za hy2 1).trans rfl
 have c2 := (za hy2 2).trans rfl
 have y0 := (za hz2 0).trans rfl
 have y1 := (za hz2 1).trans rfl
 have y2 := (za hz2 2).trans rfl
 have z0 := zaa hz2 0
 have z1 := zaa hz2 1
 have z2 := zaa hz2 2
 have HZ := Aside0.mk hz2
 have HH := Aside0.mk H1
 clear hb hz hz1 hy1 hW1 s2 s3 hz2 hy2 H1
 go_wp2_with fail
 refine bodyPost_ret (za4 rfl _ _ w.heap.size 48 #[.int .i64 (ent (g k)).1, .int .i64 (ent (g k)).2.1, .int .i64 (ent (g k)).2.2] (0, 0) _ rfl (zal (zal (zal HZ.out 0 _ rfl) 1 _ rfl) 2 _ rfl) Try.underlying48 rfl (by kernel_rfl)) rfl ?_
 exact ⟨rfl, (((H2.out.other (by omega) (by omega) _).other (by omega) (by omega) _).other (by omega) (by omega) _), (((HW2.out.other (Nat.le_of_lt hl.1) (Nat.le_refl _) _).other (Nat.le_of_lt hl.1) (Nat.le_refl _) _).other (Nat.le_of_lt hl.1) (Nat.le_refl _) _)⟩
def inE (low tag left slice : Int) : E3 := if tag < low then (low, slice, slice) else if mn left slice > 0 then (tag, mn left slice, slice) else if tag = low then (tag + 1, slice, slice) else (tag, mn left slice, slice)
theorem Entry_in_f (low tag left slice : Int) (h : tag + 1 < 9223372036854775807) (h0 : -9223372036854775807 < tag) : zbq.f tag left slice low = some ((inE low tag left slice).1, (inE low tag left slice).2.1, (inE low tag left slice).2.2) := by
 have hw : wrap64 (tag + 1) = tag + 1 := w64s (by omega) (by omega)
 unfold zbq.f zav.f za0.f inE
 by_cases c1 : tag < low
 ·
  simp [c1]
 ·
  by_cases c2 : mn left slice > 0
  ·
   simp [c1, c2]
  ·
   by_cases c3 : tag = low
   ·
    simp [c1, c2, c3, hw]
    rw [← c3]
    exact hw
   ·
    simp [c1, c2, c3]
theorem book_Enter_there {w : World} {b m n : Nat} {low : Int} {g : Int → Option E3} (h : BookAt w b m n low g) {k : Int} (wf : (Lit.int .i64 k).wf = true) (tag left slice : Int) (hk : (g k).isSome = true) :
  Calls Try.prog 15 #[.pointer (some ⟨b, 0, none⟩), .int .i64 k, .int .i64 tag, .int .i64 left, .int .i64 slice] w fun e w' => e = .returned (.int .i64 10) ∧ Below w.heap.size w w' := by
 have L1 := book_look2 h wf
 rw [hk] at L1
 obtain ⟨f0, f1, f2⟩ := h.facts
 have H := Aside0.mk h
 clear h hk
 go_enter Try.func15, Try.ntmps15
 go_wp2_with fail
 go_ret
 exact ⟨rfl, zae (Below.refl _ w) _⟩
theorem round_right_f (x : Int) : zbm.f x = some (decide (1 ≤ x ∧ x ≤ 1000)) := by
 unfold zbm.f
 by_cases h : x ≥ 1
 ·
  by_cases h2 : x ≤ 1000
  ·
   simp [h, h2]
  ·
   simp [h, h2]
 ·
  have h3 : ¬ (1 ≤ x ∧ x ≤ 1000) := fun h4 => h h4.1
  simp [h]
theorem book_Enter_range {w : World} {b m n : Nat} {low : Int} {g : Int → Option E3} (h : BookAt w b m n low g) (hlow : 0 < low ∧ low < 1000000) {k : Int} (wf : (Lit.int .i64 k).wf = true) (tag left slice : Int) (hk : g k = none) (hbad : slice < 1 ∨ 1000 < slice ∨ left < 0 ∨ tag < 0 ∨ low + 1 < tag) :
  Calls Try.prog 15 #[.pointer (some ⟨b, 0, none⟩), .int .i64 k, .int .i64 tag, .int .i64 left, .int .i64 slice] w fun e w' => e = .returned (.int .i64 14) ∧ Below w.heap.size w w' := by
 have L1 := book_look2 h wf
 rw [hk] at L1
 dsimp only [ent, Option.getD, Option.isSome] at L1
 obtain ⟨f0, f1, f2⟩ := h.facts
 have H := Aside0.mk h
 clear h hk
 have HBad := Aside0.mk hbad
 clear hbad
 have d1 : wrap64 (low + 1) = low + 1 := w64s (by omega) (by omega)
 go_enter Try.func15, Try.ntmps15
 go_wp2_with fail
 go_at_call 40
 refine (zbm.calls slice _ _ (round_right_f slice)).mono ?_
 generalize hr : decide (1 ≤ slice ∧ slice ≤ 1000) = r
 rintro e w1 ⟨rfl, hd⟩
 have HB := Aside0.mk (zai (zae (Below.refl _ w) _) hd.below)
 obtain ⟨f3, f4, f5⟩ := (H.out.keep HB.out).facts
 have HR := Aside0.mk hr
 clear hd f0 f1 f2 L1 hr
 cases r with
 | false =>
  go_wp2_with fail
  go_ret
  exact ⟨rfl, HB.out⟩
 | true =>
  have h1 := of_decide_eq_true HR.out
  by_cases c1 : left < 0
  ·
   have d2 : decide (left < 0) = true := decide_eq_true c1
   go_wp2_with fail
   go_ret
   exact ⟨rfl, HB.out⟩
  ·
   have d2 : decide (left < 0) = false := decide_eq_false c1
   by_cases c2 : tag < 0
   ·
    have d3 : decide (tag < 0) = true := decide_eq_true c2
    go_wp2_with fail
    go_ret
    exact ⟨rfl, HB.out⟩
   ·
    have d3 : decide (tag < 0) = false := decide_eq_false c2
    have c3 : low + 1 < tag := by
     have := HBad.out
     omega
    have d4 : decide (tag > low + 1) = true := decide_eq_true c3
    go_wp2_with fail
    go_ret
    exact ⟨rfl, HB.out⟩
theorem book_Enter_ok {w : World} {b m n : Nat} {low : Int} {g : Int → Option E3} (h : BookAt w b m n low g) (hlow : 0 < low ∧ low < 1000000) (hn : n < 1000000) {k : Int} (wf : (Lit.int .i64 k).wf = true) (tag left slice : Int) (hk : g k = none) (hs : 1 ≤ slice ∧ slice ≤ 1000) (hl : 0 ≤ left) (ht : 0 ≤ tag ∧ tag ≤ low + 1) :
  Calls Try.prog 15 #[.pointer (some ⟨b, 0, none⟩), .int .i64 k, .int .i64 tag, .int .i64 left, .int .i64 slice] w fun e w' => e = .returned (.int .i64 0) ∧ BookAt w' b m (n + 1) low (fun j => if j = k then some (inE low tag left slice) else g j) ∧ Wrote b m w w' := by
 have L1 := book_look2 h wf
 rw [hk] at L1
 dsimp only [ent, Option.getD, Option.isSome] at L1
 obtain ⟨f0, f1, f2⟩ := h.facts
 have H := Aside0.mk h
 have hlt := h.lt
 clear h hk
 have d1 : wrap64 (low + 1) = low + 1 := w64s (by omega) (by omega)
 have d2 : decide (left < 0) = false := decide_eq_false (by omega)
 have d3 : decide (tag < 0) = false := decide_eq_false (by omega)
 have d4 : decide (tag > low + 1) = false := decide_eq_false (by omega)
 have d5 : decide (1 ≤ slice ∧ slice ≤ 1000) = true := decide_eq_true hs
 go_enter Try.func15, Try.ntmps15
 go_wp2_with fail
 go_at_call 40
 refine (zbm.calls slice _ _ (round_right_f slice)).mono ?_
 rw [d5]
 rintro e w1 ⟨rfl, hd⟩
 have HB := Aside0.mk (zai (zae (Below.refl _ w) _) hd.below)
 obtain ⟨f3, f4, f5⟩ := (H.out.keep HB.out).facts
 clear hd f0 f1 f2 L1
 go_wp2_with fail
 have HST : Aside0 (∀ W, Below w1.heap.size w1 W → ∃ w3, (Instr.mapUpdate 76 (.map (some m)) (.int .i64 k) (.agg #[.int .i64 (inE low tag left slice).1, .int .i64 (inE low tag left slice).2.1, .int .i64 (inE low tag left slice).2.2])).run Try.prog W = .ok () w3 ∧ BookAt w3 b m (n + 1) low (fun j => if j = k then some (inE low tag left slice) else g j) ∧ W.mapTurned w3 m) := ⟨fun W hW => book_store ((H.out.keep HB.out).keep hW) hn wf _ _ _⟩
 go_region_with (go_at_call 41; refine (zbq.calls _ _ _ _ _ _ _ _ (Entry_in_f low tag left slice (by omega) (by omega))).mono ?_; rintro e w2 ⟨rfl, hb2⟩; have HB2 := Aside0.mk (((Below.refl w1.heap.size w1).drew).trans hb2); clear hb2; obtain ⟨f6, f7, f8⟩ := ((H.out.keep HB.out).keep HB2.out).facts; obtain ⟨w3, s1, s2, s3⟩ := HST.out w2 HB2.out; have S2 := Aside0.mk s2; have S3 := Aside0.mk s3; clear s2 s3)
 all_goals
  go_wp2
  go_ret
  exact ⟨rfl, S2.out, (Wrote.of_below (zai HB.out HB2.out) hlt.1).turned S3.out⟩
theorem book_Charge_none {w : World} {b m n : Nat} {low : Int} {g : Int → Option E3} (h : BookAt w b m n low g) {k : Int} (wf : (Lit.int .i64 k).wf = true) (hk : g k = none) :
  Calls Try.prog 16 #[.pointer (some ⟨b, 0, none⟩), .int .i64 k] w fun e w' => e = .returned (.tuple #[.bool false, .int .i64 3]) ∧ Below w.heap.size w w' := by
 have H := Aside0.mk h
 have HK := Aside0.mk hk
 clear h hk
 go_enter Try.func16, Try.ntmps16
 go_wp2_with fail
 go_at_call 24
 refine (zbc H.out wf).mono ?_
 rw [HK.out]
 dsimp only [ent, entCode, Option.getD]
 rintro e w1 ⟨rfl, hb⟩
 have HB := Aside0.mk (zae hb (.cells #[.int .i64 0, .int .i64 0, .int .i64 0] 48))
 clear hb
 go_wp2_with fail
 go_ret2
 exact ⟨rfl, HB.out⟩
theorem book_Charge_spent {w : World} {b m n : Nat} {low : Int} {g : Int → Option E3} (h : BookAt w b m n low g) {k : Int} (wf : (Lit.int .i64 k).wf = true) (tag left slice : Int) (hk : g k = some (tag, left, slice)) (hl : left ≤ 0) :
  Calls Try.prog 16 #[.pointer (some ⟨b, 0, none⟩), .int .i64 k] w fun e w' => e = .returned (.tuple #[.bool false, .int .i64 10]) ∧ Below w.heap.size w w' := by
 have H := Aside0.mk h
 have HK := Aside0.mk hk
 clear h hk
 have d1 : decide (left > 0) = false := decide_eq_false (by omega)
 go_enter Try.func16, Try.ntmps16
 go_wp2_with fail
 go_at_call 24
 refine (zbc H.out wf).mono ?_
 rw [HK.out]
 dsimp only [ent, entCode, Option.getD]
 rintro e w1 ⟨rfl, hb⟩
 have HB := Aside0.mk (zae hb (.cells #[.int .i64 tag, .int .i64 left, .int .i64 slice] 48))
 clear hb
 go_wp2_with fail
 go_at_call 42
 refine (zav.calls _ _ _ _ _ rfl).mono ?_
 rw [d1]
 rintro e w2 ⟨rfl, hb2⟩
 have HB2 := Aside0.mk (zai HB.out hb2)
 clear hb2
 go_wp2_with fail
 go_ret2
 exact ⟨rfl, HB2.out⟩
def chE (low tag left slice : Int) : E3 := if left - 1 > 0 then (tag, left - 1, slice) else if tag = low then (tag + 1, slice, slice) else (tag, left - 1, slice)
theorem book_Charge_ok {w : World} {b m n : Nat} {low : Int} {g : Int → Option E3} (h : BookAt w b m n low g) (hn : n < 1000000) {k : Int} (wf : (Lit.int .i64 k).wf = true) (tag left slice : Int) (hk : g k = some (tag, left, slice)) (hl : 0 < left ∧ left ≤ 1000) (ht : 0 ≤ tag ∧ tag < 1000000) :
  Calls Try.prog 16 #[.pointer (some ⟨b, 0, none⟩), .int .i64 k] w fun e w' => e = .returned (.tuple #[.bool (!decide (left - 1 > 0)), .int .i64 0]) ∧ BookAt w' b m (n + 1) low (fun j => if j = k then some (chE low tag left slice) else g j) ∧ Wrote b m w w' := by
 have H := Aside0.mk h
 have HK := Aside0.mk hk
 have hlt := h.lt
 clear h hk
 have d1 : decide (left > 0) = true := decide_eq_true (by omega)
 have d2 : wrap64 (left - 1) = left - 1 := w64s (by omega) (by omega)
 have HST : Aside0 (∀ W, Below w.heap.size w W → ∀ a1 a2 a3 : Int, ∃ w3, (Instr.mapUpdate 76 (.map (some m)) (.int .i64 k) (.agg #[.int .i64 a1, .int .i64 a2, .int .i64 a3])).run Try.prog W = .ok () w3 ∧ BookAt w3 b m (n + 1) low (fun j => if j = k then some (a1, a2, a3) else g j) ∧ W.mapTurned w3 m) := ⟨fun W hW a1 a2 a3 => book_store (H.out.keep hW) hn wf _ _ _⟩
 go_enter Try.func16, Try.ntmps16
 go_wp2_with fail
 go_at_call 24
 refine (zbc H.out wf).mono ?_
 rw [HK.out]
 dsimp only [ent, entCode, Option.getD]
 rintro e w1 ⟨rfl, hb⟩
 have HB := Aside0.mk (zae hb (.cells #[.int .i64 tag, .int .i64 left, .int .i64 slice] 48))
 have hE := zau w1 (.cells #[.int .i64 tag, .int .i64 left, .int .i64 slice] 48)
 have hsz := hb.size
 clear hb
 go_wp2_with fail
 go_at_call 42
 refine (zav.calls _ _ _ _ _ rfl).mono ?_
 rw [d1]
 rintro e w2 ⟨rfl, hb2⟩
 have HB2 := Aside0.mk (zai HB.out hb2)
 have hE2 := (hb2.block _ (zak hE)).trans hE
 generalize w1.heap.size = E at hE2 hsz ⊢
 have c0 := (za hE2 0).trans rfl
 have c1 := (za hE2 1).trans rfl
 have c2 := (za hE2 2).trans rfl
 have z1 := zaa hE2 1
 have HE2 := Aside0.mk hE2
 clear hb2 hE hE2
 go_wp2_with fail
 have HB3 := Aside0.mk (HB2.out.setCell (p := ⟨E, 1, none⟩) hsz (.int .i64 (left - 1)))
 have hE3 := zal HE2.out 1 (.int .i64 (left - 1)) rfl
 clear c0 c1 c2 z1 HE2
 generalize w2.setCell ⟨E, 1, none⟩ (.int .i64 (left - 1)) = W3 at HB3 hE3 ⊢
 go_at_call 42
 refine (zav.calls _ _ _ _ _ rfl).mono ?_
 by_cases hL : left - 1 > 0
 ·
  have d3 : decide (left - 1 > 0) = true := decide_eq_true hL
  have HQ : Aside0 (chE low tag left slice = (tag, left - 1, slice)) := ⟨by unfold chE; rw [if_pos hL]⟩
  rw [d3]
  rintro e w4 ⟨rfl, hb4⟩
  have HB4 := Aside0.mk (zai HB3.out hb4)
  have hE4 := (hb4.block _ (zak hE3)).trans hE3
  obtain ⟨f0, f1, f2⟩ := (H.out.keep HB4.out).facts
  have c0 := (za hE4 0).trans rfl
  have c1 := (za hE4 1).trans rfl
  have c2 := (za hE4 2).trans rfl
  have HE4 := Aside0.mk hE4
  clear hb4 hE3 hE4
  go_wp2_with fail
  go_region
  have HB5 := Aside0.mk HB4.out.drew
  have hE5 : w4.drew.heap[E]? = _ := HE4.out
  clear f0 f1 f2 c0 c1 c2 HE4
  generalize w4.drew = W5 at HB5 hE5 ⊢
  obtain ⟨f0, f1, f2⟩ := (H.out.keep HB5.out.drew).facts
  have c0 := (za (show W5.drew.heap[E]? = _ from hE5) 0).trans rfl
  have c1 := (za (show W5.drew.heap[E]? = _ from hE5) 1).trans rfl
  have c2 := (za (show W5.drew.heap[E]? = _ from hE5) 2).trans rfl
  obtain ⟨w6, s1, s2, s3⟩ := HST.out W5.drew HB5.out.drew tag (left - 1) slice
  have S2 := Aside0.mk s2
  have S3 := Aside0.mk s3
  clear s2 s3 hE5
  go_wp2_with fail
  go_region
  all_goals
   go_wp2
   go_ret2
   exact ⟨by rw [d3]; rfl, by rw [HQ.out]; exact S2.out, (Wrote.of_below HB5.out.drew hlt.1).turned S3.out⟩
 ·
  have d3 : decide (left - 1 > 0) = false := decide_eq_false hL
  rw [d3]
  rintro e w4 ⟨rfl, hb4⟩
  have HB4 := Aside0.mk (zai HB3.out hb4)
  have hE4 := (hb4.block _ (zak hE3)).trans hE3
  obtain ⟨f0, f1, f2⟩ := (H.out.keep HB4.out).facts
  have c0 := (za hE4 0).trans rfl
  have c1 := (za hE4 1).trans rfl
  have c2 := (za hE4 2).trans rfl
  have HE4 := Aside0.mk hE4
  clear hb4 hE3 hE4
  go_wp2_with fail
  go_region
  have HB5 := Aside0.mk HB4.out.drew
  have hE5 : w4.drew.heap[E]? = _ := HE4.out
  clear f0 f1 f2 c0 c1 c2 HE4
  generalize w4.drew = W5 at HB5 hE5 ⊢
  by_cases hT : tag = low
  ·
   have HQ : Aside0 (chE low tag left slice = (tag + 1, slice, slice)) := ⟨by unfold chE; rw [if_neg (by omega), if_pos hT]⟩
   have d6 : (tag == low) = true := by simpa using hT
   have d7 : wrap64 (tag + 1) = tag + 1 := w64s (by omega) (by omega)
   have c0 := (za hE5 0).trans rfl
   have c1 := (za hE5 1).trans rfl
   have c2 := (za hE5 2).trans rfl
   have HE5 := Aside0.mk hE5
   have HT := Aside0.mk hT
   clear hE5 hT
   go_wp2_with fail
   go_at_call 43
   refine (za0.calls _ _ _ _ _ _ _ rfl).mono ?_
   rw [d7]
   rintro e w6 ⟨rfl, hb6⟩
   have HB6 := Aside0.mk (zai HB5.out hb6)
   have hE6 := (hb6.block _ (zak HE5.out)).trans HE5.out
   have c3 := (za hE6 0).trans rfl
   have c4 := (za hE6 1).trans rfl
   have c5 := (za hE6 2).trans rfl
   have z3 := zaa hE6 0
   have z4 := zaa hE6 1
   have z5 := zaa hE6 2
   have HE6 := Aside0.mk hE6
   clear hb6 hE6 c0 c1 c2
   go_wp2_with fail
   have HB7 := Aside0.mk (((HB6.out.setCell (p := ⟨E, 0, none⟩) hsz (.int .i64 (tag + 1))).setCell (p := ⟨E, 1, none⟩) hsz (.int .i64 slice)).setCell (p := ⟨E, 2, none⟩) hsz (.int .i64 slice))
   have hE7 := zal (zal (zal HE6.out 0 (.int .i64 (tag + 1)) rfl) 1 (.int .i64 slice) rfl) 2 (.int .i64 slice) rfl
   clear c3 c4 c5 z3 z4 z5 HE6
   generalize ((w6.setCell ⟨E, 0, none⟩ (.int .i64 (tag + 1))).setCell ⟨E, 1, none⟩ (.int .i64 slice)).setCell ⟨E, 2, none⟩ (.int .i64 slice) = W7 at HB7 hE7 ⊢
   obtain ⟨f0, f1, f2⟩ := (H.out.keep HB7.out.drew).facts
   have c0 := (za (show W7.drew.heap[E]? = _ from hE7) 0).trans rfl
   have c1 := (za (show W7.drew.heap[E]? = _ from hE7) 1).trans rfl
   have c2 := (za (show W7.drew.heap[E]? = _ from hE7) 2).trans rfl
   obtain ⟨w8, s1, s2, s3⟩ := HST.out W7.drew HB7.out.drew (tag + 1) slice slice
   have S2 := Aside0.mk s2
   have S3 := Aside0.mk s3
   clear s2 s3 hE7
   go_region
   all_goals
    go_wp2
    go_ret2
    exact ⟨by rw [d3]; rfl, by rw [HQ.out]; exact S2.out, (Wrote.of_below HB7.out.drew hlt.1).turned S3.out⟩
  ·
   have HQ : Aside0 (chE low tag left slice = (tag, left - 1, slice)) := ⟨by unfold chE; rw [if_neg (by omega), if_neg hT]⟩
   have d6 : (tag == low) = false := by simpa using hT
   obtain ⟨f0, f1, f2⟩ := (H.out.keep HB5.out.drew).facts
   have c0 := (za (show W5.drew.heap[E]? = _ from hE5) 0).trans rfl
   have c1 := (za (show W5.drew.heap[E]? = _ from hE5) 1).trans rfl
   have c2 := (za (show W5.drew.heap[E]? = _ from hE5) 2).trans rfl
   obtain ⟨w6, s1, s2, s3⟩ := HST.out W5.drew HB5.out.drew tag (left - 1) slice
   have S2 := Aside0.mk s2
   have S3 := Aside0.mk s3
   clear s2 s3 hE5
   go_wp2_with fail
   go_region
   all_goals
    go_wp2
    go_ret2
    exact ⟨by rw [d3]; rfl, by rw [HQ.out]; exact S2.out, (Wrote.of_below HB5.out.drew hlt.1).turned S3.out⟩
theorem book_Resize_none {w : World} {b m n : Nat} {low : Int} {g : Int → Option E3} (h : BookAt w b m n low g) {k : Int} (wf : (Lit.int .i64 k).wf = true) (slice : Int) (hk : g k = none) :
  Calls Try.prog 25 #[.pointer (some ⟨b, 0, none⟩), .int .i64 k, .int .i64 slice] w fun e w' => e = .returned (.int .i64 3) ∧ Below w.heap.size w w' := by
 have H := Aside0.mk h
 have HK := Aside0.mk hk
 clear h hk
 go_enter Try.func25, Try.ntmps25
 go_wp2_with fail
 go_at_call 24
 refine (zbc H.out wf).mono ?_
 rw [HK.out]
 dsimp only [ent, entCode, Option.getD]
 rintro e w1 ⟨rfl, hb⟩
 have HB := Aside0.mk (zae hb (.cells #[.int .i64 0, .int .i64 0, .int .i64 0] 48))
 clear hb
 go_wp2_with fail
 go_ret
 exact ⟨rfl, HB.out⟩
theorem book_Resize_range {w : World} {b m n : Nat} {low : Int} {g : Int → Option E3} (h : BookAt w b m n low g) {k : Int} (wf : (Lit.int .i64 k).wf = true) (tag left slice0 slice : Int) (hk : g k = some (tag, left, slice0)) (hs : slice < 1 ∨ 1000 < slice) :
  Calls Try.prog 25 #[.pointer (some ⟨b, 0, none⟩), .int .i64 k, .int .i64 slice] w fun e w' => e = .returned (.int .i64 14) ∧ Below w.heap.size w w' := by
 have H := Aside0.mk h
 have HK := Aside0.mk hk
 clear h hk
 have d5 : decide (1 ≤ slice ∧ slice ≤ 1000) = false := decide_eq_false (by omega)
 clear hs
 go_enter Try.func25, Try.ntmps25
 go_wp2_with fail
 go_at_call 24
 refine (zbc H.out wf).mono ?_
 rw [HK.out]
 dsimp only [ent, entCode, Option.getD]
 rintro e w1 ⟨rfl, hb⟩
 have HB := Aside0.mk (zae hb (.cells #[.int .i64 tag, .int .i64 left, .int .i64 slice0] 48))
 clear hb
 go_wp2_with fail
 go_at_call 40
 refine (zbm.calls slice _ _ (round_right_f slice)).mono ?_
 rw [d5]
 rintro e w2 ⟨rfl, hd⟩
 have HB2 := Aside0.mk (zai HB.out hd.below)
 clear hd
 go_wp2_with fail
 go_ret
 exact ⟨rfl, HB2.out⟩
theorem book_Resize_ok {w : World} {b m n : Nat} {low : Int} {g : Int → Option E3} (h : BookAt w b m n low g) (hn : n < 1000000) {k : Int} (wf : (Lit.int .i64 k).wf = true) (tag left slice0 slice : Int) (hk : g k = some (tag, left, slice0)) (hs : 1 ≤ slice ∧ slice ≤ 1000) :
  Calls Try.prog 25 #[.pointer (some ⟨b, 0, none⟩), .int .i64 k, .int .i64 slice] w fun e w' => e = .returned (.int .i64 0) ∧ BookAt w' b m (n + 1) low (fun j => if j = k then some (tag, mn left slice, slice) else g j) ∧ Wrote b m w w' := by
 have H := Aside0.mk h
 have HK := Aside0.mk hk
 have hlt := h.lt
 clear h hk
 have d5 : decide (1 ≤ slice ∧ slice ≤ 1000) = true := decide_eq_true hs
 have HST : Aside0 (∀ W, Below w.heap.size w W → ∀ a1 a2 a3 : Int, ∃ w3, (Instr.mapUpdate 76 (.map (some m)) (.int .i64 k) (.agg #[.int .i64 a1, .int .i64 a2, .int .i64 a3])).run Try.prog W = .ok () w3 ∧ BookAt w3 b m (n + 1) low (fun j => if j = k then some (a1, a2, a3) else g j) ∧ W.mapTurned w3 m) := ⟨fun W hW a1 a2 a3 => book_store (H.out.keep hW) hn wf _ _ _⟩
 go_enter Try.func25, Try.ntmps25
 go_wp2_with fail
 go_at_call 24
 refine (zbc H.out wf).mono ?_
 rw [HK.out]
 dsimp only [ent, entCode, Option.getD]
 rintro e w1 ⟨rfl, hb⟩
 have HB := Aside0.mk (zae hb (.cells #[.int .i64 tag, .int .i64 left, .int .i64 slice0] 48))
 have hE := zau w1 (.cells #[.int .i64 tag, .int .i64 left, .int .i64 slice0] 48)
 clear hb
 go_wp2_with fail
 go_at_call 40
 refine (zbm.calls slice _ _ (round_right_f slice)).mono ?_
 rw [d5]
 rintro e w2 ⟨rfl, hd⟩
 have HB2 := Aside0.mk (zai HB.out hd.below)
 have hE2 := (hd.below.block _ (zak hE)).trans hE
 generalize w1.heap.size = E at hE2 ⊢
 have c0 := (za (show w2.drew.heap[E]? = _ from hE2) 0).trans rfl
 have c1 := (za (show w2.drew.heap[E]? = _ from hE2) 1).trans rfl
 have c2 := (za (show w2.drew.heap[E]? = _ from hE2) 2).trans rfl
 obtain ⟨f0, f1, f2⟩ := (H.out.keep HB2.out.drew).facts
 obtain ⟨w6, s1, s2, s3⟩ := HST.out w2.drew HB2.out.drew tag (if slice < left then slice else left) slice
 have S2 := Aside0.mk s2
 have S3 := Aside0.mk s3
 clear hd s2 s3 hE2 hE
 go_wp2_with fail
 go_region
 all_goals go_wp2
 all_goals
  go_ret
  exact ⟨rfl, S2.out, (Wrote.of_below HB2.out.drew hlt.1).turned S3.out⟩
theorem book_stuck_ok {w : World} {b m n : Nat} {low : Int} {g : Int → Option E3} (h : BookAt w b m n low g) :
  Calls Try.prog 44 #[.pointer (some ⟨b, 0, none⟩)] w fun e w' => ∃ r, e = .returned (.bool r) ∧ (r = true ↔ (∀ k e, g k = some e → e.1 ≠ low) ∧ ∃ k e, g k = some e) ∧ Below w.heap.size w w' := by
 have H := Aside0.mk h
 obtain ⟨f0, f1, f2⟩ := h.facts
 have hlt := h.lt
 clear h
 obtain ⟨w1, cnt, s1, s2, s3, s4⟩ := H.out.2.2.range (t := 76) (e := 48) Try.underlying3 Try.underlying76
 have S2 := Aside0.mk s2
 have S3 := Aside0.mk s3
 clear s2 s3 s4
 go_enter Try.func44, Try.ntmps44
 go_wp2_with fail
 go_loopg [4] cnt (fun gk v4 w' => ∃ left, Aside0 (RangeAt Try.prog 3 mkE w' m w.heap.size n g left gk) ∧ Aside0 (∀ k e, g k = some e → left k = false → e.1 ≠ low) ∧ Aside0 (Below w.heap.size w w'))
 case atStart => exact ⟨_, S2, ⟨fun k e h1 h2 => by rw [h1] at h2; cases h2⟩, S3⟩
 case round =>
  obtain ⟨left, HR, HL, HB⟩ := hrel
  rcases HR.out.next Try.underlying3 0 with ⟨h0, hl, hrun⟩ | ⟨k, a, w2, cnt', wf, hlk, hg, hrun, hr2, hlt2, hbl, hen, _⟩
  ·
   obtain ⟨q, hq, hq0, hlen⟩ := HR.out.owns.len (t := 76) (e := 48) Try.underlying76 Try.underlying3
   have hl2 := hlen 3
   obtain ⟨f3, f4, f5⟩ := (H.out.keep HB.out).facts
   have HN := Aside0.mk hl
   have HQ := Aside0.mk hq0
   clear hl hlen hq0
   go_wp2_with fail
   go_ret
   refine ⟨_, rfl, ⟨fun h => ?_, fun h => ?_⟩, HB.out⟩
   ·
    have h1 := of_decide_eq_true h
    refine ⟨fun k e hg => HL.out k e hg (HN.out k), ?_⟩
    cases Classical.em (∃ k e, g k = some e) with
    | inl h => exact h
    | inr h =>
     have : q = 0 := HQ.out.2 fun k => by
      cases hg : g k with
      | none => rfl
      | some e => exact absurd ⟨k, e, hg⟩ h
     omega
   ·
    obtain ⟨k, e, hg⟩ := h.2
    refine decide_eq_true ?_
    cases q with
    | zero =>
     have := HQ.out.1 rfl k
     rw [hg] at this
     cases this
    | succ q => omega
  ·
   have HR2 := Aside0.mk hr2
   have HB2 := Aside0.mk (zae (HB.out.trans (hbl _ (Nat.le_refl _))) (.cells #[.int .i64 a.1, .int .i64 a.2.1, .int .i64 a.2.2] 48))
   have HR3 := Aside0.mk (hr2.keep (zae (Below.refl _ w2) (.cells #[.int .i64 a.1, .int .i64 a.2.1, .int .i64 a.2.2] 48)))
   have hE := zau w2 (.cells #[.int .i64 a.1, .int .i64 a.2.1, .int .i64 a.2.2] 48)
   have c0 := (za (show (w2.alloc (.cells #[.int .i64 a.1, .int .i64 a.2.1, .int .i64 a.2.2] 48)).drew.heap[w2.heap.size]? = _ from hE) 0).trans rfl
   obtain ⟨f3, f4, f5⟩ := (H.out.keep HB2.out.drew).facts
   have HG := Aside0.mk hg
   clear hr2 hbl hE hg hlk
   have hrun' : (Instr.next (.pointer (some ⟨w.heap.size, 0, none⟩)) false 0).run Try.prog wr = .ok (.tuple #[.bool true, .int .i64 k, .agg #[.int .i64 a.1, .int .i64 a.2.1, .int .i64 a.2.2]]) w2 := hrun
   have hen' : (Instr.entry (.pointer (some ⟨w.heap.size, 0, none⟩))).run Try.prog w2 = .ok (.tuple #[.int .i64 k, .agg #[.int .i64 a.1, .int .i64 a.2.1, .int .i64 a.2.2]]) w2 := hen
   clear hrun hen
   go_wp2_with fail
   go_region
   by_cases hT : a.1 = low
   ·
    have d6 : (a.1 == low) = true := by simpa using hT
    have HT := Aside0.mk hT
    clear hT
    go_wp2
    go_ret
    exact ⟨_, rfl, ⟨fun h => by (cases h), fun h => absurd HT.out (h.1 _ _ HG.out)⟩, HB2.out.drew⟩
   ·
    have d6 : (a.1 == low) = false := by simpa using hT
    have HT := Aside0.mk hT
    clear hT
    go_wp2
    go_roundg cnt'
    case measure => exact hlt2
    case rel =>
     refine ⟨_, ⟨HR3.out.keep ((Below.refl _ _).drew)⟩, ⟨fun j e h1 h2 => ?_⟩, ⟨HB2.out.drew⟩⟩
     by_cases ej : j = k
     ·
      subst ej
      rw [HG.out] at h1
      cases h1
      exact HT.out
     ·
      refine HL.out j e h1 ?_
      simpa [ej] using h2
def look (L : List S86) (k : Int) : Option E3 := (L.find? (fun e => e.f0 == k)).map (fun e => (e.f1, e.f2, e.f3))
def Ids (L : List S86) : Prop := L.Pairwise (fun a b => a.f0 < b.f0)
theorem zbh {L : List S86} {k : Int} {e : E3} (h : look L k = some e) : ∃ x ∈ L, x.f0 = k ∧ e = (x.f1, x.f2, x.f3) := by
 unfold look at h
 obtain ⟨x, hx, rfl⟩ := Option.map_eq_some_iff.1 h
 exact ⟨x, List.mem_of_find?_eq_some hx, by simpa using List.find?_some hx, rfl⟩
theorem zbk {L : List S86} {k : Int} (h : look L k = none) : ∀ x ∈ L, x.f0 ≠ k := by
 unfold look at h
 have h1 := Option.map_eq_none_iff.1 h
 intro x hx
 have := List.find?_eq_none.1 h1 x hx
 simpa using this
theorem Ids.inj : ∀ {L : List S86}, Ids L → ∀ {x y : S86}, x ∈ L → y ∈ L → x.f0 = y.f0 → x = y
 | [], _, x, _, hx, _, _ => by simp at hx
 | a :: r, h, x, y, hx, hy, e => by
  obtain ⟨h1, h2⟩ := List.pairwise_cons.1 h
  rcases List.mem_cons.1 hx with rfl | hx'
  ·
   rcases List.mem_cons.1 hy with rfl | hy'
   ·
    rfl
   ·
    have := h1 y hy'
    omega
  ·
   rcases List.mem_cons.1 hy with rfl | hy'
   ·
    have := h1 x hx'
    omega
   ·
    exact Ids.inj h2 hx' hy' e
theorem zbi {L : List S86} (h : Ids L) {x : S86} (hx : x ∈ L) : look L x.f0 = some (x.f1, x.f2, x.f3) := by
 cases hl : look L x.f0 with
 | none => exact absurd rfl (zbk hl x hx)
 | some e =>
  obtain ⟨y, hy, e1, rfl⟩ := zbh hl
  rw [h.inj hy hx e1]
theorem look_is {L : List S86} {k : Int} (h : ∃ x ∈ L, x.f0 = k) : (look L k).isSome = true := by
 cases hl : look L k with
 | none =>
  obtain ⟨x, hx, e⟩ := h
  exact absurd e (zbk hl x hx)
 | some e => rfl
def GoodE (low : Int) (e : S86) : Prop := (Lit.int .i64 e.f0).wf = true ∧ low ≤ e.f1 ∧ e.f1 ≤ low + 1 ∧ 0 ≤ e.f2 ∧ e.f2 ≤ e.f3 ∧ 1 ≤ e.f3 ∧ e.f3 ≤ 1000 ∧ (e.f2 = 0 → e.f1 = low + 1)
def GoodB (low : Int) (L : List S86) : Prop := Ids L ∧ ∀ e ∈ L, GoodE low e
def ren (low : Int) (e : S86) : S86 := if e.f1 = low ∧ e.f2 ≤ 0 then ⟨e.f0, e.f1 + 1, e.f3, e.f3⟩ else e
def renE (low : Int) (e : E3) : E3 := if e.1 = low ∧ e.2.1 ≤ 0 then (e.1 + 1, e.2.2, e.2.2) else e
theorem ren_id (low : Int) (e : S86) : (ren low e).f0 = e.f0 := by
 unfold ren
 split <;> rfl
theorem look_ren (low : Int) (L : List S86) (k : Int) : look (L.map (ren low)) k = (look L k).map (renE low) := by
 unfold look
 rw [List.find?_map]
 have : ((fun e : S86 => e.f0 == k) ∘ ren low) = fun e => e.f0 == k := by
  funext e
  simp [ren_id]
 rw [this]
 cases L.find? (fun e => e.f0 == k) with
 | none => rfl
 | some e =>
  simp only [Option.map_some]
  unfold ren renE
  dsimp only
  split <;> rfl
def stuckL (low : Int) (L : List S86) : Bool := !L.isEmpty && L.all (fun e => e.f1 != low)
theorem stuckL_iff {low : Int} {L : List S86} (h : Ids L) : stuckL low L = true ↔ (∀ k e, look L k = some e → e.1 ≠ low) ∧ ∃ k e, look L k = some e := by
 unfold stuckL
 constructor
 ·
  intro h1
  simp only [Bool.and_eq_true, Bool.not_eq_true', List.all_eq_true, bne_iff_ne] at h1
  refine ⟨fun k e hk => ?_, ?_⟩
  ·
   obtain ⟨x, hx, _, rfl⟩ := zbh hk
   exact h1.2 x hx
  ·
   cases L with
   | nil => simp at h1
   | cons a r => exact ⟨a.f0, _, zbi h List.mem_cons_self⟩
 ·
  rintro ⟨h1, k, e, h2⟩
  simp only [Bool.and_eq_true, Bool.not_eq_true', List.all_eq_true, bne_iff_ne]
  obtain ⟨x, hx, _, _⟩ := zbh h2
  refine ⟨?_, fun y hy => h1 _ _ (zbi h hy)⟩
  cases L with
  | nil => simp at hx
  | cons a r => rfl
def settleF : Nat → Int → List S86 → Int × List S86
 | 0, low, L => (low, L)
 | k + 1, low, L => if stuckL low L then settleF k (low + 1) (L.map (ren (low + 1))) else (low, L)
def spent (low : Int) (L : List S86) : List Int := if stuckL low L then (L.filter (fun e => e.f2 == 0)).map (fun e => e.f0) else []
theorem Ids.map_ren {L : List S86} (h : Ids L) (low : Int) : Ids (L.map (ren low)) := by
 unfold Ids
 rw [List.pairwise_map]
 exact h.imp (fun {a b} h => by rw [ren_id, ren_id]; exact h)
theorem stuck_all {low : Int} {L : List S86} (hs : stuckL low L = true) : L ≠ [] ∧ ∀ e ∈ L, e.f1 ≠ low := by
 unfold stuckL at hs
 simp only [Bool.and_eq_true, Bool.not_eq_true', List.all_eq_true, bne_iff_ne] at hs
 exact ⟨fun e => by rw [e] at hs; simp at hs, hs.2⟩
theorem GoodB.step {low : Int} {L : List S86} (h : GoodB low L) (hs : stuckL low L = true) : GoodB (low + 1) (L.map (ren (low + 1))) ∧ ∀ e ∈ L.map (ren (low + 1)), 0 < e.f2 := by
 obtain ⟨_, h1⟩ := stuck_all hs
 have key : ∀ e ∈ L, GoodE (low + 1) (ren (low + 1) e) ∧ 0 < (ren (low + 1) e).f2 := by
  intro e he
  obtain ⟨g0, g1, g2, g3, g4, g5, g6, g7⟩ := h.2 e he
  have g8 := h1 e he
  unfold ren
  by_cases c : e.f1 = low + 1 ∧ e.f2 ≤ 0
  ·
   rw [if_pos c]
   exact ⟨⟨g0, by dsimp only; omega, by dsimp only; omega, by dsimp only; omega, Int.le_refl _, g5, g6, fun h => by dsimp only at h; omega⟩, by dsimp only; omega⟩
  ·
   rw [if_neg c]
   exact ⟨⟨g0, by omega, by omega, g3, g4, g5, g6, fun h => by omega⟩, by omega⟩
 refine ⟨⟨h.1.map_ren _, fun e he => ?_⟩, fun e he => ?_⟩
 all_goals
  obtain ⟨x, hx, rfl⟩ := List.mem_map.1 he
  have := key x hx
  first
  | exact this.1
  | exact this.2
theorem step_full {low : Int} {L : List S86} (h : GoodB low L) (hs : stuckL low L = true) (hf : ∀ e ∈ L, 0 < e.f2) : L.map (ren (low + 1)) = L ∧ stuckL (low + 1) L = false := by
 obtain ⟨h0, h1⟩ := stuck_all hs
 constructor
 ·
  refine (List.map_congr_left fun e he => ?_).trans (List.map_id _)
  unfold ren
  rw [if_neg (fun c => by have := hf e he; omega)]
  rfl
 ·
  cases L with
  | nil => exact absurd rfl h0
  | cons a r =>
   have g := h.2 a List.mem_cons_self
   have g8 := h1 a List.mem_cons_self
   have : a.f1 = low + 1 := by have := g.2.1; have := g.2.2.1; omega
   simp [stuckL, this]
theorem spent_rise {low : Int} {L : List S86} (h : Ids L) : (spent low L).Pairwise (· < ·) := by
 unfold spent
 split
 ·
  rw [List.pairwise_map]
  exact (h.filter _)
 ·
  exact List.Pairwise.nil
theorem GoodB.settle {low : Int} {L : List S86} (h : GoodB low L) : GoodB (settleF 2 low L).1 (settleF 2 low L).2 ∧ stuckL (settleF 2 low L).1 (settleF 2 low L).2 = false ∧ low ≤ (settleF 2 low L).1 ∧ (settleF 2 low L).1 ≤ low + 2 := by
 unfold settleF
 by_cases h1 : stuckL low L = true
 ·
  obtain ⟨g1, g2⟩ := h.step h1
  rw [if_pos h1]
  unfold settleF
  by_cases h2 : stuckL (low + 1) (L.map (ren (low + 1))) = true
  ·
   obtain ⟨g3, _⟩ := g1.step h2
   obtain ⟨g5, g6⟩ := step_full g1 h2 g2
   rw [if_pos h2]
   unfold settleF
   refine ⟨g3, ?_, by dsimp only; omega, by dsimp only; omega⟩
   rw [g5]
   exact g6
  ·
   rw [if_neg h2]
   exact ⟨g1, by simpa using h2, by dsimp only; omega, by dsimp only; omega⟩
 ·
  rw [if_neg h1]
  exact ⟨h, by simpa using h1, by dsimp only; omega, by dsimp only; omega⟩
theorem settle_len (k : Nat) (low : Int) (L : List S86) : (settleF k low L).2.length = L.length := by
 induction k generalizing low L with
 | zero => rfl
 | succ k ih =>
  unfold settleF
  split
  ·
   rw [ih, List.length_map]
  ·
   rfl
def IntsAt (w : World) (v : Value) (l : List Int) : Prop := ∃ A c, v = .slice A l.length c ∧ l.length ≤ c ∧ Kd.C (Kd.int .i64) w A l.length l
theorem IntsAt.of_row {w : World} {g c : Nat} {l : List Int} (h : RowC w g l) (hl : l.length < 1000000) (hc : l.length ≤ c) : IntsAt w (.slice (some ⟨g, 0, none⟩) l.length c) l := by
 refine ⟨_, _, rfl, hc, rfl, by omega, fun _ => ⟨_, rfl, fun j p hj => ⟨[.int .i64 p], rfl, rfl, fun i u hu => ?_⟩⟩⟩
 match i, hu with
 | 0, hu =>
  have e : (Addr.add ⟨g, 0, none⟩ (j * (Kd.int .i64).sz + 0)) = ⟨g, j, none⟩ := by
   show (Addr.add ⟨g, 0, none⟩ (j * 1 + 0)) = _
   rw [Nat.mul_one, Nat.add_zero, add_plain]
  obtain ⟨hjl, hjp⟩ := List.getElem?_eq_some_iff.1 hj
  rw [e, (h.2 j hjl).1]
  have : l.getD j 0 = p := by simp [hjl, hjp]
  rw [this]
  simpa using hu
theorem IntsAt.below {w w' : World} {v : Value} {l : List Int} (h : IntsAt w v l) (hb : Below w.heap.size w w') : IntsAt w' v l := by
 obtain ⟨A, c, e, hc, hr⟩ := h
 exact ⟨A, c, e, hc, Kd.zbb hr hb⟩
theorem IntsAt.nil (w : World) (A : Option Addr) (c : Nat) : IntsAt w (.slice A 0 c) [] := ⟨A, c, rfl, Nat.zero_le _, rfl, by simp, fun h => absurd h (by simp)⟩
section
open Go.Sort
theorem Sort_own {w : World} {base : Nat} {ok : Nat → Prop} {v : Value} {l : List Int} (h : Kd.R (Kd.int .i64) 3 w base ok v l) (hl : l.length < 1000000) :
  Calls Try.prog 45 #[v] w fun e w' => e = .returned (.tuple #[]) ∧ IntsAt w' v (l.mergeSort fun x y => decide (x ≤ y)) ∧ Below base w w' := by
 have ho := Kd.own_of_R h
 obtain ⟨_, ⟨rfl, h1⟩ | ⟨g, cap, cur, rfl, hg, hh, hn, hmx, hsz, ht⟩⟩ := ho
 ·
  obtain rfl : l = [] := List.eq_nil_of_length_eq_zero h1
  refine (Try.slices_Sort_int_none none 0 w).mono ?_
  rintro e w' ⟨rfl, rfl⟩
  exact ⟨rfl, by simpa using IntsAt.nil w' none 0, Below.refl _ _⟩
 ·
  rw [Nat.mul_one] at ht
  have hr : RowC w g l := by
   refine ⟨zak hh, fun i hi => ⟨?_, zaa hh i⟩⟩
   rw [za hh i]
   have := congrArg (fun z => z[i]?) ht
   simp only [List.getElem?_take_of_lt hi] at this
   rw [← Array.getElem?_toList, this]
   simp [hi, encs]
  refine (Try.slices_Sort_int g 0 cap l w hr.holds hr.1 (by omega)).mono ?_
  rintro e w3 ⟨rfl, n, os, rfl⟩
  have hlen : (l.mergeSort fun x y => decide (x ≤ y)).length = l.length := List.length_mergeSort _
  have hr3 : RowC (grow (putRow (Value.int .i64) (Sort.ahead w n) g 0 (l.mergeSort fun x y => decide (x ≤ y)).toArray) os) g (l.mergeSort fun x y => decide (x ≤ y)) := by
   have hb3 : g < (putRow (Value.int .i64) (Sort.ahead w n) g 0 (l.mergeSort fun x y => decide (x ≤ y)).toArray).heap.size := by
    rw [size_putRow]
    exact hr.1
   refine RowC.of_holds (by rw [size_grow]; omega) (holds_grow _ _ _ _ _ _ hb3 (holds_putRow _ _ _ _ l.toArray _ ?_ (by simp [hlen])))
   exact hr.holds
  have hB3 : Below base w (grow (putRow (Value.int .i64) (Sort.ahead w n) g 0 (l.mergeSort fun x y => decide (x ≤ y)).toArray) os) := by
   have h1 := Lib.below_putRow (enc := Value.int .i64) (q := n) (d := (l.mergeSort fun x y => decide (x ≤ y)).toArray) (Below.refl base w) hg
   exact below_grew h1 (by rw [size_putRow]; show base ≤ w.heap.size; have := hr.1; omega) os
  refine ⟨rfl, ?_, hB3⟩
  have := IntsAt.of_row (c := cap) hr3 (by omega) (by omega)
  rw [hlen] at this
  exact this
end
theorem spent_mem {low : Int} {L : List S86} (h : GoodB low L) (hs : stuckL low L = true) (k : Int) : k ∈ spent low L ↔ ∃ e, look L k = some e ∧ e.1 = low + 1 ∧ e.2.1 ≤ 0 := by
 unfold spent
 rw [if_pos hs]
 obtain ⟨_, h1⟩ := stuck_all hs
 constructor
 ·
  intro hk
  obtain ⟨x, hx, rfl⟩ := List.mem_map.1 hk
  obtain ⟨hx1, hx2⟩ := List.mem_filter.1 hx
  obtain ⟨g0, g1, g2, g3, g4, g5, g6, g7⟩ := h.2 x hx1
  have h2 : x.f2 = 0 := by simpa using hx2
  exact ⟨_, zbi h.1 hx1, g7 h2, by dsimp only; omega⟩
 ·
  rintro ⟨e, he, e1, e2⟩
  obtain ⟨x, hx, rfl, rfl⟩ := zbh he
  obtain ⟨g0, g1, g2, g3, g4, g5, g6, g7⟩ := h.2 x hx
  have h2 : x.f2 = 0 := by dsimp only at e2; omega
  exact List.mem_map.2 ⟨x, List.mem_filter.2 ⟨hx, by simpa using h2⟩, rfl⟩
theorem sort_perm {l l' : List Int} (h : l.Perm l') (hs : l'.Pairwise (· < ·)) : l.mergeSort (fun x y => decide (x ≤ y)) = l' := by
 have tr : ∀ a b c : Int, decide (a ≤ b) = true → decide (b ≤ c) = true → decide (a ≤ c) = true := fun a b c h1 h2 => by simp only [decide_eq_true_eq] at *; omega
 have tot : ∀ a b : Int, (decide (a ≤ b) || decide (b ≤ a)) = true := fun a b => by simp only [Bool.or_eq_true, decide_eq_true_eq]; omega
 refine List.Perm.eq_of_pairwise (le := fun a b => decide (a ≤ b) = true) (fun a b _ _ h1 h2 => ?_) (List.pairwise_mergeSort tr tot l) (hs.imp fun {a b} h => decide_eq_true (by omega)) ((List.mergeSort_perm l _).trans h)
 simp only [decide_eq_true_eq] at h1 h2
 omega
theorem spent_len (low : Int) (L : List S86) : (spent low L).length ≤ L.length := by
 unfold spent
 split
 ·
  rw [List.length_map]
  exact List.length_filter_le _ _
 ·
  simp
theorem iter_ne {α : Type} {mk : α → Value} {w : World} {b r n cnt base : Nat} {g : Int → Option α} {left : Int → Bool} {ok : Nat → Prop} {v : Value} {l : List Int} (h : RangeAt Try.prog 3 mk w b r n g left cnt) (hk : Kd.R (Kd.int .i64) 3 w base ok v l) : some r ≠ v.ownBlock := by
 intro e
 obtain ⟨inner, ho⟩ := Kd.R_own hk
 obtain ⟨cells, hc⟩ := own_typed ho r e.symm
 obtain ⟨D, l, ⟨es, clock, since, seen, c0, _, _, _, _, hr, _⟩, _⟩ := h
 rw [hr] at hc
 cases hc
theorem RangeAt.grown {α : Type} {P : Program} {kt : TypeId} {mk : α → Value} {w w' : World} {b r n cnt : Nat} {g : Int → Option α} {left : Int → Bool} {row : Option Nat} (h : RangeAt P kt mk w b r n g left cnt) (hg : w.grownBy w' row) (h1 : some b ≠ row) (h2 : some r ≠ row) : RangeAt P kt mk w' b r n g left cnt := by
 obtain ⟨D, l, h, hd⟩ := h
 exact ⟨D, l, h.kept hg h1 h2, hd⟩
theorem RangeAt.ext {α : Type} {P : Program} {kt : TypeId} {mk : α → Value} {w : World} {b r n cnt : Nat} {g g' : Int → Option α} {left : Int → Bool} (h : RangeAt P kt mk w b r n g left cnt) (e : ∀ k, g' k = g k) : RangeAt P kt mk w b r n g' left cnt := by
 rw [show g' = g from funext e]
 exact h
def Front (w : World) (b m : Nat) (low : Int) : Prop := b ≠ m ∧ w.heap[b]? = some (.cells #[.int .i64 low, .map (some m)] 78 (0, 0))
theorem Front.facts {w : World} {b m : Nat} {low : Int} (h : Front w b m low) : w.cell? ⟨b, 0, none⟩ = some (.int .i64 low) ∧ w.cell? ⟨b, 1, none⟩ = some (.map (some m)) ∧ w.frozen? ⟨b, 0, none⟩ = false :=
 ⟨(za h.2 0).trans rfl, (za h.2 1).trans rfl, zaa h.2 0⟩
theorem Wrote.grown {b m : Nat} {w w1 w2 : World} {row : Option Nat} (h : Wrote b m w w1) (hg : w1.grownBy w2 row) (hr : ∀ k, row = some k → w.heap.size ≤ k) (hb : b < w.heap.size) : Wrote b m w w2 :=
 ⟨⟨Nat.le_trans h.1.1 hg.size, fun i hi h1 h2 => (hg.block i (Nat.lt_of_lt_of_le hi h.1.1) (fun e => by have := hr i e.symm; omega)).trans (h.1.2 i hi h1 h2)⟩, fun k h1 h2 => (h.2 k h1 h2).grown hg (by have := h.1.1; omega) (fun j e => by have := hr j e; omega)⟩
theorem Wrote.at (b m : Nat) (w : World) : Wrote b m w w := ⟨Only.refl b m w, fun k _ _ => Below.refl k w⟩
theorem book_Settle_ok {w : World} {b m n : Nat} {low : Int} {L : List S86} (h : BookAt w b m n low (look L)) (hG : GoodB low L) (hlow : 0 < low ∧ low < 1000000) (hn : n < 1000000) (hL : L.length < 1000000) :
  Calls Try.prog 18 #[.pointer (some ⟨b, 0, none⟩)] w fun e w' => ∃ v, e = .returned v ∧ IntsAt w' v (spent low L) ∧ BookAt w' b m n (settleF 2 low L).1 (look (settleF 2 low L).2) ∧ Wrote b m w w' := by
 have H := Aside0.mk h
 have hlt := h.lt
 clear h
 go_enter Try.func18, Try.ntmps18
 go_wp2_with fail
 go_loopg [3] 2 (fun gk v3 w' => ∃ (low' : Int) (L' : List S86) (l : List Int), Aside0 (Kd.R (Kd.int .i64) 3 w' w.heap.size (fun k => w.heap.size ≤ k) v3 l) ∧ Aside0 (BookAt w' b m n low' (look L')) ∧ Aside0 (GoodB low' L') ∧ Aside0 (Wrote b m w w') ∧ Aside0 (settleF gk low' L' = settleF 2 low L) ∧ Aside0 (stuckL low' L' = true → gk = 2 ∨ gk = 1 ∧ ∀ e ∈ L', 0 < e.f2) ∧ Aside0 ((gk = 2 → l = [] ∧ low' = low ∧ L' = L) ∧ (gk < 2 → l.Perm (spent low L))) ∧ (low' + gk = low + 2 ∧ gk ≤ 2))
 case atStart => exact ⟨low, L, [], ⟨Kd.R_nil _ _ _ _ _⟩, H, ⟨hG⟩, ⟨Wrote.at b m w⟩, ⟨rfl⟩, ⟨fun _ => .inl rfl⟩, ⟨⟨fun _ => ⟨rfl, rfl, rfl⟩, fun h => by omega⟩⟩, by omega⟩
 case round =>
  obtain ⟨low', L', l, HO, HB, HG, HW, HF, HS, HL, hgk⟩ := hrel
  go_wp2_with fail
  go_at_call 44
  refine (book_stuck_ok HB.out).mono ?_
  rintro e w1 ⟨r, rfl, hr, hb1⟩
  have hr2 : r = stuckL low' L' := by
   have := stuckL_iff (low := low') HG.out.1
   cases hs : stuckL low' L' with
   | true => exact hr.2 (this.1 hs)
   | false =>
    cases hr' : r with
    | false => rfl
    | true =>
     have := this.2 (hr.1 hr')
     rw [hs] at this
     cases this
  have HR2 := Aside0.mk hr2
  have HB1 := Aside0.mk (HB.out.keep hb1)
  have HO1 := Aside0.mk (Kd.R_below HO.out hb1)
  have HW1 := Aside0.mk (HW.out.step hb1 (by have := HW.out.1.1; omega))
  clear hr hr2 hb1 HB HO HW
  cases r with
  | false =>
   have hst := HR2.out
   have hlen : l.length = (spent low L).length ∧ l.mergeSort (fun x y => decide (x ≤ y)) = spent low L := by
    have hp : l.Perm (spent low L) := by
     by_cases h2 : gk = 2
     ·
      obtain ⟨rfl, rfl, rfl⟩ := HL.out.1 h2
      unfold spent
      rw [← hst]
      exact List.Perm.refl _
     ·
      exact HL.out.2 (by omega)
    exact ⟨hp.length_eq, sort_perm hp (spent_rise hG.1)⟩
   have hfin : settleF 2 low L = (low', L') := by
    rw [← HF.out]
    cases gk with
    | zero => rfl
    | succ q =>
     unfold settleF
     rw [← hst]
     rfl
   have HFin := Aside0.mk hfin
   have HLen := Aside0.mk hlen
   clear hst hlen hfin
   go_wp2_with fail
   go_at_call 45
   refine (Sort_own HO1.out (by rw [HLen.out.1]; have := spent_len low L; omega)).mono ?_
   rw [HLen.out.2]
   rintro e w2 ⟨rfl, hi2, hb2⟩
   have HI2 := Aside0.mk hi2
   have HB2 := Aside0.mk (HB1.out.below hb2 hlt.1 hlt.2)
   have HW2 : Aside0 (Wrote b m w w2) := ⟨⟨⟨Nat.le_trans HW1.out.1.1 hb2.size, fun i hi h1 h2 => (hb2.block i hi).trans (HW1.out.1.2 i hi h1 h2)⟩, fun k h1 h2 => (HW1.out.2 k h1 h2).trans (hb2.mono (by omega))⟩⟩
   clear hi2 hb2
   go_wp2_with fail
   go_ret
   exact ⟨_, rfl, HI2.out, by rw [HFin.out]; exact HB2.out, HW2.out⟩
  | true =>
   obtain ⟨f0, f1, f2⟩ := HB1.out.facts
   obtain ⟨gq, rfl⟩ : ∃ gq, gk = gq + 1 := by
    rcases HS.out HR2.out.symm with h | ⟨h, _⟩
    ·
     exact ⟨1, h⟩
    ·
     exact ⟨0, h⟩
   have d1 : wrap64 (low' + 1) = low' + 1 := w64s (by omega) (by omega)
   have hst := HR2.out.symm
   obtain ⟨w2, cnt, s1, s2, s3, s4⟩ := (HB1.out.set (low' + 1)).2.2.range (t := 76) (e := 48) Try.underlying3 Try.underlying76
   have HW1s := HW1.out.low (.int .i64 (low' + 1))
   have HO1s := Kd.R_far (p := ⟨b, 0, none⟩) HO1.out (fun k hk => by show k ≠ b; omega) (.int .i64 (low' + 1))
   have HFr : Aside0 (Front w2 b m (low' + 1)) := ⟨⟨(HB1.out.set (low' + 1)).1, (s3.block _ (HB1.out.set (low' + 1)).lt.1).trans (HB1.out.set (low' + 1)).2.1⟩⟩
   have HO2 := Aside0.mk (Kd.R_below HO1s s3)
   have HW2 := Aside0.mk (HW1s.step s3 (by rw [World.size_setCell]; have := HW1.out.1.1; omega))
   have hRs : (w1.setCell ⟨b, 0, none⟩ (.int .i64 (low' + 1))).heap.size = w1.heap.size := World.size_setCell _ _ _
   rw [hRs] at s1 s2
   have S2 := Aside0.mk s2
   have hRw := HW1.out.1.1
   have HST := Aside0.mk hst
   clear s2 s3 HW1s HO1s hst
   go_wp2_with fail
   clear s1 f0 f1 f2 hRs
   generalize w1.heap.size = R at S2 hRw ⊢
   go_loopg [3] cnt (fun gk2 v3 w' => ∃ (left : Int → Bool) (l1 : List Int), Aside0 (Kd.R (Kd.int .i64) 3 w' w.heap.size (fun k => w.heap.size ≤ k) v3 (l ++ l1)) ∧ Aside0 (RangeAt Try.prog 3 mkE w' m R n (fun k => if left k = true then look L' k else (look L' k).map (renE (low' + 1))) left gk2) ∧ Aside0 (Front w' b m (low' + 1)) ∧ Aside0 (Wrote b m w w') ∧ Aside0 (l1.Nodup ∧ ∀ k, k ∈ l1 ↔ left k = false ∧ ∃ e, look L' k = some e ∧ e.1 = low' + 1 ∧ e.2.1 ≤ 0) ∧ l1.length + gk2 ≤ n)
   case atStart =>
    refine ⟨_, [], ⟨by rw [List.append_nil]; exact HO2.out⟩, ⟨S2.out.ext fun k => ?_⟩, HFr, HW2, ⟨⟨List.nodup_nil, fun k => ⟨fun h => (by cases h), fun h => ?_⟩⟩⟩, by rw [List.length_nil]; omega⟩
    ·
     cases look L' k <;> rfl
    ·
     obtain ⟨h1, e, h2, _⟩ := h
     rw [h2] at h1
     cases h1
   case round =>
    obtain ⟨left, l1, HO3, HR3, HF3, HW3, HL3, hl1⟩ := hrel
    obtain ⟨f0, f1, f2⟩ := HF3.out.facts
    rcases HR3.out.next Try.underlying3 0 with ⟨h0, hl, hrun⟩ | ⟨k, ⟨a1, a2, a3⟩, w4, cnt', wf, hlk, hg, hrun, hr4, hlt4, hbl, hen, hgr⟩
    ·
     have HN := Aside0.mk hl
     clear hl
     go_wp2_with fail
     go_roundg gq
     case measure => omega
     case rel =>
      have hstep := HG.out.step HST.out
      refine ⟨low' + 1, L'.map (ren (low' + 1)), l ++ l1, HO3, ⟨⟨HF3.out.1, HF3.out.2, HR3.out.owns.ext fun k => ?_⟩⟩, ⟨hstep.1⟩, HW3, ⟨?_⟩, ⟨fun hs => ?_⟩, ⟨⟨fun h => by omega, fun _ => ?_⟩⟩, by omega⟩
      ·
       rw [look_ren, if_neg (by rw [HN.out k]; simp)]
      ·
       have := HF.out
       unfold settleF at this
       rw [if_pos HST.out] at this
       exact this
      ·
       rcases HS.out HST.out with h | ⟨h, hf⟩
       ·
        exact .inr ⟨by omega, hstep.2⟩
       ·
        obtain ⟨e1, e2⟩ := step_full HG.out HST.out hf
        rw [e1, e2] at hs
        cases hs
      ·
       have hmem : ∀ k, k ∈ l1 ↔ ∃ e, look L' k = some e ∧ e.1 = low' + 1 ∧ e.2.1 ≤ 0 := fun k => by
        rw [HL3.out.2 k, HN.out k]
        simp
       rcases HS.out HST.out with h | ⟨h, hf⟩
       ·
        obtain ⟨rfl, rfl, rfl⟩ := HL.out.1 h
        rw [List.nil_append]
        refine (List.perm_ext_iff_of_nodup HL3.out.1 ((spent_rise HG.out.1).imp fun {a b} h => Int.ne_of_lt h)).2 fun k => ?_
        rw [hmem k, spent_mem HG.out HST.out]
       ·
        have : l1 = [] := by
         cases l1 with
         | nil => rfl
         | cons k r =>
          obtain ⟨e, he, _, e2⟩ := (hmem k).1 List.mem_cons_self
          obtain ⟨x, hx, _, rfl⟩ := zbh he
          have := hf x hx
          dsimp only at e2
          omega
        rw [this, List.append_nil]
        exact HL.out.2 (by omega)
    ·
     have HG4 := Aside0.mk hg
     have HLK := Aside0.mk hlk
     have hrl := HR3.out.lt
     have hml := HR3.out.owns.lt
     clear hg hlk
     obtain rfl : a1 = low' + 1 := by
      have hg := HG4.out
      rw [if_pos HLK.out] at hg
      obtain ⟨x, hx, _, e1⟩ := zbh hg
      cases e1
      obtain ⟨_, h1⟩ := stuck_all HST.out
      have := h1 x hx
      obtain ⟨_, g1, g2, _⟩ := HG.out.2 x hx
      omega
     have hrun' : (Instr.next (.pointer (some ⟨R, 0, none⟩)) false 0).run Try.prog wr = .ok (.tuple #[.bool true, .int .i64 k, .agg #[.int .i64 (low' + 1), .int .i64 a2, .int .i64 a3]]) w4 := hrun
     have hen' : (Instr.entry (.pointer (some ⟨R, 0, none⟩))).run Try.prog w4 = .ok (.tuple #[.int .i64 k, .agg #[.int .i64 (low' + 1), .int .i64 a2, .int .i64 a3]]) w4 := hen
     clear hrun hen
     have hlook : look L' k = some (low' + 1, a2, a3) := by
      have hg := HG4.out
      rw [if_pos HLK.out] at hg
      exact hg
     have hO4 : Kd.R (Kd.int .i64) 3 w4 w.heap.size (fun k => w.heap.size ≤ k) u3 (l ++ l1) := by
      have hne := iter_ne HR3.out HO3.out
      have h1 := Kd.R_flat (ok' := fun k => w.heap.size ≤ k ∧ k ≠ R) (fun h => h) HO3.out (fun k hk hok => ⟨hok, fun e => hne (by rw [← e]; exact hk.symm)⟩)
      exact Kd.zbs (Kd.R_grown h1 hgr (fun k hk e => hk.2 (by cases e; rfl))) (fun k hk => hk.1)
     have hW4 := HW3.out.grown hgr (fun k e => by cases e; exact hRw) hlt.1
     have hF4 : Front w4 b m (low' + 1) := ⟨HF3.out.1, (hbl R (Nat.le_refl R)).block b (by omega) |>.trans HF3.out.2⟩
     obtain ⟨W5, hW5⟩ : ∃ W, W = w4.alloc (.cells #[.int .i64 (low' + 1), .int .i64 a2, .int .i64 a3] 48) := ⟨_, rfl⟩
     have hb5 : Below w4.heap.size w4 W5 := by rw [hW5]; exact zae (Below.refl _ w4) _
     have hE5 : W5.heap[w4.heap.size]? = some (.cells #[.int .i64 (low' + 1), .int .i64 a2, .int .i64 a3] 48 (0, 0)) := by rw [hW5]; exact zau w4 _
     have HO5 := Aside0.mk (Kd.R_below hO4 hb5)
     have HW5 := Aside0.mk (hW4.step hb5 (by have := hW4.1.1; omega))
     have HR5 := Aside0.mk (hr4.keep hb5)
     have hF5 : Front W5 b m (low' + 1) := ⟨hF4.1, (hb5.block b (zak hF4.2)).trans hF4.2⟩
     have HK : Aside0 (∀ W, Below W5.heap.size W5 W → Front W b m (low' + 1) ∧ W.heap[w4.heap.size]? = some (.cells #[.int .i64 (low' + 1), .int .i64 a2, .int .i64 a3] 48 (0, 0)) ∧ RangeAt Try.prog 3 mkE W m R n (fun k => if left k = true then look L' k else (look L' k).map (renE (low' + 1))) (fun j => left j && !(j == k)) cnt' ∧ Kd.R (Kd.int .i64) 3 W w.heap.size (fun k => w.heap.size ≤ k) u3 (l ++ l1) ∧ Wrote b m w W) :=
      ⟨fun W hW => ⟨⟨hF5.1, (hW.block b (zak hF5.2)).trans hF5.2⟩, (hW.block _ (zak hE5)).trans hE5, HR5.out.keep hW, Kd.R_below HO5.out hW, HW5.out.step hW (zak hF5.2)⟩⟩
     have HLook := Aside0.mk hlook
     clear hlook hO4 hW4 hF4 hr4 hgr hbl hF5 hb5 HO5 HW5 HR5 hE5 f0 f1 f2
     by_cases hop : a2 > 0
     ·
      have d6 : decide (a2 > 0) = true := decide_eq_true hop
      have hren : renE (low' + 1) (low' + 1, a2, a3) = (low' + 1, a2, a3) := by unfold renE; rw [if_neg (by dsimp only; omega)]
      have HRen := Aside0.mk hren
      have HOp := Aside0.mk hop
      clear hren hop
      go_wp2_with fail
      rw [← hW5]
      clear hW5
      obtain ⟨k1, k2, _⟩ := HK.out W5 (Below.refl _ W5)
      obtain ⟨f0, f1, f2⟩ := k1.facts
      have c0 := (za k2 0).trans rfl
      have c1 := (za k2 1).trans rfl
      have c2 := (za k2 2).trans rfl
      clear k1 k2
      go_region_with (go_at_call 42; refine (zav.calls _ _ _ _ _ rfl).mono ?_; rw [d6]; rintro e w6 ⟨rfl, hb6⟩; have HB6 := Aside0.mk (((Below.refl W5.heap.size W5).drew).trans hb6); clear hb6; obtain ⟨k1, k2, _⟩ := HK.out w6 HB6.out; obtain ⟨f3, f4, f5⟩ := k1.facts; have c3 := (za k2 0).trans rfl; have c4 := (za k2 1).trans rfl; have c5 := (za k2 2).trans rfl; clear k1 k2)
      all_goals
       go_wp2
       go_roundg cnt'
       case measure => exact hlt4
       case rel =>
        obtain ⟨k3, k4, k5, k6, k7⟩ := HK.out w6 HB6.out
        refine ⟨_, l1, ⟨k6⟩, ⟨k5.ext fun j => ?_⟩, ⟨k3⟩, ⟨k7⟩, ⟨HL3.out.1, fun j => ?_⟩, by omega⟩
        ·
         by_cases e : j = k
         ·
          subst e
          simp [HLK.out, HLook.out, HRen.out]
         ·
          simp [e]
        ·
         rw [HL3.out.2 j]
         by_cases e : j = k
         ·
          subst e
          rw [HLK.out, HLook.out]
          constructor
          ·
           rintro ⟨h, _⟩
           cases h
          ·
           rintro ⟨_, x, hx, _, h2⟩
           cases hx
           have := HOp.out
           dsimp only at h2
           omega
         ·
          simp [e]
     ·
      have d6 : decide (a2 > 0) = false := decide_eq_false hop
      have hren : renE (low' + 1) (low' + 1, a2, a3) = (low' + 1 + 1, a3, a3) := by unfold renE; rw [if_pos (by dsimp only; omega)]
      have HRen := Aside0.mk hren
      have HOp := Aside0.mk hop
      have d7 : wrap64 (low' + 1 + 1) = low' + 1 + 1 := w64s (by omega) (by omega)
      clear hren hop
      go_wp2_with fail
      rw [← hW5]
      clear hW5
      obtain ⟨k1, k2, _⟩ := HK.out W5 (Below.refl _ W5)
      obtain ⟨f0, f1, f2⟩ := k1.facts
      have c0 := (za k2 0).trans rfl
      have c1 := (za k2 1).trans rfl
      have c2 := (za k2 2).trans rfl
      clear k1 k2
      go_region_with (go_at_call 42; refine (zav.calls _ _ _ _ _ rfl).mono ?_; rw [d6]; rintro e w6 ⟨rfl, hb6⟩; have HB6 := Aside0.mk (((Below.refl W5.heap.size W5).drew).trans hb6); clear hb6; obtain ⟨k1, k2, _⟩ := HK.out w6 HB6.out; obtain ⟨f3, f4, f5⟩ := k1.facts; have c3 := (za k2 0).trans rfl; have c4 := (za k2 1).trans rfl; have c5 := (za k2 2).trans rfl; clear k1 k2)
      all_goals
       clear f0 f1 f2 c0 c1 c2
       go_wp2
      all_goals
       go_region_with (go_at_call 43; refine (za0.calls _ _ _ _ _ _ _ rfl).mono ?_; rw [d7]; rintro e w7 ⟨rfl, hb7⟩; have HB7 := Aside0.mk (zai HB6.out (((Below.refl w6.heap.size w6).drew).trans hb7)); clear hb7; obtain ⟨k1, k2, k3, _⟩ := HK.out w7 HB7.out; obtain ⟨f6, f7, f8⟩ := k1.facts; have c6 := (za k2 0).trans rfl; have c7 := (za k2 1).trans rfl; have c8 := (za k2 2).trans rfl; obtain ⟨w8, s1, s2, s3⟩ := k3.store (t := 76) (e := 48) mkE_inj Try.underlying3 Try.underlying76 wf (low' + 1 + 1, a3, a3) (by simp [HLK.out, HLook.out]); have s1' : (Instr.mapUpdate 76 (.map (some m)) (.int .i64 k) (.agg #[.int .i64 (low' + 1 + 1), .int .i64 a3, .int .i64 a3])).run Try.prog w7 = .ok () w8 := s1; have S2 := Aside0.mk s2; have S3 := Aside0.mk s3; clear k1 k2 k3 s1 s2 s3)
      all_goals
       obtain ⟨k1, _, k3, k4, k5⟩ := HK.out w7 HB7.out
       have hmR : m < w.heap.size := hlt.2
       have HF8 : Aside0 (Front w8 b m (low' + 1)) := ⟨⟨k1.1, (zbx S3.out k1.1).trans k1.2⟩⟩
       have HO8 : Aside0 (Kd.R (Kd.int .i64) 3 w8 w.heap.size (fun k => w.heap.size ≤ k) u3 (l ++ l1)) := ⟨Kd.R_grown k4 S3.out.grown (fun j hj e => by cases e; omega)⟩
       have HW8 := Aside0.mk (k5.turned S3.out)
       have hsz8 := HW8.out.1.1
       have hll : l.length ≤ L.length := by
        by_cases h2 : gq + 1 = 2
        ·
         rw [(HL.out.1 h2).1]
         exact Nat.zero_le _
        ·
         rw [(HL.out.2 (by omega)).length_eq]
         exact spent_len low L
       have hll2 : (l ++ l1).length + 1 < 2000002 := by rw [List.length_append]; omega
       have HLL := Aside0.mk hll2
       clear k1 k3 k4 k5 hll2 c3 c4 c5 f3 f4 f5 c6 c7 c8 f6 f7 f8 s1'
       go_wp2_with (first | ((with_reducible refine gate_builtin (b := .append) (xs := #[.tmp 44, .tmp 46]) rfl ?_); at_builtin; refine Kd.R_append (Kd.int .i64) (w0 := w8) w.heap.size rfl (.tmp 44) (.tmp 46) 26 3 (.int .i64 0) 8 rfl Try.underlying26 info3 rfl (by decide) (by omega) u3 (l ++ l1) k [.int .i64 k] (fun k_ => w.heap.size ≤ k_) (fun _ => False) rfl rfl rfl (fun _ hk => hk.elim) (fun k_ hk => Nat.le_trans hsz8 hk) HO8.out (Below.refl _ _) hsz8 (by have := HLL.out; omega) ?_; intro v9 w9 ho9 hb9 hg9 hat9; have HO9 := Aside0.mk ho9; have HG9 := Aside0.mk hg9; clear ho9 hb9 hg9 hat9))
       go_roundg cnt'
       case measure => exact hlt4
       case rel =>
        have hown := HO8.out.1
        refine ⟨_, l1 ++ [k], ⟨by rw [← List.append_assoc]; exact HO9.out⟩, ⟨(S2.out.grown HG9.out (fun e => by have := hown m e.symm; omega) (iter_ne S2.out HO8.out)).ext fun j => ?_⟩, ⟨⟨HF8.out.1, (HG9.out.block b (zak HF8.out.2) (fun e => by have := hown b e.symm; omega)).trans HF8.out.2⟩⟩, ⟨HW8.out.grown HG9.out (fun j e => hown j e) hlt.1⟩, ⟨?_, fun j => ?_⟩, by rw [List.length_append, List.length_singleton]; omega⟩
        ·
         by_cases e : j = k
         ·
          subst e
          simp [HLook.out, HRen.out]
         ·
          simp [e]
        ·
         refine List.nodup_append.2 ⟨HL3.out.1, by simp, fun x hx y hy => ?_⟩
         simp only [List.mem_singleton] at hy
         subst hy
         intro e
         subst e
         have := ((HL3.out.2 x).1 hx).1
         rw [HLK.out] at this
         cases this
        ·
         rw [List.mem_append, HL3.out.2 j, List.mem_singleton]
         by_cases e : j = k
         ·
          subst e
          constructor
          ·
           intro _
           exact ⟨by simp, _, HLook.out, rfl, by have := HOp.out; dsimp only; omega⟩
          ·
           intro _
           exact .inr rfl
         ·
          simp [e]
def upd (k : Int) (e : E3) (L : List S86) : List S86 := L.map fun x => if x.f0 = k then ⟨k, e.1, e.2.1, e.2.2⟩ else x
theorem upd_id (k : Int) (e : E3) (x : S86) : (if x.f0 = k then (⟨k, e.1, e.2.1, e.2.2⟩ : S86) else x).f0 = x.f0 := by
 split
 ·
  rename_i h
  exact h.symm
 ·
  rfl
theorem look_upd {k : Int} {e : E3} {L : List S86} (h : (look L k).isSome = true) (j : Int) : look (upd k e L) j = if j = k then some e else look L j := by
 unfold look upd
 rw [List.find?_map]
 have : ((fun x : S86 => x.f0 == j) ∘ fun x => if x.f0 = k then (⟨k, e.1, e.2.1, e.2.2⟩ : S86) else x) = fun x => x.f0 == j := by
  funext x
  simp only [Function.comp]
  rw [upd_id]
 rw [this]
 by_cases ej : j = k
 ·
  subst ej
  rw [if_pos rfl]
  cases hf : L.find? (fun x => x.f0 == j) with
  | none =>
   unfold look at h
   rw [hf] at h
   cases h
  | some x =>
   have h2 : x.f0 = j := by simpa using List.find?_some hf
   simp [h2]
 ·
  rw [if_neg ej]
  cases hf : L.find? (fun x => x.f0 == j) with
  | none => rfl
  | some x =>
   have h2 : x.f0 = j := by simpa using List.find?_some hf
   have h3 : ¬ x.f0 = k := by omega
   simp [h3]
theorem Ids.upd {L : List S86} (h : Ids L) (k : Int) (e : E3) : Ids (upd k e L) := by
 unfold Ids P.upd
 rw [List.pairwise_map]
 exact h.imp (fun {a b} h => by rw [upd_id, upd_id]; exact h)
theorem GoodB.upd {low : Int} {L : List S86} (h : GoodB low L) (k : Int) (e : E3) (he : (look L k).isSome = true → GoodE low ⟨k, e.1, e.2.1, e.2.2⟩) : GoodB low (upd k e L) := by
 refine ⟨h.1.upd k e, fun x hx => ?_⟩
 obtain ⟨y, hy, rfl⟩ := List.mem_map.1 hx
 by_cases c : y.f0 = k
 ·
  rw [if_pos c]
  exact he (look_is ⟨y, hy, c⟩)
 ·
  rw [if_neg c]
  exact h.2 y hy
theorem upd_len (k : Int) (e : E3) (L : List S86) : (upd k e L).length = L.length := List.length_map _
def insL (x : S86) : List S86 → List S86
 | [] => [x]
 | a :: r => if a.f0 < x.f0 then a :: insL x r else x :: a :: r
theorem insL_mem {x y : S86} : ∀ {L : List S86}, y ∈ insL x L ↔ y = x ∨ y ∈ L
 | [] => by simp [insL]
 | a :: r => by
  unfold insL
  split
  ·
   rw [List.mem_cons, insL_mem, List.mem_cons]
   constructor
   ·
    rintro (h | h | h)
    ·
     exact .inr (.inl h)
    ·
     exact .inl h
    ·
     exact .inr (.inr h)
   ·
    rintro (h | h | h)
    ·
     exact .inr (.inl h)
    ·
     exact .inl h
    ·
     exact .inr (.inr h)
  ·
   simp
theorem insL_len (x : S86) : ∀ L : List S86, (insL x L).length = L.length + 1
 | [] => rfl
 | a :: r => by
  unfold insL
  split
  ·
   simp [insL_len x r]
  ·
   rfl
theorem Ids.ins {x : S86} : ∀ {L : List S86}, Ids L → (∀ y ∈ L, y.f0 ≠ x.f0) → Ids (insL x L)
 | [], _, _ => List.pairwise_singleton _ _
 | a :: r, h, hn => by
  obtain ⟨h1, h2⟩ := List.pairwise_cons.1 h
  unfold insL
  split
  ·
   rename_i c
   refine List.pairwise_cons.2 ⟨fun y hy => ?_, Ids.ins h2 (fun y hy => hn y (List.mem_cons_of_mem _ hy))⟩
   rcases insL_mem.1 hy with rfl | hy
   ·
    exact c
   ·
    exact h1 y hy
  ·
   rename_i c
   have hxa : x.f0 < a.f0 := by
    have := hn a List.mem_cons_self
    omega
   refine List.pairwise_cons.2 ⟨fun y hy => ?_, h⟩
   rcases List.mem_cons.1 hy with rfl | hy
   ·
    exact hxa
   ·
    have := h1 y hy
    omega
theorem look_ext {L : List S86} (h : Ids L) {g : Int → Option E3} (h1 : ∀ x ∈ L, g x.f0 = some (x.f1, x.f2, x.f3)) (h2 : ∀ k e, g k = some e → ∃ x ∈ L, x.f0 = k) (k : Int) : look L k = g k := by
 cases hl : look L k with
 | none =>
  cases hg : g k with
  | none => rfl
  | some e =>
   obtain ⟨x, hx, e1⟩ := h2 k e hg
   exact absurd e1 (zbk hl x hx)
 | some e =>
  obtain ⟨x, hx, rfl, rfl⟩ := zbh hl
  exact (h1 x hx).symm
theorem look_ins {L : List S86} (h : Ids L) {x : S86} (hn : look L x.f0 = none) (k : Int) : look (insL x L) k = if k = x.f0 then some (x.f1, x.f2, x.f3) else look L k := by
 refine look_ext (g := fun k => if k = x.f0 then some (x.f1, x.f2, x.f3) else look L k) (h.ins (zbk hn)) (fun y hy => ?_) (fun j e hj => ?_) k
 ·
  rcases insL_mem.1 hy with rfl | hy
  ·
   rw [if_pos rfl]
  ·
   rw [if_neg (zbk hn y hy), zbi h hy]
 ·
  by_cases c : j = x.f0
  ·
   exact ⟨x, insL_mem.2 (.inl rfl), c.symm⟩
  ·
   rw [if_neg c] at hj
   obtain ⟨y, hy, e1, _⟩ := zbh hj
   exact ⟨y, insL_mem.2 (.inr hy), e1⟩
theorem GoodB.ins {low : Int} {L : List S86} (h : GoodB low L) {x : S86} (hn : look L x.f0 = none) (he : GoodE low x) : GoodB low (insL x L) :=
 ⟨h.1.ins (zbk hn), fun y hy => by
  rcases insL_mem.1 hy with rfl | hy
  ·
   exact he
  ·
   exact h.2 y hy⟩
def delL (k : Int) (L : List S86) : List S86 := L.filter fun x => !(x.f0 == k)
theorem look_del {L : List S86} (h : Ids L) (k j : Int) : look (delL k L) j = if j = k then none else look L j := by
 refine look_ext (L := delL k L) (g := fun j => if j = k then none else look L j) (h.filter _) (fun y hy => ?_) (fun i e hi => ?_) j
 ·
  obtain ⟨h1, h2⟩ := List.mem_filter.1 hy
  have h3 : ¬ y.f0 = k := by simpa using h2
  rw [if_neg h3, zbi h h1]
 ·
  by_cases c : i = k
  ·
   rw [if_pos c] at hi
   cases hi
  ·
   rw [if_neg c] at hi
   obtain ⟨y, hy, e1, _⟩ := zbh hi
   exact ⟨y, List.mem_filter.2 ⟨hy, by simp [e1, c]⟩, e1⟩
theorem GoodB.del {low : Int} {L : List S86} (h : GoodB low L) (k : Int) : GoodB low (delL k L) := ⟨h.1.filter _, fun y hy => h.2 y (List.mem_filter.1 hy).1⟩
theorem delL_len (k : Int) (L : List S86) : (delL k L).length ≤ L.length := List.length_filter_le _ _
theorem mn_le (a b : Int) : mn a b ≤ a ∧ mn a b ≤ b ∧ (mn a b = a ∨ mn a b = b) := by
 unfold mn
 split <;> omega
theorem inE_good {low k tag left slice : Int} (wf : (Lit.int .i64 k).wf = true) (hs : 1 ≤ slice ∧ slice ≤ 1000) (hl : 0 ≤ left) (ht : 0 ≤ tag ∧ tag ≤ low + 1) : GoodE low ⟨k, (inE low tag left slice).1, (inE low tag left slice).2.1, (inE low tag left slice).2.2⟩ := by
 have := mn_le left slice
 unfold inE
 split
 ·
  exact ⟨wf, by dsimp only; omega, by dsimp only; omega, by dsimp only; omega, Int.le_refl _, by dsimp only; omega, by dsimp only; omega, fun h => by dsimp only at h; omega⟩
 ·
  split
  ·
   exact ⟨wf, by dsimp only; omega, by dsimp only; omega, by dsimp only; omega, by dsimp only; omega, by dsimp only; omega, by dsimp only; omega, fun h => by dsimp only at h; omega⟩
  ·
   split
   ·
    exact ⟨wf, by dsimp only; omega, by dsimp only; omega, by dsimp only; omega, Int.le_refl _, by dsimp only; omega, by dsimp only; omega, fun h => by dsimp only at h; omega⟩
   ·
    exact ⟨wf, by dsimp only; omega, by dsimp only; omega, by dsimp only; omega, by dsimp only; omega, by dsimp only; omega, by dsimp only; omega, fun h => by dsimp only; omega⟩
theorem chE_good {low k tag left slice : Int} (h : GoodE low ⟨k, tag, left, slice⟩) (hl : 0 < left) : GoodE low ⟨k, (chE low tag left slice).1, (chE low tag left slice).2.1, (chE low tag left slice).2.2⟩ := by
 obtain ⟨g0, g1, g2, g3, g4, g5, g6, g7⟩ := h
 dsimp only at g0 g1 g2 g3 g4 g5 g6 g7
 unfold chE
 split
 ·
  exact ⟨g0, g1, g2, by dsimp only; omega, by dsimp only; omega, g5, g6, fun h => by dsimp only at h; omega⟩
 ·
  split
  ·
   exact ⟨g0, by dsimp only; omega, by dsimp only; omega, by dsimp only; omega, Int.le_refl _, g5, g6, fun h => by dsimp only at h; omega⟩
  ·
   exact ⟨g0, g1, g2, by dsimp only; omega, by dsimp only; omega, g5, g6, fun h => by dsimp only; omega⟩
end Go.Proofs.Ytbakdobjidjncaa.P
end
