-- Written by a program of this session (wip/tools/shake.py) out of its own texts and of the kit's printed ones; not trusted: Lean checks it.
import Derived.Test.YtfjkamhcabckeaaDoorZSliceNear6
set_option maxHeartbeats 8000000
set_option maxRecDepth 100000
set_option linter.unusedVariables false
set_option linter.unusedSimpArgs false
section
namespace Go.Proofs.YtfjkamhcabckeaaDoor.P
open Go.RowKit Go.Proofs.YtfjkamhcabckeaaDoorW.PrintWords Go.Proofs.YtfjkamhcabckeaaDoorW.PrintLast Go.Proofs.YtfjkamhcabckeaaDoorW.PrintMore
attribute [local go_sem] zc8 zc9 max_two min_two zcv zcx zdc zdb
def zan.j0 : Nat → Int → Int → Bool → Option (List Int × List Int × List Int × List Int × Bool)
 | 0, _, _, _ => none
 | k + 1, x0, x1, x19 => if x19 = true then (some (([] : List Int), ([] : List Int), ([] : List Int), ([] : List Int), false)) else ((zck.f k (IntKind.u64.wrap (x0))).bind fun t1105 => ((zck.f k (IntKind.u64.wrap (x1))).bind fun t1108 => ((ratio_Of.f k t1105 t1108).bind fun bt1111 => ((zav.f k x0).bind fun t1119 => ((zav.f k x1).bind fun t1122 => ((zcr.f k t1119 t1122).bind fun bt1125 => (some (bt1111.1, bt1111.2.1, bt1125.1, bt1125.2, (bt1111.2.2 == 0)))))))))
def zan.f (k : Nat) (a0 : Int) (a1 : Int) : Option (List Int × List Int × List Int × List Int × Bool) := if a0 < 0 then (zan.j0 k a0 a1 true) else (if a1 < 1 then (zan.j0 k a0 a1 true) else (zan.j0 k a0 a1 (decide (a0 > a1))))
def zan.T4 : Bool × List (List Nat × List Nat) := (true, [([], []), ([], []), ([1], [1]), ([], []), ([3, 2], [3]), ([2, 4, 4], [2, 4]), ([], []), ([6], [6]), ([0, 5, 0], [0]), ([5, 8, 0, 1, 2, 3, 4, 5, 8], [5]), ([7, 9, 0, 1, 2, 3, 4, 5, 6, 7, 8, 9], [7])])
def zan.B4 : List Nat := [0, 0, 2, 0, 14, 30, 0, 64, 63, 319, 1023]
theorem zan.tab4 : rtab .any (opsOf Tryd.f44 4) = zan.T4 := by kernel_rfl
theorem zan.bits4 : waitsOk zan.T4.2 zan.B4 = true := by kernel_rfl
theorem zan.calls (k : Nat) (a0 : Int) (a1 : Int) (r1 : List Int) (r2 : List Int) (r3 : List Int) (r4 : List Int) (r5 : Bool) (w : World) (h : zan.f k a0 a1 = some (r1, r2, r3, r4, r5)) :
  Calls Tryd.prog 44 #[.int .i64 a0, .int .i64 a1] w fun e w' => ∃ v0_ v1_ v2_ v3_ : Value, e = .returned (.tuple #[.agg #[v0_, v1_], .agg #[v2_, v3_], .bool r5]) ∧ Kd.V (Kd.int .u64) 57 w' w.heap.size (fun k_ => (w.heap.size ≤ k_) ∧ some k_ ≠ (v2_ : Value).ownBlock ∧ some k_ ≠ (v3_ : Value).ownBlock) v0_ r1 ∧ Kd.V (Kd.int .u64) 57 w' w.heap.size (fun k_ => (w.heap.size ≤ k_) ∧ some k_ ≠ (v2_ : Value).ownBlock ∧ some k_ ≠ (v3_ : Value).ownBlock) v1_ r2 ∧ Kd.R (Kd.int .i64) 3 w' w.heap.size (fun k_ => (w.heap.size ≤ k_) ∧ some k_ ≠ (v3_ : Value).ownBlock) v2_ r3 ∧ Kd.R (Kd.int .i64) 3 w' w.heap.size (fun k_ => (w.heap.size ≤ k_) ∧ some k_ ≠ (v2_ : Value).ownBlock) v3_ r4 ∧ Below w.heap.size w w' := by
 have hu28 := Tryd.underlying28
 have hu40 := Tryd.underlying40
 have HB := zA (Below.refl w.heap.size w)
 have H : (if a0 < 0 then (zan.j0 k a0 a1 true) else (if a1 < 1 then (zan.j0 k a0 a1 true) else (zan.j0 k a0 a1 (decide (a0 > a1))))) = some (r1, r2, r3, r4, r5) := h
 clear h
 have HC3 := zA H
 clear H
 go_enter Tryd.func44, Tryd.ntmps44
 go_upto_region 1 with (first | ((with_reducible refine zbf (N := 4) rfl ?_); refine zbi ?hg (N := 4) ?hd (cs := #[.slice none 0 0, .slice none 0 0]) (t := 28) ?hr ?_; (case hd => rfl); (case hg => rfl); (case hr => first | (go_simp; done) | (go_simp; rfl)); intro gb1103 hg w4 hbox hb; have n0_ := zA (zaa (zB HB) hb); have n1_ := zA (hbox); have n2_ := zA ((by rw [hg]; exact (za (zB HB)) : w.heap.size ≤ gb1103)); have n3_ := zA ((by rw [hg]; exact (za (zB HB)) : w.heap.size ≤ gb1103)); clear HB; have HB := n0_; have BK1103 := n1_; have GW1103 := n2_; have GE1103 := n3_; clear n0_ n1_ n2_ n3_ hb hbox hg) | ((with_reducible refine zbf (N := 5) rfl ?_); refine zbi ?hg (N := 5) ?hd (cs := #[.slice none 0 0, .slice none 0 0]) (t := 40) ?hr ?_; (case hd => rfl); (case hg => rfl); (case hr => first | (go_simp; done) | (go_simp; rfl)); intro gb1104 hg w5 hbox hb; have n0_ := zA (zai (g := gb1103) (o := .cells #[.slice none 0 0, .slice none 0 0] 28 (0, 0)) (zK BK1103) hb); have n1_ := zA (zaa (zB HB) hb); have n2_ := zA (hbox); have n3_ := zA ((by rw [hg]; exact (za (zB HB)) : w.heap.size ≤ gb1104)); have n4_ := zA ((by rw [hg]; exact (za (zB HB)) : w.heap.size ≤ gb1104)); have n5_ := zA ((by rw [hg]; exact Nat.ne_of_lt (zbq (g := gb1103) (o := .cells #[.slice none 0 0, .slice none 0 0] 28 (0, 0)) (zK BK1103)) : gb1103 ≠ gb1104)); have n6_ := zA ((by rw [hg]; exact Nat.ne_of_gt (zbq (g := gb1103) (o := .cells #[.slice none 0 0, .slice none 0 0] 28 (0, 0)) (zK BK1103)) : gb1104 ≠ gb1103)); clear BK1103 HB; have BK1103 := n0_; have HB := n1_; have BK1104 := n2_; have GW1104 := n3_; have GE1104 := n4_; have NB1103_1104 := n5_; have NB1104_1103 := n6_; clear n0_ n1_ n2_ n3_ n4_ n5_ n6_ hb hbox hg))
 (try simp only [Act.put, zs1, zs2, zs3])
 go_cut [19] (fun v19 wc => ∃ (kq : Nat) (x19_2 : Bool), v19 = .bool x19_2 ∧ Aside0 (zan.j0 kq a0 a1 x19_2 = some (r1, r2, r3, r4, r5)) ∧ Aside0 (kq ≤ k) ∧ Aside0 (wc.heap[gb1103]? = some (.cells #[(.slice none 0 0), (.slice none 0 0)] 28 (0, 0))) ∧ Aside0 (wc.heap[gb1104]? = some (.cells #[(.slice none 0 0), (.slice none 0 0)] 40 (0, 0))) ∧ Aside0 (Below w.heap.size w wc))
 case first =>
  have H := HC3.out
  clear HC3
  by_cases c6 : a0 < 0
  ·
   rw [if_pos c6] at H
   have c6b0 : decide (a0 < 0) = true := decide_eq_true c6
   clear c6
   (first | rw [c6b0] | (simp only [i64_w, i32_w]; rw [c6b0]) | skip)
   have H' := zA H
   clear H
   go_wp2
   go_meet
   case rel => exact ⟨_, (true), (zF), H', ⟨by first | omega | exact Nat.le_refl _⟩, ⟨zK BK1103⟩, ⟨zK BK1104⟩, ⟨zB HB⟩⟩
  ·
   rw [if_neg c6] at H
   have c6b0 : decide (a0 < 0) = false := decide_eq_false c6
   clear c6
   (first | rw [c6b0] | (simp only [i64_w, i32_w]; rw [c6b0]) | skip)
   by_cases c7 : a1 < 1
   ·
    rw [if_pos c7] at H
    have c7b0 : decide (a1 < 1) = true := decide_eq_true c7
    clear c7
    have H' := zA H
    clear H
    go_wp2
    go_meet
    case rel => exact ⟨_, (true), (zF), H', ⟨by first | omega | exact Nat.le_refl _⟩, ⟨zK BK1103⟩, ⟨zK BK1104⟩, ⟨zB HB⟩⟩
   ·
    rw [if_neg c7] at H
    have c7b0 : decide (a1 < 1) = false := decide_eq_false c7
    clear c7
    have H' := zA H
    clear H
    go_wp2
    go_meet
    case rel => exact ⟨_, (decide (a0 > a1)), (zF), H', ⟨by first | omega | exact Nat.le_refl _⟩, ⟨zK BK1103⟩, ⟨zK BK1104⟩, ⟨zB HB⟩⟩
 case rest =>
  clear HC3
  try clear p2
  try clear c4
  try clear c6
  try clear c6b0
  try clear c7
  try clear c7b0
  obtain ⟨kq, x19_2, rfl, HA, HJ2, BK1103, BK1104, HB⟩ := hcut
  cases kq with
  | zero => exact absurd HA.out (by simp [zan.j0])
  | succ kj2 =>
   have H := HA.out
   clear HA
   simp only [zan.j0] at H
   by_cases c8 : x19_2 = true
   ·
    subst c8
    rw [if_pos rfl] at H
    simp only [Option.some.injEq, Prod.mk.injEq] at H
    obtain ⟨rfl, rfl, rfl, rfl, rfl⟩ := H
    have hnb9 := NB1103_1104.out
    have hnc9 := NB1104_1103.out
    have hcz10_0 : wc.cell? ⟨gb1103, 0, none⟩ = some (.slice none 0 0) := (zad BK1103.out 0).trans rfl
    have hcz10_1 : wc.cell? ⟨gb1103, 1, none⟩ = some (.slice none 0 0) := (zad BK1103.out 1).trans rfl
    have hfz10_0 := zat BK1103.out 0
    have hfz10_1 := zat BK1103.out 1
    have hcz11_0 : wc.cell? ⟨gb1104, 0, none⟩ = some (.slice none 0 0) := (zad BK1104.out 0).trans rfl
    have hcz11_1 : wc.cell? ⟨gb1104, 1, none⟩ = some (.slice none 0 0) := (zad BK1104.out 1).trans rfl
    have hfz11_0 := zat BK1104.out 0
    have hfz11_1 := zat BK1104.out 1
    go_wp2
    refine bodyPost_ret (results_list (rs := [.cell 4 28, .cell 5 40, .tmp 6]) rfl (by simp) (.cell gb1103 28 #[.slice none 0 0, .slice none 0 0] (0, 0) _ rfl (by (with_reducible repeat (first | refine zao ?_ _ | refine zar ?_ | refine zah ?_ _)); refine zc4 ?_ NB1103_1104.out _; (with_reducible repeat (first | refine zao ?_ _ | refine zar ?_ | refine zah ?_ _)); refine zc4 ?_ NB1103_1104.out _; (with_reducible repeat (first | refine zao ?_ _ | refine zar ?_ | refine zah ?_ _)); refine zbu (cs := #[.slice none 0 0, .slice none 0 0]) ?_ 1 _ rfl; (with_reducible repeat (first | refine zao ?_ _ | refine zar ?_ | refine zah ?_ _)); refine zbu (cs := #[.slice none 0 0, .slice none 0 0]) ?_ 0 _ rfl; (with_reducible repeat (first | refine zao ?_ _ | refine zar ?_ | refine zah ?_ _)); exact BK1103.out) Tryd.underlying28 rfl (by kernel_rfl) (.cell gb1104 40 #[.slice none 0 0, .slice none 0 0] (0, 0) _ rfl (by (with_reducible repeat (first | refine zao ?_ _ | refine zar ?_ | refine zah ?_ _)); refine zbu (cs := #[.slice none 0 0, .slice none 0 0]) ?_ 1 _ rfl; (with_reducible repeat (first | refine zao ?_ _ | refine zar ?_ | refine zah ?_ _)); refine zbu (cs := #[.slice none 0 0, .slice none 0 0]) ?_ 0 _ rfl; (with_reducible repeat (first | refine zao ?_ _ | refine zar ?_ | refine zah ?_ _)); refine zc4 ?_ NB1104_1103.out _; (with_reducible repeat (first | refine zao ?_ _ | refine zar ?_ | refine zah ?_ _)); refine zc4 ?_ NB1104_1103.out _; (with_reducible repeat (first | refine zao ?_ _ | refine zar ?_ | refine zah ?_ _)); exact BK1104.out) Tryd.underlying40 rfl (by kernel_rfl) (.tmp .nil)))) rfl ?_
    exact ⟨_, _, _, _, zW, Kd.V_nil _ _ _ _ _, Kd.V_nil _ _ _ _ _, by first | exact Kd.R_nil _ _ _ _ _ | exact Kd.N_nil _ _ _ _ _ | exact Kd.V_nil _ _ _ _ _ | exact Kd.Q_nil _ _ _ _ _ | exact Kd.S_nil _ _ _ _ _, by first | exact Kd.R_nil _ _ _ _ _ | exact Kd.N_nil _ _ _ _ _ | exact Kd.V_nil _ _ _ _ _ | exact Kd.Q_nil _ _ _ _ _ | exact Kd.S_nil _ _ _ _ _, zB HB⟩
   ·
    replace c8 := Bool.eq_false_iff.mpr c8
    subst c8
    rw [if_neg (show ¬ (false = true) by decide)] at H
    replace H := zO H
    obtain ⟨t1105, A120, H⟩ := H
    try dsimp only at H
    have A12 := zA A120
    clear A120
    replace H := zO H
    obtain ⟨t1108, A130, H⟩ := H
    try dsimp only at H
    have A13 := zA A130
    clear A130
    replace H := zO H
    obtain ⟨⟨t1111, t1114, t1117⟩, A140, H⟩ := H
    try dsimp only at H
    have A14 := zA A140
    clear A140
    replace H := zO H
    obtain ⟨t1119, A150, H⟩ := H
    try dsimp only at H
    have A15 := zA A150
    clear A150
    replace H := zO H
    obtain ⟨t1122, A160, H⟩ := H
    try dsimp only at H
    have A16 := zA A160
    clear A160
    replace H := zO H
    obtain ⟨⟨t1125, t1128⟩, A170, H⟩ := H
    try dsimp only at H
    have A17 := zA A170
    clear A170
    simp only [Option.some.injEq, Prod.mk.injEq] at H
    obtain ⟨rfl, rfl, rfl, rfl, rfl⟩ := H
    try go_wp2_with (first | ((with_reducible refine zac (f := 36) rfl ?_); refine za0 (some 25) rfl rfl Tryd.func36 (by kernel_rfl) rfl #[.int .u64 (IntKind.u64.wrap (a0))] rfl (zE) ?_; (with_reducible refine (zck.calls kj2 (IntKind.u64.wrap (a0)) t1105 _ A12.out).mono ?_); rintro e w18 ⟨v1106, rfl, ho0, hb⟩; refine ⟨_, rfl, ?_⟩; have n0_ := zA (Kd.zb (Kd.zas (ok' := fun k_ => (w.heap.size ≤ k_) ∧ k_ ≠ gb1103 ∧ k_ ≠ gb1104) ho0 (fun k_ hk_ => ⟨(Nat.le_trans (za (zB HB)) hk_), (Kd.freshB (g := gb1103) (o := .cells #[.slice none 0 0, .slice none 0 0] 28 (0, 0)) (zK BK1103) k_ hk_), (Kd.freshB (g := gb1104) (o := .cells #[.slice none 0 0, .slice none 0 0] 40 (0, 0)) (zK BK1104) k_ hk_)⟩)) (za (zB HB))); have n1_ := zA (zai (g := gb1103) (o := .cells #[.slice none 0 0, .slice none 0 0] 28 (0, 0)) (zK BK1103) hb); have n2_ := zA (zai (g := gb1104) (o := .cells #[.slice none 0 0, .slice none 0 0] 40 (0, 0)) (zK BK1104) hb); have n3_ := zA (zaa (zB HB) hb); clear BK1103 BK1104 HB; have HO1107 := n0_; have BK1103 := n1_; have BK1104 := n2_; have HB := n3_; clear n0_ n1_ n2_ n3_; (try clear hb); (try clear hb2); (try clear hk); (try clear hi); (try clear ho0)) | ((with_reducible refine zac (f := 36) rfl ?_); refine za0 (some 28) rfl rfl Tryd.func36 (by kernel_rfl) rfl #[.int .u64 (IntKind.u64.wrap (a1))] rfl (zE) ?_; (with_reducible refine (zck.calls kj2 (IntKind.u64.wrap (a1)) t1108 _ A13.out).mono ?_); rintro e w19 ⟨v1109, rfl, ho0, hb⟩; refine ⟨_, rfl, ?_⟩; have n0_ := zA (Kd.zaw (zV HO1107) hb); have n1_ := zA (Kd.zb (Kd.zas (ok' := fun k_ => (w.heap.size ≤ k_) ∧ k_ ≠ gb1103 ∧ k_ ≠ gb1104) ho0 (fun k_ hk_ => ⟨(Nat.le_trans (za (zB HB)) hk_), (Kd.freshB (g := gb1103) (o := .cells #[.slice none 0 0, .slice none 0 0] 28 (0, 0)) (zK BK1103) k_ hk_), (Kd.freshB (g := gb1104) (o := .cells #[.slice none 0 0, .slice none 0 0] 40 (0, 0)) (zK BK1104) k_ hk_)⟩)) (za (zB HB))); have n2_ := zA (zai (g := gb1103) (o := .cells #[.slice none 0 0, .slice none 0 0] 28 (0, 0)) (zK BK1103) hb); have n3_ := zA (zai (g := gb1104) (o := .cells #[.slice none 0 0, .slice none 0 0] 40 (0, 0)) (zK BK1104) hb); have n4_ := zA (zaa (zB HB) hb); clear HO1107 BK1103 BK1104 HB; have HO1107 := n0_; have HO1110 := n1_; have BK1103 := n2_; have BK1104 := n3_; have HB := n4_; clear n0_ n1_ n2_ n3_ n4_; (try clear hb); (try clear hb2); (try clear hk); (try clear hi); (try clear ho0); obtain ⟨Ao20, co20, eo20⟩ := Kd.za6 HO1107.out; subst eo20; obtain ⟨Ao21, co21, eo21⟩ := Kd.za6 HO1110.out; subst eo21) | ((with_reducible refine zac (f := 24) rfl ?_); refine za0 (some 29) rfl rfl Tryd.func24 (by kernel_rfl) rfl #[.slice Ao20 t1105.length co20, .slice Ao21 t1108.length co21] rfl (zE) ?_; (with_reducible refine (ratio_Of.calls kj2 _ _ t1105 _ _ t1108 t1111 t1114 t1117 _ ?side1 ?side2 ?side3 ?side4 A14.out).mono ?_); (case side1 => exact zJ (Kd.zam HO1107.out).2.2); (case side2 => exact (Kd.zam HO1107.out).2.1); (case side3 => exact zJ (Kd.zam HO1110.out).2.2); (case side4 => exact (Kd.zam HO1110.out).2.1); rintro e w22 ⟨v1112, v1115, rfl, ho0, ho1, hb⟩; refine ⟨_, rfl, ?_⟩; have n0_ := zA (Kd.zaw (zV HO1107) hb); have n1_ := zA (Kd.zaw (zV HO1110) hb); have n2_ := zA (Kd.zb (Kd.zas (ok' := fun k_ => (w.heap.size ≤ k_) ∧ k_ ≠ gb1103 ∧ k_ ≠ gb1104) ho0 (fun k_ hk_ => ⟨(Nat.le_trans (za (zB HB)) hk_), (Kd.freshB (g := gb1103) (o := .cells #[.slice none 0 0, .slice none 0 0] 28 (0, 0)) (zK BK1103) k_ hk_), (Kd.freshB (g := gb1104) (o := .cells #[.slice none 0 0, .slice none 0 0] 40 (0, 0)) (zK BK1104) k_ hk_)⟩)) (za (zB HB))); have n3_ := zA (Kd.zb (Kd.zas (ok' := fun k_ => (w.heap.size ≤ k_) ∧ k_ ≠ gb1103 ∧ k_ ≠ gb1104) ho1 (fun k_ hk_ => ⟨(Nat.le_trans (za (zB HB)) hk_), (Kd.freshB (g := gb1103) (o := .cells #[.slice none 0 0, .slice none 0 0] 28 (0, 0)) (zK BK1103) k_ hk_), (Kd.freshB (g := gb1104) (o := .cells #[.slice none 0 0, .slice none 0 0] 40 (0, 0)) (zK BK1104) k_ hk_)⟩)) (za (zB HB))); have n4_ := zA (zai (g := gb1103) (o := .cells #[.slice none 0 0, .slice none 0 0] 28 (0, 0)) (zK BK1103) hb); have n5_ := zA (zai (g := gb1104) (o := .cells #[.slice none 0 0, .slice none 0 0] 40 (0, 0)) (zK BK1104) hb); have n6_ := zA (zaa (zB HB) hb); clear HO1107 HO1110 BK1103 BK1104 HB; have HO1107 := n0_; have HO1110 := n1_; have HO1113 := n2_; have HO1116 := n3_; have BK1103 := n4_; have BK1104 := n5_; have HB := n6_; clear n0_ n1_ n2_ n3_ n4_ n5_ n6_; (try clear hb); (try clear hb2); (try clear hk); (try clear hi); (try clear ho0); (try clear ho1)) | ((with_reducible refine zbf (N := 7) rfl ?_); refine zbi ?hg (N := 7) ?hd (cs := #[.slice none 0 0, .slice none 0 0]) (t := 28) ?hr ?_; (case hd => rfl); (case hg => rfl); (case hr => first | (go_simp; done) | (go_simp; rfl)); intro gb1118 hg w23 hbox hb; have n0_ := zA (Kd.zaw (Kd.zc7 (zV HO1107) gb1118 (Nat.le_of_eq hg.symm)) hb); have n1_ := zA (Kd.zaw (Kd.zc7 (zV HO1110) gb1118 (Nat.le_of_eq hg.symm)) hb); have n2_ := zA (Kd.zaw (Kd.zc7 (zV HO1113) gb1118 (Nat.le_of_eq hg.symm)) hb); have n3_ := zA (Kd.zaw (Kd.zc7 (zV HO1116) gb1118 (Nat.le_of_eq hg.symm)) hb); have n4_ := zA (zai (g := gb1103) (o := .cells #[.slice none 0 0, .slice none 0 0] 28 (0, 0)) (zK BK1103) hb); have n5_ := zA (zai (g := gb1104) (o := .cells #[.slice none 0 0, .slice none 0 0] 40 (0, 0)) (zK BK1104) hb); have n6_ := zA (zaa (zB HB) hb); have n7_ := zA (hbox); have n8_ := zA ((by rw [hg]; exact (za (zB HB)) : w.heap.size ≤ gb1118)); have n9_ := zA ((by rw [hg]; exact (za (zB HB)) : w.heap.size ≤ gb1118)); have n10_ := zA ((by rw [hg]; exact Nat.ne_of_lt (zbq (g := gb1103) (o := .cells #[.slice none 0 0, .slice none 0 0] 28 (0, 0)) (zK BK1103)) : gb1103 ≠ gb1118)); have n11_ := zA ((by rw [hg]; exact Nat.ne_of_gt (zbq (g := gb1103) (o := .cells #[.slice none 0 0, .slice none 0 0] 28 (0, 0)) (zK BK1103)) : gb1118 ≠ gb1103)); have n12_ := zA ((by rw [hg]; exact Nat.ne_of_lt (zbq (g := gb1104) (o := .cells #[.slice none 0 0, .slice none 0 0] 40 (0, 0)) (zK BK1104)) : gb1104 ≠ gb1118)); have n13_ := zA ((by rw [hg]; exact Nat.ne_of_gt (zbq (g := gb1104) (o := .cells #[.slice none 0 0, .slice none 0 0] 40 (0, 0)) (zK BK1104)) : gb1118 ≠ gb1104)); clear HO1107 HO1110 HO1113 HO1116 BK1103 BK1104 HB; have HO1107 := n0_; have HO1110 := n1_; have HO1113 := n2_; have HO1116 := n3_; have BK1103 := n4_; have BK1104 := n5_; have HB := n6_; have BK1118 := n7_; have GW1118 := n8_; have GE1118 := n9_; have NB1103_1118 := n10_; have NB1118_1103 := n11_; have NB1104_1118 := n12_; have NB1118_1104 := n13_; clear n0_ n1_ n2_ n3_ n4_ n5_ n6_ n7_ n8_ n9_ n10_ n11_ n12_ n13_ hb hbox hg; obtain ⟨Ao24, co24, eo24⟩ := Kd.za6 HO1113.out; subst eo24; have hnb25 := NB1118_1103.out; have hnc25 := NB1103_1118.out; have hnb26 := NB1118_1104.out; have hnc26 := NB1104_1118.out; have hcz27_0 : w23.cell? ⟨gb1118, 0, none⟩ = some (.slice none 0 0) := (zad BK1118.out 0).trans rfl; have hcz27_1 : w23.cell? ⟨gb1118, 1, none⟩ = some (.slice none 0 0) := (zad BK1118.out 1).trans rfl; have hfz27_0 := zat BK1118.out 0; have hfz27_1 := zat BK1118.out 1; obtain ⟨Ao28, co28, eo28⟩ := Kd.za6 HO1116.out; subst eo28))
    have n0_ : Aside0 (Kd.V (Kd.int .u64) 57 ((w23.setCell ⟨gb1118, 0, none⟩ (.slice Ao24 t1111.length co24)).setCell ⟨gb1118, 1, none⟩ (.slice Ao28 t1114.length co28)) w.heap.size (fun k_ => (w.heap.size ≤ k_) ∧ k_ ≠ gb1103 ∧ k_ ≠ gb1104 ∧ k_ ≠ gb1118) (.slice Ao20 t1105.length co20) t1105) := ⟨by (with_reducible repeat (first | apply Kd.zbw | apply Kd.zbv | apply Kd.zbz)); exact Kd.zas (Kd.V_far (p := ⟨gb1118, 1, none⟩) (Kd.V_far (p := ⟨gb1118, 0, none⟩) (Kd.zas HO1107.out (fun k_ hk => (⟨hk, hk.2⟩ : _ ∧ k_ ≠ gb1118))) (fun _ hk => hk.2) (.slice Ao24 t1111.length co24)) (fun _ hk => hk.2) (.slice Ao28 t1114.length co28)) (fun _ hk => ⟨hk.1.1.1, ⟨hk.1.1.2.1, ⟨hk.1.1.2.2, hk.1.2⟩⟩⟩)⟩
    have n1_ : Aside0 (Kd.V (Kd.int .u64) 57 ((w23.setCell ⟨gb1118, 0, none⟩ (.slice Ao24 t1111.length co24)).setCell ⟨gb1118, 1, none⟩ (.slice Ao28 t1114.length co28)) w.heap.size (fun k_ => (w.heap.size ≤ k_) ∧ k_ ≠ gb1103 ∧ k_ ≠ gb1104 ∧ k_ ≠ gb1118) (.slice Ao21 t1108.length co21) t1108) := ⟨by (with_reducible repeat (first | apply Kd.zbw | apply Kd.zbv | apply Kd.zbz)); exact Kd.zas (Kd.V_far (p := ⟨gb1118, 1, none⟩) (Kd.V_far (p := ⟨gb1118, 0, none⟩) (Kd.zas HO1110.out (fun k_ hk => (⟨hk, hk.2⟩ : _ ∧ k_ ≠ gb1118))) (fun _ hk => hk.2) (.slice Ao24 t1111.length co24)) (fun _ hk => hk.2) (.slice Ao28 t1114.length co28)) (fun _ hk => ⟨hk.1.1.1, ⟨hk.1.1.2.1, ⟨hk.1.1.2.2, hk.1.2⟩⟩⟩)⟩
    have n2_ : Aside0 (Kd.V (Kd.int .u64) 57 ((w23.setCell ⟨gb1118, 0, none⟩ (.slice Ao24 t1111.length co24)).setCell ⟨gb1118, 1, none⟩ (.slice Ao28 t1114.length co28)) w.heap.size (fun k_ => (w.heap.size ≤ k_) ∧ k_ ≠ gb1103 ∧ k_ ≠ gb1104 ∧ k_ ≠ gb1118) (.slice Ao24 t1111.length co24) t1111) := ⟨by (with_reducible repeat (first | apply Kd.zbw | apply Kd.zbv | apply Kd.zbz)); exact Kd.zas (Kd.V_far (p := ⟨gb1118, 1, none⟩) (Kd.V_far (p := ⟨gb1118, 0, none⟩) (Kd.zas HO1113.out (fun k_ hk => (⟨hk, hk.2⟩ : _ ∧ k_ ≠ gb1118))) (fun _ hk => hk.2) (.slice Ao24 t1111.length co24)) (fun _ hk => hk.2) (.slice Ao28 t1114.length co28)) (fun _ hk => ⟨hk.1.1.1, ⟨hk.1.1.2.1, ⟨hk.1.1.2.2, hk.1.2⟩⟩⟩)⟩
    have n3_ : Aside0 (Kd.V (Kd.int .u64) 57 ((w23.setCell ⟨gb1118, 0, none⟩ (.slice Ao24 t1111.length co24)).setCell ⟨gb1118, 1, none⟩ (.slice Ao28 t1114.length co28)) w.heap.size (fun k_ => (w.heap.size ≤ k_) ∧ k_ ≠ gb1103 ∧ k_ ≠ gb1104 ∧ k_ ≠ gb1118) (.slice Ao28 t1114.length co28) t1114) := ⟨by (with_reducible repeat (first | apply Kd.zbw | apply Kd.zbv | apply Kd.zbz)); exact Kd.zas (Kd.V_far (p := ⟨gb1118, 1, none⟩) (Kd.V_far (p := ⟨gb1118, 0, none⟩) (Kd.zas HO1116.out (fun k_ hk => (⟨hk, hk.2⟩ : _ ∧ k_ ≠ gb1118))) (fun _ hk => hk.2) (.slice Ao24 t1111.length co24)) (fun _ hk => hk.2) (.slice Ao28 t1114.length co28)) (fun _ hk => ⟨hk.1.1.1, ⟨hk.1.1.2.1, ⟨hk.1.1.2.2, hk.1.2⟩⟩⟩)⟩
    have n4_ : Aside0 (((w23.setCell ⟨gb1118, 0, none⟩ (.slice Ao24 t1111.length co24)).setCell ⟨gb1118, 1, none⟩ (.slice Ao28 t1114.length co28)).heap[gb1103]? = some (.cells #[.slice none 0 0, .slice none 0 0] 28 (0, 0))) := ⟨by (with_reducible repeat (first | refine zao ?_ _ | refine zar ?_ | refine zah ?_ _)); refine zc4 ?_ NB1103_1118.out _; (with_reducible repeat (first | refine zao ?_ _ | refine zar ?_ | refine zah ?_ _)); refine zc4 ?_ NB1103_1118.out _; (with_reducible repeat (first | refine zao ?_ _ | refine zar ?_ | refine zah ?_ _)); exact BK1103.out⟩
    have n5_ : Aside0 (((w23.setCell ⟨gb1118, 0, none⟩ (.slice Ao24 t1111.length co24)).setCell ⟨gb1118, 1, none⟩ (.slice Ao28 t1114.length co28)).heap[gb1104]? = some (.cells #[.slice none 0 0, .slice none 0 0] 40 (0, 0))) := ⟨by (with_reducible repeat (first | refine zao ?_ _ | refine zar ?_ | refine zah ?_ _)); refine zc4 ?_ NB1104_1118.out _; (with_reducible repeat (first | refine zao ?_ _ | refine zar ?_ | refine zah ?_ _)); refine zc4 ?_ NB1104_1118.out _; (with_reducible repeat (first | refine zao ?_ _ | refine zar ?_ | refine zah ?_ _)); exact BK1104.out⟩
    have n6_ : Aside0 (((w23.setCell ⟨gb1118, 0, none⟩ (.slice Ao24 t1111.length co24)).setCell ⟨gb1118, 1, none⟩ (.slice Ao28 t1114.length co28)).heap[gb1118]? = some (.cells #[.slice Ao24 t1111.length co24, .slice Ao28 t1114.length co28] 28 (0, 0))) := ⟨by (with_reducible repeat (first | refine zao ?_ _ | refine zar ?_ | refine zah ?_ _)); refine zbu (cs := #[.slice Ao24 t1111.length co24, .slice none 0 0]) ?_ 1 _ rfl; (with_reducible repeat (first | refine zao ?_ _ | refine zar ?_ | refine zah ?_ _)); refine zbu (cs := #[.slice none 0 0, .slice none 0 0]) ?_ 0 _ rfl; (with_reducible repeat (first | refine zao ?_ _ | refine zar ?_ | refine zah ?_ _)); exact BK1118.out⟩
    have n7_ : Aside0 (Below w.heap.size w ((w23.setCell ⟨gb1118, 0, none⟩ (.slice Ao24 t1111.length co24)).setCell ⟨gb1118, 1, none⟩ (.slice Ao28 t1114.length co28))) := ⟨zB HB⟩
    (try clear HO1107)
    (try clear HO1110)
    (try clear HO1113)
    (try clear HO1116)
    (try clear BK1103)
    (try clear BK1104)
    (try clear BK1118)
    (try clear HB)
    generalize ((w23.setCell ⟨gb1118, 0, none⟩ (.slice Ao24 t1111.length co24)).setCell ⟨gb1118, 1, none⟩ (.slice Ao28 t1114.length co28)) = w29 at n0_ n1_ n2_ n3_ n4_ n5_ n6_ n7_ ⊢
    have HO1107 := n0_
    have HO1110 := n1_
    have HO1113 := n2_
    have HO1116 := n3_
    have BK1103 := n4_
    have BK1104 := n5_
    have BK1118 := n6_
    have HB := n7_
    clear n0_ n1_ n2_ n3_ n4_ n5_ n6_ n7_
    have n0_ := zA (Kd.zbz HO1107.out)
    have n1_ := zA (Kd.zbz HO1110.out)
    have n2_ := zA (Kd.zbz HO1113.out)
    have n3_ := zA (Kd.zbz HO1116.out)
    have n4_ := zA (zar BK1103.out)
    have n5_ := zA (zar BK1104.out)
    have n6_ := zA (zar BK1118.out)
    have n7_ := zA (zbj HB.out)
    clear HO1107 HO1110 HO1113 HO1116 BK1103 BK1104 BK1118 HB
    have HO1107 := n0_
    have HO1110 := n1_
    have HO1113 := n2_
    have HO1116 := n3_
    have BK1103 := n4_
    have BK1104 := n5_
    have BK1118 := n6_
    have HB := n7_
    clear n0_ n1_ n2_ n3_ n4_ n5_ n6_ n7_
    refine start_ (n := 11) (S := fun w' => w'.cell? ⟨gb1118, 0, none⟩ = some (.slice Ao24 t1111.length co24) ∧ w'.cell? ⟨gb1118, 1, none⟩ = some (.slice Ao28 t1114.length co28)) (ds := []) #[false, false, false, false, false, false, false, false, false, false, false] (by kernel_rfl) rfl rfl ⟨(zad BK1118.out 0).trans rfl, (zad BK1118.out 1).trans rfl⟩ (fun hHeld => ?_); refine zcw zan.tab4 zan.bits4 (fun HT_ HW_ => ?_)
    generalize w29.drew = w30 at HO1107 HO1110 HO1113 HO1116 BK1103 BK1104 BK1118 HB hHeld ⊢
    refine pure_ (i := 1) (N := some 33) (v := ?_) (a' := ?_) #[false, true, false, false, false, false, false, false, false, false, false] rfl rfl (za5 HT_.out (by kernel_rfl)) (fun _ _ _ h => h) (Or.inl ⟨by rfl, ?_⟩) ?_ ?_
    rotate_left
    ·
     intro w'
     go_simp
     with_reducible rfl
    rotate_left
    ·
     simp only [Act.put, zs1, zs2, zs3, i64_w, i32_w]
     rfl
    refine pure_ (i := 3) (N := some 35) (v := ?_) (a' := ?_) #[false, true, false, true, false, false, false, false, false, false, false] rfl rfl (za5 HT_.out (by kernel_rfl)) (fun _ _ _ h => h) (Or.inl ⟨by rfl, ?_⟩) ?_ ?_
    rotate_left
    ·
     intro w'
     go_simp
     with_reducible rfl
    rotate_left
    ·
     simp only [Act.put, zs1, zs2, zs3, i64_w, i32_w]
     rfl
    refine pure_ (i := 6) (N := some 38) (v := ?_) (a' := ?_) #[false, true, false, true, false, false, true, false, false, false, false] rfl rfl (za5 HT_.out (by kernel_rfl)) (fun _ _ _ h => h) (Or.inl ⟨by rfl, ?_⟩) ?_ ?_
    rotate_left
    ·
     intro w'
     go_simp
     with_reducible rfl
    rotate_left
    ·
     simp only [Act.put, zs1, zs2, zs3, i64_w, i32_w]
     rfl
    refine pure_ (i := 7) (N := some 39) (v := ?_) (a' := ?_) #[false, true, false, true, false, false, true, true, false, false, false] rfl rfl (za5 HT_.out (by kernel_rfl)) (fun _ _ _ h => h) (Or.inl ⟨by rfl, ?_⟩) ?_ ?_
    rotate_left
    ·
     intro w'
     go_simp
     with_reducible rfl
    rotate_left
    ·
     simp only [Act.put, zs1, zs2, zs3, i64_w, i32_w]
     rfl
    refine take_ (i := 0) (N := some 32) (v := ?_) (a' := ?_) #[true, true, false, true, false, false, true, true, false, false, false] rfl rfl (zcf HT_.out HW_.out (by kernel_rfl)) (fun _ _ _ h => h) (Or.inl ⟨by rfl, ?_⟩) hHeld ?_ ?_
    rotate_left
    ·
     rintro w' ⟨s0, s1⟩
     go_simp
     with_reducible rfl
    rotate_left
    ·
     simp only [Act.put, zs1, zs2, zs3, i64_w, i32_w]
     rfl
    refine one_ (i := 2) (N := some 34) #[true, true, true, true, false, false, true, true, false, false, false] rfl rfl (zcg HT_.out (by kernel_rfl)) (by decide) (fun K hK => ?_)
    refine goes_ Tryd.func20 (by kernel_rfl) rfl #[.int .i64 a0] (by rfl) rfl rfl (zE) ?_
    with_reducible refine (zav.calls kj2 a0 t1119 _ A15.out).mono ?_
    rintro e w31 ⟨v1120, rfl, ho0, hb⟩
    refine ⟨_, rfl, ?_⟩
    have n0_ := zA (Kd.zc6 (zV HO1107) (Kd.zbk ho0) hb)
    have n1_ := zA (Kd.zc6 (zV HO1110) (Kd.zbk ho0) hb)
    have n2_ := zA (Kd.zc6 (zV HO1113) (Kd.zbk ho0) hb)
    have n3_ := zA (Kd.zc6 (zV HO1116) (Kd.zbk ho0) hb)
    have n4_ := zA (Kd.zb3 (Kd.R_newM (M := fun k_ => (w.heap.size ≤ k_)) ho0 (za (zB HB)) (fun k_ h_ => h_)) (za (zB HB)))
    have n5_ := zA (zai (g := gb1103) (o := .cells #[.slice none 0 0, .slice none 0 0] 28 (0, 0)) (zK BK1103) hb)
    have n6_ := zA (zai (g := gb1104) (o := .cells #[.slice none 0 0, .slice none 0 0] 40 (0, 0)) (zK BK1104) hb)
    have n7_ := zA (zai (g := gb1118) (o := .cells #[.slice Ao24 t1111.length co24, .slice Ao28 t1114.length co28] 28 (0, 0)) (zK BK1118) hb)
    have n8_ := zA (zaa (zB HB) hb)
    clear HO1107 HO1110 HO1113 HO1116 BK1103 BK1104 BK1118 HB
    have HO1107 := n0_
    have HO1110 := n1_
    have HO1113 := n2_
    have HO1116 := n3_
    have HO1121 := n4_
    have BK1103 := n5_
    have BK1104 := n6_
    have BK1118 := n7_
    have HB := n8_
    clear n0_ n1_ n2_ n3_ n4_ n5_ n6_ n7_ n8_
    (try clear hb)
    (try clear hb2)
    (try clear hk)
    (try clear hi)
    (try clear ho0)
    refine hK.out _ _ ⟨(zad BK1118.out 0).trans rfl, (zad BK1118.out 1).trans rfl⟩ (fun hHeld => ?_)
    clear hK K
    refine norm_ (a' := ?_) ?_ ?_
    rotate_left
    ·
     show Act.put _ (some 34) _ = _
     simp only [Act.put, zs1, zs2, zs3, i64_w, i32_w]
     rfl
    refine one_ (i := 4) (N := some 36) #[true, true, true, true, true, false, true, true, false, false, false] rfl rfl (zcg HT_.out (by kernel_rfl)) (by decide) (fun K hK => ?_)
    refine goes_ Tryd.func20 (by kernel_rfl) rfl #[.int .i64 a1] (by rfl) rfl rfl (zE) ?_
    with_reducible refine (zav.calls kj2 a1 t1122 _ A16.out).mono ?_
    rintro e w32 ⟨v1123, rfl, ho0, hb⟩
    refine ⟨_, rfl, ?_⟩
    have n0_ := zA (Kd.zc6 (zV HO1107) (Kd.zbk ho0) hb)
    have n1_ := zA (Kd.zc6 (zV HO1110) (Kd.zbk ho0) hb)
    have n2_ := zA (Kd.zc6 (zV HO1113) (Kd.zbk ho0) hb)
    have n3_ := zA (Kd.zc6 (zV HO1116) (Kd.zbk ho0) hb)
    have n4_ := zA (Kd.zb8 (zR HO1121) (Kd.zbk ho0) hb)
    have n5_ := zA (Kd.zb3 (Kd.zcl (Kd.R_newM (M := fun k_ => (w.heap.size ≤ k_)) ho0 (za (zB HB)) (fun k_ h_ => h_)) (Kd.R_lt (zR HO1121))) (za (zB HB)))
    have n6_ := zA (zai (g := gb1103) (o := .cells #[.slice none 0 0, .slice none 0 0] 28 (0, 0)) (zK BK1103) hb)
    have n7_ := zA (zai (g := gb1104) (o := .cells #[.slice none 0 0, .slice none 0 0] 40 (0, 0)) (zK BK1104) hb)
    have n8_ := zA (zai (g := gb1118) (o := .cells #[.slice Ao24 t1111.length co24, .slice Ao28 t1114.length co28] 28 (0, 0)) (zK BK1118) hb)
    have n9_ := zA (zaa (zB HB) hb)
    clear HO1107 HO1110 HO1113 HO1116 HO1121 BK1103 BK1104 BK1118 HB
    have HO1107 := n0_
    have HO1110 := n1_
    have HO1113 := n2_
    have HO1116 := n3_
    have HO1121 := n4_
    have HO1124 := n5_
    have BK1103 := n6_
    have BK1104 := n7_
    have BK1118 := n8_
    have HB := n9_
    clear n0_ n1_ n2_ n3_ n4_ n5_ n6_ n7_ n8_ n9_
    (try clear hb)
    (try clear hb2)
    (try clear hk)
    (try clear hi)
    (try clear ho0)
    obtain ⟨Ao33, co33, eo33⟩ := Kd.zbt HO1121.out
    (first | subst eo33 | (injection eo33 with f1_ f2_ f3_; have f4_ := f1_.symm; have f5_ := f3_.symm; clear f1_ f2_ f3_; subst f4_; subst f5_))
    obtain ⟨Ao34, co34, eo34⟩ := Kd.zbt HO1124.out
    (first | subst eo34 | (injection eo34 with f1_ f2_ f3_; have f4_ := f1_.symm; have f5_ := f3_.symm; clear f1_ f2_ f3_; subst f4_; subst f5_))
    refine hK.out _ _ ⟨(zad BK1118.out 0).trans rfl, (zad BK1118.out 1).trans rfl⟩ (fun hHeld => ?_)
    clear hK K
    refine norm_ (a' := ?_) ?_ ?_
    rotate_left
    ·
     show Act.put _ (some 36) _ = _
     simp only [Act.put, zs1, zs2, zs3, i64_w, i32_w]
     rfl
    refine one_ (i := 5) (N := some 37) #[true, true, true, true, true, true, true, true, false, false, false] rfl rfl (zcg HT_.out (by kernel_rfl)) (by decide) (fun K hK => ?_)
    refine goes_ Tryd.func59 (by kernel_rfl) rfl #[.slice Ao33 t1119.length co33, .slice Ao34 t1122.length co34] (by rfl) rfl rfl (zE) ?_
    with_reducible refine (zcr.calls kj2 _ _ t1119 _ _ t1122 t1125 t1128 _ ?side1 ?side2 ?side3 ?side4 A17.out).mono ?_
    (case side1 => exact zJ (Kd.za9 HO1121.out).2.2)
    (case side2 => exact (Kd.za9 HO1121.out).2.1)
    (case side3 => exact zJ (Kd.za9 HO1124.out).2.2)
    (case side4 => exact (Kd.za9 HO1124.out).2.1)
    rintro e w35 ⟨v1126, v1129, rfl, ho0, ho1, hb⟩
    refine ⟨_, rfl, ?_⟩
    have n0_ := zA (Kd.zas (Kd.V_told (Kd.V_told (Kd.V_old (zV HO1107) hb) (Kd.zbk ho0)) (Kd.zbk ho1)) (fun _ h_ => h_.1))
    have n1_ := zA (Kd.zas (Kd.V_told (Kd.V_told (Kd.V_old (zV HO1110) hb) (Kd.zbk ho0)) (Kd.zbk ho1)) (fun _ h_ => h_.1))
    have n2_ := zA (Kd.zas (Kd.V_told (Kd.V_told (Kd.V_old (zV HO1113) hb) (Kd.zbk ho0)) (Kd.zbk ho1)) (fun _ h_ => h_.1))
    have n3_ := zA (Kd.zas (Kd.V_told (Kd.V_told (Kd.V_old (zV HO1116) hb) (Kd.zbk ho0)) (Kd.zbk ho1)) (fun _ h_ => h_.1))
    have n4_ := zA (Kd.zbn (Kd.R_told (Kd.R_told (Kd.R_old (zR HO1121) hb) (Kd.zbk ho0)) (Kd.zbk ho1)) (fun _ h_ => h_.1))
    have n5_ := zA (Kd.zbn (Kd.R_told (Kd.R_told (Kd.R_old (zR HO1124) hb) (Kd.zbk ho0)) (Kd.zbk ho1)) (fun _ h_ => h_.1))
    have n6_ := zA (Kd.zb3 (Kd.zcl (Kd.zcl (Kd.R_newM (M := fun k_ => (w.heap.size ≤ k_)) ho0 (za (zB HB)) (fun k_ h_ => h_)) (Kd.R_lt (zR HO1121))) (Kd.R_lt (zR HO1124))) (za (zB HB)))
    have n7_ := zA (Kd.zb3 (Kd.zcl (Kd.zcl (Kd.R_newM (M := fun k_ => (w.heap.size ≤ k_)) ho1 (za (zB HB)) (fun k_ h_ => h_)) (Kd.R_lt (zR HO1121))) (Kd.R_lt (zR HO1124))) (za (zB HB)))
    have n8_ := zA (zai (g := gb1103) (o := .cells #[.slice none 0 0, .slice none 0 0] 28 (0, 0)) (zK BK1103) hb)
    have n9_ := zA (zai (g := gb1104) (o := .cells #[.slice none 0 0, .slice none 0 0] 40 (0, 0)) (zK BK1104) hb)
    have n10_ := zA (zai (g := gb1118) (o := .cells #[.slice Ao24 t1111.length co24, .slice Ao28 t1114.length co28] 28 (0, 0)) (zK BK1118) hb)
    have n11_ := zA (zaa (zB HB) hb)
    clear HO1107 HO1110 HO1113 HO1116 HO1121 HO1124 BK1103 BK1104 BK1118 HB
    have HO1107 := n0_
    have HO1110 := n1_
    have HO1113 := n2_
    have HO1116 := n3_
    have HO1121 := n4_
    have HO1124 := n5_
    have HO1127 := n6_
    have HO1130 := n7_
    have BK1103 := n8_
    have BK1104 := n9_
    have BK1118 := n10_
    have HB := n11_
    clear n0_ n1_ n2_ n3_ n4_ n5_ n6_ n7_ n8_ n9_ n10_ n11_
    (try clear hb)
    (try clear hb2)
    (try clear hk)
    (try clear hi)
    (try clear ho0)
    (try clear ho1)
    obtain ⟨Ao38, co38, eo38⟩ := Kd.zbt HO1127.out
    (first | subst eo38 | (injection eo38 with f1_ f2_ f3_; have f4_ := f1_.symm; have f5_ := f3_.symm; clear f1_ f2_ f3_; subst f4_; subst f5_))
    obtain ⟨Ao40, co40, eo40⟩ := Kd.zbt HO1130.out
    (first | subst eo40 | (injection eo40 with f1_ f2_ f3_; have f4_ := f1_.symm; have f5_ := f3_.symm; clear f1_ f2_ f3_; subst f4_; subst f5_))
    refine hK.out _ _ ⟨(zad BK1118.out 0).trans rfl, (zad BK1118.out 1).trans rfl⟩ (fun hHeld => ?_)
    clear hK K
    refine norm_ (a' := ?_) ?_ ?_
    rotate_left
    ·
     show Act.put _ (some 37) _ = _
     simp only [Act.put, zs1, zs2, zs3, i64_w, i32_w]
     rfl
    refine one_ (i := 8) (N := none) #[true, true, true, true, true, true, true, true, true, false, false] rfl rfl (zcg HT_.out (by kernel_rfl)) (by decide) (fun K hK => ?_)
    have hs36 : w35.cell? ⟨gb1103, 0, none⟩ = some (.slice none 0 0) := (zad BK1103.out 0).trans rfl
    have hfs36 := zat BK1103.out 0
    have hns36_1 := NB1104_1103.out
    have hns36_2 := NB1118_1103.out
    have hms36_1 := NB1103_1104.out
    have hms36_2 := NB1103_1118.out
    have hs37 : w35.cell? ⟨gb1103, 1, none⟩ = some (.slice none 0 0) := (zad BK1103.out 1).trans rfl
    have hfs37 := zat BK1103.out 1
    have hns37_1 := NB1104_1103.out
    have hns37_2 := NB1118_1103.out
    have hms37_1 := NB1103_1104.out
    have hms37_2 := NB1103_1118.out
    refine skip_ (w1 := ?_) (by rfl) rfl ?_ ?_
    rotate_left
    ·
     go_simp
     rfl
    refine hK.out _ _ ⟨((cell_far (p := ⟨gb1103, _, none⟩) NB1118_1103.out _).trans (((cell_far (p := ⟨gb1103, _, none⟩) NB1118_1103.out _).trans (hHeld.1)))), ((cell_far (p := ⟨gb1103, _, none⟩) NB1118_1103.out _).trans (((cell_far (p := ⟨gb1103, _, none⟩) NB1118_1103.out _).trans (hHeld.2))))⟩ (fun hHeld => ?_)
    clear hK K
    refine one_ (i := 9) (N := none) #[true, true, true, true, true, true, true, true, true, true, false] rfl rfl (zcg HT_.out (by kernel_rfl)) (by decide) (fun K hK => ?_)
    have hs39 : w35.cell? ⟨gb1104, 0, none⟩ = some (.slice none 0 0) := (zad BK1104.out 0).trans rfl
    have hfs39 := zat BK1104.out 0
    have hns39_0 := NB1103_1104.out
    have hns39_2 := NB1118_1104.out
    have hms39_0 := NB1104_1103.out
    have hms39_2 := NB1104_1118.out
    have hs41 : w35.cell? ⟨gb1104, 1, none⟩ = some (.slice none 0 0) := (zad BK1104.out 1).trans rfl
    have hfs41 := zat BK1104.out 1
    have hns41_0 := NB1103_1104.out
    have hns41_2 := NB1118_1104.out
    have hms41_0 := NB1104_1103.out
    have hms41_2 := NB1104_1118.out
    refine skip_ (w1 := ?_) (by rfl) rfl ?_ ?_
    rotate_left
    ·
     go_simp
     rfl
    refine hK.out _ _ ⟨((cell_far (p := ⟨gb1104, _, none⟩) NB1118_1104.out _).trans (((cell_far (p := ⟨gb1104, _, none⟩) NB1118_1104.out _).trans (hHeld.1)))), ((cell_far (p := ⟨gb1104, _, none⟩) NB1118_1104.out _).trans (((cell_far (p := ⟨gb1104, _, none⟩) NB1118_1104.out _).trans (hHeld.2))))⟩ (fun hHeld => ?_)
    clear hK K
    refine pure_ (i := 10) (N := some 6) (v := ?_) (a' := ?_) #[true, true, true, true, true, true, true, true, true, true, true] rfl rfl (za5 HT_.out (by kernel_rfl)) (fun _ _ _ h => h) (Or.inl ⟨by rfl, ?_⟩) ?_ ?_
    rotate_left
    ·
     intro w'
     go_simp
     with_reducible rfl
    rotate_left
    ·
     simp only [Act.put, zs1, zs2, zs3, i64_w, i32_w]
     rfl
    refine done_ (done_of HT_.out (by kernel_rfl)) ?_
    try go_wp2
    refine bodyPost_ret (results_list (rs := [.cell 4 28, .cell 5 40, .tmp 6]) rfl (by simp) (.cell gb1103 28 #[.slice Ao24 t1111.length co24, .slice Ao28 t1114.length co28] (0, 0) _ rfl (by (with_reducible repeat (first | refine zao ?_ _ | refine zar ?_ | refine zah ?_ _)); refine zc4 ?_ NB1103_1104.out _; (with_reducible repeat (first | refine zao ?_ _ | refine zar ?_ | refine zah ?_ _)); refine zc4 ?_ NB1103_1104.out _; (with_reducible repeat (first | refine zao ?_ _ | refine zar ?_ | refine zah ?_ _)); refine zbu (cs := #[.slice Ao24 t1111.length co24, .slice none 0 0]) ?_ 1 _ rfl; (with_reducible repeat (first | refine zao ?_ _ | refine zar ?_ | refine zah ?_ _)); refine zbu (cs := #[.slice none 0 0, .slice none 0 0]) ?_ 0 _ rfl; (with_reducible repeat (first | refine zao ?_ _ | refine zar ?_ | refine zah ?_ _)); exact BK1103.out) Tryd.underlying28 rfl (by kernel_rfl) (.cell gb1104 40 #[.slice Ao38 t1125.length co38, .slice Ao40 t1128.length co40] (0, 0) _ rfl (by (with_reducible repeat (first | refine zao ?_ _ | refine zar ?_ | refine zah ?_ _)); refine zbu (cs := #[.slice Ao38 t1125.length co38, .slice none 0 0]) ?_ 1 _ rfl; (with_reducible repeat (first | refine zao ?_ _ | refine zar ?_ | refine zah ?_ _)); refine zbu (cs := #[.slice none 0 0, .slice none 0 0]) ?_ 0 _ rfl; (with_reducible repeat (first | refine zao ?_ _ | refine zar ?_ | refine zah ?_ _)); refine zc4 ?_ NB1104_1103.out _; (with_reducible repeat (first | refine zao ?_ _ | refine zar ?_ | refine zah ?_ _)); refine zc4 ?_ NB1104_1103.out _; (with_reducible repeat (first | refine zao ?_ _ | refine zar ?_ | refine zah ?_ _)); exact BK1104.out) Tryd.underlying40 rfl (by kernel_rfl) (.tmp .nil)))) rfl ?_
    exact ⟨_, _, _, _, zW, by (with_reducible repeat (first | apply Kd.zbw | apply Kd.zbv | apply Kd.zbz)); exact Kd.zas (Kd.V_far (p := ⟨gb1104, 1, none⟩) (Kd.V_far (p := ⟨gb1104, 0, none⟩) (Kd.V_far (p := ⟨gb1103, 1, none⟩) (Kd.V_far (p := ⟨gb1103, 0, none⟩) (Kd.zas (Kd.zas HO1113.out (fun k_ hk => (⟨hk, hk.1.1.1.1.2.1⟩ : _ ∧ k_ ≠ gb1103))) (fun k_ hk => (⟨hk, hk.1.1.1.1.1.2.2.1⟩ : _ ∧ k_ ≠ gb1104))) (fun _ hk => hk.1.2) (.slice Ao24 t1111.length co24)) (fun _ hk => hk.1.2) (.slice Ao28 t1114.length co28)) (fun _ hk => hk.2) (.slice Ao38 t1125.length co38)) (fun _ hk => hk.2) (.slice Ao40 t1128.length co40)) (fun _ hk => ⟨hk.1.1.1.1.1.1.1, ⟨hk.1.1.1.2, hk.1.1.2⟩⟩), by (with_reducible repeat (first | apply Kd.zbw | apply Kd.zbv | apply Kd.zbz)); exact Kd.zas (Kd.V_far (p := ⟨gb1104, 1, none⟩) (Kd.V_far (p := ⟨gb1104, 0, none⟩) (Kd.V_far (p := ⟨gb1103, 1, none⟩) (Kd.V_far (p := ⟨gb1103, 0, none⟩) (Kd.zas (Kd.zas HO1116.out (fun k_ hk => (⟨hk, hk.1.1.1.1.2.1⟩ : _ ∧ k_ ≠ gb1103))) (fun k_ hk => (⟨hk, hk.1.1.1.1.1.2.2.1⟩ : _ ∧ k_ ≠ gb1104))) (fun _ hk => hk.1.2) (.slice Ao24 t1111.length co24)) (fun _ hk => hk.1.2) (.slice Ao28 t1114.length co28)) (fun _ hk => hk.2) (.slice Ao38 t1125.length co38)) (fun _ hk => hk.2) (.slice Ao40 t1128.length co40)) (fun _ hk => ⟨hk.1.1.1.1.1.1.1, ⟨hk.1.1.1.2, hk.1.1.2⟩⟩), by (with_reducible repeat (first | apply Kd.zca | apply Kd.zcb | apply Kd.zcn)); exact Kd.zbn (Kd.R_far (p := ⟨gb1104, 1, none⟩) (Kd.R_far (p := ⟨gb1104, 0, none⟩) (Kd.R_far (p := ⟨gb1103, 1, none⟩) (Kd.R_far (p := ⟨gb1103, 0, none⟩) (Kd.R_types (Kd.R_types HO1127.out BK1103.out (by decide)) BK1104.out (by decide)) (fun _ hk => hk.1.2) (.slice Ao24 t1111.length co24)) (fun _ hk => hk.1.2) (.slice Ao28 t1114.length co28)) (fun _ hk => hk.2) (.slice Ao38 t1125.length co38)) (fun _ hk => hk.2) (.slice Ao40 t1128.length co40)) (fun _ hk => ⟨hk.1.1.1.1.1, hk.1.1.1.1.2⟩), by (with_reducible repeat (first | apply Kd.zca | apply Kd.zcb | apply Kd.zcn)); exact Kd.zbn (Kd.R_far (p := ⟨gb1104, 1, none⟩) (Kd.R_far (p := ⟨gb1104, 0, none⟩) (Kd.R_far (p := ⟨gb1103, 1, none⟩) (Kd.R_far (p := ⟨gb1103, 0, none⟩) (Kd.R_types (Kd.R_types HO1130.out BK1103.out (by decide)) BK1104.out (by decide)) (fun _ hk => hk.1.2) (.slice Ao24 t1111.length co24)) (fun _ hk => hk.1.2) (.slice Ao28 t1114.length co28)) (fun _ hk => hk.2) (.slice Ao38 t1125.length co38)) (fun _ hk => hk.2) (.slice Ao40 t1128.length co40)) (fun _ hk => ⟨hk.1.1.1.1.1, hk.1.1.1.1.2⟩), zB HB⟩
theorem dig_single (x : Nat) (h0 : x ≠ 0) (h : x < 18446744073709551616) : dig 18446744073709551616 x = [(x : Int)] := by
 rw [dig_pos (by decide) h0, Nat.div_eq_of_lt h, zcm, Nat.mod_eq_of_lt h]
theorem dig_two (x : Nat) (h : 18446744073709551616 ≤ x) : 2 ≤ (dig 18446744073709551616 x).length := by
 have h1 : x / 18446744073709551616 ≠ 0 := by omega
 rw [dig_pos (by decide) (by omega), dig_pos (by decide) h1]
 simp
theorem nSmall (x : Nat) : nat_Small.f (dig 18446744073709551616 x) = some (if x ≤ 4611686018427387904 then ((x : Int), true) else (0, false)) := by
 have hat := nAt (dig 18446744073709551616 x) 0
 have h00 : ((0 : Nat) : Int) = 0 := rfl
 rw [h00] at hat
 unfold nat_Small.f
 by_cases h1 : x < 18446744073709551616
 ·
  have hx : (dig 18446744073709551616 x).getD 0 0 = (x : Int) ∧ (dig 18446744073709551616 x).length ≤ 1 := by
   by_cases h0 : x = 0
   ·
    subst h0
    rw [zcm]
    exact ⟨rfl, by simp⟩
   ·
    rw [dig_single x h0 h1]
    exact ⟨rfl, by simp⟩
  rw [hx.1] at hat
  rw [if_neg (by omega), hat, Option.bind_some, Option.bind_some]
  by_cases hs : x ≤ 4611686018427387904
  ·
   rw [if_neg (by omega), if_pos hs, w64s (by omega) (by omega)]
  ·
   rw [if_pos (by omega), if_neg hs]
 ·
  have := dig_two x (by omega)
  rw [if_pos (by omega), if_neg (by omega)]
theorem div_low {x y : Nat} (hy : 0 < y) : (mkRat (x : Int) y).num.toNat / (mkRat (x : Int) y).den = x / y := by
 obtain ⟨h1, h2⟩ := low_rat (x := x) hy
 rw [← h1, ← h2]
 have hg := gcdPos (x := x) hy
 have e1 := Nat.div_mul_cancel (Nat.gcd_dvd_left x y)
 have e2 := Nat.div_mul_cancel (Nat.gcd_dvd_right x y)
 have : x / y = (x / Nat.gcd x y * Nat.gcd x y) / (y / Nat.gcd x y * Nat.gcd x y) := by rw [e1, e2]
 rw [this, Nat.mul_div_mul_right _ _ hg]
theorem mul_nat_floor {r : Rat} (hr : 0 ≤ r) (q : Nat) : (r * ((q : Nat) : Rat)).num.toNat / (r * ((q : Nat) : Rat)).den = r.num.toNat * q / r.den := by
 have h := mul_rat hr (Rat.natCast_nonneg (a := q))
 rw [Rat.num_natCast, Rat.den_natCast, Int.toNat_natCast, Nat.mul_one] at h
 rw [← h]
 exact div_low r.den_pos
def sliceV (q : Nat) (r : Rat) : Nat := max 1 (r.num.toNat * q / r.den)
theorem le_one {r : Rat} (hr : 0 ≤ r) (h1 : r ≤ 1) : r.num.toNat ≤ r.den := by
 have := (le_rat (r := 1) (s := r) (by decide) hr).2 h1
 simpa using this
theorem floor_le_q {r : Rat} (hr : 0 ≤ r) (h1 : r ≤ 1) (q : Nat) : r.num.toNat * q / r.den ≤ q := by
 rw [Nat.div_le_iff_le_mul_add_pred r.den_pos]
 have := Nat.mul_le_mul_right q (le_one hr h1)
 omega
theorem one_nat : ((1 : Nat) : Rat) = 1 := rfl
theorem cmp_pos {r s : Rat} : cmpR r s > 0 ↔ s < r := by
 unfold cmpR
 by_cases h1 : r = s
 ·
  rw [if_pos h1]
  constructor
  ·
   intro h
   cases h
  ·
   intro h
   rw [h1] at h
   exact absurd h Rat.lt_irrefl
 ·
  rw [if_neg h1]
  by_cases h2 : r < s
  ·
   rw [if_pos h2]
   constructor
   ·
    intro h
    cases h
   ·
    intro h
    exact absurd (Rat.le_of_lt h) (Rat.not_le.2 h2)
  ·
   rw [if_neg h2]
   constructor
   ·
    intro _
    exact Rat.lt_of_le_of_ne (Rat.not_lt.1 h2) (fun e => h1 e.symm)
   ·
    intro _
    decide
theorem right_in {q : Nat} (h1 : 1 ≤ q) (h2 : q ≤ 1000) : zcc.f (q : Int) = some true := by
 unfold zcc.f
 rw [if_pos (by omega), decide_eq_true (by omega)]
theorem int_nat (q : Nat) (h : q < 9223372036854775808) : Ev (fun k => zb6.f k (q : Int)) (dig 18446744073709551616 ((q : Nat) : Rat).num.toNat, dig 18446744073709551616 ((q : Nat) : Rat).den) := by
 have := qInt (q : Int) (by omega)
 rw [Int.toNat_natCast] at this
 exact this
theorem qSlice {r : Rat} {m q : Nat} (hr : Bd r m) (hm : m ≤ 1000) (h1 : r ≤ 1) (q1 : 1 ≤ q) (q2 : q ≤ 1000) : Ev (fun k => zb9.f k (q : Int) (dig 18446744073709551616 r.num.toNat) (dig 18446744073709551616 r.den)) (((sliceV q r : Nat) : Int), 0) := by
 have bq : Bd ((q : Nat) : Rat) 1 := Bd.nat (by rw [Nat.pow_one]; omega) (by omega)
 have b1 : Bd ((1 : Nat) : Rat) 1 := Bd.nat (by rw [Nat.pow_one]; omega) (by omega)
 have bm := hr.mul bq
 have hc : ¬ cmpR r ((1 : Nat) : Rat) > 0 := by
  rw [cmp_pos, one_nat]
  exact Rat.not_lt.2 h1
 have hf := nFloor (m := m + 1) (r * ((q : Nat) : Rat)).den_pos bm.2.1 bm.2.2 (by omega)
 rw [mul_nat_floor hr.1] at hf
 have hfq := floor_le_q hr.1 h1 q
 have hs := nSmall (r.num.toNat * q / r.den)
 rw [if_pos (by omega)] at hs
 refine Ev.plain (right_in q1 q2) (Ev.pos rfl (Ev.bind (qGood hr (by omega)) (Ev.pos rfl (Ev.bind (F := fun k => zb6.f k 1) (int_nat 1 (by omega)) (Ev.bind (qCmp hr b1 (by omega)) (Ev.neg hc (Ev.bind (int_nat q (by omega)) (Ev.bind (qMul hr bq (by omega)) (Ev.bind hf (Ev.plain hs ?_))))))))))
 have e : mx 1 ((r.num.toNat * q / r.den : Nat) : Int) = ((sliceV q r : Nat) : Int) := by
  unfold mx sliceV
  split <;> omega
 rw [e]
 exact Ev.const _
theorem sawake : Ev (fun k => zbm.f k) true := Ev.mono (K := 40) (fun k => zbm.mono k) (by kernel_rfl)
theorem made10 (a b : Int) (ha : a < 9223372036854775808) (hb : b < 9223372036854775808) : Ev (fun k => zan.f k a b) (([] : List Int), ([] : List Int), ([] : List Int), ([] : List Int), false) ∨
  ∃ r, Bd r 1 ∧ r ≤ 1 ∧ Ev (fun k => zan.f k a b) (dig 18446744073709551616 r.num.toNat, dig 18446744073709551616 r.den, dig 10000 r.num.toNat, dig 10000 r.den, true) := by
 have off : Ev (fun k => zan.j0 k a b true) (([] : List Int), ([] : List Int), ([] : List Int), ([] : List Int), false) := Ev.step (fun _ => zan.j0.eq_2 ..) (Ev.pos rfl (Ev.const _))
 by_cases h1 : a < 0
 ·
  exact .inl (Ev.pos h1 off)
 ·
  by_cases h2 : b < 1
  ·
   exact .inl (Ev.neg h1 (Ev.pos h2 off))
  ·
   by_cases h3 : a > b
   ·
    refine .inl (Ev.neg h1 (Ev.neg h2 ?_))
    rw [decide_eq_true h3]
    exact off
   ·
    obtain ⟨x, rfl⟩ := Int.eq_ofNat_of_zero_le (show 0 ≤ a by omega)
    obtain ⟨y, rfl⟩ := Int.eq_ofNat_of_zero_le (show 0 ≤ b by omega)
    have hx : x < 18446744073709551616 ^ 1 := by
     rw [Nat.pow_one]
     omega
    have hy : y < 18446744073709551616 ^ 1 := by
     rw [Nat.pow_one]
     omega
    have ux : IntKind.u64.wrap (x : Int) = (x : Int) := u64s (by omega) (by omega)
    have uy : IntKind.u64.wrap (y : Int) = (y : Int) := u64s (by omega) (by omega)
    have o1 : Ev (fun k => zck.f k (IntKind.u64.wrap (x : Int))) (dig 18446744073709551616 x) := by
     rw [ux]
     exact nOf _ (by omega)
    have o2 : Ev (fun k => zck.f k (IntKind.u64.wrap (y : Int))) (dig 18446744073709551616 y) := by
     rw [uy]
     exact nOf _ (by omega)
    refine .inr ⟨mkRat (x : Int) y, Bd.mk (by omega) hx hy, ?_, Ev.neg h1 (Ev.neg h2 ?_)⟩
    ·
     have hy0 : (0 : Rat) < ((y : Nat) : Rat) := Rat.natCast_pos.2 (by omega)
     have hxy : ((x : Nat) : Rat) ≤ ((y : Nat) : Rat) := Rat.natCast_le_natCast.2 (by omega)
     rw [Rat.mkRat_eq_div, Rat.intCast_natCast]
     refine Rat.le_of_mul_le_mul_right (c := ((y : Nat) : Rat)) ?_ hy0
     rw [Rat.div_mul_cancel (Rat.ne_of_gt hy0), Rat.one_mul]
     exact hxy
    ·
     rw [decide_eq_false h3]
     exact Ev.step (fun _ => zan.j0.eq_2 ..) (Ev.neg (by simp) (Ev.bind o1 (Ev.bind o2 (Ev.bind (qOf (by omega) hx hy (by omega)) (Ev.bind (rOf x (by omega)) (Ev.bind (rOf y (by omega)) (Ev.bind (dOf (by omega) hx hy (by omega)) (Ev.const _))))))))
theorem floor_low (r : Rat) (h : 0 ≤ r) : ((r.num.toNat / r.den : Nat) : Rat) ≤ r ∧ r < ((r.num.toNat / r.den : Nat) : Rat) + 1 := by
 have e := rat_frac r
 have hd : (0 : Rat) < (r.den : Rat) := by
  have := r.den_pos
  exact_mod_cast Rat.natCast_pos.2 this
 have hn : (r.num : Rat) = ((r.num.toNat : Nat) : Rat) := by rw [← Rat.intCast_natCast, nnum h]
 have hdm := Nat.div_add_mod r.num.toNat r.den
 have hlt := Nat.mod_lt r.num.toNat r.den_pos
 rw [hn] at e
 generalize r.num.toNat / r.den = q at *
 have h1 : ((r.num.toNat : Nat) : Rat) = (r.den : Rat) * (q : Rat) + ((r.num.toNat % r.den : Nat) : Rat) := by
  rw [← Rat.natCast_mul, ← Rat.natCast_add, hdm]
 have h2 : ((r.num.toNat % r.den : Nat) : Rat) < (r.den : Rat) := Rat.natCast_lt_natCast.2 hlt
 have h3 : (0 : Rat) ≤ ((r.num.toNat % r.den : Nat) : Rat) := Rat.natCast_nonneg
 rw [h1] at e
 generalize ((r.num.toNat % r.den : Nat) : Rat) = m at *
 generalize (r.den : Rat) = d at *
 generalize (q : Rat) = q at *
 constructor
 ·
  refine Rat.le_of_mul_le_mul_right (c := d) ?_ hd
  grind
 ·
  refine Rat.lt_of_mul_lt_mul_right (c := d) ?_ (Rat.le_of_lt hd)
  grind
theorem t_made10_any {w : World} {a b : Int} {l0 l1 l2 l3 : List Int} {ok : Bool} (hm : Ev (fun k => zan.f k a b) (l0, l1, l2, l3, ok)) :
  Calls Tryd.prog 44 #[.int .i64 a, .int .i64 b] w fun e w' => ∃ A c A' c' A2 c2 A3 c3, e = .returned (.tuple #[.agg #[.slice A l0.length c, .slice A' l1.length c'], .agg #[.slice A2 l2.length c2, .slice A3 l3.length c3], .bool ok]) ∧ Rt w' A c l0 A' c' l1 ∧ Below w.heap.size w w' := by
 obtain ⟨k, hk⟩ := hm.get
 refine (zan.calls k a b l0 l1 l2 l3 ok w hk).mono ?_
 rintro e w' ⟨v0, v1, v2, v3, rfl, hv0, hv1, hv2, hv3, hb⟩
 obtain ⟨A, c, A', c', rfl, rfl, hR⟩ := Rt.of hv0 hv1
 obtain ⟨A2, c2, rfl⟩ := Kd.zbt hv2
 obtain ⟨A3, c3, rfl⟩ := Kd.zbt hv3
 exact ⟨A, c, A', c', A2, c2, A3, c3, rfl, hR, hb⟩
theorem t_slice {w : World} {A0 A1 : Option Addr} {c0 c1 : Nat} {r : Rat} {q : Nat} (h1 : Rt w A0 c0 (rN r) A1 c1 (rD r)) (hr : Bd r 1) (h1r : r ≤ 1) (q1 : 1 ≤ q) (q2 : q ≤ 1000) :
  Calls Tryd.prog 46 #[.int .i64 (q : Int), .agg #[.slice A0 (rN r).length c0, .slice A1 (rD r).length c1]] w fun e w' => e = .returned (.tuple #[.int .i64 ((sliceV q r : Nat) : Int), .int .i64 0]) ∧ Below w.heap.size w w' := by
 obtain ⟨k, hk⟩ := (qSlice hr (by omega) h1r q1 q2).get
 exact zb9.calls k (q : Int) A0 c0 (rN r) A1 c1 (rD r) _ _ w h1.2.1 h1.1 h1.2.2.2 h1.2.2.1 hk
theorem near_facts {r s : Rat} {q : Nat} (h0 : 0 ≤ r) (s0 : 0 ≤ s) (h1 : r ≤ 1) (q1 : 1 ≤ q) :
  1 ≤ sliceV q r ∧ sliceV q r ≤ q ∧ cmpR (r * ((q : Nat) : Rat)) ((sliceV q r + 1 : Nat) : Rat) < 0 ∧ (1 < sliceV q r → 0 ≤ cmpR (r * ((q : Nat) : Rat)) ((sliceV q r : Nat) : Rat)) ∧ (cmpR r s < 0 ∨ sliceV q s ≤ sliceV q r) := by
 have e0 : 0 ≤ r * ((q : Nat) : Rat) := Rat.mul_nonneg h0 Rat.natCast_nonneg
 have t0 : 0 ≤ s * ((q : Nat) : Rat) := Rat.mul_nonneg s0 Rat.natCast_nonneg
 obtain ⟨f1, f2⟩ := floor_low _ e0
 obtain ⟨g1, g2⟩ := floor_low _ t0
 rw [mul_nat_floor h0] at f1 f2
 rw [mul_nat_floor s0] at g1 g2
 have hq := floor_le_q h0 h1 q
 have one : ((1 : Nat) : Rat) = 1 := rfl
 unfold sliceV
 refine ⟨by omega, by omega, ?_, ?_, ?_⟩
 ·
  generalize r.num.toNat * q / r.den = f at *
  have hlt : r * ((q : Nat) : Rat) < ((max 1 f + 1 : Nat) : Rat) := by
   have h3 : ((f + 1 : Nat) : Rat) ≤ ((max 1 f + 1 : Nat) : Rat) := Rat.natCast_le_natCast.2 (by omega)
   rw [Rat.natCast_add f 1, one] at h3
   grind
  rw [cmpR, if_neg (Rat.ne_of_lt hlt), if_pos hlt]
  decide
 ·
  intro hn
  generalize r.num.toNat * q / r.den = f at *
  rw [show max 1 f = f by omega]
  unfold cmpR
  by_cases he : r * ((q : Nat) : Rat) = ((f : Nat) : Rat)
  ·
   rw [if_pos he]
   decide
  ·
   rw [if_neg he, if_neg (Rat.not_lt.2 f1)]
   decide
 ·
  by_cases hrs : r < s
  ·
   refine .inl ?_
   rw [cmpR, if_neg (Rat.ne_of_lt hrs), if_pos hrs]
   decide
  ·
   refine .inr ?_
   have hle : s * ((q : Nat) : Rat) ≤ r * ((q : Nat) : Rat) := Rat.mul_le_mul_of_nonneg_right (Rat.not_lt.1 hrs) Rat.natCast_nonneg
   generalize r.num.toNat * q / r.den = f at *
   generalize s.num.toNat * q / s.den = g at *
   have h3 : ((g : Nat) : Rat) < ((f + 1 : Nat) : Rat) := by
    rw [Rat.natCast_add f 1, one]
    grind
   have := Rat.natCast_lt_natCast.1 h3
   omega
theorem t_IntN (z : Int) (n : Nat) (hz : (n : Int) = z) (hl : z < 9223372036854775808) (w : World) :
  Calls Tryd.prog 22 #[.int .i64 z] w fun e w' => ∃ A c A' c', e = .returned (.agg #[.slice A (rN ((n : Nat) : Rat)).length c, .slice A' (rD ((n : Nat) : Rat)).length c']) ∧ RV w' (fun k => w.heap.size ≤ k) A c (rN ((n : Nat) : Rat)) A' c' (rD ((n : Nat) : Rat)) ∧ Below w.heap.size w w' := by
 have := t_Int z hl w
 rw [show z.toNat = n by omega] at this
 exact this
def snT12 : Bool × List (List Nat × List Nat) := (true, [([], []), ([], []), ([1], [1]), ([0, 2, 2], [0, 2]), ([], []), ([4, 3, 3, 0, 1, 2, 3, 4], [3, 4])])
def snB12 : List Nat := [0, 0, 2, 7, 0, 31]
theorem sntab12 : rtab .any (opsOf Tryd.f11 12) = snT12 := by kernel_rfl
theorem snbits12 : waitsOk snT12.2 snB12 = true := by kernel_rfl
def snT13 : Bool × List (List Nat × List Nat) := (true, [([], []), ([], []), ([1], [1]), ([2], [2]), ([0, 3, 3], [0, 3]), ([4], [4]), ([5, 4], [5]), ([6], [6]), ([7, 6], [6, 7]), ([8, 6, 6], [6, 8]), ([9], [9]), ([9], [9]), ([11, 9, 9], [9, 11]), ([10, 12, 12, 9], [9, 10, 12]), ([13, 9], [9, 13]), ([9, 14, 6], [6, 9, 14]), ([6, 15], [6, 15])])
def snB13 : List Nat := [0, 0, 2, 6, 15, 31, 63, 127, 255, 511, 1023, 1023, 3071, 8191, 16383, 32767, 65535]
theorem sntab13 : rtab .any (opsOf Tryd.f11 13) = snT13 := by kernel_rfl
theorem snbits13 : waitsOk snT13.2 snB13 = true := by kernel_rfl
theorem SliceNear_on {w : World} {x0 x1 y0 y1 qu : Int} {la lb lc ld : List Int} {r s : Rat} (hG : Glob w) (hqu : 0 ≤ qu ∧ qu < 65536) (hx0 : 0 ≤ x0 ∧ x0 < 65536) (hx1 : 0 ≤ x1 ∧ x1 < 65536) (hy0 : 0 ≤ y0 ∧ y0 < 65536) (hy1 : 0 ≤ y1 ∧ y1 < 65536) (hr : Bd r 1) (hs : Bd s 1) (r1 : r ≤ 1) (s1 : s ≤ 1) (hm : Ev (fun k => zan.f k x0 x1) (rN r, rD r, la, lb, true)) (hn : Ev (fun k => zan.f k y0 y1) (rN s, rD s, lc, ld, true)) :
  Calls Tryd.prog 11 #[.int .u16 qu, .agg #[.int .u16 x0, .int .u16 x1], .agg #[.int .u16 y0, .int .u16 y1]] w fun e w' => e = .returned (.bool true) ∧ Below w.heap.size w w' := by
 have HG := Aside0.mk hG
 have HR := Aside0.mk hr
 have HS := Aside0.mk hs
 have HM := Aside0.mk hm
 have HN := Aside0.mk hn
 obtain ⟨ka, hka⟩ := sawake.get
 have HKA := Aside0.mk hka
 clear hG hr hs hm hn hka
 go_enter Tryd.func11, Tryd.ntmps11
 obtain ⟨z, hz⟩ : ∃ z, 1 + qu % 1000 = z := ⟨_, rfl⟩
 have hz1 : 1 ≤ z ∧ z ≤ 1000 := by omega
 obtain ⟨q, hzq⟩ : ∃ q : Nat, (q : Int) = z := ⟨z.toNat, by omega⟩
 have HZQ := Aside0.mk hzq
 have hq1 : 1 ≤ q ∧ q ≤ 1000 := by omega
 have HQ1 := Aside0.mk hq1
 have hnf := near_facts HR.out.1 HS.out.1 r1 HQ1.out.1 (s := s)
 have hzm := near_facts HS.out.1 HR.out.1 s1 HQ1.out.1 (s := r)
 have hsl := fun (W : World) (A A' : Option Addr) (c c' : Nat) (h : Rt W A c (rN r) A' c' (rD r)) => t_slice h HR.out r1 HQ1.out.1 HQ1.out.2
 have hsm := fun (W : World) (A A' : Option Addr) (c c' : Nat) (h : Rt W A c (rN s) A' c' (rD s)) => t_slice h HS.out s1 HQ1.out.1 HQ1.out.2
 generalize sliceV q r = nn at hnf hsl
 generalize sliceV q s = mm at hnf hsm
 obtain ⟨zn, hzn⟩ : ∃ zn : Int, (nn : Int) = zn := ⟨_, rfl⟩
 obtain ⟨zm, hzm⟩ : ∃ zm : Int, (mm : Int) = zm := ⟨_, rfl⟩
 rw [hzq, hzn] at hsl
 rw [hzq, hzm] at hsm
 obtain ⟨f1, f2, f3, f4, f5⟩ := hnf
 have HSLI := Aside0.mk hsl
 have HSLM := Aside0.mk hsm
 have HZN := Aside0.mk hzn
 have HZN1 : Aside0 (((nn + 1 : Nat) : Int) = zn + 1) := ⟨by omega⟩
 have HBQ : Aside0 (Bd ((q : Nat) : Rat) 1) := ⟨Bd.nat (by rw [Nat.pow_one]; omega) (by omega)⟩
 have HBN : Aside0 (Bd ((nn : Nat) : Rat) 1) := ⟨Bd.nat (by rw [Nat.pow_one]; omega) (by omega)⟩
 have HBN1 : Aside0 (Bd ((nn + 1 : Nat) : Rat) 1) := ⟨Bd.nat (by rw [Nat.pow_one]; omega) (by omega)⟩
 have hzn1 : 1 ≤ zn ∧ zn ≤ z := by omega
 obtain ⟨cc3, hcc3⟩ : ∃ z, cmpR r s = z := ⟨_, rfl⟩
 rw [hcc3] at f5
 have hc3 : decide (cc3 < 0) = true ∨ decide (zn ≥ zm) = true := by
  rcases f5 with h | h
  ·
   exact .inl (decide_eq_true h)
  ·
   exact .inr (decide_eq_true (by omega))
 have HCC3 := Aside0.mk hcc3
 have F3 := Aside0.mk f3
 have F4 := Aside0.mk f4
 have HC3F := Aside0.mk hc3
 have d1 : decide (zn < 1) = false := decide_eq_false (by omega)
 have d2 : decide (zn > z) = false := decide_eq_false (by omega)
 clear hsl hsm hzn hcc3 f1 f2 f3 f4 f5 hzq hq1 hzm hc3
 go_wp2_with fail
 have hbW := zax (zax (Below.refl w.heap.size w) (.cells #[.int .u16 x0, .int .u16 x1] 71)) (.cells #[.int .u16 y0, .int .u16 y1] 71)
 have hfx := zah (blk_new w (.cells #[.int .u16 x0, .int .u16 x1] 71)) (.cells #[.int .u16 y0, .int .u16 y1] 71)
 have hfy := blk_new (w.alloc (.cells #[.int .u16 x0, .int .u16 x1] 71)) (.cells #[.int .u16 y0, .int .u16 y1] 71)
 rw [show (w.alloc (.cells #[.int .u16 x0, .int .u16 x1] 71)).heap.size = w.heap.size + 1 by simp] at hfy
 generalize (w.alloc (.cells #[.int .u16 x0, .int .u16 x1] 71)).alloc (.cells #[.int .u16 y0, .int .u16 y1] 71) = W2 at hbW hfx hfy ⊢
 have HW2 := Aside0.mk hbW
 refine (zbm.calls ka true _ (HG.out.below hbW) HKA.out).mono ?_
 rintro e w3 ⟨rfl, hb3⟩
 have HW3 := Aside0.mk (zaa HW2.out hb3)
 have hfx3 := (hb3.block _ (zbq hfx)).trans hfx
 have hfy3 := (hb3.block _ (zbq hfy)).trans hfy
 have HFY := Aside0.mk hfy3
 have p0 : w3.cell? ⟨w.heap.size, 0, none⟩ = some (.int .u16 x0) := (zad hfx3 0).trans rfl
 have p1 : w3.cell? ⟨w.heap.size, 1, none⟩ = some (.int .u16 x1) := (zad hfx3 1).trans rfl
 clear hb3 hfx hfy hfx3 hfy3 hbW
 go_wp2_with fail
 clear p0 p1
 refine (t_made10_any HM.out).mono ?_
 rintro e w4 ⟨B0, e0, B1, e1, B2, e2, B3, e3, rfl, hR4, hb4⟩
 have HR4 := Aside0.mk (hR4.below (zax (zax (Below.refl w4.heap.size w4) (.cells #[.slice B0 (rN r).length e0, .slice B1 (rD r).length e1] 28)) (.cells #[.slice B2 la.length e2, .slice B3 lb.length e3] 40)))
 have HW4 := Aside0.mk (zax (zax (zaa HW3.out hb4) (.cells #[.slice B0 (rN r).length e0, .slice B1 (rD r).length e1] 28)) (.cells #[.slice B2 la.length e2, .slice B3 lb.length e3] 40))
 have HBR4 := Aside0.mk (zah (blk_new w4 (.cells #[.slice B0 (rN r).length e0, .slice B1 (rD r).length e1] 28)) (.cells #[.slice B2 la.length e2, .slice B3 lb.length e3] 40))
 have hfy4 := zah (zah ((hb4.block _ (zbq HFY.out)).trans HFY.out) (.cells #[.slice B0 (rN r).length e0, .slice B1 (rD r).length e1] 28)) (.cells #[.slice B2 la.length e2, .slice B3 lb.length e3] 40)
 have p0 : ((w4.alloc (.cells #[.slice B0 (rN r).length e0, .slice B1 (rD r).length e1] 28)).alloc (.cells #[.slice B2 la.length e2, .slice B3 lb.length e3] 40)).cell? ⟨w.heap.size + 1, 0, none⟩ = some (.int .u16 y0) := (zad hfy4 0).trans rfl
 have p1 : ((w4.alloc (.cells #[.slice B0 (rN r).length e0, .slice B1 (rD r).length e1] 28)).alloc (.cells #[.slice B2 la.length e2, .slice B3 lb.length e3] 40)).cell? ⟨w.heap.size + 1, 1, none⟩ = some (.int .u16 y1) := (zad hfy4 1).trans rfl
 clear hR4 hb4 hfy4
 go_wp2_with fail
 clear p0 p1
 generalize (w4.alloc (.cells #[.slice B0 (rN r).length e0, .slice B1 (rD r).length e1] 28)).alloc (.cells #[.slice B2 la.length e2, .slice B3 lb.length e3] 40) = W4 at HR4 HW4 HBR4 ⊢
 generalize w4.heap.size = xr at HBR4 ⊢
 refine (t_made10_any HN.out).mono ?_
 rintro e w5 ⟨D0, g0, D1, g1, D2, g2, D3, g3, rfl, hS5, hb5⟩
 have HS5 := Aside0.mk (hS5.below (zax (zax (Below.refl w5.heap.size w5) (.cells #[.slice D0 (rN s).length g0, .slice D1 (rD s).length g1] 28)) (.cells #[.slice D2 lc.length g2, .slice D3 ld.length g3] 40)))
 have HR5 := Aside0.mk ((HR4.out.below hb5).below (zax (zax (Below.refl w5.heap.size w5) (.cells #[.slice D0 (rN s).length g0, .slice D1 (rD s).length g1] 28)) (.cells #[.slice D2 lc.length g2, .slice D3 ld.length g3] 40)))
 have HW5 := Aside0.mk (zax (zax (zaa HW4.out hb5) (.cells #[.slice D0 (rN s).length g0, .slice D1 (rD s).length g1] 28)) (.cells #[.slice D2 lc.length g2, .slice D3 ld.length g3] 40))
 have HBR5 := Aside0.mk (zah (zah ((hb5.block _ (zbq HBR4.out)).trans HBR4.out) (.cells #[.slice D0 (rN s).length g0, .slice D1 (rD s).length g1] 28)) (.cells #[.slice D2 lc.length g2, .slice D3 ld.length g3] 40))
 have HBS5 := Aside0.mk (zah (blk_new w5 (.cells #[.slice D0 (rN s).length g0, .slice D1 (rD s).length g1] 28)) (.cells #[.slice D2 lc.length g2, .slice D3 ld.length g3] 40))
 have p0 : ((w5.alloc (.cells #[.slice D0 (rN s).length g0, .slice D1 (rD s).length g1] 28)).alloc (.cells #[.slice D2 lc.length g2, .slice D3 ld.length g3] 40)).cell? ⟨xr, 0, none⟩ = some (.slice B0 (rN r).length e0) := (zad HBR5.out 0).trans rfl
 have p1 : ((w5.alloc (.cells #[.slice D0 (rN s).length g0, .slice D1 (rD s).length g1] 28)).alloc (.cells #[.slice D2 lc.length g2, .slice D3 ld.length g3] 40)).cell? ⟨xr, 1, none⟩ = some (.slice B1 (rD r).length e1) := (zad HBR5.out 1).trans rfl
 clear hS5 hb5 HR4 HW4 HBR4
 go_wp2_with fail
 clear p0 p1
 generalize (w5.alloc (.cells #[.slice D0 (rN s).length g0, .slice D1 (rD s).length g1] 28)).alloc (.cells #[.slice D2 lc.length g2, .slice D3 ld.length g3] 40) = W5 at HS5 HR5 HW5 HBR5 HBS5 ⊢
 generalize w5.heap.size = xs at HBS5 ⊢
 refine (HSLI.out _ _ _ _ _ HR5.out).mono ?_
 rintro e w8 ⟨rfl, hb8⟩
 have HR8 := Aside0.mk (HR5.out.below hb8)
 have HS8 := Aside0.mk (HS5.out.below hb8)
 have HW8 := Aside0.mk (zaa HW5.out hb8)
 have HBR8 := Aside0.mk ((hb8.block _ (zbq HBR5.out)).trans HBR5.out)
 have HBS8 := Aside0.mk ((hb8.block _ (zbq HBS5.out)).trans HBS5.out)
 have p0 : w8.cell? ⟨xs, 0, none⟩ = some (.slice D0 (rN s).length g0) := (zad HBS8.out 0).trans rfl
 have p1 : w8.cell? ⟨xs, 1, none⟩ = some (.slice D1 (rD s).length g1) := (zad HBS8.out 1).trans rfl
 clear hb8 HR5 HS5 HW5 HBR5 HBS5
 go_wp2_with fail
 clear p0 p1
 refine (HSLM.out _ _ _ _ _ HS8.out).mono ?_
 rintro e w9 ⟨rfl, hb9⟩
 have HR9 := Aside0.mk (HR8.out.below hb9)
 have HS9 := Aside0.mk (HS8.out.below hb9)
 have HW9 := Aside0.mk (zaa HW8.out hb9)
 have HBR9 := Aside0.mk ((hb9.block _ (zbq HBR8.out)).trans HBR8.out)
 have HBS9 := Aside0.mk ((hb9.block _ (zbq HBS8.out)).trans HBS8.out)
 clear hb9 HR8 HS8 HW8 HBR8 HBS8
 go_wp2_with fail
 all_goals try (exfalso; omega)
 have HSK : Aside0 (∀ W, Below w9.heap.size w9 W → W.cell? ⟨xr, 0, none⟩ = some (.slice B0 (rN r).length e0) ∧ W.cell? ⟨xr, 1, none⟩ = some (.slice B1 (rD r).length e1)) := ⟨fun W h => by
  have h1 := (h.block _ (zbq HBR9.out)).trans HBR9.out
  exact ⟨(zad h1 0).trans rfl, (zad h1 1).trans rfl⟩⟩
 have HBw90 : Aside0 (Below w9.heap.size w9 w9.drew) := ⟨(Below.refl w9.heap.size w9).drew⟩
 refine start_ (n := 6) (S := fun W => W.cell? ⟨xr, 0, none⟩ = some (.slice B0 (rN r).length e0) ∧ W.cell? ⟨xr, 1, none⟩ = some (.slice B1 (rD r).length e1)) (ds := []) #[false, false, false, false, false, false] (by kernel_rfl) rfl rfl (HSK.out _ HBw90.out) (fun hHeld => ?_); refine zcw sntab12 snbits12 (fun HT_ HW_ => ?_)
 refine take_ (i := 0) (N := some 80) (v := ?_) (a' := ?_) #[true, false, false, false, false, false] rfl rfl (zcf HT_.out HW_.out (by kernel_rfl)) (fun _ _ _ h => h) (Or.inl ⟨by rfl, ?_⟩) hHeld ?_ ?_
 rotate_left
 ·
  rintro w' ⟨s0, s1⟩
  go_simp
  with_reducible rfl
 rotate_left
 ·
  simp only [Act.put, List.setIfInBounds_toArray, List.set_cons_zero, List.set_cons_succ, i64_w, i32_w]
  rfl
 refine pure_ (i := 1) (N := some 81) (v := ?_) (a' := ?_) #[true, true, false, false, false, false] rfl rfl (za5 HT_.out (by kernel_rfl)) (fun _ _ _ h => h) (Or.inl ⟨by rfl, ?_⟩) ?_ ?_
 rotate_left
 ·
  intro w'
  go_simp
  with_reducible rfl
 rotate_left
 ·
  simp only [Act.put, List.setIfInBounds_toArray, List.set_cons_zero, List.set_cons_succ, i64_w, i32_w]
  rfl
 refine join_ (σ := Value × Value × Nat) 1 #[true, true, true, true, true, false] (fun s_ => [(82, s_.1), (83, s_.2.1), (18, .pointer (some ⟨s_.2.2, 0, none⟩))]) (fun s_ w' => (w'.cell? ⟨xr, 0, none⟩ = some (.slice B0 (rN r).length e0) ∧ w'.cell? ⟨xr, 1, none⟩ = some (.slice B1 (rD r).length e1)) ∧ (∃ A c A' c', s_.2.1 = .agg #[.slice A (rN (r * ((q : Nat) : Rat))).length c, .slice A' (rD (r * ((q : Nat) : Rat))).length c'] ∧ RV w' (fun k => k ≠ s_.2.2) A c (rN (r * ((q : Nat) : Rat))) A' c' (rD (r * ((q : Nat) : Rat)))) ∧ w'.heap[s_.2.2]? = some (.cells #[.slice none 0 0, .slice none 0 0] 28 (0, 0)) ∧ w9.heap.size ≤ s_.2.2 ∧ Below w9.heap.size w9 w') ?_ ?_
 rotate_left
 ·
  intro hJ
  refine two_ (i := 2) (j := 4) (Ni := some 82) (Nj := some 18) #[true, true, true, false, false, false] #[true, true, false, false, true, false] rfl rfl rfl rfl (two_of HT_.out (by kernel_rfl)) (by decide) (by decide) (fun K hK => ?_) (fun K hK => ?_)
  ·
   skip
   refine goes_ Tryd.func22 (by kernel_rfl) rfl #[.int .i64 z] (by rfl) rfl rfl (by (try simp only [List.map_toArray, List.map_cons, List.map_nil]); first | done | rfl) ?_
   refine (t_IntN z q HZQ.out (by omega) _).mono ?_
   rintro e v1 ⟨E0, i0, E1, i1, rfl, hx, hb⟩
   refine ⟨_, rfl, ?_⟩
   have HXv1 := Aside0.mk hx.rt
   have HBv1 : Aside0 (Below w9.heap.size w9 v1) := ⟨zaa HBw90.out hb⟩
   have hzv1 := hb.size
   clear hx hb
   refine hK.out _ _ (HSK.out _ HBv1.out) (fun hHeld => ?_)
   clear hK K
   refine norm_ (a' := ?_) ?_ ?_
   rotate_left
   ·
    show Act.put _ (some 82) _ = _
    simp only [Act.put, List.setIfInBounds_toArray, List.set_cons_zero, List.set_cons_succ, i64_w, i32_w]
    rfl
   refine two_ (i := 3) (j := 4) (Ni := some 83) (Nj := some 18) #[true, true, true, true, false, false] #[true, true, true, false, true, false] rfl rfl rfl rfl (two_of HT_.out (by kernel_rfl)) (by decide) (by decide) (fun K hK => ?_) (fun K hK => ?_)
   ·
    skip
    refine goes_ Tryd.func29 (by kernel_rfl) rfl #[.agg #[.slice B0 (rN r).length e0, .slice B1 (rD r).length e1], .agg #[.slice E0 _ i0, .slice E1 _ i1]] (by rfl) rfl rfl (by (try simp only [List.map_toArray, List.map_cons, List.map_nil]); first | done | rfl) ?_
    refine (t_Mul (HR9.out.below HBv1.out) HXv1.out HR.out HBQ.out (by omega)).mono ?_
    rintro e v2 ⟨E2, i2, E3, i3, rfl, hy, hb⟩
    refine ⟨_, rfl, ?_⟩
    have HYv2 := Aside0.mk hy
    have HBv2 : Aside0 (Below w9.heap.size w9 v2) := ⟨zaa HBv1.out hb⟩
    have hzv2 := hb.size
    clear hy hb
    refine hK.out _ _ (HSK.out _ HBv2.out) (fun hHeld => ?_)
    clear hK K
    refine norm_ (a' := ?_) ?_ ?_
    rotate_left
    ·
     show Act.put _ (some 83) _ = _
     simp only [Act.put, List.setIfInBounds_toArray, List.set_cons_zero, List.set_cons_succ, i64_w, i32_w]
     rfl
    refine one_ (i := 4) (N := some 18) #[true, true, true, true, true, false] rfl rfl (zcg HT_.out (by kernel_rfl)) (by decide) (fun K hK => ?_)
    refine box_step ?hg (N := 18) ?hd (cs := #[.slice none 0 0, .slice none 0 0]) (t := 28) ?hr ?_; (case hd => rfl); (case hg => rfl); (case hr => first | (go_simp; done) | (go_simp; rfl))
    intro gb hgb v3 hbox hb
    have HBv3 : Aside0 (Below w9.heap.size w9 v3) := ⟨zaa HBv2.out hb⟩
    have HBXv3 := Aside0.mk hbox
    have hgl := zbq hbox
    have hge : w9.heap.size ≤ gb := by rw [hgb]; exact (HBv2.out).size
    have hzv3 := hb.size
    have HYv3 := Aside0.mk ((HYv2.out.old hb).mono (Q := fun k => k ≠ gb) (fun k hk => by have := hk.2; omega))
    clear hbox hb
    refine hK.out _ _ (HSK.out _ HBv3.out) (fun hHeld => ?_)
    clear hK K
    refine norm_ (a' := ?_) ?_ ?_
    rotate_left
    ·
     show Act.put _ (some 18) _ = _
     simp only [Act.put, List.setIfInBounds_toArray, List.set_cons_zero, List.set_cons_succ, i64_w, i32_w]
     rfl
    exact norm_ (by first | (simp only [putAll, Act.put, List.setIfInBounds_toArray, List.set_cons_zero, List.set_cons_succ]; done) | (simp only [putAll, Act.put, List.setIfInBounds_toArray, List.set_cons_zero, List.set_cons_succ]; rfl)) (hJ (_, _, gb) v3 ⟨hHeld, ⟨E2, i2, E3, i3, rfl, HYv3.out⟩, HBXv3.out, hge, HBv3.out⟩)
   ·
    skip
    refine box_step ?hg (N := 18) ?hd (cs := #[.slice none 0 0, .slice none 0 0]) (t := 28) ?hr ?_; (case hd => rfl); (case hg => rfl); (case hr => first | (go_simp; done) | (go_simp; rfl))
    intro gb hgb v2 hbox hb
    have HBv2 : Aside0 (Below w9.heap.size w9 v2) := ⟨zaa HBv1.out hb⟩
    have HBXv2 := Aside0.mk hbox
    have hgl := zbq hbox
    have hge : w9.heap.size ≤ gb := by rw [hgb]; exact (HBv1.out).size
    have hzv2 := hb.size
    have HXv2 := Aside0.mk (HXv1.out.below hb)
    clear hbox hb
    refine hK.out _ _ (HSK.out _ HBv2.out) (fun hHeld => ?_)
    clear hK K
    refine norm_ (a' := ?_) ?_ ?_
    rotate_left
    ·
     show Act.put _ (some 18) _ = _
     simp only [Act.put, List.setIfInBounds_toArray, List.set_cons_zero, List.set_cons_succ, i64_w, i32_w]
     rfl
    refine one_ (i := 3) (N := some 83) #[true, true, true, true, true, false] rfl rfl (zcg HT_.out (by kernel_rfl)) (by decide) (fun K hK => ?_)
    refine goes_ Tryd.func29 (by kernel_rfl) rfl #[.agg #[.slice B0 (rN r).length e0, .slice B1 (rD r).length e1], .agg #[.slice E0 _ i0, .slice E1 _ i1]] (by rfl) rfl rfl (by (try simp only [List.map_toArray, List.map_cons, List.map_nil]); first | done | rfl) ?_
    refine (t_Mul (HR9.out.below HBv2.out) HXv2.out HR.out HBQ.out (by omega)).mono ?_
    rintro e v3 ⟨E2, i2, E3, i3, rfl, hy, hb⟩
    refine ⟨_, rfl, ?_⟩
    have HYv3 := Aside0.mk hy
    have HBv3 : Aside0 (Below w9.heap.size w9 v3) := ⟨zaa HBv2.out hb⟩
    have hzv3 := hb.size
    have HBXv3 := Aside0.mk ((hb.block _ (zbq HBXv2.out)).trans HBXv2.out)
    clear hy hb
    refine hK.out _ _ (HSK.out _ HBv3.out) (fun hHeld => ?_)
    clear hK K
    refine norm_ (a' := ?_) ?_ ?_
    rotate_left
    ·
     show Act.put _ (some 83) _ = _
     simp only [Act.put, List.setIfInBounds_toArray, List.set_cons_zero, List.set_cons_succ, i64_w, i32_w]
     rfl
    exact norm_ (by first | (simp only [putAll, Act.put, List.setIfInBounds_toArray, List.set_cons_zero, List.set_cons_succ]; done) | (simp only [putAll, Act.put, List.setIfInBounds_toArray, List.set_cons_zero, List.set_cons_succ]; rfl)) (hJ (_, _, gb) v3 ⟨hHeld, ⟨E2, i2, E3, i3, rfl, (HYv3.out.mono (fun k hk => by have h : v2.heap.size ≤ k := hk; show k ≠ gb; omega))⟩, HBXv3.out, hge, HBv3.out⟩)
  ·
   skip
   refine box_step ?hg (N := 18) ?hd (cs := #[.slice none 0 0, .slice none 0 0]) (t := 28) ?hr ?_; (case hd => rfl); (case hg => rfl); (case hr => first | (go_simp; done) | (go_simp; rfl))
   intro gb hgb v1 hbox hb
   have HBv1 : Aside0 (Below w9.heap.size w9 v1) := ⟨zaa HBw90.out hb⟩
   have HBXv1 := Aside0.mk hbox
   have hgl := zbq hbox
   have hge : w9.heap.size ≤ gb := by rw [hgb]; exact (HBw90.out).size
   have hzv1 := hb.size
   clear hbox hb
   refine hK.out _ _ (HSK.out _ HBv1.out) (fun hHeld => ?_)
   clear hK K
   refine norm_ (a' := ?_) ?_ ?_
   rotate_left
   ·
    show Act.put _ (some 18) _ = _
    simp only [Act.put, List.setIfInBounds_toArray, List.set_cons_zero, List.set_cons_succ, i64_w, i32_w]
    rfl
   refine one_ (i := 2) (N := some 82) #[true, true, true, false, true, false] rfl rfl (zcg HT_.out (by kernel_rfl)) (by decide) (fun K hK => ?_)
   refine goes_ Tryd.func22 (by kernel_rfl) rfl #[.int .i64 z] (by rfl) rfl rfl (by (try simp only [List.map_toArray, List.map_cons, List.map_nil]); first | done | rfl) ?_
   refine (t_IntN z q HZQ.out (by omega) _).mono ?_
   rintro e v2 ⟨E0, i0, E1, i1, rfl, hx, hb⟩
   refine ⟨_, rfl, ?_⟩
   have HXv2 := Aside0.mk hx.rt
   have HBv2 : Aside0 (Below w9.heap.size w9 v2) := ⟨zaa HBv1.out hb⟩
   have hzv2 := hb.size
   have HBXv2 := Aside0.mk ((hb.block _ (zbq HBXv1.out)).trans HBXv1.out)
   clear hx hb
   refine hK.out _ _ (HSK.out _ HBv2.out) (fun hHeld => ?_)
   clear hK K
   refine norm_ (a' := ?_) ?_ ?_
   rotate_left
   ·
    show Act.put _ (some 82) _ = _
    simp only [Act.put, List.setIfInBounds_toArray, List.set_cons_zero, List.set_cons_succ, i64_w, i32_w]
    rfl
   refine one_ (i := 3) (N := some 83) #[true, true, true, true, true, false] rfl rfl (zcg HT_.out (by kernel_rfl)) (by decide) (fun K hK => ?_)
   refine goes_ Tryd.func29 (by kernel_rfl) rfl #[.agg #[.slice B0 (rN r).length e0, .slice B1 (rD r).length e1], .agg #[.slice E0 _ i0, .slice E1 _ i1]] (by rfl) rfl rfl (by (try simp only [List.map_toArray, List.map_cons, List.map_nil]); first | done | rfl) ?_
   refine (t_Mul (HR9.out.below HBv2.out) HXv2.out HR.out HBQ.out (by omega)).mono ?_
   rintro e v3 ⟨E2, i2, E3, i3, rfl, hy, hb⟩
   refine ⟨_, rfl, ?_⟩
   have HYv3 := Aside0.mk hy
   have HBv3 : Aside0 (Below w9.heap.size w9 v3) := ⟨zaa HBv2.out hb⟩
   have hzv3 := hb.size
   have HBXv3 := Aside0.mk ((hb.block _ (zbq HBXv2.out)).trans HBXv2.out)
   clear hy hb
   refine hK.out _ _ (HSK.out _ HBv3.out) (fun hHeld => ?_)
   clear hK K
   refine norm_ (a' := ?_) ?_ ?_
   rotate_left
   ·
    show Act.put _ (some 83) _ = _
    simp only [Act.put, List.setIfInBounds_toArray, List.set_cons_zero, List.set_cons_succ, i64_w, i32_w]
    rfl
   exact norm_ (by first | (simp only [putAll, Act.put, List.setIfInBounds_toArray, List.set_cons_zero, List.set_cons_succ]; done) | (simp only [putAll, Act.put, List.setIfInBounds_toArray, List.set_cons_zero, List.set_cons_succ]; rfl)) (hJ (_, _, gb) v3 ⟨hHeld, ⟨E2, i2, E3, i3, rfl, (HYv3.out.mono (fun k hk => by have h : v2.heap.size ≤ k := hk; show k ≠ gb; omega))⟩, HBXv3.out, hge, HBv3.out⟩)
 ·
  skip
  rintro ⟨v42_, y_, xl⟩ w11 ⟨hHeld, ⟨m0, m1, m2, m3, hy, hRV⟩, hbox, hge, hb8⟩
  dsimp only at hy hbox hge hRV
  subst hy
  have q0 : w11.cell? ⟨xl, 0, none⟩ = some (.slice none 0 0) := (zad hbox 0).trans rfl
  have q1 : w11.cell? ⟨xl, 1, none⟩ = some (.slice none 0 0) := (zad hbox 1).trans rfl
  have q2 := zat hbox 0
  have q3 := zat hbox 1
  have HBF := Aside0.mk ((hb8.setCell (p := ⟨xl, 0, none⟩) hge (.slice m0 (rN (r * ((q : Nat) : Rat))).length m1)).setCell (p := ⟨xl, 1, none⟩) hge (.slice m2 (rD (r * ((q : Nat) : Rat))).length m3))
  have HRF := Aside0.mk (((hRV.far (p := ⟨xl, 0, none⟩) (fun k hk => hk) (.slice m0 (rN (r * ((q : Nat) : Rat))).length m1)).far (p := ⟨xl, 1, none⟩) (fun k hk => hk) (.slice m2 (rD (r * ((q : Nat) : Rat))).length m3)).rt)
  have HXF := Aside0.mk (zbu (zbu hbox 0 (.slice m0 (rN (r * ((q : Nat) : Rat))).length m1) rfl) 1 (.slice m2 (rD (r * ((q : Nat) : Rat))).length m3) rfl)
  clear hRV hbox hb8
  refine norm_ (a' := ?_) ?_ ?_
  rotate_left
  ·
   simp only [putAll, Act.put, List.setIfInBounds_toArray, List.set_cons_zero, List.set_cons_succ]
   rfl
  refine one_ (i := 5) (N := none) #[true, true, true, true, true, true] rfl rfl (zcg HT_.out (by kernel_rfl)) (by decide) (fun K hK => ?_)
  refine skip_ (w1 := ?_) (by rfl) rfl ?_ ?_
  rotate_left
  ·
   go_simp
   rfl
  refine hK.out _ _ (HSK.out _ HBF.out) (fun hHeld => ?_)
  clear hK K q0 q1 q2 q3
  generalize (w11.setCell ⟨xl, 0, none⟩ (.slice m0 (rN (r * ((q : Nat) : Rat))).length m1)).setCell ⟨xl, 1, none⟩ (.slice m2 (rD (r * ((q : Nat) : Rat))).length m3) = wy at HBF HRF HXF hHeld ⊢
  have HBwy := HBF
  have HRwy := HRF
  have HXwy := HXF
  clear HBF HRF HXF
  refine done_ (done_of HT_.out (by kernel_rfl)) ?_
  have HEX := Aside0.mk (HR.out.mul HBQ.out)
  generalize (r * ((q : Nat) : Rat)) = ex at HRwy HXwy HEX F3 F4 ⊢
  have HBSy := Aside0.mk ((HBwy.out.block _ (zbq HBS9.out)).trans HBS9.out)
  clear hHeld HT_ HW_
  go_wp2_with fail
  obtain ⟨cc1, hcc1⟩ : ∃ z, cmpR ex ((nn + 1 : Nat) : Rat) = z := ⟨_, rfl⟩
  obtain ⟨cc2, hcc2⟩ : ∃ z, cmpR ex ((nn : Nat) : Rat) = z := ⟨_, rfl⟩
  have f3 := F3.out
  have f4 := F4.out
  rw [hcc1] at f3
  rw [hcc2] at f4
  have HC1 : Aside0 (∀ (W : World) (J0 J1 : Option Addr) (q0 q1 : Nat), Below wy.heap.size wy W → Rt W J0 q0 (rN ((nn + 1 : Nat) : Rat)) J1 q1 (rD ((nn + 1 : Nat) : Rat)) → Calls Tryd.prog 35 #[.agg #[.slice m0 (rN ex).length m1, .slice m2 (rD ex).length m3], .agg #[.slice J0 (rN ((nn + 1 : Nat) : Rat)).length q0, .slice J1 (rD ((nn + 1 : Nat) : Rat)).length q1]] W fun e w' => e = .returned (.int .i64 cc1) ∧ Below W.heap.size W w') := ⟨fun W J0 J1 q0 q1 h hj => by
   have := t_Cmp (HRwy.out.below h) hj HEX.out HBN1.out (by omega)
   rw [hcc1] at this
   exact this⟩
  have HC2 : Aside0 (∀ (W : World) (J0 J1 : Option Addr) (q0 q1 : Nat), Below wy.heap.size wy W → Rt W J0 q0 (rN ((nn : Nat) : Rat)) J1 q1 (rD ((nn : Nat) : Rat)) → Calls Tryd.prog 35 #[.agg #[.slice m0 (rN ex).length m1, .slice m2 (rD ex).length m3], .agg #[.slice J0 (rN ((nn : Nat) : Rat)).length q0, .slice J1 (rD ((nn : Nat) : Rat)).length q1]] W fun e w' => e = .returned (.int .i64 cc2) ∧ Below W.heap.size W w') := ⟨fun W J0 J1 q0 q1 h hj => by
   have := t_Cmp (HRwy.out.below h) hj HEX.out HBN.out (by omega)
   rw [hcc2] at this
   exact this⟩
  have HC3 : Aside0 (∀ W, Below w9.heap.size w9 W → Calls Tryd.prog 35 #[.agg #[.slice B0 (rN r).length e0, .slice B1 (rD r).length e1], .agg #[.slice D0 (rN s).length g0, .slice D1 (rD s).length g1]] W fun e w' => e = .returned (.int .i64 cc3) ∧ Below W.heap.size W w') := ⟨fun W h => by
   have := t_Cmp (HR9.out.below h) (HS9.out.below h) HR.out HS.out (by omega)
   rw [HCC3.out] at this
   exact this⟩
  have HSL : Aside0 (∀ W, Below wy.heap.size wy W → W.cell? ⟨xl, 0, none⟩ = some (.slice m0 (rN ex).length m1) ∧ W.cell? ⟨xl, 1, none⟩ = some (.slice m2 (rD ex).length m3)) := ⟨fun W h => by
   have h2 := (h.block _ (zbq HXwy.out)).trans HXwy.out
   exact ⟨(zad h2 0).trans rfl, (zad h2 1).trans rfl⟩⟩
  have HBy0 : Aside0 (Below wy.heap.size wy wy.drew) := ⟨(Below.refl wy.heap.size wy).drew⟩
  have dc1 : decide (cc1 ≥ 0) = false := decide_eq_false (by omega)
  have HII : Aside0 (∀ W, Calls Tryd.prog 22 #[.int .i64 (wrap64 (zn + 1))] W fun e w' => ∃ A c A' c', e = .returned (.agg #[.slice A (rN ((nn + 1 : Nat) : Rat)).length c, .slice A' (rD ((nn + 1 : Nat) : Rat)).length c']) ∧ RV w' (fun k => W.heap.size ≤ k) A c (rN ((nn + 1 : Nat) : Rat)) A' c' (rD ((nn + 1 : Nat) : Rat)) ∧ Below W.heap.size W w') := ⟨fun W => by
   rw [show wrap64 (zn + 1) = zn + 1 from w64s (by omega) (by omega)]
   exact t_IntN (zn + 1) (nn + 1) HZN1.out (by omega) W⟩
  have hc3 := HC3F.out
  by_cases hn1 : zn > 1
  ·
   have dn : decide (zn > 1) = true := decide_eq_true hn1
   have hcz := f4 (by have := HZN.out; omega)
   have dc2 : decide (cc2 < 0) = false := decide_eq_false (by omega)
   clear hcc1 hcc2 f3 f4 F3 F4
   refine start_ (n := 17) (S := fun W => W.cell? ⟨xl, 0, none⟩ = some (.slice m0 (rN ex).length m1) ∧ W.cell? ⟨xl, 1, none⟩ = some (.slice m2 (rD ex).length m3)) (ds := []) #[false, false, false, false, false, false, false, false, false, false, false, false, false, false, false, false, false] (by kernel_rfl) rfl rfl (HSL.out _ HBy0.out) (fun hHeld => ?_); refine zcw sntab13 snbits13 (fun HT_ HW_ => ?_)
   refine take_ (i := 0) (N := some 84) (v := ?_) (a' := ?_) #[true, false, false, false, false, false, false, false, false, false, false, false, false, false, false, false, false] rfl rfl (zcf HT_.out HW_.out (by kernel_rfl)) (fun _ _ _ h => h) (Or.inl ⟨by rfl, ?_⟩) hHeld ?_ ?_
   rotate_left
   ·
    rintro w' ⟨s0, s1⟩
    go_simp
    with_reducible rfl
   rotate_left
   ·
    simp only [Act.put, List.setIfInBounds_toArray, List.set_cons_zero, List.set_cons_succ, i64_w, i32_w]
    rfl
   refine pure_ (i := 1) (N := some 85) (v := ?_) (a' := ?_) #[true, true, false, false, false, false, false, false, false, false, false, false, false, false, false, false, false] rfl rfl (za5 HT_.out (by kernel_rfl)) (fun _ _ _ h => h) (Or.inl ⟨by rfl, ?_⟩) ?_ ?_
   rotate_left
   ·
    intro w'
    go_simp
    with_reducible rfl
   rotate_left
   ·
    simp only [Act.put, List.setIfInBounds_toArray, List.set_cons_zero, List.set_cons_succ, i64_w, i32_w]
    rfl
   refine pure_ (i := 2) (N := some 86) (v := ?_) (a' := ?_) #[true, true, true, false, false, false, false, false, false, false, false, false, false, false, false, false, false] rfl rfl (za5 HT_.out (by kernel_rfl)) (fun _ _ _ h => h) (Or.inl ⟨by rfl, ?_⟩) ?_ ?_
   rotate_left
   ·
    intro w'
    go_simp
    with_reducible rfl
   rotate_left
   ·
    simp only [Act.put, List.setIfInBounds_toArray, List.set_cons_zero, List.set_cons_succ, i64_w, i32_w]
    rfl
   refine one_ (i := 3) (N := some 87) #[true, true, true, true, false, false, false, false, false, false, false, false, false, false, false, false, false] rfl rfl (zcg HT_.out (by kernel_rfl)) (by decide) (fun K hK => ?_)
   refine goes_ Tryd.func22 (by kernel_rfl) rfl #[.int .i64 (wrap64 (zn + 1))] (by rfl) rfl rfl (by (try simp only [List.map_toArray, List.map_cons, List.map_nil]); first | done | rfl) ?_
   refine (HII.out _).mono ?_
   rintro e wy1 ⟨I0, p0, I1, p1, rfl, hi, hb⟩
   have HI1 := Aside0.mk hi.rt
   clear hi
   refine ⟨_, rfl, ?_⟩
   have HBy1 : Aside0 (Below wy.heap.size wy wy1) := ⟨zaa HBy0.out hb⟩
   clear hb
   refine hK.out _ _ (HSL.out _ HBy1.out) (fun hHeld => ?_)
   clear hK K
   refine norm_ (a' := ?_) ?_ ?_
   rotate_left
   ·
    show Act.put _ (some 87) _ = _
    simp only [Act.put, List.setIfInBounds_toArray, List.set_cons_zero, List.set_cons_succ, i64_w, i32_w]
    rfl
   refine one_ (i := 4) (N := some 88) #[true, true, true, true, true, false, false, false, false, false, false, false, false, false, false, false, false] rfl rfl (zcg HT_.out (by kernel_rfl)) (by decide) (fun K hK => ?_)
   refine goes_ Tryd.func35 (by kernel_rfl) rfl #[.agg #[.slice m0 (rN ex).length m1, .slice m2 (rD ex).length m3], .agg #[.slice I0 _ p0, .slice I1 _ p1]] (by rfl) rfl rfl (by (try simp only [List.map_toArray, List.map_cons, List.map_nil]); first | done | rfl) ?_
   refine (HC1.out _ _ _ _ _ HBy1.out HI1.out).mono ?_
   rintro e wy2 ⟨rfl, hb⟩
   skip
   refine ⟨_, rfl, ?_⟩
   have HBy2 : Aside0 (Below wy.heap.size wy wy2) := ⟨zaa HBy1.out hb⟩
   clear hb
   refine hK.out _ _ (HSL.out _ HBy2.out) (fun hHeld => ?_)
   clear hK K
   refine norm_ (a' := ?_) ?_ ?_
   rotate_left
   ·
    show Act.put _ (some 88) _ = _
    simp only [Act.put, List.setIfInBounds_toArray, List.set_cons_zero, List.set_cons_succ, i64_w, i32_w]
    rfl
   refine pure_ (i := 5) (N := some 89) (v := ?_) (a' := ?_) #[true, true, true, true, true, true, false, false, false, false, false, false, false, false, false, false, false] rfl rfl (za5 HT_.out (by kernel_rfl)) (fun _ _ _ h => h) (Or.inl ⟨by rfl, ?_⟩) ?_ ?_
   rotate_left
   ·
    intro w'
    go_simp
    with_reducible rfl
   rotate_left
   ·
    simp only [Act.put, List.setIfInBounds_toArray, List.set_cons_zero, List.set_cons_succ, i64_w, i32_w]
    rfl
   refine pure_ (i := 6) (N := some 90) (v := ?_) (a' := ?_) #[true, true, true, true, true, true, true, false, false, false, false, false, false, false, false, false, false] rfl rfl (za5 HT_.out (by kernel_rfl)) (fun _ _ _ h => h) (Or.inl ⟨by rfl, ?_⟩) ?_ ?_
   rotate_left
   ·
    intro w'
    go_simp
    with_reducible rfl
   rotate_left
   ·
    simp only [Act.put, List.setIfInBounds_toArray, List.set_cons_zero, List.set_cons_succ, i64_w, i32_w]
    rfl
   refine pure_ (i := 7) (N := some 91) (v := ?_) (a' := ?_) #[true, true, true, true, true, true, true, true, false, false, false, false, false, false, false, false, false] rfl rfl (za5 HT_.out (by kernel_rfl)) (fun _ _ _ h => h) (Or.inl ⟨by rfl, ?_⟩) ?_ ?_
   rotate_left
   ·
    intro w'
    go_simp
    with_reducible rfl
   rotate_left
   ·
    simp only [Act.put, List.setIfInBounds_toArray, List.set_cons_zero, List.set_cons_succ, i64_w, i32_w]
    rfl
   refine pure_ (i := 8) (N := some 92) (v := ?_) (a' := ?_) #[true, true, true, true, true, true, true, true, true, false, false, false, false, false, false, false, false] rfl rfl (za5 HT_.out (by kernel_rfl)) (fun _ _ _ h => h) (Or.inl ⟨by rfl, ?_⟩) ?_ ?_
   rotate_left
   ·
    intro w'
    go_simp
    with_reducible rfl
   rotate_left
   ·
    simp only [Act.put, List.setIfInBounds_toArray, List.set_cons_zero, List.set_cons_succ, i64_w, i32_w]
    rfl
   refine pure_ (i := 9) (N := some 93) (v := ?_) (a' := ?_) #[true, true, true, true, true, true, true, true, true, true, false, false, false, false, false, false, false] rfl rfl (za5 HT_.out (by kernel_rfl)) (fun _ _ _ h => h) (Or.inl ⟨by rfl, ?_⟩) ?_ ?_
   rotate_left
   ·
    intro w'
    go_simp
    with_reducible rfl
   rotate_left
   ·
    simp only [Act.put, List.setIfInBounds_toArray, List.set_cons_zero, List.set_cons_succ, i64_w, i32_w]
    rfl
   refine take_ (i := 10) (N := some 94) (v := ?_) (a' := ?_) #[true, true, true, true, true, true, true, true, true, true, true, false, false, false, false, false, false] rfl rfl (zcf HT_.out HW_.out (by kernel_rfl)) (fun _ _ _ h => h) (Or.inl ⟨by rfl, ?_⟩) hHeld ?_ ?_
   rotate_left
   ·
    rintro w' ⟨s0, s1⟩
    go_simp
    with_reducible rfl
   rotate_left
   ·
    simp only [Act.put, List.setIfInBounds_toArray, List.set_cons_zero, List.set_cons_succ, i64_w, i32_w]
    rfl
   refine pure_ (i := 11) (N := some 95) (v := ?_) (a' := ?_) #[true, true, true, true, true, true, true, true, true, true, true, true, false, false, false, false, false] rfl rfl (za5 HT_.out (by kernel_rfl)) (fun _ _ _ h => h) (Or.inl ⟨by rfl, ?_⟩) ?_ ?_
   rotate_left
   ·
    intro w'
    go_simp
    with_reducible rfl
   rotate_left
   ·
    simp only [Act.put, List.setIfInBounds_toArray, List.set_cons_zero, List.set_cons_succ, i64_w, i32_w]
    rfl
   refine one_ (i := 12) (N := some 96) #[true, true, true, true, true, true, true, true, true, true, true, true, true, false, false, false, false] rfl rfl (zcg HT_.out (by kernel_rfl)) (by decide) (fun K hK => ?_)
   refine goes_ Tryd.func22 (by kernel_rfl) rfl #[.int .i64 zn] (by rfl) rfl rfl (by (try simp only [List.map_toArray, List.map_cons, List.map_nil]); first | done | rfl) ?_
   refine (t_IntN zn nn HZN.out (by omega) _).mono ?_
   rintro e wy3 ⟨J0, t0, J1, t1, rfl, hj, hb⟩
   have HJ1 := Aside0.mk hj.rt
   clear hj
   refine ⟨_, rfl, ?_⟩
   have HBy3 : Aside0 (Below wy.heap.size wy wy3) := ⟨zaa HBy2.out hb⟩
   clear hb
   refine hK.out _ _ (HSL.out _ HBy3.out) (fun hHeld => ?_)
   clear hK K
   refine norm_ (a' := ?_) ?_ ?_
   rotate_left
   ·
    show Act.put _ (some 96) _ = _
    simp only [Act.put, List.setIfInBounds_toArray, List.set_cons_zero, List.set_cons_succ, i64_w, i32_w]
    rfl
   refine one_ (i := 13) (N := some 97) #[true, true, true, true, true, true, true, true, true, true, true, true, true, true, false, false, false] rfl rfl (zcg HT_.out (by kernel_rfl)) (by decide) (fun K hK => ?_)
   refine goes_ Tryd.func35 (by kernel_rfl) rfl #[.agg #[.slice m0 (rN ex).length m1, .slice m2 (rD ex).length m3], .agg #[.slice J0 _ t0, .slice J1 _ t1]] (by rfl) rfl rfl (by (try simp only [List.map_toArray, List.map_cons, List.map_nil]); first | done | rfl) ?_
   refine (HC2.out _ _ _ _ _ HBy3.out HJ1.out).mono ?_
   rintro e wy4 ⟨rfl, hb⟩
   skip
   refine ⟨_, rfl, ?_⟩
   have HBy4 : Aside0 (Below wy.heap.size wy wy4) := ⟨zaa HBy3.out hb⟩
   clear hb
   refine hK.out _ _ (HSL.out _ HBy4.out) (fun hHeld => ?_)
   clear hK K
   refine norm_ (a' := ?_) ?_ ?_
   rotate_left
   ·
    show Act.put _ (some 97) _ = _
    simp only [Act.put, List.setIfInBounds_toArray, List.set_cons_zero, List.set_cons_succ, i64_w, i32_w]
    rfl
   refine pure_ (i := 14) (N := some 98) (v := ?_) (a' := ?_) #[true, true, true, true, true, true, true, true, true, true, true, true, true, true, true, false, false] rfl rfl (za5 HT_.out (by kernel_rfl)) (fun _ _ _ h => h) (Or.inl ⟨by rfl, ?_⟩) ?_ ?_
   rotate_left
   ·
    intro w'
    go_simp
    with_reducible rfl
   rotate_left
   ·
    simp only [Act.put, List.setIfInBounds_toArray, List.set_cons_zero, List.set_cons_succ, i64_w, i32_w]
    rfl
   refine pure_ (i := 15) (N := some 99) (v := ?_) (a' := ?_) #[true, true, true, true, true, true, true, true, true, true, true, true, true, true, true, true, false] rfl rfl (za5 HT_.out (by kernel_rfl)) (fun _ _ _ h => h) (Or.inl ⟨by rfl, ?_⟩) ?_ ?_
   rotate_left
   ·
    intro w'
    go_simp
    with_reducible rfl
   rotate_left
   ·
    simp only [Act.put, List.setIfInBounds_toArray, List.set_cons_zero, List.set_cons_succ, i64_w, i32_w]
    rfl
   refine pure_ (i := 16) (N := some 100) (v := ?_) (a' := ?_) #[true, true, true, true, true, true, true, true, true, true, true, true, true, true, true, true, true] rfl rfl (za5 HT_.out (by kernel_rfl)) (fun _ _ _ h => h) (Or.inl ⟨by rfl, ?_⟩) ?_ ?_
   rotate_left
   ·
    intro w'
    go_simp
    with_reducible rfl
   rotate_left
   ·
    simp only [Act.put, List.setIfInBounds_toArray, List.set_cons_zero, List.set_cons_succ, i64_w, i32_w]
    rfl
   refine done_ (done_of HT_.out (by kernel_rfl)) ?_
   obtain ⟨s0, s1⟩ := HSK.out _ (zaa HBwy.out HBy4.out)
   have HBSz := Aside0.mk ((HBy4.out.block _ (zbq HBSy.out)).trans HBSy.out)
   have s2 : wy4.cell? ⟨xs, 0, none⟩ = some (.slice D0 (rN s).length g0) := (zad HBSz.out 0).trans rfl
   have s3 : wy4.cell? ⟨xs, 1, none⟩ = some (.slice D1 (rD s).length g1) := (zad HBSz.out 1).trans rfl
   go_wp2_with fail
   refine (HC3.out _ (zaa HBwy.out HBy4.out)).mono ?_
   rintro e z1 ⟨rfl, hb1⟩
   have HZ1 := Aside0.mk (zaa HW9.out (zaa (zaa HBwy.out HBy4.out) hb1))
   clear hb1 s0 s1 s2 s3
   go_wp2_with fail
   all_goals
    go_ret
    exact ⟨by first | rfl | (rcases hc3 with h | h <;> simp at h <;> first | (exfalso; omega) | simp [h]), HZ1.out⟩
  ·
   have dn : decide (zn > 1) = false := decide_eq_false hn1
   clear hcc1 hcc2 f3 f4 F3 F4
   refine start_ (n := 17) (S := fun W => W.cell? ⟨xl, 0, none⟩ = some (.slice m0 (rN ex).length m1) ∧ W.cell? ⟨xl, 1, none⟩ = some (.slice m2 (rD ex).length m3)) (ds := []) #[false, false, false, false, false, false, false, false, false, false, false, false, false, false, false, false, false] (by kernel_rfl) rfl rfl (HSL.out _ HBy0.out) (fun hHeld => ?_); refine zcw sntab13 snbits13 (fun HT_ HW_ => ?_)
   refine take_ (i := 0) (N := some 84) (v := ?_) (a' := ?_) #[true, false, false, false, false, false, false, false, false, false, false, false, false, false, false, false, false] rfl rfl (zcf HT_.out HW_.out (by kernel_rfl)) (fun _ _ _ h => h) (Or.inl ⟨by rfl, ?_⟩) hHeld ?_ ?_
   rotate_left
   ·
    rintro w' ⟨s0, s1⟩
    go_simp
    with_reducible rfl
   rotate_left
   ·
    simp only [Act.put, List.setIfInBounds_toArray, List.set_cons_zero, List.set_cons_succ, i64_w, i32_w]
    rfl
   refine pure_ (i := 1) (N := some 85) (v := ?_) (a' := ?_) #[true, true, false, false, false, false, false, false, false, false, false, false, false, false, false, false, false] rfl rfl (za5 HT_.out (by kernel_rfl)) (fun _ _ _ h => h) (Or.inl ⟨by rfl, ?_⟩) ?_ ?_
   rotate_left
   ·
    intro w'
    go_simp
    with_reducible rfl
   rotate_left
   ·
    simp only [Act.put, List.setIfInBounds_toArray, List.set_cons_zero, List.set_cons_succ, i64_w, i32_w]
    rfl
   refine pure_ (i := 2) (N := some 86) (v := ?_) (a' := ?_) #[true, true, true, false, false, false, false, false, false, false, false, false, false, false, false, false, false] rfl rfl (za5 HT_.out (by kernel_rfl)) (fun _ _ _ h => h) (Or.inl ⟨by rfl, ?_⟩) ?_ ?_
   rotate_left
   ·
    intro w'
    go_simp
    with_reducible rfl
   rotate_left
   ·
    simp only [Act.put, List.setIfInBounds_toArray, List.set_cons_zero, List.set_cons_succ, i64_w, i32_w]
    rfl
   refine one_ (i := 3) (N := some 87) #[true, true, true, true, false, false, false, false, false, false, false, false, false, false, false, false, false] rfl rfl (zcg HT_.out (by kernel_rfl)) (by decide) (fun K hK => ?_)
   refine goes_ Tryd.func22 (by kernel_rfl) rfl #[.int .i64 (wrap64 (zn + 1))] (by rfl) rfl rfl (by (try simp only [List.map_toArray, List.map_cons, List.map_nil]); first | done | rfl) ?_
   refine (HII.out _).mono ?_
   rintro e wy1 ⟨I0, p0, I1, p1, rfl, hi, hb⟩
   have HI1 := Aside0.mk hi.rt
   clear hi
   refine ⟨_, rfl, ?_⟩
   have HBy1 : Aside0 (Below wy.heap.size wy wy1) := ⟨zaa HBy0.out hb⟩
   clear hb
   refine hK.out _ _ (HSL.out _ HBy1.out) (fun hHeld => ?_)
   clear hK K
   refine norm_ (a' := ?_) ?_ ?_
   rotate_left
   ·
    show Act.put _ (some 87) _ = _
    simp only [Act.put, List.setIfInBounds_toArray, List.set_cons_zero, List.set_cons_succ, i64_w, i32_w]
    rfl
   refine one_ (i := 4) (N := some 88) #[true, true, true, true, true, false, false, false, false, false, false, false, false, false, false, false, false] rfl rfl (zcg HT_.out (by kernel_rfl)) (by decide) (fun K hK => ?_)
   refine goes_ Tryd.func35 (by kernel_rfl) rfl #[.agg #[.slice m0 (rN ex).length m1, .slice m2 (rD ex).length m3], .agg #[.slice I0 _ p0, .slice I1 _ p1]] (by rfl) rfl rfl (by (try simp only [List.map_toArray, List.map_cons, List.map_nil]); first | done | rfl) ?_
   refine (HC1.out _ _ _ _ _ HBy1.out HI1.out).mono ?_
   rintro e wy2 ⟨rfl, hb⟩
   skip
   refine ⟨_, rfl, ?_⟩
   have HBy2 : Aside0 (Below wy.heap.size wy wy2) := ⟨zaa HBy1.out hb⟩
   clear hb
   refine hK.out _ _ (HSL.out _ HBy2.out) (fun hHeld => ?_)
   clear hK K
   refine norm_ (a' := ?_) ?_ ?_
   rotate_left
   ·
    show Act.put _ (some 88) _ = _
    simp only [Act.put, List.setIfInBounds_toArray, List.set_cons_zero, List.set_cons_succ, i64_w, i32_w]
    rfl
   refine pure_ (i := 5) (N := some 89) (v := ?_) (a' := ?_) #[true, true, true, true, true, true, false, false, false, false, false, false, false, false, false, false, false] rfl rfl (za5 HT_.out (by kernel_rfl)) (fun _ _ _ h => h) (Or.inl ⟨by rfl, ?_⟩) ?_ ?_
   rotate_left
   ·
    intro w'
    go_simp
    with_reducible rfl
   rotate_left
   ·
    simp only [Act.put, List.setIfInBounds_toArray, List.set_cons_zero, List.set_cons_succ, i64_w, i32_w]
    rfl
   refine pure_ (i := 6) (N := some 90) (v := ?_) (a' := ?_) #[true, true, true, true, true, true, true, false, false, false, false, false, false, false, false, false, false] rfl rfl (za5 HT_.out (by kernel_rfl)) (fun _ _ _ h => h) (Or.inl ⟨by rfl, ?_⟩) ?_ ?_
   rotate_left
   ·
    intro w'
    go_simp
    with_reducible rfl
   rotate_left
   ·
    simp only [Act.put, List.setIfInBounds_toArray, List.set_cons_zero, List.set_cons_succ, i64_w, i32_w]
    rfl
   refine pure_ (i := 7) (N := some 91) (v := ?_) (a' := ?_) #[true, true, true, true, true, true, true, true, false, false, false, false, false, false, false, false, false] rfl rfl (za5 HT_.out (by kernel_rfl)) (fun _ _ _ h => h) (Or.inl ⟨by rfl, ?_⟩) ?_ ?_
   rotate_left
   ·
    intro w'
    go_simp
    with_reducible rfl
   rotate_left
   ·
    simp only [Act.put, List.setIfInBounds_toArray, List.set_cons_zero, List.set_cons_succ, i64_w, i32_w]
    rfl
   refine pure_ (i := 8) (N := some 92) (v := ?_) (a' := ?_) #[true, true, true, true, true, true, true, true, true, false, false, false, false, false, false, false, false] rfl rfl (za5 HT_.out (by kernel_rfl)) (fun _ _ _ h => h) (Or.inl ⟨by rfl, ?_⟩) ?_ ?_
   rotate_left
   ·
    intro w'
    go_simp
    with_reducible rfl
   rotate_left
   ·
    simp only [Act.put, List.setIfInBounds_toArray, List.set_cons_zero, List.set_cons_succ, i64_w, i32_w]
    rfl
   refine pure_ (i := 9) (N := some 93) (v := ?_) (a' := ?_) #[true, true, true, true, true, true, true, true, true, true, false, false, false, false, false, false, false] rfl rfl (za5 HT_.out (by kernel_rfl)) (fun _ _ _ h => h) (Or.inl ⟨by rfl, ?_⟩) ?_ ?_
   rotate_left
   ·
    intro w'
    go_simp
    with_reducible rfl
   rotate_left
   ·
    simp only [Act.put, List.setIfInBounds_toArray, List.set_cons_zero, List.set_cons_succ, i64_w, i32_w]
    rfl
   refine pure_ (i := 10) (N := some 94) (v := undef) (a' := ?_) #[true, true, true, true, true, true, true, true, true, true, true, false, false, false, false, false, false] rfl rfl (za5 HT_.out (by kernel_rfl)) (fun _ _ _ h => h) (Or.inr ⟨by rfl, rfl⟩) ?_ ?_
   rotate_left
   ·
    simp only [Act.put, List.setIfInBounds_toArray, List.set_cons_zero, List.set_cons_succ, i64_w, i32_w]
    rfl
   refine pure_ (i := 11) (N := some 95) (v := undef) (a' := ?_) #[true, true, true, true, true, true, true, true, true, true, true, true, false, false, false, false, false] rfl rfl (za5 HT_.out (by kernel_rfl)) (fun _ _ _ h => h) (Or.inr ⟨by rfl, rfl⟩) ?_ ?_
   rotate_left
   ·
    simp only [Act.put, List.setIfInBounds_toArray, List.set_cons_zero, List.set_cons_succ, i64_w, i32_w]
    rfl
   refine pure_ (i := 12) (N := some 96) (v := undef) (a' := ?_) #[true, true, true, true, true, true, true, true, true, true, true, true, true, false, false, false, false] rfl rfl (za5 HT_.out (by kernel_rfl)) (fun _ _ _ h => h) (Or.inr ⟨by rfl, rfl⟩) ?_ ?_
   rotate_left
   ·
    simp only [Act.put, List.setIfInBounds_toArray, List.set_cons_zero, List.set_cons_succ, i64_w, i32_w]
    rfl
   refine pure_ (i := 13) (N := some 97) (v := undef) (a' := ?_) #[true, true, true, true, true, true, true, true, true, true, true, true, true, true, false, false, false] rfl rfl (za5 HT_.out (by kernel_rfl)) (fun _ _ _ h => h) (Or.inr ⟨by rfl, rfl⟩) ?_ ?_
   rotate_left
   ·
    simp only [Act.put, List.setIfInBounds_toArray, List.set_cons_zero, List.set_cons_succ, i64_w, i32_w]
    rfl
   refine pure_ (i := 14) (N := some 98) (v := undef) (a' := ?_) #[true, true, true, true, true, true, true, true, true, true, true, true, true, true, true, false, false] rfl rfl (za5 HT_.out (by kernel_rfl)) (fun _ _ _ h => h) (Or.inr ⟨by rfl, rfl⟩) ?_ ?_
   rotate_left
   ·
    simp only [Act.put, List.setIfInBounds_toArray, List.set_cons_zero, List.set_cons_succ, i64_w, i32_w]
    rfl
   refine pure_ (i := 15) (N := some 99) (v := ?_) (a' := ?_) #[true, true, true, true, true, true, true, true, true, true, true, true, true, true, true, true, false] rfl rfl (za5 HT_.out (by kernel_rfl)) (fun _ _ _ h => h) (Or.inl ⟨by rfl, ?_⟩) ?_ ?_
   rotate_left
   ·
    intro w'
    go_simp
    with_reducible rfl
   rotate_left
   ·
    simp only [Act.put, List.setIfInBounds_toArray, List.set_cons_zero, List.set_cons_succ, i64_w, i32_w]
    rfl
   refine pure_ (i := 16) (N := some 100) (v := ?_) (a' := ?_) #[true, true, true, true, true, true, true, true, true, true, true, true, true, true, true, true, true] rfl rfl (za5 HT_.out (by kernel_rfl)) (fun _ _ _ h => h) (Or.inl ⟨by rfl, ?_⟩) ?_ ?_
   rotate_left
   ·
    intro w'
    go_simp
    with_reducible rfl
   rotate_left
   ·
    simp only [Act.put, List.setIfInBounds_toArray, List.set_cons_zero, List.set_cons_succ, i64_w, i32_w]
    rfl
   refine done_ (done_of HT_.out (by kernel_rfl)) ?_
   obtain ⟨s0, s1⟩ := HSK.out _ (zaa HBwy.out HBy2.out)
   have HBSz := Aside0.mk ((HBy2.out.block _ (zbq HBSy.out)).trans HBSy.out)
   have s2 : wy2.cell? ⟨xs, 0, none⟩ = some (.slice D0 (rN s).length g0) := (zad HBSz.out 0).trans rfl
   have s3 : wy2.cell? ⟨xs, 1, none⟩ = some (.slice D1 (rD s).length g1) := (zad HBSz.out 1).trans rfl
   go_wp2_with fail
   refine (HC3.out _ (zaa HBwy.out HBy2.out)).mono ?_
   rintro e z1 ⟨rfl, hb1⟩
   have HZ1 := Aside0.mk (zaa HW9.out (zaa (zaa HBwy.out HBy2.out) hb1))
   clear hb1 s0 s1 s2 s3
   go_wp2_with fail
   all_goals
    go_ret
    exact ⟨by first | rfl | (rcases hc3 with h | h <;> simp at h <;> first | (exfalso; omega) | simp [h]), HZ1.out⟩
theorem bnd_u16 {x : Int} (h : (Lit.int .u16 x).wf = true) : 0 ≤ x ∧ x < 65536 := by
 have := bounds_u16 h
 omega
theorem open_two {H : Type} {enc : TypeId × Value → H} {W : World} {base base2 : Nat} {spare : Nat → Bool} {held : Bool} {d : DataW H} {p : List MemPlace} {v : Value} (hv : Value.okWide Tryd.prog W .any base2 71 v)
  (h : DataW.Trod enc Tryd.prog W base spare held 71 v d p) : ∃ x0 x1, v = .agg #[.int .u16 x0, .int .u16 x1] ∧ (0 ≤ x0 ∧ x0 < 65536) ∧ (0 ≤ x1 ∧ x1 < 65536) := by
 have c3 : Tryd.prog.cellsOf 71 = 2 := by kernel_rfl
 have c5 : Tryd.prog.cellsOf 70 = 1 := by kernel_rfl
 have hv' := hv
 simp only [Value.okWide, Tryd.underlying71] at hv'
 obtain ⟨cs, rfl, hn, _⟩ := hv'
 rw [c3] at hn
 obtain ⟨fuel, hf⟩ := h
 obtain ⟨xs, k, hk, hxy, hcl, hxl, hel⟩ := DataW.trod_array Tryd.underlying71 hf
 obtain ⟨l, rfl⟩ : ∃ l : List Value, cs = l.toArray := ⟨cs.toList, rfl⟩
 obtain ⟨v0, v1, rfl⟩ : ∃ a b, l = [a, b] := by
  match l, (show l.length = 2 by simpa using hn) with
  | [a, b], _ => exact ⟨a, b, rfl⟩
 obtain ⟨y0, y1, rfl⟩ : ∃ a b, xs = [a, b] := by
  match xs, hxl with
  | [a, b], _ => exact ⟨a, b, rfl⟩
 have g0 := hel 0 (by decide)
 have g1 := hel 1 (by decide)
 simp [c5, Value.cells] at g0 g1
 obtain ⟨x0, z0, _, w0⟩ := DataW.trod_int Tryd.underlying70 g0
 obtain ⟨x1, z1, _, w1⟩ := DataW.trod_int Tryd.underlying70 g1
 simp only [List.cons.injEq, and_true] at z0 z1
 subst z0 z1
 exact ⟨x0, x1, rfl, bnd_u16 w0, bnd_u16 w1⟩
theorem SliceNear_off {w : World} {x0 x1 y0 y1 qu : Int} {l0 l1 l2 l3 m0 m1 m2 m3 : List Int} {k1 k2 : Bool} (hG : Glob w) (hqu : 0 ≤ qu ∧ qu < 65536) (hx0 : 0 ≤ x0 ∧ x0 < 65536) (hx1 : 0 ≤ x1 ∧ x1 < 65536) (hy0 : 0 ≤ y0 ∧ y0 < 65536) (hy1 : 0 ≤ y1 ∧ y1 < 65536) (hm : Ev (fun k => zan.f k x0 x1) (l0, l1, l2, l3, k1)) (hn : Ev (fun k => zan.f k y0 y1) (m0, m1, m2, m3, k2)) (hk : (k1 && k2) = false) :
  Calls Tryd.prog 11 #[.int .u16 qu, .agg #[.int .u16 x0, .int .u16 x1], .agg #[.int .u16 y0, .int .u16 y1]] w fun e w' => e = .returned (.bool true) ∧ Below w.heap.size w w' := by
 have HG := Aside0.mk hG
 have HM := Aside0.mk hm
 have HN := Aside0.mk hn
 obtain ⟨ka, hka⟩ := sawake.get
 have HKA := Aside0.mk hka
 clear hG hm hn hka
 go_enter Tryd.func11, Tryd.ntmps11
 go_wp2_with fail
 have hbW := zax (zax (Below.refl w.heap.size w) (.cells #[.int .u16 x0, .int .u16 x1] 71)) (.cells #[.int .u16 y0, .int .u16 y1] 71)
 have hfx := zah (blk_new w (.cells #[.int .u16 x0, .int .u16 x1] 71)) (.cells #[.int .u16 y0, .int .u16 y1] 71)
 have hfy := blk_new (w.alloc (.cells #[.int .u16 x0, .int .u16 x1] 71)) (.cells #[.int .u16 y0, .int .u16 y1] 71)
 rw [show (w.alloc (.cells #[.int .u16 x0, .int .u16 x1] 71)).heap.size = w.heap.size + 1 by simp] at hfy
 generalize (w.alloc (.cells #[.int .u16 x0, .int .u16 x1] 71)).alloc (.cells #[.int .u16 y0, .int .u16 y1] 71) = W2 at hbW hfx hfy ⊢
 have HW2 := Aside0.mk hbW
 refine (zbm.calls ka true _ (HG.out.below hbW) HKA.out).mono ?_
 rintro e w3 ⟨rfl, hb3⟩
 have HW3 := Aside0.mk (zaa HW2.out hb3)
 have hfx3 := (hb3.block _ (zbq hfx)).trans hfx
 have hfy3 := (hb3.block _ (zbq hfy)).trans hfy
 have HFY := Aside0.mk hfy3
 have p0 : w3.cell? ⟨w.heap.size, 0, none⟩ = some (.int .u16 x0) := (zad hfx3 0).trans rfl
 have p1 : w3.cell? ⟨w.heap.size, 1, none⟩ = some (.int .u16 x1) := (zad hfx3 1).trans rfl
 clear hb3 hfx hfy hfx3 hfy3 hbW
 go_wp2_with fail
 clear p0 p1
 refine (t_made10_any HM.out).mono ?_
 rintro e w4 ⟨B0, e0, B1, e1, B2, e2, B3, e3, rfl, _, hb4⟩
 have HW4 := Aside0.mk (zax (zax (zaa HW3.out hb4) (.cells #[.slice B0 l0.length e0, .slice B1 l1.length e1] 28)) (.cells #[.slice B2 l2.length e2, .slice B3 l3.length e3] 40))
 have hfy4 := zah (zah ((hb4.block _ (zbq HFY.out)).trans HFY.out) (.cells #[.slice B0 l0.length e0, .slice B1 l1.length e1] 28)) (.cells #[.slice B2 l2.length e2, .slice B3 l3.length e3] 40)
 have p0 : ((w4.alloc (.cells #[.slice B0 l0.length e0, .slice B1 l1.length e1] 28)).alloc (.cells #[.slice B2 l2.length e2, .slice B3 l3.length e3] 40)).cell? ⟨w.heap.size + 1, 0, none⟩ = some (.int .u16 y0) := (zad hfy4 0).trans rfl
 have p1 : ((w4.alloc (.cells #[.slice B0 l0.length e0, .slice B1 l1.length e1] 28)).alloc (.cells #[.slice B2 l2.length e2, .slice B3 l3.length e3] 40)).cell? ⟨w.heap.size + 1, 1, none⟩ = some (.int .u16 y1) := (zad hfy4 1).trans rfl
 clear hb4 hfy4
 go_wp2_with fail
 clear p0 p1
 generalize (w4.alloc (.cells #[.slice B0 l0.length e0, .slice B1 l1.length e1] 28)).alloc (.cells #[.slice B2 l2.length e2, .slice B3 l3.length e3] 40) = W4 at HW4 ⊢
 refine (t_made10_any HN.out).mono ?_
 rintro e w5 ⟨D0, g0, D1, g1, D2, g2, D3, g3, rfl, _, hb5⟩
 have HW5 := Aside0.mk (zax (zax (zaa HW4.out hb5) (.cells #[.slice D0 m0.length g0, .slice D1 m1.length g1] 28)) (.cells #[.slice D2 m2.length g2, .slice D3 m3.length g3] 40))
 clear hb5
 cases k1 <;> cases k2
 case true.true => exact absurd hk (by decide)
 all_goals
  clear hk
  go_wp2_with fail
  go_ret
  exact ⟨rfl, HW5.out⟩
theorem lSliceNear {H : Type} {enc : TypeId × Value → H} {W : World} {base base2 base3 base4 : Nat} {spare spare2 : Nat → Bool} {held held2 : Bool} {d d2 : DataW H} {p p2 : List MemPlace} (a : Int) (v u : Value) (ha : (Lit.int .u16 a).wf = true) (hv : Value.okWide Tryd.prog W .any base2 71 v) (hu : Value.okWide Tryd.prog W .any base4 71 u)
  (h : DataW.Trod enc Tryd.prog W base spare held 71 v d p) (h2 : DataW.Trod enc Tryd.prog W base3 spare2 held2 71 u d2 p2) (hG : Glob W) :
  Calls Tryd.prog 11 #[.int .u16 a, v, u] W fun e w' => e = .returned (.bool true) ∧ Below W.heap.size W w' := by
 obtain ⟨x0, x1, rfl, b0, b1⟩ := open_two hv h
 obtain ⟨y0, y1, rfl, c0, c1⟩ := open_two hu h2
 have hq := bnd_u16 ha
 rcases made10 x0 x1 (by omega) (by omega) with hm | ⟨r, hr, r1, hm⟩
 ·
  rcases made10 y0 y1 (by omega) (by omega) with hn | ⟨s, hs, s1, hn⟩
  ·
   exact SliceNear_off hG hq b0 b1 c0 c1 hm hn rfl
  ·
   exact SliceNear_off hG hq b0 b1 c0 c1 hm hn rfl
 ·
  rcases made10 y0 y1 (by omega) (by omega) with hn | ⟨s, hs, s1, hn⟩
  ·
   exact SliceNear_off hG hq b0 b1 c0 c1 hm hn rfl
  ·
   exact SliceNear_on hG hq b0 b1 c0 c1 hr hs r1 s1 hm hn
end Go.Proofs.YtfjkamhcabckeaaDoor.P
end
