-- Written by a program of this session (wip/tools/shake.py) out of its own texts and of the kit's printed ones; not trusted: Lean checks it.
import Derived.Test.YtfjkamhcabckeaaDoorZSliceOf5
set_option maxHeartbeats 8000000
set_option maxRecDepth 100000
set_option linter.unusedVariables false
set_option linter.unusedSimpArgs false
section
namespace Go.Proofs.YtfjkamhcabckeaaDoor.P
open Go.RowKit Go.Proofs.YtfjkamhcabckeaaDoorW.PrintWords Go.Proofs.YtfjkamhcabckeaaDoorW.PrintLast Go.Proofs.YtfjkamhcabckeaaDoorW.PrintMore
attribute [local go_sem] max2_int min2_int max_two min_two zc9 zdb max_four min_four
def zcu.f (k : Nat) (l0 : List Int) (l1 : List Int) : Option (List Int × List Int) := (zbc.f k l0 l1).bind fun t424 => ((zaj.f k l0 t424).bind fun bt427 => ((zaj.f k l1 t424).bind fun bt433 => (some (bt427.1, bt433.1))))
theorem zcu.calls (k : Nat) (A0 : Option Addr) (c0 : Nat) (l0 : List Int) (A1 : Option Addr) (c1 : Nat) (l1 : List Int) (r1 : List Int) (r2 : List Int) (w : World) (hr0 : Kd.C (Kd.int .i64) w A0 l0.length l0) (hc0 : l0.length ≤ c0) (hr1 : Kd.C (Kd.int .i64) w A1 l1.length l1) (hc1 : l1.length ≤ c1) (h : zcu.f k l0 l1 = some (r1, r2)) :
  Calls Tryd.prog 59 #[.slice A0 l0.length c0, .slice A1 l1.length c1] w fun e w' => ∃ v0_ v1_ : Value, e = .returned (.agg #[v0_, v1_]) ∧ Kd.R (Kd.int .i64) 3 w' w.heap.size (fun k_ => some k_ ≠ (v1_ : Value).ownBlock) v0_ r1 ∧ Kd.R (Kd.int .i64) 3 w' w.heap.size (fun k_ => some k_ ≠ (v0_ : Value).ownBlock) v1_ r2 ∧ Below w.heap.size w w' := by
 have hu40 := Tryd.underlying40
 have HR0 := zA hr0
 have HC0 := zA hc0
 clear hr0 hc0
 have HR1 := zA hr1
 have HC1 := zA hc1
 clear hr1 hc1
 have HB := zA (Below.refl w.heap.size w)
 have H : ((zbc.f k l0 l1).bind fun t424 => ((zaj.f k l0 t424).bind fun bt427 => ((zaj.f k l1 t424).bind fun bt433 => (some (bt427.1, bt433.1))))) = some (r1, r2) := h
 clear h
 replace H := zO H
 obtain ⟨t424, A30, H⟩ := H
 try dsimp only at H
 have A3 := zA A30
 clear A30
 replace H := zO H
 obtain ⟨⟨t427, t428⟩, A40, H⟩ := H
 try dsimp only at H
 have A4 := zA A40
 clear A40
 replace H := zO H
 obtain ⟨⟨t433, t434⟩, A50, H⟩ := H
 try dsimp only at H
 have A5 := zA A50
 clear A50
 simp only [Option.some.injEq, Prod.mk.injEq] at H
 obtain ⟨rfl, rfl⟩ := H
 go_enter Tryd.func59, Tryd.ntmps59
 go_wp2_with (first | ((with_reducible refine zbe (N := 4) rfl ?_); refine zbj ?hg (N := 4) ?hd (cs := #[.slice none 0 0, .slice none 0 0]) (t := 40) ?hr ?_; (case hd => rfl); (case hg => rfl); (case hr => first | (go_simp; done) | (go_simp; rfl)); intro gb423 hg w6 hbox hb; have n0_ := zA (zaa (zB HB) hb); have n1_ := zA (hbox); have n2_ := zA ((by rw [hg]; exact (za (zB HB)) : w.heap.size ≤ gb423)); have n3_ := zA ((by rw [hg]; exact (za (zB HB)) : w.heap.size ≤ gb423)); clear HB; have HB := n0_; have BK423 := n1_; have GW423 := n2_; have GE423 := n3_; clear n0_ n1_ n2_ n3_ hb hbox hg) | ((with_reducible refine zad (f := 19) rfl ?_); refine za0 (some 12) rfl rfl Tryd.func19 (by kernel_rfl) rfl #[.slice A0 l0.length c0, .slice A1 l1.length c1] rfl (zE) ?_; (with_reducible refine (zbc.calls k (fun k_ => k_ < w.heap.size) _ _ l0 (fun k_ => k_ < w.heap.size) _ _ l1 t424 _ ?side1 ?side2 A3.out).mono ?_); (case side1 => exact Kd.V_mk HC0.out (Kd.F_below (Kd.C_F (Kd.heap_int .i64) HR0.out) (zB HB))); (case side2 => exact Kd.V_mk HC1.out (Kd.F_below (Kd.C_F (Kd.heap_int .i64) HR1.out) (zB HB))); rintro e w7 ⟨v425, rfl, ho0, hb⟩; refine ⟨_, rfl, ?_⟩; have n0_ := zA (Kd.zba (Kd.zao (ok' := fun k_ => k_ ≠ gb423) ho0 (fun k_ hk_ => Or.elim hk_ (fun hs_ => Or.elim hs_ (fun hs_ => fun e_ => Nat.not_le.2 hs_ (by rw [e_]; exact GW423.out)) (fun hs_ => fun e_ => Nat.not_le.2 hs_ (by rw [e_]; exact GW423.out))) (fun hn_ => (Kd.freshB (g := gb423) (o := .cells #[.slice none 0 0, .slice none 0 0] 40 (0, 0)) (zK BK423) k_ hn_)))) (za (zB HB))); have n1_ := zA (zae (g := gb423) (o := .cells #[.slice none 0 0, .slice none 0 0] 40 (0, 0)) (zK BK423) hb); have n2_ := zA (zaa (zB HB) hb); clear BK423 HB; have HO426 := n0_; have BK423 := n1_; have HB := n2_; clear n0_ n1_ n2_; (try clear hb); (try clear hb2); (try clear hk); (try clear hi); (try clear ho0); obtain ⟨Ao8, co8, eo8⟩ := Kd.za9 HO426.out; subst eo8) | ((with_reducible refine zad (f := 57) rfl ?_); refine za0 (some 16) rfl rfl Tryd.func57 (by kernel_rfl) rfl #[.slice A0 l0.length c0, .slice Ao8 t424.length co8] rfl (zE) ?_; (with_reducible refine (zaj.calls k _ _ l0 _ _ t424 t427 t428 _ ?side1 ?side2 ?side3 ?side4 A4.out).mono ?_); (case side1 => exact zJ (Kd.za4 HR0.out HB.out)); (case side2 => exact HC0.out); (case side3 => exact zJ (Kd.zam HO426.out).2.2); (case side4 => exact (Kd.zam HO426.out).2.1); rintro e w9 ⟨v429, v431, rfl, ho0, ho1, hb⟩; refine ⟨_, rfl, ?_⟩; have n0_ := zA (Kd.zao (Kd.V_told (Kd.V_told (Kd.V_old (zV HO426) hb) (Kd.zbi ho0)) (Kd.zbi ho1)) (fun _ h_ => h_.1)); have n1_ := zA (Kd.zbw ho0 (za (zB HB))); have n2_ := zA (Kd.zbw ho1 (za (zB HB))); have n3_ := zA (zae (g := gb423) (o := .cells #[.slice none 0 0, .slice none 0 0] 40 (0, 0)) (zK BK423) hb); have n4_ := zA (zaa (zB HB) hb); clear HO426 BK423 HB; have HO426 := n0_; have HO430 := n1_; have HO432 := n2_; have BK423 := n3_; have HB := n4_; clear n0_ n1_ n2_ n3_ n4_; (try clear hb); (try clear hb2); (try clear hk); (try clear hi); (try clear ho0); (try clear ho1)) | ((with_reducible refine zad (f := 57) rfl ?_); refine za0 (some 22) rfl rfl Tryd.func57 (by kernel_rfl) rfl #[.slice A1 l1.length c1, .slice Ao8 t424.length co8] rfl (zE) ?_; (with_reducible refine (zaj.calls k _ _ l1 _ _ t424 t433 t434 _ ?side1 ?side2 ?side3 ?side4 A5.out).mono ?_); (case side1 => exact zJ (Kd.za4 HR1.out HB.out)); (case side2 => exact HC1.out); (case side3 => exact zJ (Kd.zam HO426.out).2.2); (case side4 => exact (Kd.zam HO426.out).2.1); rintro e w10 ⟨v435, v437, rfl, ho0, ho1, hb⟩; refine ⟨_, rfl, ?_⟩; have n0_ := zA (Kd.zao (Kd.V_told (Kd.V_told (Kd.V_old (zV HO426) hb) (Kd.zbi ho0)) (Kd.zbi ho1)) (fun _ h_ => h_.1)); have n1_ := zA (Kd.zbn (Kd.R_told (Kd.R_told (Kd.R_old (zR HO430) hb) (Kd.zbi ho0)) (Kd.zbi ho1)) (fun _ h_ => h_.1)); have n2_ := zA (Kd.zbn (Kd.R_told (Kd.R_told (Kd.R_old (zR HO432) hb) (Kd.zbi ho0)) (Kd.zbi ho1)) (fun _ h_ => h_.1)); have n3_ := zA (Kd.zbw (Kd.zca (Kd.zca ho0 (Kd.R_lt (zR HO430))) (Kd.R_lt (zR HO432))) (za (zB HB))); have n4_ := zA (Kd.zbw (Kd.zca (Kd.zca ho1 (Kd.R_lt (zR HO430))) (Kd.R_lt (zR HO432))) (za (zB HB))); have n5_ := zA (zae (g := gb423) (o := .cells #[.slice none 0 0, .slice none 0 0] 40 (0, 0)) (zK BK423) hb); have n6_ := zA (zaa (zB HB) hb); clear HO426 HO430 HO432 BK423 HB; have HO426 := n0_; have HO430 := n1_; have HO432 := n2_; have HO436 := n3_; have HO438 := n4_; have BK423 := n5_; have HB := n6_; clear n0_ n1_ n2_ n3_ n4_ n5_ n6_; (try clear hb); (try clear hb2); (try clear hk); (try clear hi); (try clear ho0); (try clear ho1); obtain ⟨Ao11, co11, eo11⟩ := Kd.zbp HO436.out; subst eo11; obtain ⟨Ao12, co12, eo12⟩ := Kd.zbp HO430.out; subst eo12; have hcz13_0 : w10.cell? ⟨gb423, 0, none⟩ = some (.slice none 0 0) := (zac BK423.out 0).trans rfl; have hcz13_1 : w10.cell? ⟨gb423, 1, none⟩ = some (.slice none 0 0) := (zac BK423.out 1).trans rfl; have hfz13_0 := zan BK423.out 0; have hfz13_1 := zan BK423.out 1))
 refine bodyPost_ret (results_cell_row rfl _ _ gb423 40 #[.slice Ao12 t427.length co12, .slice Ao11 t433.length co11] (0, 0) _ rfl (by (with_reducible repeat (first | refine zai ?_ _ | refine zak ?_ | refine zah ?_ _)); refine zbv (cs := #[.slice Ao12 t427.length co12, .slice none 0 0]) ?_ 1 _ rfl; (with_reducible repeat (first | refine zai ?_ _ | refine zak ?_ | refine zah ?_ _)); refine zbv (cs := #[.slice none 0 0, .slice none 0 0]) ?_ 0 _ rfl; (with_reducible repeat (first | refine zai ?_ _ | refine zak ?_ | refine zah ?_ _)); exact BK423.out) Tryd.underlying40 rfl (by kernel_rfl)) rfl ?_
 exact ⟨_, _, zW, by (with_reducible repeat (first | apply Kd.zb7 | apply Kd.zb9 | apply Kd.zci)); exact Kd.zbn (Kd.R_far (p := ⟨gb423, 1, none⟩) (Kd.R_far (p := ⟨gb423, 0, none⟩) (Kd.zc6 HO430.out BK423.out (by decide)) (fun _ hk => hk.2) (.slice Ao12 t427.length co12)) (fun _ hk => hk.2) (.slice Ao11 t433.length co11)) (fun _ hk => hk.1.1.2), by (with_reducible repeat (first | apply Kd.zb7 | apply Kd.zb9 | apply Kd.zci)); exact Kd.zbn (Kd.R_far (p := ⟨gb423, 1, none⟩) (Kd.R_far (p := ⟨gb423, 0, none⟩) (Kd.zc6 HO436.out BK423.out (by decide)) (fun _ hk => hk.2) (.slice Ao12 t427.length co12)) (fun _ hk => hk.2) (.slice Ao11 t433.length co11)) (fun _ hk => hk.1.1.2), zB HB⟩
def zau.j0 : Nat → Int → Int → Bool → Option (List Int × List Int × List Int × List Int × Bool)
 | 0, _, _, _ => none
 | k + 1, x0, x1, x19 => if x19 = true then (some (([] : List Int), ([] : List Int), ([] : List Int), ([] : List Int), false)) else ((zcp.f k (IntKind.u64.wrap (x0))).bind fun t1105 => ((zcp.f k (IntKind.u64.wrap (x1))).bind fun t1108 => ((ratio_Of.f k t1105 t1108).bind fun bt1111 => ((zat.f k x0).bind fun t1119 => ((zat.f k x1).bind fun t1122 => ((zcu.f k t1119 t1122).bind fun bt1125 => (some (bt1111.1, bt1111.2.1, bt1125.1, bt1125.2, (bt1111.2.2 == 0)))))))))
def zau.f (k : Nat) (a0 : Int) (a1 : Int) : Option (List Int × List Int × List Int × List Int × Bool) := if a0 < 0 then (zau.j0 k a0 a1 true) else (if a1 < 1 then (zau.j0 k a0 a1 true) else (zau.j0 k a0 a1 (decide (a0 > a1))))
def zau.T4 : Bool × List (List Nat × List Nat) := (true, [([], []), ([], []), ([1], [1]), ([], []), ([3, 2], [3]), ([2, 4, 4], [2, 4]), ([], []), ([6], [6]), ([0, 5, 0], [0]), ([5, 8, 0, 1, 2, 3, 4, 5, 8], [5]), ([7, 9, 0, 1, 2, 3, 4, 5, 6, 7, 8, 9], [7])])
def zau.B4 : List Nat := [0, 0, 2, 0, 14, 30, 0, 64, 63, 319, 1023]
theorem zau.tab4 : rtab .any (opsOf Tryd.f44 4) = zau.T4 := by kernel_rfl
theorem zau.bits4 : waitsOk zau.T4.2 zau.B4 = true := by kernel_rfl
theorem zau.calls (k : Nat) (a0 : Int) (a1 : Int) (r1 : List Int) (r2 : List Int) (r3 : List Int) (r4 : List Int) (r5 : Bool) (w : World) (h : zau.f k a0 a1 = some (r1, r2, r3, r4, r5)) :
  Calls Tryd.prog 44 #[.int .i64 a0, .int .i64 a1] w fun e w' => ∃ v0_ v1_ v2_ v3_ : Value, e = .returned (.tuple #[.agg #[v0_, v1_], .agg #[v2_, v3_], .bool r5]) ∧ Kd.V (Kd.int .u64) 57 w' w.heap.size (fun k_ => (w.heap.size ≤ k_) ∧ some k_ ≠ (v2_ : Value).ownBlock ∧ some k_ ≠ (v3_ : Value).ownBlock) v0_ r1 ∧ Kd.V (Kd.int .u64) 57 w' w.heap.size (fun k_ => (w.heap.size ≤ k_) ∧ some k_ ≠ (v2_ : Value).ownBlock ∧ some k_ ≠ (v3_ : Value).ownBlock) v1_ r2 ∧ Kd.R (Kd.int .i64) 3 w' w.heap.size (fun k_ => (w.heap.size ≤ k_) ∧ some k_ ≠ (v3_ : Value).ownBlock) v2_ r3 ∧ Kd.R (Kd.int .i64) 3 w' w.heap.size (fun k_ => (w.heap.size ≤ k_) ∧ some k_ ≠ (v2_ : Value).ownBlock) v3_ r4 ∧ Below w.heap.size w w' := by
 have hu28 := Tryd.underlying28
 have hu40 := Tryd.underlying40
 have HB := zA (Below.refl w.heap.size w)
 have H : (if a0 < 0 then (zau.j0 k a0 a1 true) else (if a1 < 1 then (zau.j0 k a0 a1 true) else (zau.j0 k a0 a1 (decide (a0 > a1))))) = some (r1, r2, r3, r4, r5) := h
 clear h
 have HC3 := zA H
 clear H
 go_enter Tryd.func44, Tryd.ntmps44
 go_upto_region 1 with (first | ((with_reducible refine zbe (N := 4) rfl ?_); refine zbj ?hg (N := 4) ?hd (cs := #[.slice none 0 0, .slice none 0 0]) (t := 28) ?hr ?_; (case hd => rfl); (case hg => rfl); (case hr => first | (go_simp; done) | (go_simp; rfl)); intro gb1103 hg w4 hbox hb; have n0_ := zA (zaa (zB HB) hb); have n1_ := zA (hbox); have n2_ := zA ((by rw [hg]; exact (za (zB HB)) : w.heap.size ≤ gb1103)); have n3_ := zA ((by rw [hg]; exact (za (zB HB)) : w.heap.size ≤ gb1103)); clear HB; have HB := n0_; have BK1103 := n1_; have GW1103 := n2_; have GE1103 := n3_; clear n0_ n1_ n2_ n3_ hb hbox hg) | ((with_reducible refine zbe (N := 5) rfl ?_); refine zbj ?hg (N := 5) ?hd (cs := #[.slice none 0 0, .slice none 0 0]) (t := 40) ?hr ?_; (case hd => rfl); (case hg => rfl); (case hr => first | (go_simp; done) | (go_simp; rfl)); intro gb1104 hg w5 hbox hb; have n0_ := zA (zae (g := gb1103) (o := .cells #[.slice none 0 0, .slice none 0 0] 28 (0, 0)) (zK BK1103) hb); have n1_ := zA (zaa (zB HB) hb); have n2_ := zA (hbox); have n3_ := zA ((by rw [hg]; exact (za (zB HB)) : w.heap.size ≤ gb1104)); have n4_ := zA ((by rw [hg]; exact (za (zB HB)) : w.heap.size ≤ gb1104)); have n5_ := zA ((by rw [hg]; exact Nat.ne_of_lt (zcl (g := gb1103) (o := .cells #[.slice none 0 0, .slice none 0 0] 28 (0, 0)) (zK BK1103)) : gb1103 ≠ gb1104)); have n6_ := zA ((by rw [hg]; exact Nat.ne_of_gt (zcl (g := gb1103) (o := .cells #[.slice none 0 0, .slice none 0 0] 28 (0, 0)) (zK BK1103)) : gb1104 ≠ gb1103)); clear BK1103 HB; have BK1103 := n0_; have HB := n1_; have BK1104 := n2_; have GW1104 := n3_; have GE1104 := n4_; have NB1103_1104 := n5_; have NB1104_1103 := n6_; clear n0_ n1_ n2_ n3_ n4_ n5_ n6_ hb hbox hg))
 (try simp only [Act.put, zs1, zs2, zs3])
 go_cut [19] (fun v19 wc => ∃ (kq : Nat) (x19_2 : Bool), v19 = .bool x19_2 ∧ Aside0 (zau.j0 kq a0 a1 x19_2 = some (r1, r2, r3, r4, r5)) ∧ Aside0 (kq ≤ k) ∧ Aside0 (wc.heap[gb1103]? = some (.cells #[(.slice none 0 0), (.slice none 0 0)] 28 (0, 0))) ∧ Aside0 (wc.heap[gb1104]? = some (.cells #[(.slice none 0 0), (.slice none 0 0)] 40 (0, 0))) ∧ Aside0 (Below w.heap.size w wc))
 case first =>
  have H := HC3.out
  clear HC3
  by_cases c6 : a0 < 0
  ·
   rw [if_pos c6] at H
   have c6b0 : decide (a0 < 0) = true := decide_eq_true c6
   clear c6
   (first | rw [c6b0] | (simp only [i64_w, i32_w]; rw [c6b0]) | skip)
   have H' := zA H
   clear H
   go_wp2
   go_meet
   case rel => exact ⟨_, (true), (zF), H', ⟨by first | omega | exact Nat.le_refl _⟩, ⟨zK BK1103⟩, ⟨zK BK1104⟩, ⟨zB HB⟩⟩
  ·
   rw [if_neg c6] at H
   have c6b0 : decide (a0 < 0) = false := decide_eq_false c6
   clear c6
   (first | rw [c6b0] | (simp only [i64_w, i32_w]; rw [c6b0]) | skip)
   by_cases c7 : a1 < 1
   ·
    rw [if_pos c7] at H
    have c7b0 : decide (a1 < 1) = true := decide_eq_true c7
    clear c7
    have H' := zA H
    clear H
    go_wp2
    go_meet
    case rel => exact ⟨_, (true), (zF), H', ⟨by first | omega | exact Nat.le_refl _⟩, ⟨zK BK1103⟩, ⟨zK BK1104⟩, ⟨zB HB⟩⟩
   ·
    rw [if_neg c7] at H
    have c7b0 : decide (a1 < 1) = false := decide_eq_false c7
    clear c7
    have H' := zA H
    clear H
    go_wp2
    go_meet
    case rel => exact ⟨_, (decide (a0 > a1)), (zF), H', ⟨by first | omega | exact Nat.le_refl _⟩, ⟨zK BK1103⟩, ⟨zK BK1104⟩, ⟨zB HB⟩⟩
 case rest =>
  clear HC3
  try clear p2
  try clear c4
  try clear c6
  try clear c6b0
  try clear c7
  try clear c7b0
  obtain ⟨kq, x19_2, rfl, HA, HJ2, BK1103, BK1104, HB⟩ := hcut
  cases kq with
  | zero => exact absurd HA.out (by simp [zau.j0])
  | succ kj2 =>
   have H := HA.out
   clear HA
   simp only [zau.j0] at H
   by_cases c8 : x19_2 = true
   ·
    subst c8
    rw [if_pos rfl] at H
    simp only [Option.some.injEq, Prod.mk.injEq] at H
    obtain ⟨rfl, rfl, rfl, rfl, rfl⟩ := H
    have hnb9 := NB1103_1104.out
    have hnc9 := NB1104_1103.out
    have hcz10_0 : wc.cell? ⟨gb1103, 0, none⟩ = some (.slice none 0 0) := (zac BK1103.out 0).trans rfl
    have hcz10_1 : wc.cell? ⟨gb1103, 1, none⟩ = some (.slice none 0 0) := (zac BK1103.out 1).trans rfl
    have hfz10_0 := zan BK1103.out 0
    have hfz10_1 := zan BK1103.out 1
    have hcz11_0 : wc.cell? ⟨gb1104, 0, none⟩ = some (.slice none 0 0) := (zac BK1104.out 0).trans rfl
    have hcz11_1 : wc.cell? ⟨gb1104, 1, none⟩ = some (.slice none 0 0) := (zac BK1104.out 1).trans rfl
    have hfz11_0 := zan BK1104.out 0
    have hfz11_1 := zan BK1104.out 1
    go_wp2
    refine bodyPost_ret (results_list (rs := [.cell 4 28, .cell 5 40, .tmp 6]) rfl (by simp) (.cell gb1103 28 #[.slice none 0 0, .slice none 0 0] (0, 0) _ rfl (by (with_reducible repeat (first | refine zai ?_ _ | refine zak ?_ | refine zah ?_ _)); refine zcn ?_ NB1103_1104.out _; (with_reducible repeat (first | refine zai ?_ _ | refine zak ?_ | refine zah ?_ _)); refine zcn ?_ NB1103_1104.out _; (with_reducible repeat (first | refine zai ?_ _ | refine zak ?_ | refine zah ?_ _)); refine zbv (cs := #[.slice none 0 0, .slice none 0 0]) ?_ 1 _ rfl; (with_reducible repeat (first | refine zai ?_ _ | refine zak ?_ | refine zah ?_ _)); refine zbv (cs := #[.slice none 0 0, .slice none 0 0]) ?_ 0 _ rfl; (with_reducible repeat (first | refine zai ?_ _ | refine zak ?_ | refine zah ?_ _)); exact BK1103.out) Tryd.underlying28 rfl (by kernel_rfl) (.cell gb1104 40 #[.slice none 0 0, .slice none 0 0] (0, 0) _ rfl (by (with_reducible repeat (first | refine zai ?_ _ | refine zak ?_ | refine zah ?_ _)); refine zbv (cs := #[.slice none 0 0, .slice none 0 0]) ?_ 1 _ rfl; (with_reducible repeat (first | refine zai ?_ _ | refine zak ?_ | refine zah ?_ _)); refine zbv (cs := #[.slice none 0 0, .slice none 0 0]) ?_ 0 _ rfl; (with_reducible repeat (first | refine zai ?_ _ | refine zak ?_ | refine zah ?_ _)); refine zcn ?_ NB1104_1103.out _; (with_reducible repeat (first | refine zai ?_ _ | refine zak ?_ | refine zah ?_ _)); refine zcn ?_ NB1104_1103.out _; (with_reducible repeat (first | refine zai ?_ _ | refine zak ?_ | refine zah ?_ _)); exact BK1104.out) Tryd.underlying40 rfl (by kernel_rfl) (.tmp .nil)))) rfl ?_
    exact ⟨_, _, _, _, zW, Kd.V_nil _ _ _ _ _, Kd.V_nil _ _ _ _ _, by first | exact Kd.R_nil _ _ _ _ _ | exact Kd.N_nil _ _ _ _ _ | exact Kd.V_nil _ _ _ _ _ | exact Kd.Q_nil _ _ _ _ _ | exact Kd.S_nil _ _ _ _ _, by first | exact Kd.R_nil _ _ _ _ _ | exact Kd.N_nil _ _ _ _ _ | exact Kd.V_nil _ _ _ _ _ | exact Kd.Q_nil _ _ _ _ _ | exact Kd.S_nil _ _ _ _ _, zB HB⟩
   ·
    replace c8 := Bool.eq_false_iff.mpr c8
    subst c8
    rw [if_neg (show ¬ (false = true) by decide)] at H
    replace H := zO H
    obtain ⟨t1105, A120, H⟩ := H
    try dsimp only at H
    have A12 := zA A120
    clear A120
    replace H := zO H
    obtain ⟨t1108, A130, H⟩ := H
    try dsimp only at H
    have A13 := zA A130
    clear A130
    replace H := zO H
    obtain ⟨⟨t1111, t1114, t1117⟩, A140, H⟩ := H
    try dsimp only at H
    have A14 := zA A140
    clear A140
    replace H := zO H
    obtain ⟨t1119, A150, H⟩ := H
    try dsimp only at H
    have A15 := zA A150
    clear A150
    replace H := zO H
    obtain ⟨t1122, A160, H⟩ := H
    try dsimp only at H
    have A16 := zA A160
    clear A160
    replace H := zO H
    obtain ⟨⟨t1125, t1128⟩, A170, H⟩ := H
    try dsimp only at H
    have A17 := zA A170
    clear A170
    simp only [Option.some.injEq, Prod.mk.injEq] at H
    obtain ⟨rfl, rfl, rfl, rfl, rfl⟩ := H
    try go_wp2_with (first | ((with_reducible refine zad (f := 36) rfl ?_); refine za0 (some 25) rfl rfl Tryd.func36 (by kernel_rfl) rfl #[.int .u64 (IntKind.u64.wrap (a0))] rfl (zE) ?_; (with_reducible refine (zcp.calls kj2 (IntKind.u64.wrap (a0)) t1105 _ A12.out).mono ?_); rintro e w18 ⟨v1106, rfl, ho0, hb⟩; refine ⟨_, rfl, ?_⟩; have n0_ := zA (Kd.zba (Kd.zao (ok' := fun k_ => (w.heap.size ≤ k_) ∧ k_ ≠ gb1103 ∧ k_ ≠ gb1104) ho0 (fun k_ hk_ => ⟨(Nat.le_trans (za (zB HB)) hk_), (Kd.freshB (g := gb1103) (o := .cells #[.slice none 0 0, .slice none 0 0] 28 (0, 0)) (zK BK1103) k_ hk_), (Kd.freshB (g := gb1104) (o := .cells #[.slice none 0 0, .slice none 0 0] 40 (0, 0)) (zK BK1104) k_ hk_)⟩)) (za (zB HB))); have n1_ := zA (zae (g := gb1103) (o := .cells #[.slice none 0 0, .slice none 0 0] 28 (0, 0)) (zK BK1103) hb); have n2_ := zA (zae (g := gb1104) (o := .cells #[.slice none 0 0, .slice none 0 0] 40 (0, 0)) (zK BK1104) hb); have n3_ := zA (zaa (zB HB) hb); clear BK1103 BK1104 HB; have HO1107 := n0_; have BK1103 := n1_; have BK1104 := n2_; have HB := n3_; clear n0_ n1_ n2_ n3_; (try clear hb); (try clear hb2); (try clear hk); (try clear hi); (try clear ho0)) | ((with_reducible refine zad (f := 36) rfl ?_); refine za0 (some 28) rfl rfl Tryd.func36 (by kernel_rfl) rfl #[.int .u64 (IntKind.u64.wrap (a1))] rfl (zE) ?_; (with_reducible refine (zcp.calls kj2 (IntKind.u64.wrap (a1)) t1108 _ A13.out).mono ?_); rintro e w19 ⟨v1109, rfl, ho0, hb⟩; refine ⟨_, rfl, ?_⟩; have n0_ := zA (Kd.zav (zV HO1107) hb); have n1_ := zA (Kd.zba (Kd.zao (ok' := fun k_ => (w.heap.size ≤ k_) ∧ k_ ≠ gb1103 ∧ k_ ≠ gb1104) ho0 (fun k_ hk_ => ⟨(Nat.le_trans (za (zB HB)) hk_), (Kd.freshB (g := gb1103) (o := .cells #[.slice none 0 0, .slice none 0 0] 28 (0, 0)) (zK BK1103) k_ hk_), (Kd.freshB (g := gb1104) (o := .cells #[.slice none 0 0, .slice none 0 0] 40 (0, 0)) (zK BK1104) k_ hk_)⟩)) (za (zB HB))); have n2_ := zA (zae (g := gb1103) (o := .cells #[.slice none 0 0, .slice none 0 0] 28 (0, 0)) (zK BK1103) hb); have n3_ := zA (zae (g := gb1104) (o := .cells #[.slice none 0 0, .slice none 0 0] 40 (0, 0)) (zK BK1104) hb); have n4_ := zA (zaa (zB HB) hb); clear HO1107 BK1103 BK1104 HB; have HO1107 := n0_; have HO1110 := n1_; have BK1103 := n2_; have BK1104 := n3_; have HB := n4_; clear n0_ n1_ n2_ n3_ n4_; (try clear hb); (try clear hb2); (try clear hk); (try clear hi); (try clear ho0); obtain ⟨Ao20, co20, eo20⟩ := Kd.za9 HO1107.out; subst eo20; obtain ⟨Ao21, co21, eo21⟩ := Kd.za9 HO1110.out; subst eo21) | ((with_reducible refine zad (f := 24) rfl ?_); refine za0 (some 29) rfl rfl Tryd.func24 (by kernel_rfl) rfl #[.slice Ao20 t1105.length co20, .slice Ao21 t1108.length co21] rfl (zE) ?_; (with_reducible refine (ratio_Of.calls kj2 _ _ t1105 _ _ t1108 t1111 t1114 t1117 _ ?side1 ?side2 ?side3 ?side4 A14.out).mono ?_); (case side1 => exact zJ (Kd.zam HO1107.out).2.2); (case side2 => exact (Kd.zam HO1107.out).2.1); (case side3 => exact zJ (Kd.zam HO1110.out).2.2); (case side4 => exact (Kd.zam HO1110.out).2.1); rintro e w22 ⟨v1112, v1115, rfl, ho0, ho1, hb⟩; refine ⟨_, rfl, ?_⟩; have n0_ := zA (Kd.zav (zV HO1107) hb); have n1_ := zA (Kd.zav (zV HO1110) hb); have n2_ := zA (Kd.zba (Kd.zao (ok' := fun k_ => (w.heap.size ≤ k_) ∧ k_ ≠ gb1103 ∧ k_ ≠ gb1104) ho0 (fun k_ hk_ => ⟨(Nat.le_trans (za (zB HB)) hk_), (Kd.freshB (g := gb1103) (o := .cells #[.slice none 0 0, .slice none 0 0] 28 (0, 0)) (zK BK1103) k_ hk_), (Kd.freshB (g := gb1104) (o := .cells #[.slice none 0 0, .slice none 0 0] 40 (0, 0)) (zK BK1104) k_ hk_)⟩)) (za (zB HB))); have n3_ := zA (Kd.zba (Kd.zao (ok' := fun k_ => (w.heap.size ≤ k_) ∧ k_ ≠ gb1103 ∧ k_ ≠ gb1104) ho1 (fun k_ hk_ => ⟨(Nat.le_trans (za (zB HB)) hk_), (Kd.freshB (g := gb1103) (o := .cells #[.slice none 0 0, .slice none 0 0] 28 (0, 0)) (zK BK1103) k_ hk_), (Kd.freshB (g := gb1104) (o := .cells #[.slice none 0 0, .slice none 0 0] 40 (0, 0)) (zK BK1104) k_ hk_)⟩)) (za (zB HB))); have n4_ := zA (zae (g := gb1103) (o := .cells #[.slice none 0 0, .slice none 0 0] 28 (0, 0)) (zK BK1103) hb); have n5_ := zA (zae (g := gb1104) (o := .cells #[.slice none 0 0, .slice none 0 0] 40 (0, 0)) (zK BK1104) hb); have n6_ := zA (zaa (zB HB) hb); clear HO1107 HO1110 BK1103 BK1104 HB; have HO1107 := n0_; have HO1110 := n1_; have HO1113 := n2_; have HO1116 := n3_; have BK1103 := n4_; have BK1104 := n5_; have HB := n6_; clear n0_ n1_ n2_ n3_ n4_ n5_ n6_; (try clear hb); (try clear hb2); (try clear hk); (try clear hi); (try clear ho0); (try clear ho1)) | ((with_reducible refine zbe (N := 7) rfl ?_); refine zbj ?hg (N := 7) ?hd (cs := #[.slice none 0 0, .slice none 0 0]) (t := 28) ?hr ?_; (case hd => rfl); (case hg => rfl); (case hr => first | (go_simp; done) | (go_simp; rfl)); intro gb1118 hg w23 hbox hb; have n0_ := zA (Kd.zav (Kd.zct (zV HO1107) gb1118 (Nat.le_of_eq hg.symm)) hb); have n1_ := zA (Kd.zav (Kd.zct (zV HO1110) gb1118 (Nat.le_of_eq hg.symm)) hb); have n2_ := zA (Kd.zav (Kd.zct (zV HO1113) gb1118 (Nat.le_of_eq hg.symm)) hb); have n3_ := zA (Kd.zav (Kd.zct (zV HO1116) gb1118 (Nat.le_of_eq hg.symm)) hb); have n4_ := zA (zae (g := gb1103) (o := .cells #[.slice none 0 0, .slice none 0 0] 28 (0, 0)) (zK BK1103) hb); have n5_ := zA (zae (g := gb1104) (o := .cells #[.slice none 0 0, .slice none 0 0] 40 (0, 0)) (zK BK1104) hb); have n6_ := zA (zaa (zB HB) hb); have n7_ := zA (hbox); have n8_ := zA ((by rw [hg]; exact (za (zB HB)) : w.heap.size ≤ gb1118)); have n9_ := zA ((by rw [hg]; exact (za (zB HB)) : w.heap.size ≤ gb1118)); have n10_ := zA ((by rw [hg]; exact Nat.ne_of_lt (zcl (g := gb1103) (o := .cells #[.slice none 0 0, .slice none 0 0] 28 (0, 0)) (zK BK1103)) : gb1103 ≠ gb1118)); have n11_ := zA ((by rw [hg]; exact Nat.ne_of_gt (zcl (g := gb1103) (o := .cells #[.slice none 0 0, .slice none 0 0] 28 (0, 0)) (zK BK1103)) : gb1118 ≠ gb1103)); have n12_ := zA ((by rw [hg]; exact Nat.ne_of_lt (zcl (g := gb1104) (o := .cells #[.slice none 0 0, .slice none 0 0] 40 (0, 0)) (zK BK1104)) : gb1104 ≠ gb1118)); have n13_ := zA ((by rw [hg]; exact Nat.ne_of_gt (zcl (g := gb1104) (o := .cells #[.slice none 0 0, .slice none 0 0] 40 (0, 0)) (zK BK1104)) : gb1118 ≠ gb1104)); clear HO1107 HO1110 HO1113 HO1116 BK1103 BK1104 HB; have HO1107 := n0_; have HO1110 := n1_; have HO1113 := n2_; have HO1116 := n3_; have BK1103 := n4_; have BK1104 := n5_; have HB := n6_; have BK1118 := n7_; have GW1118 := n8_; have GE1118 := n9_; have NB1103_1118 := n10_; have NB1118_1103 := n11_; have NB1104_1118 := n12_; have NB1118_1104 := n13_; clear n0_ n1_ n2_ n3_ n4_ n5_ n6_ n7_ n8_ n9_ n10_ n11_ n12_ n13_ hb hbox hg; obtain ⟨Ao24, co24, eo24⟩ := Kd.za9 HO1113.out; subst eo24; have hnb25 := NB1118_1103.out; have hnc25 := NB1103_1118.out; have hnb26 := NB1118_1104.out; have hnc26 := NB1104_1118.out; have hcz27_0 : w23.cell? ⟨gb1118, 0, none⟩ = some (.slice none 0 0) := (zac BK1118.out 0).trans rfl; have hcz27_1 : w23.cell? ⟨gb1118, 1, none⟩ = some (.slice none 0 0) := (zac BK1118.out 1).trans rfl; have hfz27_0 := zan BK1118.out 0; have hfz27_1 := zan BK1118.out 1; obtain ⟨Ao28, co28, eo28⟩ := Kd.za9 HO1116.out; subst eo28))
    have n0_ : Aside0 (Kd.V (Kd.int .u64) 57 ((w23.setCell ⟨gb1118, 0, none⟩ (.slice Ao24 t1111.length co24)).setCell ⟨gb1118, 1, none⟩ (.slice Ao28 t1114.length co28)) w.heap.size (fun k_ => (w.heap.size ≤ k_) ∧ k_ ≠ gb1103 ∧ k_ ≠ gb1104 ∧ k_ ≠ gb1118) (.slice Ao20 t1105.length co20) t1105) := ⟨by (with_reducible repeat (first | apply Kd.zbr | apply Kd.zbq | apply Kd.zbx)); exact Kd.zao (Kd.V_far (p := ⟨gb1118, 1, none⟩) (Kd.V_far (p := ⟨gb1118, 0, none⟩) (Kd.zao HO1107.out (fun k_ hk => (⟨hk, hk.2⟩ : _ ∧ k_ ≠ gb1118))) (fun _ hk => hk.2) (.slice Ao24 t1111.length co24)) (fun _ hk => hk.2) (.slice Ao28 t1114.length co28)) (fun _ hk => ⟨hk.1.1.1, ⟨hk.1.1.2.1, ⟨hk.1.1.2.2, hk.1.2⟩⟩⟩)⟩
    have n1_ : Aside0 (Kd.V (Kd.int .u64) 57 ((w23.setCell ⟨gb1118, 0, none⟩ (.slice Ao24 t1111.length co24)).setCell ⟨gb1118, 1, none⟩ (.slice Ao28 t1114.length co28)) w.heap.size (fun k_ => (w.heap.size ≤ k_) ∧ k_ ≠ gb1103 ∧ k_ ≠ gb1104 ∧ k_ ≠ gb1118) (.slice Ao21 t1108.length co21) t1108) := ⟨by (with_reducible repeat (first | apply Kd.zbr | apply Kd.zbq | apply Kd.zbx)); exact Kd.zao (Kd.V_far (p := ⟨gb1118, 1, none⟩) (Kd.V_far (p := ⟨gb1118, 0, none⟩) (Kd.zao HO1110.out (fun k_ hk => (⟨hk, hk.2⟩ : _ ∧ k_ ≠ gb1118))) (fun _ hk => hk.2) (.slice Ao24 t1111.length co24)) (fun _ hk => hk.2) (.slice Ao28 t1114.length co28)) (fun _ hk => ⟨hk.1.1.1, ⟨hk.1.1.2.1, ⟨hk.1.1.2.2, hk.1.2⟩⟩⟩)⟩
    have n2_ : Aside0 (Kd.V (Kd.int .u64) 57 ((w23.setCell ⟨gb1118, 0, none⟩ (.slice Ao24 t1111.length co24)).setCell ⟨gb1118, 1, none⟩ (.slice Ao28 t1114.length co28)) w.heap.size (fun k_ => (w.heap.size ≤ k_) ∧ k_ ≠ gb1103 ∧ k_ ≠ gb1104 ∧ k_ ≠ gb1118) (.slice Ao24 t1111.length co24) t1111) := ⟨by (with_reducible repeat (first | apply Kd.zbr | apply Kd.zbq | apply Kd.zbx)); exact Kd.zao (Kd.V_far (p := ⟨gb1118, 1, none⟩) (Kd.V_far (p := ⟨gb1118, 0, none⟩) (Kd.zao HO1113.out (fun k_ hk => (⟨hk, hk.2⟩ : _ ∧ k_ ≠ gb1118))) (fun _ hk => hk.2) (.slice Ao24 t1111.length co24)) (fun _ hk => hk.2) (.slice Ao28 t1114.length co28)) (fun _ hk => ⟨hk.1.1.1, ⟨hk.1.1.2.1, ⟨hk.1.1.2.2, hk.1.2⟩⟩⟩)⟩
    have n3_ : Aside0 (Kd.V (Kd.int .u64) 57 ((w23.setCell ⟨gb1118, 0, none⟩ (.slice Ao24 t1111.length co24)).setCell ⟨gb1118, 1, none⟩ (.slice Ao28 t1114.length co28)) w.heap.size (fun k_ => (w.heap.size ≤ k_) ∧ k_ ≠ gb1103 ∧ k_ ≠ gb1104 ∧ k_ ≠ gb1118) (.slice Ao28 t1114.length co28) t1114) := ⟨by (with_reducible repeat (first | apply Kd.zbr | apply Kd.zbq | apply Kd.zbx)); exact Kd.zao (Kd.V_far (p := ⟨gb1118, 1, none⟩) (Kd.V_far (p := ⟨gb1118, 0, none⟩) (Kd.zao HO1116.out (fun k_ hk => (⟨hk, hk.2⟩ : _ ∧ k_ ≠ gb1118))) (fun _ hk => hk.2) (.slice Ao24 t1111.length co24)) (fun _ hk => hk.2) (.slice Ao28 t1114.length co28)) (fun _ hk => ⟨hk.1.1.1, ⟨hk.1.1.2.1, ⟨hk.1.1.2.2, hk.1.2⟩⟩⟩)⟩
    have n4_ : Aside0 (((w23.setCell ⟨gb1118, 0, none⟩ (.slice Ao24 t1111.length co24)).setCell ⟨gb1118, 1, none⟩ (.slice Ao28 t1114.length co28)).heap[gb1103]? = some (.cells #[.slice none 0 0, .slice none 0 0] 28 (0, 0))) := ⟨by (with_reducible repeat (first | refine zai ?_ _ | refine zak ?_ | refine zah ?_ _)); refine zcn ?_ NB1103_1118.out _; (with_reducible repeat (first | refine zai ?_ _ | refine zak ?_ | refine zah ?_ _)); refine zcn ?_ NB1103_1118.out _; (with_reducible repeat (first | refine zai ?_ _ | refine zak ?_ | refine zah ?_ _)); exact BK1103.out⟩
    have n5_ : Aside0 (((w23.setCell ⟨gb1118, 0, none⟩ (.slice Ao24 t1111.length co24)).setCell ⟨gb1118, 1, none⟩ (.slice Ao28 t1114.length co28)).heap[gb1104]? = some (.cells #[.slice none 0 0, .slice none 0 0] 40 (0, 0))) := ⟨by (with_reducible repeat (first | refine zai ?_ _ | refine zak ?_ | refine zah ?_ _)); refine zcn ?_ NB1104_1118.out _; (with_reducible repeat (first | refine zai ?_ _ | refine zak ?_ | refine zah ?_ _)); refine zcn ?_ NB1104_1118.out _; (with_reducible repeat (first | refine zai ?_ _ | refine zak ?_ | refine zah ?_ _)); exact BK1104.out⟩
    have n6_ : Aside0 (((w23.setCell ⟨gb1118, 0, none⟩ (.slice Ao24 t1111.length co24)).setCell ⟨gb1118, 1, none⟩ (.slice Ao28 t1114.length co28)).heap[gb1118]? = some (.cells #[.slice Ao24 t1111.length co24, .slice Ao28 t1114.length co28] 28 (0, 0))) := ⟨by (with_reducible repeat (first | refine zai ?_ _ | refine zak ?_ | refine zah ?_ _)); refine zbv (cs := #[.slice Ao24 t1111.length co24, .slice none 0 0]) ?_ 1 _ rfl; (with_reducible repeat (first | refine zai ?_ _ | refine zak ?_ | refine zah ?_ _)); refine zbv (cs := #[.slice none 0 0, .slice none 0 0]) ?_ 0 _ rfl; (with_reducible repeat (first | refine zai ?_ _ | refine zak ?_ | refine zah ?_ _)); exact BK1118.out⟩
    have n7_ : Aside0 (Below w.heap.size w ((w23.setCell ⟨gb1118, 0, none⟩ (.slice Ao24 t1111.length co24)).setCell ⟨gb1118, 1, none⟩ (.slice Ao28 t1114.length co28))) := ⟨zB HB⟩
    (try clear HO1107)
    (try clear HO1110)
    (try clear HO1113)
    (try clear HO1116)
    (try clear BK1103)
    (try clear BK1104)
    (try clear BK1118)
    (try clear HB)
    generalize ((w23.setCell ⟨gb1118, 0, none⟩ (.slice Ao24 t1111.length co24)).setCell ⟨gb1118, 1, none⟩ (.slice Ao28 t1114.length co28)) = w29 at n0_ n1_ n2_ n3_ n4_ n5_ n6_ n7_ ⊢
    have HO1107 := n0_
    have HO1110 := n1_
    have HO1113 := n2_
    have HO1116 := n3_
    have BK1103 := n4_
    have BK1104 := n5_
    have BK1118 := n6_
    have HB := n7_
    clear n0_ n1_ n2_ n3_ n4_ n5_ n6_ n7_
    have n0_ := zA (Kd.zbx HO1107.out)
    have n1_ := zA (Kd.zbx HO1110.out)
    have n2_ := zA (Kd.zbx HO1113.out)
    have n3_ := zA (Kd.zbx HO1116.out)
    have n4_ := zA (zak BK1103.out)
    have n5_ := zA (zak BK1104.out)
    have n6_ := zA (zak BK1118.out)
    have n7_ := zA (zbl HB.out)
    clear HO1107 HO1110 HO1113 HO1116 BK1103 BK1104 BK1118 HB
    have HO1107 := n0_
    have HO1110 := n1_
    have HO1113 := n2_
    have HO1116 := n3_
    have BK1103 := n4_
    have BK1104 := n5_
    have BK1118 := n6_
    have HB := n7_
    clear n0_ n1_ n2_ n3_ n4_ n5_ n6_ n7_
    refine start_ (n := 11) (S := fun w' => w'.cell? ⟨gb1118, 0, none⟩ = some (.slice Ao24 t1111.length co24) ∧ w'.cell? ⟨gb1118, 1, none⟩ = some (.slice Ao28 t1114.length co28)) (ds := []) #[false, false, false, false, false, false, false, false, false, false, false] (by kernel_rfl) rfl rfl ⟨(zac BK1118.out 0).trans rfl, (zac BK1118.out 1).trans rfl⟩ (fun hHeld => ?_); refine zcz zau.tab4 zau.bits4 (fun HT_ HW_ => ?_)
    generalize w29.drew = w30 at HO1107 HO1110 HO1113 HO1116 BK1103 BK1104 BK1118 HB hHeld ⊢
    refine pure_ (i := 1) (N := some 33) (v := ?_) (a' := ?_) #[false, true, false, false, false, false, false, false, false, false, false] rfl rfl (za3 HT_.out (by kernel_rfl)) (fun _ _ _ h => h) (Or.inl ⟨by rfl, ?_⟩) ?_ ?_
    rotate_left
    ·
     intro w'
     go_simp
     with_reducible rfl
    rotate_left
    ·
     simp only [Act.put, zs1, zs2, zs3, i64_w, i32_w]
     rfl
    refine pure_ (i := 3) (N := some 35) (v := ?_) (a' := ?_) #[false, true, false, true, false, false, false, false, false, false, false] rfl rfl (za3 HT_.out (by kernel_rfl)) (fun _ _ _ h => h) (Or.inl ⟨by rfl, ?_⟩) ?_ ?_
    rotate_left
    ·
     intro w'
     go_simp
     with_reducible rfl
    rotate_left
    ·
     simp only [Act.put, zs1, zs2, zs3, i64_w, i32_w]
     rfl
    refine pure_ (i := 6) (N := some 38) (v := ?_) (a' := ?_) #[false, true, false, true, false, false, true, false, false, false, false] rfl rfl (za3 HT_.out (by kernel_rfl)) (fun _ _ _ h => h) (Or.inl ⟨by rfl, ?_⟩) ?_ ?_
    rotate_left
    ·
     intro w'
     go_simp
     with_reducible rfl
    rotate_left
    ·
     simp only [Act.put, zs1, zs2, zs3, i64_w, i32_w]
     rfl
    refine pure_ (i := 7) (N := some 39) (v := ?_) (a' := ?_) #[false, true, false, true, false, false, true, true, false, false, false] rfl rfl (za3 HT_.out (by kernel_rfl)) (fun _ _ _ h => h) (Or.inl ⟨by rfl, ?_⟩) ?_ ?_
    rotate_left
    ·
     intro w'
     go_simp
     with_reducible rfl
    rotate_left
    ·
     simp only [Act.put, zs1, zs2, zs3, i64_w, i32_w]
     rfl
    refine take_ (i := 0) (N := some 32) (v := ?_) (a' := ?_) #[true, true, false, true, false, false, true, true, false, false, false] rfl rfl (zch HT_.out HW_.out (by kernel_rfl)) (fun _ _ _ h => h) (Or.inl ⟨by rfl, ?_⟩) hHeld ?_ ?_
    rotate_left
    ·
     rintro w' ⟨s0, s1⟩
     go_simp
     with_reducible rfl
    rotate_left
    ·
     simp only [Act.put, zs1, zs2, zs3, i64_w, i32_w]
     rfl
    refine one_ (i := 2) (N := some 34) #[true, true, true, true, false, false, true, true, false, false, false] rfl rfl (zck HT_.out (by kernel_rfl)) (by decide) (fun K hK => ?_)
    refine goes_ Tryd.func20 (by kernel_rfl) rfl #[.int .i64 a0] (by rfl) rfl rfl (zE) ?_
    with_reducible refine (zat.calls kj2 a0 t1119 _ A15.out).mono ?_
    rintro e w31 ⟨v1120, rfl, ho0, hb⟩
    refine ⟨_, rfl, ?_⟩
    have n0_ := zA (Kd.zc8 (zV HO1107) (Kd.zbi ho0) hb)
    have n1_ := zA (Kd.zc8 (zV HO1110) (Kd.zbi ho0) hb)
    have n2_ := zA (Kd.zc8 (zV HO1113) (Kd.zbi ho0) hb)
    have n3_ := zA (Kd.zc8 (zV HO1116) (Kd.zbi ho0) hb)
    have n4_ := zA (Kd.zbw (Kd.R_newM (M := fun k_ => (w.heap.size ≤ k_)) ho0 (za (zB HB)) (fun k_ h_ => h_)) (za (zB HB)))
    have n5_ := zA (zae (g := gb1103) (o := .cells #[.slice none 0 0, .slice none 0 0] 28 (0, 0)) (zK BK1103) hb)
    have n6_ := zA (zae (g := gb1104) (o := .cells #[.slice none 0 0, .slice none 0 0] 40 (0, 0)) (zK BK1104) hb)
    have n7_ := zA (zae (g := gb1118) (o := .cells #[.slice Ao24 t1111.length co24, .slice Ao28 t1114.length co28] 28 (0, 0)) (zK BK1118) hb)
    have n8_ := zA (zaa (zB HB) hb)
    clear HO1107 HO1110 HO1113 HO1116 BK1103 BK1104 BK1118 HB
    have HO1107 := n0_
    have HO1110 := n1_
    have HO1113 := n2_
    have HO1116 := n3_
    have HO1121 := n4_
    have BK1103 := n5_
    have BK1104 := n6_
    have BK1118 := n7_
    have HB := n8_
    clear n0_ n1_ n2_ n3_ n4_ n5_ n6_ n7_ n8_
    (try clear hb)
    (try clear hb2)
    (try clear hk)
    (try clear hi)
    (try clear ho0)
    refine hK.out _ _ ⟨(zac BK1118.out 0).trans rfl, (zac BK1118.out 1).trans rfl⟩ (fun hHeld => ?_)
    clear hK K
    refine norm_ (a' := ?_) ?_ ?_
    rotate_left
    ·
     show Act.put _ (some 34) _ = _
     simp only [Act.put, zs1, zs2, zs3, i64_w, i32_w]
     rfl
    refine one_ (i := 4) (N := some 36) #[true, true, true, true, true, false, true, true, false, false, false] rfl rfl (zck HT_.out (by kernel_rfl)) (by decide) (fun K hK => ?_)
    refine goes_ Tryd.func20 (by kernel_rfl) rfl #[.int .i64 a1] (by rfl) rfl rfl (zE) ?_
    with_reducible refine (zat.calls kj2 a1 t1122 _ A16.out).mono ?_
    rintro e w32 ⟨v1123, rfl, ho0, hb⟩
    refine ⟨_, rfl, ?_⟩
    have n0_ := zA (Kd.zc8 (zV HO1107) (Kd.zbi ho0) hb)
    have n1_ := zA (Kd.zc8 (zV HO1110) (Kd.zbi ho0) hb)
    have n2_ := zA (Kd.zc8 (zV HO1113) (Kd.zbi ho0) hb)
    have n3_ := zA (Kd.zc8 (zV HO1116) (Kd.zbi ho0) hb)
    have n4_ := zA (Kd.zbs (zR HO1121) (Kd.zbi ho0) hb)
    have n5_ := zA (Kd.zbw (Kd.zca (Kd.R_newM (M := fun k_ => (w.heap.size ≤ k_)) ho0 (za (zB HB)) (fun k_ h_ => h_)) (Kd.R_lt (zR HO1121))) (za (zB HB)))
    have n6_ := zA (zae (g := gb1103) (o := .cells #[.slice none 0 0, .slice none 0 0] 28 (0, 0)) (zK BK1103) hb)
    have n7_ := zA (zae (g := gb1104) (o := .cells #[.slice none 0 0, .slice none 0 0] 40 (0, 0)) (zK BK1104) hb)
    have n8_ := zA (zae (g := gb1118) (o := .cells #[.slice Ao24 t1111.length co24, .slice Ao28 t1114.length co28] 28 (0, 0)) (zK BK1118) hb)
    have n9_ := zA (zaa (zB HB) hb)
    clear HO1107 HO1110 HO1113 HO1116 HO1121 BK1103 BK1104 BK1118 HB
    have HO1107 := n0_
    have HO1110 := n1_
    have HO1113 := n2_
    have HO1116 := n3_
    have HO1121 := n4_
    have HO1124 := n5_
    have BK1103 := n6_
    have BK1104 := n7_
    have BK1118 := n8_
    have HB := n9_
    clear n0_ n1_ n2_ n3_ n4_ n5_ n6_ n7_ n8_ n9_
    (try clear hb)
    (try clear hb2)
    (try clear hk)
    (try clear hi)
    (try clear ho0)
    obtain ⟨Ao33, co33, eo33⟩ := Kd.zbp HO1121.out
    (first | subst eo33 | (injection eo33 with f1_ f2_ f3_; have f4_ := f1_.symm; have f5_ := f3_.symm; clear f1_ f2_ f3_; subst f4_; subst f5_))
    obtain ⟨Ao34, co34, eo34⟩ := Kd.zbp HO1124.out
    (first | subst eo34 | (injection eo34 with f1_ f2_ f3_; have f4_ := f1_.symm; have f5_ := f3_.symm; clear f1_ f2_ f3_; subst f4_; subst f5_))
    refine hK.out _ _ ⟨(zac BK1118.out 0).trans rfl, (zac BK1118.out 1).trans rfl⟩ (fun hHeld => ?_)
    clear hK K
    refine norm_ (a' := ?_) ?_ ?_
    rotate_left
    ·
     show Act.put _ (some 36) _ = _
     simp only [Act.put, zs1, zs2, zs3, i64_w, i32_w]
     rfl
    refine one_ (i := 5) (N := some 37) #[true, true, true, true, true, true, true, true, false, false, false] rfl rfl (zck HT_.out (by kernel_rfl)) (by decide) (fun K hK => ?_)
    refine goes_ Tryd.func59 (by kernel_rfl) rfl #[.slice Ao33 t1119.length co33, .slice Ao34 t1122.length co34] (by rfl) rfl rfl (zE) ?_
    with_reducible refine (zcu.calls kj2 _ _ t1119 _ _ t1122 t1125 t1128 _ ?side1 ?side2 ?side3 ?side4 A17.out).mono ?_
    (case side1 => exact zJ (Kd.zaz HO1121.out).2.2)
    (case side2 => exact (Kd.zaz HO1121.out).2.1)
    (case side3 => exact zJ (Kd.zaz HO1124.out).2.2)
    (case side4 => exact (Kd.zaz HO1124.out).2.1)
    rintro e w35 ⟨v1126, v1129, rfl, ho0, ho1, hb⟩
    refine ⟨_, rfl, ?_⟩
    have n0_ := zA (Kd.zao (Kd.V_told (Kd.V_told (Kd.V_old (zV HO1107) hb) (Kd.zbi ho0)) (Kd.zbi ho1)) (fun _ h_ => h_.1))
    have n1_ := zA (Kd.zao (Kd.V_told (Kd.V_told (Kd.V_old (zV HO1110) hb) (Kd.zbi ho0)) (Kd.zbi ho1)) (fun _ h_ => h_.1))
    have n2_ := zA (Kd.zao (Kd.V_told (Kd.V_told (Kd.V_old (zV HO1113) hb) (Kd.zbi ho0)) (Kd.zbi ho1)) (fun _ h_ => h_.1))
    have n3_ := zA (Kd.zao (Kd.V_told (Kd.V_told (Kd.V_old (zV HO1116) hb) (Kd.zbi ho0)) (Kd.zbi ho1)) (fun _ h_ => h_.1))
    have n4_ := zA (Kd.zbn (Kd.R_told (Kd.R_told (Kd.R_old (zR HO1121) hb) (Kd.zbi ho0)) (Kd.zbi ho1)) (fun _ h_ => h_.1))
    have n5_ := zA (Kd.zbn (Kd.R_told (Kd.R_told (Kd.R_old (zR HO1124) hb) (Kd.zbi ho0)) (Kd.zbi ho1)) (fun _ h_ => h_.1))
    have n6_ := zA (Kd.zbw (Kd.zca (Kd.zca (Kd.R_newM (M := fun k_ => (w.heap.size ≤ k_)) ho0 (za (zB HB)) (fun k_ h_ => h_)) (Kd.R_lt (zR HO1121))) (Kd.R_lt (zR HO1124))) (za (zB HB)))
    have n7_ := zA (Kd.zbw (Kd.zca (Kd.zca (Kd.R_newM (M := fun k_ => (w.heap.size ≤ k_)) ho1 (za (zB HB)) (fun k_ h_ => h_)) (Kd.R_lt (zR HO1121))) (Kd.R_lt (zR HO1124))) (za (zB HB)))
    have n8_ := zA (zae (g := gb1103) (o := .cells #[.slice none 0 0, .slice none 0 0] 28 (0, 0)) (zK BK1103) hb)
    have n9_ := zA (zae (g := gb1104) (o := .cells #[.slice none 0 0, .slice none 0 0] 40 (0, 0)) (zK BK1104) hb)
    have n10_ := zA (zae (g := gb1118) (o := .cells #[.slice Ao24 t1111.length co24, .slice Ao28 t1114.length co28] 28 (0, 0)) (zK BK1118) hb)
    have n11_ := zA (zaa (zB HB) hb)
    clear HO1107 HO1110 HO1113 HO1116 HO1121 HO1124 BK1103 BK1104 BK1118 HB
    have HO1107 := n0_
    have HO1110 := n1_
    have HO1113 := n2_
    have HO1116 := n3_
    have HO1121 := n4_
    have HO1124 := n5_
    have HO1127 := n6_
    have HO1130 := n7_
    have BK1103 := n8_
    have BK1104 := n9_
    have BK1118 := n10_
    have HB := n11_
    clear n0_ n1_ n2_ n3_ n4_ n5_ n6_ n7_ n8_ n9_ n10_ n11_
    (try clear hb)
    (try clear hb2)
    (try clear hk)
    (try clear hi)
    (try clear ho0)
    (try clear ho1)
    obtain ⟨Ao38, co38, eo38⟩ := Kd.zbp HO1127.out
    (first | subst eo38 | (injection eo38 with f1_ f2_ f3_; have f4_ := f1_.symm; have f5_ := f3_.symm; clear f1_ f2_ f3_; subst f4_; subst f5_))
    obtain ⟨Ao40, co40, eo40⟩ := Kd.zbp HO1130.out
    (first | subst eo40 | (injection eo40 with f1_ f2_ f3_; have f4_ := f1_.symm; have f5_ := f3_.symm; clear f1_ f2_ f3_; subst f4_; subst f5_))
    refine hK.out _ _ ⟨(zac BK1118.out 0).trans rfl, (zac BK1118.out 1).trans rfl⟩ (fun hHeld => ?_)
    clear hK K
    refine norm_ (a' := ?_) ?_ ?_
    rotate_left
    ·
     show Act.put _ (some 37) _ = _
     simp only [Act.put, zs1, zs2, zs3, i64_w, i32_w]
     rfl
    refine one_ (i := 8) (N := none) #[true, true, true, true, true, true, true, true, true, false, false] rfl rfl (zck HT_.out (by kernel_rfl)) (by decide) (fun K hK => ?_)
    have hs36 : w35.cell? ⟨gb1103, 0, none⟩ = some (.slice none 0 0) := (zac BK1103.out 0).trans rfl
    have hfs36 := zan BK1103.out 0
    have hns36_1 := NB1104_1103.out
    have hns36_2 := NB1118_1103.out
    have hms36_1 := NB1103_1104.out
    have hms36_2 := NB1103_1118.out
    have hs37 : w35.cell? ⟨gb1103, 1, none⟩ = some (.slice none 0 0) := (zac BK1103.out 1).trans rfl
    have hfs37 := zan BK1103.out 1
    have hns37_1 := NB1104_1103.out
    have hns37_2 := NB1118_1103.out
    have hms37_1 := NB1103_1104.out
    have hms37_2 := NB1103_1118.out
    refine skip_ (w1 := ?_) (by rfl) rfl ?_ ?_
    rotate_left
    ·
     go_simp
     rfl
    refine hK.out _ _ ⟨((cell_far (p := ⟨gb1103, _, none⟩) NB1118_1103.out _).trans (((cell_far (p := ⟨gb1103, _, none⟩) NB1118_1103.out _).trans (hHeld.1)))), ((cell_far (p := ⟨gb1103, _, none⟩) NB1118_1103.out _).trans (((cell_far (p := ⟨gb1103, _, none⟩) NB1118_1103.out _).trans (hHeld.2))))⟩ (fun hHeld => ?_)
    clear hK K
    refine one_ (i := 9) (N := none) #[true, true, true, true, true, true, true, true, true, true, false] rfl rfl (zck HT_.out (by kernel_rfl)) (by decide) (fun K hK => ?_)
    have hs39 : w35.cell? ⟨gb1104, 0, none⟩ = some (.slice none 0 0) := (zac BK1104.out 0).trans rfl
    have hfs39 := zan BK1104.out 0
    have hns39_0 := NB1103_1104.out
    have hns39_2 := NB1118_1104.out
    have hms39_0 := NB1104_1103.out
    have hms39_2 := NB1104_1118.out
    have hs41 : w35.cell? ⟨gb1104, 1, none⟩ = some (.slice none 0 0) := (zac BK1104.out 1).trans rfl
    have hfs41 := zan BK1104.out 1
    have hns41_0 := NB1103_1104.out
    have hns41_2 := NB1118_1104.out
    have hms41_0 := NB1104_1103.out
    have hms41_2 := NB1104_1118.out
    refine skip_ (w1 := ?_) (by rfl) rfl ?_ ?_
    rotate_left
    ·
     go_simp
     rfl
    refine hK.out _ _ ⟨((cell_far (p := ⟨gb1104, _, none⟩) NB1118_1104.out _).trans (((cell_far (p := ⟨gb1104, _, none⟩) NB1118_1104.out _).trans (hHeld.1)))), ((cell_far (p := ⟨gb1104, _, none⟩) NB1118_1104.out _).trans (((cell_far (p := ⟨gb1104, _, none⟩) NB1118_1104.out _).trans (hHeld.2))))⟩ (fun hHeld => ?_)
    clear hK K
    refine pure_ (i := 10) (N := some 6) (v := ?_) (a' := ?_) #[true, true, true, true, true, true, true, true, true, true, true] rfl rfl (za3 HT_.out (by kernel_rfl)) (fun _ _ _ h => h) (Or.inl ⟨by rfl, ?_⟩) ?_ ?_
    rotate_left
    ·
     intro w'
     go_simp
     with_reducible rfl
    rotate_left
    ·
     simp only [Act.put, zs1, zs2, zs3, i64_w, i32_w]
     rfl
    refine done_ (done_of HT_.out (by kernel_rfl)) ?_
    try go_wp2
    refine bodyPost_ret (results_list (rs := [.cell 4 28, .cell 5 40, .tmp 6]) rfl (by simp) (.cell gb1103 28 #[.slice Ao24 t1111.length co24, .slice Ao28 t1114.length co28] (0, 0) _ rfl (by (with_reducible repeat (first | refine zai ?_ _ | refine zak ?_ | refine zah ?_ _)); refine zcn ?_ NB1103_1104.out _; (with_reducible repeat (first | refine zai ?_ _ | refine zak ?_ | refine zah ?_ _)); refine zcn ?_ NB1103_1104.out _; (with_reducible repeat (first | refine zai ?_ _ | refine zak ?_ | refine zah ?_ _)); refine zbv (cs := #[.slice Ao24 t1111.length co24, .slice none 0 0]) ?_ 1 _ rfl; (with_reducible repeat (first | refine zai ?_ _ | refine zak ?_ | refine zah ?_ _)); refine zbv (cs := #[.slice none 0 0, .slice none 0 0]) ?_ 0 _ rfl; (with_reducible repeat (first | refine zai ?_ _ | refine zak ?_ | refine zah ?_ _)); exact BK1103.out) Tryd.underlying28 rfl (by kernel_rfl) (.cell gb1104 40 #[.slice Ao38 t1125.length co38, .slice Ao40 t1128.length co40] (0, 0) _ rfl (by (with_reducible repeat (first | refine zai ?_ _ | refine zak ?_ | refine zah ?_ _)); refine zbv (cs := #[.slice Ao38 t1125.length co38, .slice none 0 0]) ?_ 1 _ rfl; (with_reducible repeat (first | refine zai ?_ _ | refine zak ?_ | refine zah ?_ _)); refine zbv (cs := #[.slice none 0 0, .slice none 0 0]) ?_ 0 _ rfl; (with_reducible repeat (first | refine zai ?_ _ | refine zak ?_ | refine zah ?_ _)); refine zcn ?_ NB1104_1103.out _; (with_reducible repeat (first | refine zai ?_ _ | refine zak ?_ | refine zah ?_ _)); refine zcn ?_ NB1104_1103.out _; (with_reducible repeat (first | refine zai ?_ _ | refine zak ?_ | refine zah ?_ _)); exact BK1104.out) Tryd.underlying40 rfl (by kernel_rfl) (.tmp .nil)))) rfl ?_
    exact ⟨_, _, _, _, zW, by (with_reducible repeat (first | apply Kd.zbr | apply Kd.zbq | apply Kd.zbx)); exact Kd.zao (Kd.V_far (p := ⟨gb1104, 1, none⟩) (Kd.V_far (p := ⟨gb1104, 0, none⟩) (Kd.V_far (p := ⟨gb1103, 1, none⟩) (Kd.V_far (p := ⟨gb1103, 0, none⟩) (Kd.zao (Kd.zao HO1113.out (fun k_ hk => (⟨hk, hk.1.1.1.1.2.1⟩ : _ ∧ k_ ≠ gb1103))) (fun k_ hk => (⟨hk, hk.1.1.1.1.1.2.2.1⟩ : _ ∧ k_ ≠ gb1104))) (fun _ hk => hk.1.2) (.slice Ao24 t1111.length co24)) (fun _ hk => hk.1.2) (.slice Ao28 t1114.length co28)) (fun _ hk => hk.2) (.slice Ao38 t1125.length co38)) (fun _ hk => hk.2) (.slice Ao40 t1128.length co40)) (fun _ hk => ⟨hk.1.1.1.1.1.1.1, ⟨hk.1.1.1.2, hk.1.1.2⟩⟩), by (with_reducible repeat (first | apply Kd.zbr | apply Kd.zbq | apply Kd.zbx)); exact Kd.zao (Kd.V_far (p := ⟨gb1104, 1, none⟩) (Kd.V_far (p := ⟨gb1104, 0, none⟩) (Kd.V_far (p := ⟨gb1103, 1, none⟩) (Kd.V_far (p := ⟨gb1103, 0, none⟩) (Kd.zao (Kd.zao HO1116.out (fun k_ hk => (⟨hk, hk.1.1.1.1.2.1⟩ : _ ∧ k_ ≠ gb1103))) (fun k_ hk => (⟨hk, hk.1.1.1.1.1.2.2.1⟩ : _ ∧ k_ ≠ gb1104))) (fun _ hk => hk.1.2) (.slice Ao24 t1111.length co24)) (fun _ hk => hk.1.2) (.slice Ao28 t1114.length co28)) (fun _ hk => hk.2) (.slice Ao38 t1125.length co38)) (fun _ hk => hk.2) (.slice Ao40 t1128.length co40)) (fun _ hk => ⟨hk.1.1.1.1.1.1.1, ⟨hk.1.1.1.2, hk.1.1.2⟩⟩), by (with_reducible repeat (first | apply Kd.zb7 | apply Kd.zb9 | apply Kd.zci)); exact Kd.zbn (Kd.R_far (p := ⟨gb1104, 1, none⟩) (Kd.R_far (p := ⟨gb1104, 0, none⟩) (Kd.R_far (p := ⟨gb1103, 1, none⟩) (Kd.R_far (p := ⟨gb1103, 0, none⟩) (Kd.zc6 (Kd.zc6 HO1127.out BK1103.out (by decide)) BK1104.out (by decide)) (fun _ hk => hk.1.2) (.slice Ao24 t1111.length co24)) (fun _ hk => hk.1.2) (.slice Ao28 t1114.length co28)) (fun _ hk => hk.2) (.slice Ao38 t1125.length co38)) (fun _ hk => hk.2) (.slice Ao40 t1128.length co40)) (fun _ hk => ⟨hk.1.1.1.1.1, hk.1.1.1.1.2⟩), by (with_reducible repeat (first | apply Kd.zb7 | apply Kd.zb9 | apply Kd.zci)); exact Kd.zbn (Kd.R_far (p := ⟨gb1104, 1, none⟩) (Kd.R_far (p := ⟨gb1104, 0, none⟩) (Kd.R_far (p := ⟨gb1103, 1, none⟩) (Kd.R_far (p := ⟨gb1103, 0, none⟩) (Kd.zc6 (Kd.zc6 HO1130.out BK1103.out (by decide)) BK1104.out (by decide)) (fun _ hk => hk.1.2) (.slice Ao24 t1111.length co24)) (fun _ hk => hk.1.2) (.slice Ao28 t1114.length co28)) (fun _ hk => hk.2) (.slice Ao38 t1125.length co38)) (fun _ hk => hk.2) (.slice Ao40 t1128.length co40)) (fun _ hk => ⟨hk.1.1.1.1.1, hk.1.1.1.1.2⟩), zB HB⟩
def zay.l0 : Nat → Int → Int → List Int → List Int → Option (Int)
 | 0, _, _, _, _ => none
 | k + 1, x0, x5, x1169000, x1169001 => if x5 < x0 then ((zat.f k (wrap64 (x5 + 1))).bind fun t1169 => ((zaf.f k x1169001 t1169).bind fun t1172 => ((zat.f k x0).bind fun t1175 => ((zaf.f k x1169000 t1175).bind fun t1178 => ((zax.f k t1172 t1178).bind fun t1181 => (if t1181 ≤ 0 then (zay.l0 k x0 (wrap64 (x5 + 1)) x1169000 x1169001) else (some x5))))))) else (some x5)
def zay.f (k : Nat) (a0 : Int) (l1_0 : List Int) (l1_1 : List Int) : Option (Int) := zay.l0 k a0 1 l1_0 l1_1
def zay.T2 : Bool × List (List Nat × List Nat) := (true, [([], []), ([], []), ([0, 1], [0, 1]), ([2], [2]), ([3], [3]), ([4, 3], [3, 4]), ([3], [3]), ([6, 3], [3, 6]), ([7, 3, 3], [3, 7]), ([5, 8, 8, 3], [3, 5, 8]), ([3], [3]), ([10, 3], [3, 10]), ([3], [3]), ([12, 9, 3], [3, 12]), ([11, 13, 13, 3], [3, 11, 13]), ([9, 14, 14, 3], [3, 9, 14]), ([15, 3], [3, 15]), ([3, 16], [3, 16])])
def zay.B2 : List Nat := [0, 0, 3, 7, 15, 31, 15, 79, 207, 511, 15, 1039, 15, 5119, 16383, 32767, 65535, 131071]
theorem zay.tab2 : rtab .any (opsOf Tryd.f47 2) = zay.T2 := by kernel_rfl
theorem zay.bits2 : waitsOk zay.T2.2 zay.B2 = true := by kernel_rfl
theorem zay.calls (k : Nat) (a0 : Int) (A1_0 : Option Addr) (c1_0 : Nat) (l1_0 : List Int) (A1_1 : Option Addr) (c1_1 : Nat) (l1_1 : List Int) (r : Int) (w : World) (hr1_0 : Kd.C (Kd.int .i64) w A1_0 l1_0.length l1_0) (hc1_0 : l1_0.length ≤ c1_0) (hr1_1 : Kd.C (Kd.int .i64) w A1_1 l1_1.length l1_1) (hc1_1 : l1_1.length ≤ c1_1) (h : zay.f k a0 l1_0 l1_1 = some r) :
  Calls Tryd.prog 47 #[.int .i64 a0, .agg #[.slice A1_0 l1_0.length c1_0, .slice A1_1 l1_1.length c1_1]] w fun e w' => e = .returned (.int .i64 r) ∧ Below w.heap.size w w' := by
 have hu40 := Tryd.underlying40
 have HR1_0 := zA hr1_0
 have HC1_0 := zA hc1_0
 clear hr1_0 hc1_0
 have HR1_1 := zA hr1_1
 have HC1_1 := zA hc1_1
 clear hr1_1 hc1_1
 have HB := zA (Below.refl w.heap.size w)
 have H : (zay.l0 k a0 1 l1_0 l1_1) = some r := h
 clear h
 have H' := zA H
 clear H
 go_enter Tryd.func47, Tryd.ntmps47
 go_wp2_with (first | ((with_reducible refine zbe (N := 3) rfl ?_); refine zbj ?hg (N := 3) ?hd (cs := #[.slice A1_0 l1_0.length c1_0, .slice A1_1 l1_1.length c1_1]) (t := 40) ?hr ?_; (case hd => rfl); (case hg => rfl); (case hr => first | (go_simp; done) | (go_simp; rfl)); intro gb1168 hg w3 hbox hb; have n0_ := zA (zaa (zB HB) hb); have n1_ := zA (hbox); have n2_ := zA ((by rw [hg]; exact (za (zB HB)) : w.heap.size ≤ gb1168)); have n3_ := zA ((by rw [hg]; exact (za (zB HB)) : w.heap.size ≤ gb1168)); clear HB; have HB := n0_; have BK1168 := n1_; have GW1168 := n2_; have GE1168 := n3_; clear n0_ n1_ n2_ n3_ hb hbox hg))
 go_loopg [5] k (fun kq v5 w' => ∃ (x5_1 : Int), v5 = .int .i64 x5_1 ∧ Aside0 (zay.l0 kq a0 x5_1 l1_0 l1_1 = some r) ∧ Aside0 (kq ≤ k) ∧ Aside0 (w'.heap[gb1168]? = some (.cells #[(.slice A1_0 l1_0.length c1_0), (.slice A1_1 l1_1.length c1_1)] 40 (0, 0))) ∧ Aside0 (Below w.heap.size w w'))
 case atStart => exact ⟨(1), (zF), H', ⟨Nat.le_refl _⟩, ⟨zK BK1168⟩, ⟨zB HB⟩⟩
 case round =>
  clear H'
  try clear c1
  try clear p2
  obtain ⟨x5_1, rfl, HA, HK1, BK1168, HB⟩ := hrel
  cases gk with
  | zero => exact absurd HA.out (by simp [zay.l0])
  | succ k1 =>
   have H := HA.out
   clear HA
   simp only [zay.l0] at H
   by_cases c4 : x5_1 < a0
   ·
    rw [if_pos c4] at H
    have c4b0 : decide (x5_1 < a0) = true := decide_eq_true c4
    clear c4
    replace H := zO H
    obtain ⟨t1169, A50, H⟩ := H
    try dsimp only at H
    have A5 := zA A50
    clear A50
    replace H := zO H
    obtain ⟨t1172, A60, H⟩ := H
    try dsimp only at H
    have A6 := zA A60
    clear A60
    replace H := zO H
    obtain ⟨t1175, A70, H⟩ := H
    try dsimp only at H
    have A7 := zA A70
    clear A70
    replace H := zO H
    obtain ⟨t1178, A80, H⟩ := H
    try dsimp only at H
    have A8 := zA A80
    clear A80
    replace H := zO H
    obtain ⟨t1181, A90, H⟩ := H
    try dsimp only at H
    have A9 := zA A90
    clear A90
    by_cases c10 : t1181 ≤ 0
    ·
     rw [if_pos c10] at H
     have c10b0 : decide (t1181 ≤ 0) = true := decide_eq_true c10
     clear c10
     have H' := zA H
     clear H
     try go_wp2
     have n0_ := zA (zak BK1168.out)
     have n1_ := zA (zbl HB.out)
     clear BK1168 HB
     have BK1168 := n0_
     have HB := n1_
     clear n0_ n1_
     refine start_ (n := 18) (S := fun w' => w'.cell? ⟨gb1168, 0, none⟩ = some (.slice A1_0 l1_0.length c1_0) ∧ w'.cell? ⟨gb1168, 1, none⟩ = some (.slice A1_1 l1_1.length c1_1)) (ds := []) #[false, false, false, false, false, false, false, false, false, false, false, false, false, false, false, false, false, false] (by kernel_rfl) rfl rfl ⟨(zac BK1168.out 0).trans rfl, (zac BK1168.out 1).trans rfl⟩ (fun hHeld => ?_); refine zcz zay.tab2 zay.bits2 (fun HT_ HW_ => ?_)
     generalize wr.drew = w11 at BK1168 HB hHeld ⊢
     refine pure_ (i := 0) (N := some 6) (v := ?_) (a' := ?_) #[true, false, false, false, false, false, false, false, false, false, false, false, false, false, false, false, false, false] rfl rfl (za3 HT_.out (by kernel_rfl)) (fun _ _ _ h => h) (Or.inl ⟨by rfl, ?_⟩) ?_ ?_
     rotate_left
     ·
      intro w'
      go_simp
      with_reducible rfl
     rotate_left
     ·
      simp only [Act.put, zs1, zs2, zs3, i64_w, i32_w]
      rfl
     refine pure_ (i := 1) (N := some 7) (v := ?_) (a' := ?_) #[true, true, false, false, false, false, false, false, false, false, false, false, false, false, false, false, false, false] rfl rfl (za3 HT_.out (by kernel_rfl)) (fun _ _ _ h => h) (Or.inl ⟨by rfl, ?_⟩) ?_ ?_
     rotate_left
     ·
      intro w'
      go_simp
      with_reducible rfl
     rotate_left
     ·
      simp only [Act.put, zs1, zs2, zs3, i64_w, i32_w]
      rfl
     refine pure_ (i := 2) (N := some 8) (v := ?_) (a' := ?_) #[true, true, true, false, false, false, false, false, false, false, false, false, false, false, false, false, false, false] rfl rfl (za3 HT_.out (by kernel_rfl)) (fun _ _ _ h => h) (Or.inl ⟨by rfl, ?_⟩) ?_ ?_
     rotate_left
     ·
      intro w'
      go_simp
      with_reducible rfl
     rotate_left
     ·
      simp only [Act.put, zs1, zs2, zs3, i64_w, i32_w]
      rfl
     refine pure_ (i := 3) (N := some 9) (v := ?_) (a' := ?_) #[true, true, true, true, false, false, false, false, false, false, false, false, false, false, false, false, false, false] rfl rfl (za3 HT_.out (by kernel_rfl)) (fun _ _ _ h => h) (Or.inl ⟨by rfl, ?_⟩) ?_ ?_
     rotate_left
     ·
      intro w'
      go_simp
      with_reducible rfl
     rotate_left
     ·
      simp only [Act.put, zs1, zs2, zs3, i64_w, i32_w]
      rfl
     refine pure_ (i := 4) (N := some 10) (v := ?_) (a' := ?_) #[true, true, true, true, true, false, false, false, false, false, false, false, false, false, false, false, false, false] rfl rfl (za3 HT_.out (by kernel_rfl)) (fun _ _ _ h => h) (Or.inl ⟨by rfl, ?_⟩) ?_ ?_
     rotate_left
     ·
      intro w'
      go_simp
      with_reducible rfl
     rotate_left
     ·
      simp only [Act.put, zs1, zs2, zs3, i64_w, i32_w]
      rfl
     refine pure_ (i := 6) (N := some 12) (v := ?_) (a' := ?_) #[true, true, true, true, true, false, true, false, false, false, false, false, false, false, false, false, false, false] rfl rfl (za3 HT_.out (by kernel_rfl)) (fun _ _ _ h => h) (Or.inl ⟨by rfl, ?_⟩) ?_ ?_
     rotate_left
     ·
      intro w'
      go_simp
      with_reducible rfl
     rotate_left
     ·
      simp only [Act.put, zs1, zs2, zs3, i64_w, i32_w]
      rfl
     refine pure_ (i := 7) (N := some 13) (v := ?_) (a' := ?_) #[true, true, true, true, true, false, true, true, false, false, false, false, false, false, false, false, false, false] rfl rfl (za3 HT_.out (by kernel_rfl)) (fun _ _ _ h => h) (Or.inl ⟨by rfl, ?_⟩) ?_ ?_
     rotate_left
     ·
      intro w'
      go_simp
      with_reducible rfl
     rotate_left
     ·
      simp only [Act.put, zs1, zs2, zs3, i64_w, i32_w]
      rfl
     refine pure_ (i := 10) (N := some 16) (v := ?_) (a' := ?_) #[true, true, true, true, true, false, true, true, false, false, true, false, false, false, false, false, false, false] rfl rfl (za3 HT_.out (by kernel_rfl)) (fun _ _ _ h => h) (Or.inl ⟨by rfl, ?_⟩) ?_ ?_
     rotate_left
     ·
      intro w'
      go_simp
      with_reducible rfl
     rotate_left
     ·
      simp only [Act.put, zs1, zs2, zs3, i64_w, i32_w]
      rfl
     refine pure_ (i := 12) (N := some 18) (v := ?_) (a' := ?_) #[true, true, true, true, true, false, true, true, false, false, true, false, true, false, false, false, false, false] rfl rfl (za3 HT_.out (by kernel_rfl)) (fun _ _ _ h => h) (Or.inl ⟨by rfl, ?_⟩) ?_ ?_
     rotate_left
     ·
      intro w'
      go_simp
      with_reducible rfl
     rotate_left
     ·
      simp only [Act.put, zs1, zs2, zs3, i64_w, i32_w]
      rfl
     refine take_ (i := 5) (N := some 11) (v := ?_) (a' := ?_) #[true, true, true, true, true, true, true, true, false, false, true, false, true, false, false, false, false, false] rfl rfl (zch HT_.out HW_.out (by kernel_rfl)) (fun _ _ _ h => h) (Or.inl ⟨by rfl, ?_⟩) hHeld ?_ ?_
     rotate_left
     ·
      rintro w' ⟨s0, s1⟩
      go_simp
      with_reducible rfl
     rotate_left
     ·
      simp only [Act.put, zs1, zs2, zs3, i64_w, i32_w]
      rfl
     refine take_ (i := 11) (N := some 17) (v := ?_) (a' := ?_) #[true, true, true, true, true, true, true, true, false, false, true, true, true, false, false, false, false, false] rfl rfl (zch HT_.out HW_.out (by kernel_rfl)) (fun _ _ _ h => h) (Or.inl ⟨by rfl, ?_⟩) hHeld ?_ ?_
     rotate_left
     ·
      rintro w' ⟨s0, s1⟩
      go_simp
      with_reducible rfl
     rotate_left
     ·
      simp only [Act.put, zs1, zs2, zs3, i64_w, i32_w]
      rfl
     refine one_ (i := 8) (N := some 14) #[true, true, true, true, true, true, true, true, true, false, true, true, true, false, false, false, false, false] rfl rfl (zck HT_.out (by kernel_rfl)) (by decide) (fun K hK => ?_)
     refine goes_ Tryd.func20 (by kernel_rfl) rfl #[.int .i64 (wrap64 (x5_1 + 1))] (by rfl) rfl rfl (zE) ?_
     with_reducible refine (zat.calls k1 (wrap64 (x5_1 + 1)) t1169 _ A5.out).mono ?_
     rintro e w12 ⟨v1170, rfl, ho0, hb⟩
     refine ⟨_, rfl, ?_⟩
     have n0_ := zA (Kd.zbw ho0 (za (zB HB)))
     have n1_ := zA (zae (g := gb1168) (o := .cells #[.slice A1_0 l1_0.length c1_0, .slice A1_1 l1_1.length c1_1] 40 (0, 0)) (zK BK1168) hb)
     have n2_ := zA (zaa (zB HB) hb)
     clear BK1168 HB
     have HO1171 := n0_
     have BK1168 := n1_
     have HB := n2_
     clear n0_ n1_ n2_
     (try clear hb)
     (try clear hb2)
     (try clear hk)
     (try clear hi)
     (try clear ho0)
     obtain ⟨Ao13, co13, eo13⟩ := Kd.zbp HO1171.out
     (first | subst eo13 | (injection eo13 with f1_ f2_ f3_; have f4_ := f1_.symm; have f5_ := f3_.symm; clear f1_ f2_ f3_; subst f4_; subst f5_))
     refine hK.out _ _ ⟨(zac BK1168.out 0).trans rfl, (zac BK1168.out 1).trans rfl⟩ (fun hHeld => ?_)
     clear hK K
     refine norm_ (a' := ?_) ?_ ?_
     rotate_left
     ·
      show Act.put _ (some 14) _ = _
      simp only [Act.put, zs1, zs2, zs3, i64_w, i32_w]
      rfl
     refine one_ (i := 9) (N := some 15) #[true, true, true, true, true, true, true, true, true, true, true, true, true, false, false, false, false, false] rfl rfl (zck HT_.out (by kernel_rfl)) (by decide) (fun K hK => ?_)
     refine goes_ Tryd.func56 (by kernel_rfl) rfl #[.slice A1_1 l1_1.length c1_1, .slice Ao13 t1169.length co13] (by rfl) rfl rfl (zE) ?_
     with_reducible refine (zaf.calls k1 _ _ l1_1 _ _ t1169 t1172 _ ?side1 ?side2 ?side3 ?side4 A6.out).mono ?_
     (case side1 => exact zJ (Kd.za4 HR1_1.out HB.out))
     (case side2 => exact HC1_1.out)
     (case side3 => exact zJ (Kd.zaz HO1171.out).2.2)
     (case side4 => exact (Kd.zaz HO1171.out).2.1)
     rintro e w14 ⟨v1173, rfl, ho0, hb⟩
     refine ⟨_, rfl, ?_⟩
     have n0_ := zA (Kd.zbs (zR HO1171) (Kd.zbi ho0) hb)
     have n1_ := zA (Kd.zbw (Kd.zca ho0 (Kd.R_lt (zR HO1171))) (za (zB HB)))
     have n2_ := zA (zae (g := gb1168) (o := .cells #[.slice A1_0 l1_0.length c1_0, .slice A1_1 l1_1.length c1_1] 40 (0, 0)) (zK BK1168) hb)
     have n3_ := zA (zaa (zB HB) hb)
     clear HO1171 BK1168 HB
     have HO1171 := n0_
     have HO1174 := n1_
     have BK1168 := n2_
     have HB := n3_
     clear n0_ n1_ n2_ n3_
     (try clear hb)
     (try clear hb2)
     (try clear hk)
     (try clear hi)
     (try clear ho0)
     refine hK.out _ _ ⟨(zac BK1168.out 0).trans rfl, (zac BK1168.out 1).trans rfl⟩ (fun hHeld => ?_)
     clear hK K
     refine norm_ (a' := ?_) ?_ ?_
     rotate_left
     ·
      show Act.put _ (some 15) _ = _
      simp only [Act.put, zs1, zs2, zs3, i64_w, i32_w]
      rfl
     refine one_ (i := 13) (N := some 19) #[true, true, true, true, true, true, true, true, true, true, true, true, true, true, false, false, false, false] rfl rfl (zck HT_.out (by kernel_rfl)) (by decide) (fun K hK => ?_)
     refine goes_ Tryd.func20 (by kernel_rfl) rfl #[.int .i64 a0] (by rfl) rfl rfl (zE) ?_
     with_reducible refine (zat.calls k1 a0 t1175 _ A7.out).mono ?_
     rintro e w15 ⟨v1176, rfl, ho0, hb⟩
     refine ⟨_, rfl, ?_⟩
     have n0_ := zA (Kd.zbs (zR HO1171) (Kd.zbi ho0) hb)
     have n1_ := zA (Kd.zbs (zR HO1174) (Kd.zbi ho0) hb)
     have n2_ := zA (Kd.zbw (Kd.zca (Kd.zca ho0 (Kd.R_lt (zR HO1171))) (Kd.R_lt (zR HO1174))) (za (zB HB)))
     have n3_ := zA (zae (g := gb1168) (o := .cells #[.slice A1_0 l1_0.length c1_0, .slice A1_1 l1_1.length c1_1] 40 (0, 0)) (zK BK1168) hb)
     have n4_ := zA (zaa (zB HB) hb)
     clear HO1171 HO1174 BK1168 HB
     have HO1171 := n0_
     have HO1174 := n1_
     have HO1177 := n2_
     have BK1168 := n3_
     have HB := n4_
     clear n0_ n1_ n2_ n3_ n4_
     (try clear hb)
     (try clear hb2)
     (try clear hk)
     (try clear hi)
     (try clear ho0)
     obtain ⟨Ao16, co16, eo16⟩ := Kd.zbp HO1177.out
     (first | subst eo16 | (injection eo16 with f1_ f2_ f3_; have f4_ := f1_.symm; have f5_ := f3_.symm; clear f1_ f2_ f3_; subst f4_; subst f5_))
     refine hK.out _ _ ⟨(zac BK1168.out 0).trans rfl, (zac BK1168.out 1).trans rfl⟩ (fun hHeld => ?_)
     clear hK K
     refine norm_ (a' := ?_) ?_ ?_
     rotate_left
     ·
      show Act.put _ (some 19) _ = _
      simp only [Act.put, zs1, zs2, zs3, i64_w, i32_w]
      rfl
     refine one_ (i := 14) (N := some 20) #[true, true, true, true, true, true, true, true, true, true, true, true, true, true, true, false, false, false] rfl rfl (zck HT_.out (by kernel_rfl)) (by decide) (fun K hK => ?_)
     refine goes_ Tryd.func56 (by kernel_rfl) rfl #[.slice A1_0 l1_0.length c1_0, .slice Ao16 t1175.length co16] (by rfl) rfl rfl (zE) ?_
     with_reducible refine (zaf.calls k1 _ _ l1_0 _ _ t1175 t1178 _ ?side1 ?side2 ?side3 ?side4 A8.out).mono ?_
     (case side1 => exact zJ (Kd.za4 HR1_0.out HB.out))
     (case side2 => exact HC1_0.out)
     (case side3 => exact zJ (Kd.zaz HO1177.out).2.2)
     (case side4 => exact (Kd.zaz HO1177.out).2.1)
     rintro e w17 ⟨v1179, rfl, ho0, hb⟩
     refine ⟨_, rfl, ?_⟩
     have n0_ := zA (Kd.zbs (zR HO1171) (Kd.zbi ho0) hb)
     have n1_ := zA (Kd.zbs (zR HO1174) (Kd.zbi ho0) hb)
     have n2_ := zA (Kd.zbs (zR HO1177) (Kd.zbi ho0) hb)
     have n3_ := zA (Kd.zbw (Kd.zca (Kd.zca (Kd.zca ho0 (Kd.R_lt (zR HO1171))) (Kd.R_lt (zR HO1174))) (Kd.R_lt (zR HO1177))) (za (zB HB)))
     have n4_ := zA (zae (g := gb1168) (o := .cells #[.slice A1_0 l1_0.length c1_0, .slice A1_1 l1_1.length c1_1] 40 (0, 0)) (zK BK1168) hb)
     have n5_ := zA (zaa (zB HB) hb)
     clear HO1171 HO1174 HO1177 BK1168 HB
     have HO1171 := n0_
     have HO1174 := n1_
     have HO1177 := n2_
     have HO1180 := n3_
     have BK1168 := n4_
     have HB := n5_
     clear n0_ n1_ n2_ n3_ n4_ n5_
     (try clear hb)
     (try clear hb2)
     (try clear hk)
     (try clear hi)
     (try clear ho0)
     obtain ⟨Ao18, co18, eo18⟩ := Kd.zbp HO1174.out
     (first | subst eo18 | (injection eo18 with f1_ f2_ f3_; have f4_ := f1_.symm; have f5_ := f3_.symm; clear f1_ f2_ f3_; subst f4_; subst f5_))
     obtain ⟨Ao19, co19, eo19⟩ := Kd.zbp HO1180.out
     (first | subst eo19 | (injection eo19 with f1_ f2_ f3_; have f4_ := f1_.symm; have f5_ := f3_.symm; clear f1_ f2_ f3_; subst f4_; subst f5_))
     refine hK.out _ _ ⟨(zac BK1168.out 0).trans rfl, (zac BK1168.out 1).trans rfl⟩ (fun hHeld => ?_)
     clear hK K
     refine norm_ (a' := ?_) ?_ ?_
     rotate_left
     ·
      show Act.put _ (some 20) _ = _
      simp only [Act.put, zs1, zs2, zs3, i64_w, i32_w]
      rfl
     refine one_ (i := 15) (N := some 21) #[true, true, true, true, true, true, true, true, true, true, true, true, true, true, true, true, false, false] rfl rfl (zck HT_.out (by kernel_rfl)) (by decide) (fun K hK => ?_)
     refine goes_ Tryd.func18 (by kernel_rfl) rfl #[.slice Ao18 t1172.length co18, .slice Ao19 t1178.length co19] (by rfl) rfl rfl (zE) ?_
     with_reducible refine (zax.calls k1 _ _ t1172 _ _ t1178 t1181 _ ?side1 ?side2 ?side3 ?side4 A9.out).mono ?_
     (case side1 => exact zJ (Kd.zaz HO1174.out).2.2)
     (case side2 => exact (Kd.zaz HO1174.out).2.1)
     (case side3 => exact zJ (Kd.zaz HO1180.out).2.2)
     (case side4 => exact (Kd.zaz HO1180.out).2.1)
     rintro e w' ⟨rfl, ⟨nd, rfl⟩⟩
     refine ⟨_, rfl, ?_⟩
     refine hK.out _ _ ⟨(zac BK1168.out 0).trans rfl, (zac BK1168.out 1).trans rfl⟩ (fun hHeld => ?_)
     clear hK K
     refine norm_ (a' := ?_) ?_ ?_
     rotate_left
     ·
      show Act.put _ (some 21) _ = _
      simp only [Act.put, zs1, zs2, zs3, i64_w, i32_w]
      rfl
     refine pure_ (i := 16) (N := some 22) (v := ?_) (a' := ?_) #[true, true, true, true, true, true, true, true, true, true, true, true, true, true, true, true, true, false] rfl rfl (za3 HT_.out (by kernel_rfl)) (fun _ _ _ h => h) (Or.inl ⟨by rfl, ?_⟩) ?_ ?_
     rotate_left
     ·
      intro w'
      go_simp
      with_reducible rfl
     rotate_left
     ·
      simp only [Act.put, zs1, zs2, zs3, i64_w, i32_w]
      rfl
     refine pure_ (i := 17) (N := some 23) (v := ?_) (a' := ?_) #[true, true, true, true, true, true, true, true, true, true, true, true, true, true, true, true, true, true] rfl rfl (za3 HT_.out (by kernel_rfl)) (fun _ _ _ h => h) (Or.inl ⟨by rfl, ?_⟩) ?_ ?_
     rotate_left
     ·
      intro w'
      go_simp
      with_reducible rfl
     rotate_left
     ·
      simp only [Act.put, zs1, zs2, zs3, i64_w, i32_w]
      rfl
     refine done_ (done_of HT_.out (by kernel_rfl)) ?_
     try go_wp2
     go_roundg k1
     case measure => have := HK1.out; omega
     case rel => exact ⟨(wrap64 (x5_1 + 1)), (zF), H', ⟨by have := HK1.out; omega⟩, ⟨zK BK1168⟩, ⟨zB HB⟩⟩
    ·
     rw [if_neg c10] at H
     have c10b0 : decide (t1181 ≤ 0) = false := decide_eq_false c10
     clear c10
     obtain rfl := Option.some.inj H
     try go_wp2
     have n0_ := zA (zak BK1168.out)
     have n1_ := zA (zbl HB.out)
     clear BK1168 HB
     have BK1168 := n0_
     have HB := n1_
     clear n0_ n1_
     refine start_ (n := 18) (S := fun w' => w'.cell? ⟨gb1168, 0, none⟩ = some (.slice A1_0 l1_0.length c1_0) ∧ w'.cell? ⟨gb1168, 1, none⟩ = some (.slice A1_1 l1_1.length c1_1)) (ds := []) #[false, false, false, false, false, false, false, false, false, false, false, false, false, false, false, false, false, false] (by kernel_rfl) rfl rfl ⟨(zac BK1168.out 0).trans rfl, (zac BK1168.out 1).trans rfl⟩ (fun hHeld => ?_); refine zcz zay.tab2 zay.bits2 (fun HT_ HW_ => ?_)
     generalize wr.drew = w20 at BK1168 HB hHeld ⊢
     refine pure_ (i := 0) (N := some 6) (v := ?_) (a' := ?_) #[true, false, false, false, false, false, false, false, false, false, false, false, false, false, false, false, false, false] rfl rfl (za3 HT_.out (by kernel_rfl)) (fun _ _ _ h => h) (Or.inl ⟨by rfl, ?_⟩) ?_ ?_
     rotate_left
     ·
      intro w'
      go_simp
      with_reducible rfl
     rotate_left
     ·
      simp only [Act.put, zs1, zs2, zs3, i64_w, i32_w]
      rfl
     refine pure_ (i := 1) (N := some 7) (v := ?_) (a' := ?_) #[true, true, false, false, false, false, false, false, false, false, false, false, false, false, false, false, false, false] rfl rfl (za3 HT_.out (by kernel_rfl)) (fun _ _ _ h => h) (Or.inl ⟨by rfl, ?_⟩) ?_ ?_
     rotate_left
     ·
      intro w'
      go_simp
      with_reducible rfl
     rotate_left
     ·
      simp only [Act.put, zs1, zs2, zs3, i64_w, i32_w]
      rfl
     refine pure_ (i := 2) (N := some 8) (v := ?_) (a' := ?_) #[true, true, true, false, false, false, false, false, false, false, false, false, false, false, false, false, false, false] rfl rfl (za3 HT_.out (by kernel_rfl)) (fun _ _ _ h => h) (Or.inl ⟨by rfl, ?_⟩) ?_ ?_
     rotate_left
     ·
      intro w'
      go_simp
      with_reducible rfl
     rotate_left
     ·
      simp only [Act.put, zs1, zs2, zs3, i64_w, i32_w]
      rfl
     refine pure_ (i := 3) (N := some 9) (v := ?_) (a' := ?_) #[true, true, true, true, false, false, false, false, false, false, false, false, false, false, false, false, false, false] rfl rfl (za3 HT_.out (by kernel_rfl)) (fun _ _ _ h => h) (Or.inl ⟨by rfl, ?_⟩) ?_ ?_
     rotate_left
     ·
      intro w'
      go_simp
      with_reducible rfl
     rotate_left
     ·
      simp only [Act.put, zs1, zs2, zs3, i64_w, i32_w]
      rfl
     refine pure_ (i := 4) (N := some 10) (v := ?_) (a' := ?_) #[true, true, true, true, true, false, false, false, false, false, false, false, false, false, false, false, false, false] rfl rfl (za3 HT_.out (by kernel_rfl)) (fun _ _ _ h => h) (Or.inl ⟨by rfl, ?_⟩) ?_ ?_
     rotate_left
     ·
      intro w'
      go_simp
      with_reducible rfl
     rotate_left
     ·
      simp only [Act.put, zs1, zs2, zs3, i64_w, i32_w]
      rfl
     refine pure_ (i := 6) (N := some 12) (v := ?_) (a' := ?_) #[true, true, true, true, true, false, true, false, false, false, false, false, false, false, false, false, false, false] rfl rfl (za3 HT_.out (by kernel_rfl)) (fun _ _ _ h => h) (Or.inl ⟨by rfl, ?_⟩) ?_ ?_
     rotate_left
     ·
      intro w'
      go_simp
      with_reducible rfl
     rotate_left
     ·
      simp only [Act.put, zs1, zs2, zs3, i64_w, i32_w]
      rfl
     refine pure_ (i := 7) (N := some 13) (v := ?_) (a' := ?_) #[true, true, true, true, true, false, true, true, false, false, false, false, false, false, false, false, false, false] rfl rfl (za3 HT_.out (by kernel_rfl)) (fun _ _ _ h => h) (Or.inl ⟨by rfl, ?_⟩) ?_ ?_
     rotate_left
     ·
      intro w'
      go_simp
      with_reducible rfl
     rotate_left
     ·
      simp only [Act.put, zs1, zs2, zs3, i64_w, i32_w]
      rfl
     refine pure_ (i := 10) (N := some 16) (v := ?_) (a' := ?_) #[true, true, true, true, true, false, true, true, false, false, true, false, false, false, false, false, false, false] rfl rfl (za3 HT_.out (by kernel_rfl)) (fun _ _ _ h => h) (Or.inl ⟨by rfl, ?_⟩) ?_ ?_
     rotate_left
     ·
      intro w'
      go_simp
      with_reducible rfl
     rotate_left
     ·
      simp only [Act.put, zs1, zs2, zs3, i64_w, i32_w]
      rfl
     refine pure_ (i := 12) (N := some 18) (v := ?_) (a' := ?_) #[true, true, true, true, true, false, true, true, false, false, true, false, true, false, false, false, false, false] rfl rfl (za3 HT_.out (by kernel_rfl)) (fun _ _ _ h => h) (Or.inl ⟨by rfl, ?_⟩) ?_ ?_
     rotate_left
     ·
      intro w'
      go_simp
      with_reducible rfl
     rotate_left
     ·
      simp only [Act.put, zs1, zs2, zs3, i64_w, i32_w]
      rfl
     refine take_ (i := 5) (N := some 11) (v := ?_) (a' := ?_) #[true, true, true, true, true, true, true, true, false, false, true, false, true, false, false, false, false, false] rfl rfl (zch HT_.out HW_.out (by kernel_rfl)) (fun _ _ _ h => h) (Or.inl ⟨by rfl, ?_⟩) hHeld ?_ ?_
     rotate_left
     ·
      rintro w' ⟨s0, s1⟩
      go_simp
      with_reducible rfl
     rotate_left
     ·
      simp only [Act.put, zs1, zs2, zs3, i64_w, i32_w]
      rfl
     refine take_ (i := 11) (N := some 17) (v := ?_) (a' := ?_) #[true, true, true, true, true, true, true, true, false, false, true, true, true, false, false, false, false, false] rfl rfl (zch HT_.out HW_.out (by kernel_rfl)) (fun _ _ _ h => h) (Or.inl ⟨by rfl, ?_⟩) hHeld ?_ ?_
     rotate_left
     ·
      rintro w' ⟨s0, s1⟩
      go_simp
      with_reducible rfl
     rotate_left
     ·
      simp only [Act.put, zs1, zs2, zs3, i64_w, i32_w]
      rfl
     refine one_ (i := 8) (N := some 14) #[true, true, true, true, true, true, true, true, true, false, true, true, true, false, false, false, false, false] rfl rfl (zck HT_.out (by kernel_rfl)) (by decide) (fun K hK => ?_)
     refine goes_ Tryd.func20 (by kernel_rfl) rfl #[.int .i64 (wrap64 (x5_1 + 1))] (by rfl) rfl rfl (zE) ?_
     with_reducible refine (zat.calls k1 (wrap64 (x5_1 + 1)) t1169 _ A5.out).mono ?_
     rintro e w21 ⟨v1170, rfl, ho0, hb⟩
     refine ⟨_, rfl, ?_⟩
     have n0_ := zA (Kd.zbw ho0 (za (zB HB)))
     have n1_ := zA (zae (g := gb1168) (o := .cells #[.slice A1_0 l1_0.length c1_0, .slice A1_1 l1_1.length c1_1] 40 (0, 0)) (zK BK1168) hb)
     have n2_ := zA (zaa (zB HB) hb)
     clear BK1168 HB
     have HO1171 := n0_
     have BK1168 := n1_
     have HB := n2_
     clear n0_ n1_ n2_
     (try clear hb)
     (try clear hb2)
     (try clear hk)
     (try clear hi)
     (try clear ho0)
     obtain ⟨Ao22, co22, eo22⟩ := Kd.zbp HO1171.out
     (first | subst eo22 | (injection eo22 with f1_ f2_ f3_; have f4_ := f1_.symm; have f5_ := f3_.symm; clear f1_ f2_ f3_; subst f4_; subst f5_))
     refine hK.out _ _ ⟨(zac BK1168.out 0).trans rfl, (zac BK1168.out 1).trans rfl⟩ (fun hHeld => ?_)
     clear hK K
     refine norm_ (a' := ?_) ?_ ?_
     rotate_left
     ·
      show Act.put _ (some 14) _ = _
      simp only [Act.put, zs1, zs2, zs3, i64_w, i32_w]
      rfl
     refine one_ (i := 9) (N := some 15) #[true, true, true, true, true, true, true, true, true, true, true, true, true, false, false, false, false, false] rfl rfl (zck HT_.out (by kernel_rfl)) (by decide) (fun K hK => ?_)
     refine goes_ Tryd.func56 (by kernel_rfl) rfl #[.slice A1_1 l1_1.length c1_1, .slice Ao22 t1169.length co22] (by rfl) rfl rfl (zE) ?_
     with_reducible refine (zaf.calls k1 _ _ l1_1 _ _ t1169 t1172 _ ?side1 ?side2 ?side3 ?side4 A6.out).mono ?_
     (case side1 => exact zJ (Kd.za4 HR1_1.out HB.out))
     (case side2 => exact HC1_1.out)
     (case side3 => exact zJ (Kd.zaz HO1171.out).2.2)
     (case side4 => exact (Kd.zaz HO1171.out).2.1)
     rintro e w23 ⟨v1173, rfl, ho0, hb⟩
     refine ⟨_, rfl, ?_⟩
     have n0_ := zA (Kd.zbs (zR HO1171) (Kd.zbi ho0) hb)
     have n1_ := zA (Kd.zbw (Kd.zca ho0 (Kd.R_lt (zR HO1171))) (za (zB HB)))
     have n2_ := zA (zae (g := gb1168) (o := .cells #[.slice A1_0 l1_0.length c1_0, .slice A1_1 l1_1.length c1_1] 40 (0, 0)) (zK BK1168) hb)
     have n3_ := zA (zaa (zB HB) hb)
     clear HO1171 BK1168 HB
     have HO1171 := n0_
     have HO1174 := n1_
     have BK1168 := n2_
     have HB := n3_
     clear n0_ n1_ n2_ n3_
     (try clear hb)
     (try clear hb2)
     (try clear hk)
     (try clear hi)
     (try clear ho0)
     refine hK.out _ _ ⟨(zac BK1168.out 0).trans rfl, (zac BK1168.out 1).trans rfl⟩ (fun hHeld => ?_)
     clear hK K
     refine norm_ (a' := ?_) ?_ ?_
     rotate_left
     ·
      show Act.put _ (some 15) _ = _
      simp only [Act.put, zs1, zs2, zs3, i64_w, i32_w]
      rfl
     refine one_ (i := 13) (N := some 19) #[true, true, true, true, true, true, true, true, true, true, true, true, true, true, false, false, false, false] rfl rfl (zck HT_.out (by kernel_rfl)) (by decide) (fun K hK => ?_)
     refine goes_ Tryd.func20 (by kernel_rfl) rfl #[.int .i64 a0] (by rfl) rfl rfl (zE) ?_
     with_reducible refine (zat.calls k1 a0 t1175 _ A7.out).mono ?_
     rintro e w24 ⟨v1176, rfl, ho0, hb⟩
     refine ⟨_, rfl, ?_⟩
     have n0_ := zA (Kd.zbs (zR HO1171) (Kd.zbi ho0) hb)
     have n1_ := zA (Kd.zbs (zR HO1174) (Kd.zbi ho0) hb)
     have n2_ := zA (Kd.zbw (Kd.zca (Kd.zca ho0 (Kd.R_lt (zR HO1171))) (Kd.R_lt (zR HO1174))) (za (zB HB)))
     have n3_ := zA (zae (g := gb1168) (o := .cells #[.slice A1_0 l1_0.length c1_0, .slice A1_1 l1_1.length c1_1] 40 (0, 0)) (zK BK1168) hb)
     have n4_ := zA (zaa (zB HB) hb)
     clear HO1171 HO1174 BK1168 HB
     have HO1171 := n0_
     have HO1174 := n1_
     have HO1177 := n2_
     have BK1168 := n3_
     have HB := n4_
     clear n0_ n1_ n2_ n3_ n4_
     (try clear hb)
     (try clear hb2)
     (try clear hk)
     (try clear hi)
     (try clear ho0)
     obtain ⟨Ao25, co25, eo25⟩ := Kd.zbp HO1177.out
     (first | subst eo25 | (injection eo25 with f1_ f2_ f3_; have f4_ := f1_.symm; have f5_ := f3_.symm; clear f1_ f2_ f3_; subst f4_; subst f5_))
     refine hK.out _ _ ⟨(zac BK1168.out 0).trans rfl, (zac BK1168.out 1).trans rfl⟩ (fun hHeld => ?_)
     clear hK K
     refine norm_ (a' := ?_) ?_ ?_
     rotate_left
     ·
      show Act.put _ (some 19) _ = _
      simp only [Act.put, zs1, zs2, zs3, i64_w, i32_w]
      rfl
     refine one_ (i := 14) (N := some 20) #[true, true, true, true, true, true, true, true, true, true, true, true, true, true, true, false, false, false] rfl rfl (zck HT_.out (by kernel_rfl)) (by decide) (fun K hK => ?_)
     refine goes_ Tryd.func56 (by kernel_rfl) rfl #[.slice A1_0 l1_0.length c1_0, .slice Ao25 t1175.length co25] (by rfl) rfl rfl (zE) ?_
     with_reducible refine (zaf.calls k1 _ _ l1_0 _ _ t1175 t1178 _ ?side1 ?side2 ?side3 ?side4 A8.out).mono ?_
     (case side1 => exact zJ (Kd.za4 HR1_0.out HB.out))
     (case side2 => exact HC1_0.out)
     (case side3 => exact zJ (Kd.zaz HO1177.out).2.2)
     (case side4 => exact (Kd.zaz HO1177.out).2.1)
     rintro e w26 ⟨v1179, rfl, ho0, hb⟩
     refine ⟨_, rfl, ?_⟩
     have n0_ := zA (Kd.zbs (zR HO1171) (Kd.zbi ho0) hb)
     have n1_ := zA (Kd.zbs (zR HO1174) (Kd.zbi ho0) hb)
     have n2_ := zA (Kd.zbs (zR HO1177) (Kd.zbi ho0) hb)
     have n3_ := zA (Kd.zbw (Kd.zca (Kd.zca (Kd.zca ho0 (Kd.R_lt (zR HO1171))) (Kd.R_lt (zR HO1174))) (Kd.R_lt (zR HO1177))) (za (zB HB)))
     have n4_ := zA (zae (g := gb1168) (o := .cells #[.slice A1_0 l1_0.length c1_0, .slice A1_1 l1_1.length c1_1] 40 (0, 0)) (zK BK1168) hb)
     have n5_ := zA (zaa (zB HB) hb)
     clear HO1171 HO1174 HO1177 BK1168 HB
     have HO1171 := n0_
     have HO1174 := n1_
     have HO1177 := n2_
     have HO1180 := n3_
     have BK1168 := n4_
     have HB := n5_
     clear n0_ n1_ n2_ n3_ n4_ n5_
     (try clear hb)
     (try clear hb2)
     (try clear hk)
     (try clear hi)
     (try clear ho0)
     obtain ⟨Ao27, co27, eo27⟩ := Kd.zbp HO1174.out
     (first | subst eo27 | (injection eo27 with f1_ f2_ f3_; have f4_ := f1_.symm; have f5_ := f3_.symm; clear f1_ f2_ f3_; subst f4_; subst f5_))
     obtain ⟨Ao28, co28, eo28⟩ := Kd.zbp HO1180.out
     (first | subst eo28 | (injection eo28 with f1_ f2_ f3_; have f4_ := f1_.symm; have f5_ := f3_.symm; clear f1_ f2_ f3_; subst f4_; subst f5_))
     refine hK.out _ _ ⟨(zac BK1168.out 0).trans rfl, (zac BK1168.out 1).trans rfl⟩ (fun hHeld => ?_)
     clear hK K
     refine norm_ (a' := ?_) ?_ ?_
     rotate_left
     ·
      show Act.put _ (some 20) _ = _
      simp only [Act.put, zs1, zs2, zs3, i64_w, i32_w]
      rfl
     refine one_ (i := 15) (N := some 21) #[true, true, true, true, true, true, true, true, true, true, true, true, true, true, true, true, false, false] rfl rfl (zck HT_.out (by kernel_rfl)) (by decide) (fun K hK => ?_)
     refine goes_ Tryd.func18 (by kernel_rfl) rfl #[.slice Ao27 t1172.length co27, .slice Ao28 t1178.length co28] (by rfl) rfl rfl (zE) ?_
     with_reducible refine (zax.calls k1 _ _ t1172 _ _ t1178 t1181 _ ?side1 ?side2 ?side3 ?side4 A9.out).mono ?_
     (case side1 => exact zJ (Kd.zaz HO1174.out).2.2)
     (case side2 => exact (Kd.zaz HO1174.out).2.1)
     (case side3 => exact zJ (Kd.zaz HO1180.out).2.2)
     (case side4 => exact (Kd.zaz HO1180.out).2.1)
     rintro e w' ⟨rfl, ⟨nd, rfl⟩⟩
     refine ⟨_, rfl, ?_⟩
     refine hK.out _ _ ⟨(zac BK1168.out 0).trans rfl, (zac BK1168.out 1).trans rfl⟩ (fun hHeld => ?_)
     clear hK K
     refine norm_ (a' := ?_) ?_ ?_
     rotate_left
     ·
      show Act.put _ (some 21) _ = _
      simp only [Act.put, zs1, zs2, zs3, i64_w, i32_w]
      rfl
     refine pure_ (i := 16) (N := some 22) (v := ?_) (a' := ?_) #[true, true, true, true, true, true, true, true, true, true, true, true, true, true, true, true, true, false] rfl rfl (za3 HT_.out (by kernel_rfl)) (fun _ _ _ h => h) (Or.inl ⟨by rfl, ?_⟩) ?_ ?_
     rotate_left
     ·
      intro w'
      go_simp
      with_reducible rfl
     rotate_left
     ·
      simp only [Act.put, zs1, zs2, zs3, i64_w, i32_w]
      rfl
     refine pure_ (i := 17) (N := some 23) (v := ?_) (a' := ?_) #[true, true, true, true, true, true, true, true, true, true, true, true, true, true, true, true, true, true] rfl rfl (za3 HT_.out (by kernel_rfl)) (fun _ _ _ h => h) (Or.inl ⟨by rfl, ?_⟩) ?_ ?_
     rotate_left
     ·
      intro w'
      go_simp
      with_reducible rfl
     rotate_left
     ·
      simp only [Act.put, zs1, zs2, zs3, i64_w, i32_w]
      rfl
     refine done_ (done_of HT_.out (by kernel_rfl)) ?_
     try go_wp2
     go_ret
     exact ⟨zW, zB HB⟩
   ·
    rw [if_neg c4] at H
    have c4b0 : decide (x5_1 < a0) = false := decide_eq_false c4
    clear c4
    obtain rfl := Option.some.inj H
    try go_wp2
    have n0_ := zA (zak BK1168.out)
    have n1_ := zA (zbl HB.out)
    clear BK1168 HB
    have BK1168 := n0_
    have HB := n1_
    clear n0_ n1_
    refine start_ (n := 18) (S := fun w' => True) (ds := []) #[false, false, false, false, false, false, false, false, false, false, false, false, false, false, false, false, false, false] (by kernel_rfl) rfl rfl trivial (fun hHeld => ?_); refine zcz zay.tab2 zay.bits2 (fun HT_ HW_ => ?_)
    generalize wr.drew = w29 at BK1168 HB hHeld ⊢
    refine pure_ (i := 0) (N := some 6) (v := ?_) (a' := ?_) #[true, false, false, false, false, false, false, false, false, false, false, false, false, false, false, false, false, false] rfl rfl (za3 HT_.out (by kernel_rfl)) (fun _ _ _ h => h) (Or.inl ⟨by rfl, ?_⟩) ?_ ?_
    rotate_left
    ·
     intro w'
     go_simp
     with_reducible rfl
    rotate_left
    ·
     simp only [Act.put, zs1, zs2, zs3, i64_w, i32_w]
     rfl
    refine pure_ (i := 1) (N := some 7) (v := ?_) (a' := ?_) #[true, true, false, false, false, false, false, false, false, false, false, false, false, false, false, false, false, false] rfl rfl (za3 HT_.out (by kernel_rfl)) (fun _ _ _ h => h) (Or.inl ⟨by rfl, ?_⟩) ?_ ?_
    rotate_left
    ·
     intro w'
     go_simp
     with_reducible rfl
    rotate_left
    ·
     simp only [Act.put, zs1, zs2, zs3, i64_w, i32_w]
     rfl
    refine pure_ (i := 2) (N := some 8) (v := ?_) (a' := ?_) #[true, true, true, false, false, false, false, false, false, false, false, false, false, false, false, false, false, false] rfl rfl (za3 HT_.out (by kernel_rfl)) (fun _ _ _ h => h) (Or.inl ⟨by rfl, ?_⟩) ?_ ?_
    rotate_left
    ·
     intro w'
     go_simp
     with_reducible rfl
    rotate_left
    ·
     simp only [Act.put, zs1, zs2, zs3, i64_w, i32_w]
     rfl
    refine pure_ (i := 3) (N := some 9) (v := ?_) (a' := ?_) #[true, true, true, true, false, false, false, false, false, false, false, false, false, false, false, false, false, false] rfl rfl (za3 HT_.out (by kernel_rfl)) (fun _ _ _ h => h) (Or.inl ⟨by rfl, ?_⟩) ?_ ?_
    rotate_left
    ·
     intro w'
     go_simp
     with_reducible rfl
    rotate_left
    ·
     simp only [Act.put, zs1, zs2, zs3, i64_w, i32_w]
     rfl
    refine pure_ (i := 4) (N := some 10) (v := undef) (a' := ?_) #[true, true, true, true, true, false, false, false, false, false, false, false, false, false, false, false, false, false] rfl rfl (za3 HT_.out (by kernel_rfl)) (fun _ _ _ h => h) (Or.inr ⟨by rfl, rfl⟩) ?_ ?_
    rotate_left
    ·
     simp only [Act.put, zs1, zs2, zs3, i64_w, i32_w]
     rfl
    refine pure_ (i := 5) (N := some 11) (v := undef) (a' := ?_) #[true, true, true, true, true, true, false, false, false, false, false, false, false, false, false, false, false, false] rfl rfl (za3 HT_.out (by kernel_rfl)) (fun _ _ _ h => h) (Or.inr ⟨by rfl, rfl⟩) ?_ ?_
    rotate_left
    ·
     simp only [Act.put, zs1, zs2, zs3, i64_w, i32_w]
     rfl
    refine pure_ (i := 6) (N := some 12) (v := undef) (a' := ?_) #[true, true, true, true, true, true, true, false, false, false, false, false, false, false, false, false, false, false] rfl rfl (za3 HT_.out (by kernel_rfl)) (fun _ _ _ h => h) (Or.inr ⟨by rfl, rfl⟩) ?_ ?_
    rotate_left
    ·
     simp only [Act.put, zs1, zs2, zs3, i64_w, i32_w]
     rfl
    refine pure_ (i := 7) (N := some 13) (v := undef) (a' := ?_) #[true, true, true, true, true, true, true, true, false, false, false, false, false, false, false, false, false, false] rfl rfl (za3 HT_.out (by kernel_rfl)) (fun _ _ _ h => h) (Or.inr ⟨by rfl, rfl⟩) ?_ ?_
    rotate_left
    ·
     simp only [Act.put, zs1, zs2, zs3, i64_w, i32_w]
     rfl
    refine pure_ (i := 8) (N := some 14) (v := undef) (a' := ?_) #[true, true, true, true, true, true, true, true, true, false, false, false, false, false, false, false, false, false] rfl rfl (za3 HT_.out (by kernel_rfl)) (fun _ _ _ h => h) (Or.inr ⟨by rfl, rfl⟩) ?_ ?_
    rotate_left
    ·
     simp only [Act.put, zs1, zs2, zs3, i64_w, i32_w]
     rfl
    refine pure_ (i := 9) (N := some 15) (v := undef) (a' := ?_) #[true, true, true, true, true, true, true, true, true, true, false, false, false, false, false, false, false, false] rfl rfl (za3 HT_.out (by kernel_rfl)) (fun _ _ _ h => h) (Or.inr ⟨by rfl, rfl⟩) ?_ ?_
    rotate_left
    ·
     simp only [Act.put, zs1, zs2, zs3, i64_w, i32_w]
     rfl
    refine pure_ (i := 10) (N := some 16) (v := undef) (a' := ?_) #[true, true, true, true, true, true, true, true, true, true, true, false, false, false, false, false, false, false] rfl rfl (za3 HT_.out (by kernel_rfl)) (fun _ _ _ h => h) (Or.inr ⟨by rfl, rfl⟩) ?_ ?_
    rotate_left
    ·
     simp only [Act.put, zs1, zs2, zs3, i64_w, i32_w]
     rfl
    refine pure_ (i := 11) (N := some 17) (v := undef) (a' := ?_) #[true, true, true, true, true, true, true, true, true, true, true, true, false, false, false, false, false, false] rfl rfl (za3 HT_.out (by kernel_rfl)) (fun _ _ _ h => h) (Or.inr ⟨by rfl, rfl⟩) ?_ ?_
    rotate_left
    ·
     simp only [Act.put, zs1, zs2, zs3, i64_w, i32_w]
     rfl
    refine pure_ (i := 12) (N := some 18) (v := undef) (a' := ?_) #[true, true, true, true, true, true, true, true, true, true, true, true, true, false, false, false, false, false] rfl rfl (za3 HT_.out (by kernel_rfl)) (fun _ _ _ h => h) (Or.inr ⟨by rfl, rfl⟩) ?_ ?_
    rotate_left
    ·
     simp only [Act.put, zs1, zs2, zs3, i64_w, i32_w]
     rfl
    refine pure_ (i := 13) (N := some 19) (v := undef) (a' := ?_) #[true, true, true, true, true, true, true, true, true, true, true, true, true, true, false, false, false, false] rfl rfl (za3 HT_.out (by kernel_rfl)) (fun _ _ _ h => h) (Or.inr ⟨by rfl, rfl⟩) ?_ ?_
    rotate_left
    ·
     simp only [Act.put, zs1, zs2, zs3, i64_w, i32_w]
     rfl
    refine pure_ (i := 14) (N := some 20) (v := undef) (a' := ?_) #[true, true, true, true, true, true, true, true, true, true, true, true, true, true, true, false, false, false] rfl rfl (za3 HT_.out (by kernel_rfl)) (fun _ _ _ h => h) (Or.inr ⟨by rfl, rfl⟩) ?_ ?_
    rotate_left
    ·
     simp only [Act.put, zs1, zs2, zs3, i64_w, i32_w]
     rfl
    refine pure_ (i := 15) (N := some 21) (v := undef) (a' := ?_) #[true, true, true, true, true, true, true, true, true, true, true, true, true, true, true, true, false, false] rfl rfl (za3 HT_.out (by kernel_rfl)) (fun _ _ _ h => h) (Or.inr ⟨by rfl, rfl⟩) ?_ ?_
    rotate_left
    ·
     simp only [Act.put, zs1, zs2, zs3, i64_w, i32_w]
     rfl
    refine pure_ (i := 16) (N := some 22) (v := undef) (a' := ?_) #[true, true, true, true, true, true, true, true, true, true, true, true, true, true, true, true, true, false] rfl rfl (za3 HT_.out (by kernel_rfl)) (fun _ _ _ h => h) (Or.inr ⟨by rfl, rfl⟩) ?_ ?_
    rotate_left
    ·
     simp only [Act.put, zs1, zs2, zs3, i64_w, i32_w]
     rfl
    refine pure_ (i := 17) (N := some 23) (v := ?_) (a' := ?_) #[true, true, true, true, true, true, true, true, true, true, true, true, true, true, true, true, true, true] rfl rfl (za3 HT_.out (by kernel_rfl)) (fun _ _ _ h => h) (Or.inl ⟨by rfl, ?_⟩) ?_ ?_
    rotate_left
    ·
     intro w'
     go_simp
     with_reducible rfl
    rotate_left
    ·
     simp only [Act.put, zs1, zs2, zs3, i64_w, i32_w]
     rfl
    refine done_ (done_of HT_.out (by kernel_rfl)) ?_
    try go_wp2
    go_ret
    exact ⟨zW, zB HB⟩
def za1.j0 : Nat → Int → Bool → List Int → List Int → List Int → List Int → Option (Bool)
 | 0, _, _, _, _, _, _ => none
 | k + 1, x0, x24, x1196000, x1196001, x1197000, x1197001 => if x24 = true then ((zbb.f k).bind fun t1198 => (some t1198)) else ((zb4.f k x0 x1196000 x1196001).bind fun bt1199 => (if x0 < 1 then (if bt1199.1 = 0 then (some (bt1199.2 == 14)) else (none)) else (if x0 > 1000 then (if bt1199.1 = 0 then (some (bt1199.2 == 14)) else (none)) else (if bt1199.2 = 0 then ((zay.f k x0 x1197000 x1197001).bind fun t1201 => (some (bt1199.1 == t1201))) else (none)))))
def za1.f (k : Nat) (a0 : Int) (a1 : Int) (a2 : Int) : Option (Bool) := (zau.f k a1 a2).bind fun bt1182 => ((zbb.f k).bind fun t1197 => (if t1197 = true then (za1.j0 k a0 (!bt1182.2.2.2.2) bt1182.1 bt1182.2.1 bt1182.2.2.1 bt1182.2.2.2.1) else (za1.j0 k a0 true bt1182.1 bt1182.2.1 bt1182.2.2.1 bt1182.2.2.2.1)))
theorem za1.calls (k : Nat) (a0 : Int) (a1 : Int) (a2 : Int) (r : Bool) (w : World) (hG : Glob w) (h : za1.f k a0 a1 a2 = some r) :
  Calls Tryd.prog 10 #[.int .i64 a0, .int .i64 a1, .int .i64 a2] w fun e w' => e = .returned (.bool r) ∧ Below w.heap.size w w' := by
 have hu28 := Tryd.underlying28
 have hu40 := Tryd.underlying40
 have HG := zA hG
 clear hG
 have HB := zA (Below.refl w.heap.size w)
 have H : ((zau.f k a1 a2).bind fun bt1182 => ((zbb.f k).bind fun t1197 => (if t1197 = true then (za1.j0 k a0 (!bt1182.2.2.2.2) bt1182.1 bt1182.2.1 bt1182.2.2.1 bt1182.2.2.2.1) else (za1.j0 k a0 true bt1182.1 bt1182.2.1 bt1182.2.2.1 bt1182.2.2.2.1)))) = some r := h
 clear h
 replace H := zO H
 obtain ⟨⟨t1182, t1185, t1188, t1191, t1194⟩, A40, H⟩ := H
 try dsimp only at H
 have A4 := zA A40
 clear A40
 have HC5 := zA H
 clear H
 go_enter Tryd.func10, Tryd.ntmps10
 go_upto_region 2 with (first | ((with_reducible refine zad (f := 44) rfl ?_); refine za0 (some 15) rfl rfl Tryd.func44 (by kernel_rfl) rfl #[.int .i64 a1, .int .i64 a2] rfl (zE) ?_; (with_reducible refine (zau.calls k a1 a2 t1182 t1185 t1188 t1191 t1194 _ A4.out).mono ?_); rintro e w6 ⟨v1183, v1186, v1189, v1192, rfl, ho0, ho1, ho2, ho3, hb⟩; refine ⟨_, rfl, ?_⟩; have n0_ := zA (Kd.zba (Kd.zao (ok' := fun k_ => some k_ ≠ (v1189 : Value).ownBlock ∧ some k_ ≠ (v1192 : Value).ownBlock) ho0 (fun k_ hk_ => ⟨hk_.2.1, hk_.2.2⟩)) (za (zB HB))); have n1_ := zA (Kd.zba (Kd.zao (ok' := fun k_ => some k_ ≠ (v1189 : Value).ownBlock ∧ some k_ ≠ (v1192 : Value).ownBlock) ho1 (fun k_ hk_ => ⟨hk_.2.1, hk_.2.2⟩)) (za (zB HB))); have n2_ := zA (Kd.zbw (Kd.zbn (ok' := fun k_ => some k_ ≠ (v1192 : Value).ownBlock) ho2 (fun _ hk_ => hk_.2)) (za (zB HB))); have n3_ := zA (Kd.zbw (Kd.zbn (ok' := fun k_ => some k_ ≠ (v1189 : Value).ownBlock) ho3 (fun _ hk_ => hk_.2)) (za (zB HB))); have n4_ := zA (zaa (zB HB) hb); clear HB; have HO1184 := n0_; have HO1187 := n1_; have HO1190 := n2_; have HO1193 := n3_; have HB := n4_; clear n0_ n1_ n2_ n3_ n4_; (try clear hb); (try clear hb2); (try clear hk); (try clear hi); (try clear ho0); (try clear ho1); (try clear ho2); (try clear ho3)) | ((with_reducible refine zbe (N := 7) rfl ?_); refine zbj ?hg (N := 7) ?hd (cs := #[.slice none 0 0, .slice none 0 0]) (t := 28) ?hr ?_; (case hd => rfl); (case hg => rfl); (case hr => first | (go_simp; done) | (go_simp; rfl)); intro gb1195 hg w7 hbox hb; have n0_ := zA (Kd.zav (Kd.zct (zV HO1184) gb1195 (Nat.le_of_eq hg.symm)) hb); have n1_ := zA (Kd.zav (Kd.zct (zV HO1187) gb1195 (Nat.le_of_eq hg.symm)) hb); have n2_ := zA (Kd.zbo (zR HO1190) hb); have n3_ := zA (Kd.zbo (zR HO1193) hb); have n4_ := zA (zaa (zB HB) hb); have n5_ := zA (hbox); have n6_ := zA ((by rw [hg]; exact (za (zB HB)) : w.heap.size ≤ gb1195)); have n7_ := zA ((by rw [hg]; exact (za (zB HB)) : w.heap.size ≤ gb1195)); clear HO1184 HO1187 HO1190 HO1193 HB; have HO1184 := n0_; have HO1187 := n1_; have HO1190 := n2_; have HO1193 := n3_; have HB := n4_; have BK1195 := n5_; have GW1195 := n6_; have GE1195 := n7_; clear n0_ n1_ n2_ n3_ n4_ n5_ n6_ n7_ hb hbox hg) | ((with_reducible refine zbe (N := 8) rfl ?_); refine zbj ?hg (N := 8) ?hd (cs := #[.slice none 0 0, .slice none 0 0]) (t := 40) ?hr ?_; (case hd => rfl); (case hg => rfl); (case hr => first | (go_simp; done) | (go_simp; rfl)); intro gb1196 hg w8 hbox hb; have n0_ := zA (Kd.zav (Kd.zct (zV HO1184) gb1196 (Nat.le_of_eq hg.symm)) hb); have n1_ := zA (Kd.zav (Kd.zct (zV HO1187) gb1196 (Nat.le_of_eq hg.symm)) hb); have n2_ := zA (Kd.zbo (zR HO1190) hb); have n3_ := zA (Kd.zbo (zR HO1193) hb); have n4_ := zA (zae (g := gb1195) (o := .cells #[.slice none 0 0, .slice none 0 0] 28 (0, 0)) (zK BK1195) hb); have n5_ := zA (zaa (zB HB) hb); have n6_ := zA (hbox); have n7_ := zA ((by rw [hg]; exact (za (zB HB)) : w.heap.size ≤ gb1196)); have n8_ := zA ((by rw [hg]; exact (za (zB HB)) : w.heap.size ≤ gb1196)); have n9_ := zA ((by rw [hg]; exact Nat.ne_of_lt (zcl (g := gb1195) (o := .cells #[.slice none 0 0, .slice none 0 0] 28 (0, 0)) (zK BK1195)) : gb1195 ≠ gb1196)); have n10_ := zA ((by rw [hg]; exact Nat.ne_of_gt (zcl (g := gb1195) (o := .cells #[.slice none 0 0, .slice none 0 0] 28 (0, 0)) (zK BK1195)) : gb1196 ≠ gb1195)); clear HO1184 HO1187 HO1190 HO1193 BK1195 HB; have HO1184 := n0_; have HO1187 := n1_; have HO1190 := n2_; have HO1193 := n3_; have BK1195 := n4_; have HB := n5_; have BK1196 := n6_; have GW1196 := n7_; have GE1196 := n8_; have NB1195_1196 := n9_; have NB1196_1195 := n10_; clear n0_ n1_ n2_ n3_ n4_ n5_ n6_ n7_ n8_ n9_ n10_ hb hbox hg; obtain ⟨Ao9, co9, eo9⟩ := Kd.za9 HO1184.out; subst eo9; have hnb10 := NB1195_1196.out; have hnc10 := NB1196_1195.out; have hcz11_0 : w8.cell? ⟨gb1195, 0, none⟩ = some (.slice none 0 0) := (zac BK1195.out 0).trans rfl; have hcz11_1 : w8.cell? ⟨gb1195, 1, none⟩ = some (.slice none 0 0) := (zac BK1195.out 1).trans rfl; have hfz11_0 := zan BK1195.out 0; have hfz11_1 := zan BK1195.out 1; obtain ⟨Ao12, co12, eo12⟩ := Kd.za9 HO1187.out; subst eo12; obtain ⟨Ao13, co13, eo13⟩ := Kd.zbp HO1190.out; subst eo13; have hcz14_0 : w8.cell? ⟨gb1196, 0, none⟩ = some (.slice none 0 0) := (zac BK1196.out 0).trans rfl; have hcz14_1 : w8.cell? ⟨gb1196, 1, none⟩ = some (.slice none 0 0) := (zac BK1196.out 1).trans rfl; have hfz14_0 := zan BK1196.out 0; have hfz14_1 := zan BK1196.out 1; obtain ⟨Ao15, co15, eo15⟩ := Kd.zbp HO1193.out; subst eo15))
 (try simp only [Act.put, zs1, zs2, zs3])
 go_cut [24] (fun v24 wc => ∃ (kq : Nat) (x24_4 : Bool), v24 = .bool x24_4 ∧ Aside0 (za1.j0 kq a0 x24_4 t1182 t1185 t1188 t1191 = some r) ∧ Aside0 (kq ≤ k) ∧ Aside0 (Kd.V (Kd.int .u64) 57 wc w.heap.size (fun k_ => some k_ ≠ ((.slice Ao13 t1188.length co13) : Value).ownBlock ∧ some k_ ≠ ((.slice Ao15 t1191.length co15) : Value).ownBlock ∧ k_ ≠ gb1195 ∧ k_ ≠ gb1196) (.slice Ao9 t1182.length co9) t1182) ∧ Aside0 (Kd.V (Kd.int .u64) 57 wc w.heap.size (fun k_ => some k_ ≠ ((.slice Ao13 t1188.length co13) : Value).ownBlock ∧ some k_ ≠ ((.slice Ao15 t1191.length co15) : Value).ownBlock ∧ k_ ≠ gb1195 ∧ k_ ≠ gb1196) (.slice Ao12 t1185.length co12) t1185) ∧ Aside0 (Kd.R (Kd.int .i64) 3 wc w.heap.size (fun k_ => some k_ ≠ ((.slice Ao15 t1191.length co15) : Value).ownBlock) (.slice Ao13 t1188.length co13) t1188) ∧ Aside0 (Kd.R (Kd.int .i64) 3 wc w.heap.size (fun k_ => some k_ ≠ ((.slice Ao13 t1188.length co13) : Value).ownBlock) (.slice Ao15 t1191.length co15) t1191) ∧ Aside0 (wc.heap[gb1195]? = some (.cells #[(.slice Ao9 t1182.length co9), (.slice Ao12 t1185.length co12)] 28 (0, 0))) ∧ Aside0 (wc.heap[gb1196]? = some (.cells #[(.slice Ao13 t1188.length co13), (.slice Ao15 t1191.length co15)] 40 (0, 0))) ∧ Aside0 (Below w.heap.size w wc))
 case first =>
  have H := HC5.out
  clear HC5
  replace H := zO H
  obtain ⟨t1197, A160, H⟩ := H
  try dsimp only at H
  have A16 := zA A160
  clear A160
  by_cases c17 : t1197 = true
  ·
   subst c17
   rw [if_pos rfl] at H
   have H' := zA H
   clear H
   go_wp2_with (first | ((with_reducible refine zad (f := 45) rfl ?_); refine za0 (some 19) rfl rfl Tryd.func45 (by kernel_rfl) rfl #[] rfl (zE) ?_; (with_reducible refine (zbb.calls k  true _ ?side1 A16.out).mono ?_); (case side1 => exact Glob.below HG.out (zB HB)); rintro e w18 ⟨rfl, hb⟩; refine ⟨_, rfl, ?_⟩; have n0_ := zA (Kd.zav (by (with_reducible repeat (first | apply Kd.zbr | apply Kd.zbq | apply Kd.zbx)); exact (Kd.zao (Kd.zao (Kd.V_far (p := ⟨gb1196, 1, none⟩) (Kd.V_far (p := ⟨gb1196, 0, none⟩) (Kd.V_far (p := ⟨gb1195, 1, none⟩) (Kd.V_far (p := ⟨gb1195, 0, none⟩) (Kd.zao (Kd.zao HO1184.out (fun k_ hk => (⟨hk, hk.1.2⟩ : _ ∧ k_ ≠ gb1195))) (fun k_ hk => (⟨hk, hk.1.2⟩ : _ ∧ k_ ≠ gb1196))) (fun _ hk => hk.1.2) (.slice Ao9 t1182.length co9)) (fun _ hk => hk.1.2) (.slice Ao12 t1185.length co12)) (fun _ hk => hk.2) (.slice Ao13 t1188.length co13)) (fun _ hk => hk.2) (.slice Ao15 t1191.length co15)) (fun _ h_ => h_.1)) (fun _ h_ => h_.1))) hb); have n1_ := zA (Kd.zav (by (with_reducible repeat (first | apply Kd.zbr | apply Kd.zbq | apply Kd.zbx)); exact (Kd.zao (Kd.zao (Kd.V_far (p := ⟨gb1196, 1, none⟩) (Kd.V_far (p := ⟨gb1196, 0, none⟩) (Kd.V_far (p := ⟨gb1195, 1, none⟩) (Kd.V_far (p := ⟨gb1195, 0, none⟩) (Kd.zao (Kd.zao HO1187.out (fun k_ hk => (⟨hk, hk.1.2⟩ : _ ∧ k_ ≠ gb1195))) (fun k_ hk => (⟨hk, hk.1.2⟩ : _ ∧ k_ ≠ gb1196))) (fun _ hk => hk.1.2) (.slice Ao9 t1182.length co9)) (fun _ hk => hk.1.2) (.slice Ao12 t1185.length co12)) (fun _ hk => hk.2) (.slice Ao13 t1188.length co13)) (fun _ hk => hk.2) (.slice Ao15 t1191.length co15)) (fun _ h_ => h_.1)) (fun _ h_ => h_.1))) hb); have n2_ := zA (Kd.zbo (by (with_reducible repeat (first | apply Kd.zb7 | apply Kd.zb9 | apply Kd.zci)); exact (Kd.zbn (Kd.zbn (Kd.R_far (p := ⟨gb1196, 1, none⟩) (Kd.R_far (p := ⟨gb1196, 0, none⟩) (Kd.R_far (p := ⟨gb1195, 1, none⟩) (Kd.R_far (p := ⟨gb1195, 0, none⟩) (Kd.zc6 (Kd.zc6 HO1190.out BK1195.out (by decide)) BK1196.out (by decide)) (fun _ hk => hk.1.2) (.slice Ao9 t1182.length co9)) (fun _ hk => hk.1.2) (.slice Ao12 t1185.length co12)) (fun _ hk => hk.2) (.slice Ao13 t1188.length co13)) (fun _ hk => hk.2) (.slice Ao15 t1191.length co15)) (fun _ h_ => h_.1)) (fun _ h_ => h_.1))) hb); have n3_ := zA (Kd.zbo (by (with_reducible repeat (first | apply Kd.zb7 | apply Kd.zb9 | apply Kd.zci)); exact (Kd.zbn (Kd.zbn (Kd.R_far (p := ⟨gb1196, 1, none⟩) (Kd.R_far (p := ⟨gb1196, 0, none⟩) (Kd.R_far (p := ⟨gb1195, 1, none⟩) (Kd.R_far (p := ⟨gb1195, 0, none⟩) (Kd.zc6 (Kd.zc6 HO1193.out BK1195.out (by decide)) BK1196.out (by decide)) (fun _ hk => hk.1.2) (.slice Ao9 t1182.length co9)) (fun _ hk => hk.1.2) (.slice Ao12 t1185.length co12)) (fun _ hk => hk.2) (.slice Ao13 t1188.length co13)) (fun _ hk => hk.2) (.slice Ao15 t1191.length co15)) (fun _ h_ => h_.1)) (fun _ h_ => h_.1))) hb); have n4_ := zA (zae (g := gb1195) (o := .cells #[.slice Ao9 t1182.length co9, .slice Ao12 t1185.length co12] 28 (0, 0)) (by (with_reducible repeat (first | refine zai ?_ _ | refine zak ?_ | refine zah ?_ _)); refine zcn ?_ NB1195_1196.out _; (with_reducible repeat (first | refine zai ?_ _ | refine zak ?_ | refine zah ?_ _)); refine zcn ?_ NB1195_1196.out _; (with_reducible repeat (first | refine zai ?_ _ | refine zak ?_ | refine zah ?_ _)); refine zbv (cs := #[.slice Ao9 t1182.length co9, .slice none 0 0]) ?_ 1 _ rfl; (with_reducible repeat (first | refine zai ?_ _ | refine zak ?_ | refine zah ?_ _)); refine zbv (cs := #[.slice none 0 0, .slice none 0 0]) ?_ 0 _ rfl; (with_reducible repeat (first | refine zai ?_ _ | refine zak ?_ | refine zah ?_ _)); exact BK1195.out) hb); have n5_ := zA (zae (g := gb1196) (o := .cells #[.slice Ao13 t1188.length co13, .slice Ao15 t1191.length co15] 40 (0, 0)) (by (with_reducible repeat (first | refine zai ?_ _ | refine zak ?_ | refine zah ?_ _)); refine zbv (cs := #[.slice Ao13 t1188.length co13, .slice none 0 0]) ?_ 1 _ rfl; (with_reducible repeat (first | refine zai ?_ _ | refine zak ?_ | refine zah ?_ _)); refine zbv (cs := #[.slice none 0 0, .slice none 0 0]) ?_ 0 _ rfl; (with_reducible repeat (first | refine zai ?_ _ | refine zak ?_ | refine zah ?_ _)); refine zcn ?_ NB1196_1195.out _; (with_reducible repeat (first | refine zai ?_ _ | refine zak ?_ | refine zah ?_ _)); refine zcn ?_ NB1196_1195.out _; (with_reducible repeat (first | refine zai ?_ _ | refine zak ?_ | refine zah ?_ _)); exact BK1196.out) hb); have n6_ := zA (zaa (zB HB) hb); clear HO1184 HO1187 HO1190 HO1193 BK1195 BK1196 HB; have HO1184 := n0_; have HO1187 := n1_; have HO1190 := n2_; have HO1193 := n3_; have BK1195 := n4_; have BK1196 := n5_; have HB := n6_; clear n0_ n1_ n2_ n3_ n4_ n5_ n6_; (try clear hb); (try clear hb2); (try clear hk); (try clear hi)))
   go_meet
   case rel => exact ⟨_, (!t1194), (zF), H', ⟨by first | omega | exact Nat.le_refl _⟩, ⟨by (with_reducible repeat (first | apply Kd.zbr | apply Kd.zbq | apply Kd.zbx)); exact Kd.zao HO1184.out (fun _ hk => ⟨hk.1.1.1, ⟨hk.1.1.2, ⟨hk.1.2, hk.2⟩⟩⟩)⟩, ⟨by (with_reducible repeat (first | apply Kd.zbr | apply Kd.zbq | apply Kd.zbx)); exact Kd.zao HO1187.out (fun _ hk => ⟨hk.1.1.1, ⟨hk.1.1.2, ⟨hk.1.2, hk.2⟩⟩⟩)⟩, ⟨zR HO1190⟩, ⟨zR HO1193⟩, ⟨zK BK1195⟩, ⟨zK BK1196⟩, ⟨zB HB⟩⟩
  ·
   replace c17 := Bool.eq_false_iff.mpr c17
   subst c17
   rw [if_neg (show ¬ (false = true) by decide)] at H
   have H' := zA H
   clear H
   go_wp2_with (first | ((with_reducible refine zad (f := 45) rfl ?_); refine za0 (some 19) rfl rfl Tryd.func45 (by kernel_rfl) rfl #[] rfl (zE) ?_; (with_reducible refine (zbb.calls k  false _ ?side1 A16.out).mono ?_); (case side1 => exact Glob.below HG.out (zB HB)); rintro e w19 ⟨rfl, hb⟩; refine ⟨_, rfl, ?_⟩; have n0_ := zA (Kd.zav (by (with_reducible repeat (first | apply Kd.zbr | apply Kd.zbq | apply Kd.zbx)); exact (Kd.zao (Kd.zao (Kd.V_far (p := ⟨gb1196, 1, none⟩) (Kd.V_far (p := ⟨gb1196, 0, none⟩) (Kd.V_far (p := ⟨gb1195, 1, none⟩) (Kd.V_far (p := ⟨gb1195, 0, none⟩) (Kd.zao (Kd.zao HO1184.out (fun k_ hk => (⟨hk, hk.1.2⟩ : _ ∧ k_ ≠ gb1195))) (fun k_ hk => (⟨hk, hk.1.2⟩ : _ ∧ k_ ≠ gb1196))) (fun _ hk => hk.1.2) (.slice Ao9 t1182.length co9)) (fun _ hk => hk.1.2) (.slice Ao12 t1185.length co12)) (fun _ hk => hk.2) (.slice Ao13 t1188.length co13)) (fun _ hk => hk.2) (.slice Ao15 t1191.length co15)) (fun _ h_ => h_.1)) (fun _ h_ => h_.1))) hb); have n1_ := zA (Kd.zav (by (with_reducible repeat (first | apply Kd.zbr | apply Kd.zbq | apply Kd.zbx)); exact (Kd.zao (Kd.zao (Kd.V_far (p := ⟨gb1196, 1, none⟩) (Kd.V_far (p := ⟨gb1196, 0, none⟩) (Kd.V_far (p := ⟨gb1195, 1, none⟩) (Kd.V_far (p := ⟨gb1195, 0, none⟩) (Kd.zao (Kd.zao HO1187.out (fun k_ hk => (⟨hk, hk.1.2⟩ : _ ∧ k_ ≠ gb1195))) (fun k_ hk => (⟨hk, hk.1.2⟩ : _ ∧ k_ ≠ gb1196))) (fun _ hk => hk.1.2) (.slice Ao9 t1182.length co9)) (fun _ hk => hk.1.2) (.slice Ao12 t1185.length co12)) (fun _ hk => hk.2) (.slice Ao13 t1188.length co13)) (fun _ hk => hk.2) (.slice Ao15 t1191.length co15)) (fun _ h_ => h_.1)) (fun _ h_ => h_.1))) hb); have n2_ := zA (Kd.zbo (by (with_reducible repeat (first | apply Kd.zb7 | apply Kd.zb9 | apply Kd.zci)); exact (Kd.zbn (Kd.zbn (Kd.R_far (p := ⟨gb1196, 1, none⟩) (Kd.R_far (p := ⟨gb1196, 0, none⟩) (Kd.R_far (p := ⟨gb1195, 1, none⟩) (Kd.R_far (p := ⟨gb1195, 0, none⟩) (Kd.zc6 (Kd.zc6 HO1190.out BK1195.out (by decide)) BK1196.out (by decide)) (fun _ hk => hk.1.2) (.slice Ao9 t1182.length co9)) (fun _ hk => hk.1.2) (.slice Ao12 t1185.length co12)) (fun _ hk => hk.2) (.slice Ao13 t1188.length co13)) (fun _ hk => hk.2) (.slice Ao15 t1191.length co15)) (fun _ h_ => h_.1)) (fun _ h_ => h_.1))) hb); have n3_ := zA (Kd.zbo (by (with_reducible repeat (first | apply Kd.zb7 | apply Kd.zb9 | apply Kd.zci)); exact (Kd.zbn (Kd.zbn (Kd.R_far (p := ⟨gb1196, 1, none⟩) (Kd.R_far (p := ⟨gb1196, 0, none⟩) (Kd.R_far (p := ⟨gb1195, 1, none⟩) (Kd.R_far (p := ⟨gb1195, 0, none⟩) (Kd.zc6 (Kd.zc6 HO1193.out BK1195.out (by decide)) BK1196.out (by decide)) (fun _ hk => hk.1.2) (.slice Ao9 t1182.length co9)) (fun _ hk => hk.1.2) (.slice Ao12 t1185.length co12)) (fun _ hk => hk.2) (.slice Ao13 t1188.length co13)) (fun _ hk => hk.2) (.slice Ao15 t1191.length co15)) (fun _ h_ => h_.1)) (fun _ h_ => h_.1))) hb); have n4_ := zA (zae (g := gb1195) (o := .cells #[.slice Ao9 t1182.length co9, .slice Ao12 t1185.length co12] 28 (0, 0)) (by (with_reducible repeat (first | refine zai ?_ _ | refine zak ?_ | refine zah ?_ _)); refine zcn ?_ NB1195_1196.out _; (with_reducible repeat (first | refine zai ?_ _ | refine zak ?_ | refine zah ?_ _)); refine zcn ?_ NB1195_1196.out _; (with_reducible repeat (first | refine zai ?_ _ | refine zak ?_ | refine zah ?_ _)); refine zbv (cs := #[.slice Ao9 t1182.length co9, .slice none 0 0]) ?_ 1 _ rfl; (with_reducible repeat (first | refine zai ?_ _ | refine zak ?_ | refine zah ?_ _)); refine zbv (cs := #[.slice none 0 0, .slice none 0 0]) ?_ 0 _ rfl; (with_reducible repeat (first | refine zai ?_ _ | refine zak ?_ | refine zah ?_ _)); exact BK1195.out) hb); have n5_ := zA (zae (g := gb1196) (o := .cells #[.slice Ao13 t1188.length co13, .slice Ao15 t1191.length co15] 40 (0, 0)) (by (with_reducible repeat (first | refine zai ?_ _ | refine zak ?_ | refine zah ?_ _)); refine zbv (cs := #[.slice Ao13 t1188.length co13, .slice none 0 0]) ?_ 1 _ rfl; (with_reducible repeat (first | refine zai ?_ _ | refine zak ?_ | refine zah ?_ _)); refine zbv (cs := #[.slice none 0 0, .slice none 0 0]) ?_ 0 _ rfl; (with_reducible repeat (first | refine zai ?_ _ | refine zak ?_ | refine zah ?_ _)); refine zcn ?_ NB1196_1195.out _; (with_reducible repeat (first | refine zai ?_ _ | refine zak ?_ | refine zah ?_ _)); refine zcn ?_ NB1196_1195.out _; (with_reducible repeat (first | refine zai ?_ _ | refine zak ?_ | refine zah ?_ _)); exact BK1196.out) hb); have n6_ := zA (zaa (zB HB) hb); clear HO1184 HO1187 HO1190 HO1193 BK1195 BK1196 HB; have HO1184 := n0_; have HO1187 := n1_; have HO1190 := n2_; have HO1193 := n3_; have BK1195 := n4_; have BK1196 := n5_; have HB := n6_; clear n0_ n1_ n2_ n3_ n4_ n5_ n6_; (try clear hb); (try clear hb2); (try clear hk); (try clear hi)))
   go_meet
   case rel => exact ⟨_, (true), (zF), H', ⟨by first | omega | exact Nat.le_refl _⟩, ⟨by (with_reducible repeat (first | apply Kd.zbr | apply Kd.zbq | apply Kd.zbx)); exact Kd.zao HO1184.out (fun _ hk => ⟨hk.1.1.1, ⟨hk.1.1.2, ⟨hk.1.2, hk.2⟩⟩⟩)⟩, ⟨by (with_reducible repeat (first | apply Kd.zbr | apply Kd.zbq | apply Kd.zbx)); exact Kd.zao HO1187.out (fun _ hk => ⟨hk.1.1.1, ⟨hk.1.1.2, ⟨hk.1.2, hk.2⟩⟩⟩)⟩, ⟨zR HO1190⟩, ⟨zR HO1193⟩, ⟨zK BK1195⟩, ⟨zK BK1196⟩, ⟨zB HB⟩⟩
 case rest =>
  clear HC5
  try clear c1
  try clear p2
  try clear c4
  try clear p6
  try clear c10
  try clear c17
  try clear hcz11_0
  try clear hcz11_1
  try clear hcz14_0
  try clear hcz14_1
  try clear hfz11_0
  try clear hfz11_1
  try clear hfz14_0
  try clear hfz14_1
  obtain ⟨kq, x24_4, rfl, HA, HJ4, HO_1196000, HO_1196001, HO_1197000, HO_1197001, BK1195, BK1196, HB⟩ := hcut
  cases kq with
  | zero => exact absurd HA.out (by simp [za1.j0])
  | succ kj4 =>
   have H := HA.out
   clear HA
   simp only [za1.j0] at H
   by_cases c20 : x24_4 = true
   ·
    subst c20
    rw [if_pos rfl] at H
    replace H := zO H
    obtain ⟨t1198, A210, H⟩ := H
    try dsimp only at H
    have A21 := zA A210
    clear A210
    obtain rfl := Option.some.inj H
    go_wp2_with (first | ((with_reducible refine zad (f := 45) rfl ?_); refine za0 (some 25) rfl rfl Tryd.func45 (by kernel_rfl) rfl #[] rfl (zE) ?_; (with_reducible refine (zbb.calls kj4  t1198 _ ?side1 A21.out).mono ?_); (case side1 => exact Glob.below HG.out (zB HB)); rintro e w22 ⟨rfl, hb⟩; refine ⟨_, rfl, ?_⟩; have n0_ := zA (Kd.zav (zV HO_1196000) hb); have n1_ := zA (Kd.zav (zV HO_1196001) hb); have n2_ := zA (Kd.zbo (zR HO_1197000) hb); have n3_ := zA (Kd.zbo (zR HO_1197001) hb); have n4_ := zA (zae (g := gb1195) (o := .cells #[.slice Ao9 t1182.length co9, .slice Ao12 t1185.length co12] 28 (0, 0)) (zK BK1195) hb); have n5_ := zA (zae (g := gb1196) (o := .cells #[.slice Ao13 t1188.length co13, .slice Ao15 t1191.length co15] 40 (0, 0)) (zK BK1196) hb); have n6_ := zA (zaa (zB HB) hb); clear HO_1196000 HO_1196001 HO_1197000 HO_1197001 BK1195 BK1196 HB; have HO_1196000 := n0_; have HO_1196001 := n1_; have HO_1197000 := n2_; have HO_1197001 := n3_; have BK1195 := n4_; have BK1196 := n5_; have HB := n6_; clear n0_ n1_ n2_ n3_ n4_ n5_ n6_; (try clear hb); (try clear hb2); (try clear hk); (try clear hi)))
    go_ret
    exact ⟨zW, zB HB⟩
   ·
    replace c20 := Bool.eq_false_iff.mpr c20
    subst c20
    rw [if_neg (show ¬ (false = true) by decide)] at H
    replace H := zO H
    obtain ⟨⟨t1199, t1200⟩, A230, H⟩ := H
    try dsimp only at H
    have A23 := zA A230
    clear A230
    by_cases c24 : a0 < 1
    ·
     rw [if_pos c24] at H
     have c24b0 : decide (a0 < 1) = true := decide_eq_true c24
     clear c24
     by_cases c25 : t1199 = 0
     ·
      rw [if_pos c25] at H
      have c25b0 : (t1199 == 0) = true := beq_iff_eq.mpr c25
      have c25b1 : (t1199 != 0) = false := bne_eq_false_iff_eq.mpr c25
      clear c25
      obtain rfl := Option.some.inj H
      have hnb26 := NB1195_1196.out
      have hnc26 := NB1196_1195.out
      have hcz27_0 : wc.cell? ⟨gb1195, 0, none⟩ = some (.slice Ao9 t1182.length co9) := (zac BK1195.out 0).trans rfl
      have hcz27_1 : wc.cell? ⟨gb1195, 1, none⟩ = some (.slice Ao12 t1185.length co12) := (zac BK1195.out 1).trans rfl
      have hfz27_0 := zan BK1195.out 0
      have hfz27_1 := zan BK1195.out 1
      go_wp2_with (first | ((with_reducible refine zad (f := 46) rfl ?_); refine za0 (some 29) rfl rfl Tryd.func46 (by kernel_rfl) rfl #[.int .i64 a0, .agg #[.slice Ao9 t1182.length co9, .slice Ao12 t1185.length co12]] rfl (zE) ?_; (with_reducible refine (zb4.calls kj4 a0 _ _ t1182 _ _ t1185 t1199 t1200 _ ?side1 ?side2 ?side3 ?side4 A23.out).mono ?_); (case side1 => exact zJ (Kd.zam HO_1196000.out).2.2); (case side2 => exact (Kd.zam HO_1196000.out).2.1); (case side3 => exact zJ (Kd.zam HO_1196001.out).2.2); (case side4 => exact (Kd.zam HO_1196001.out).2.1); rintro e w28 ⟨rfl, hb⟩; refine ⟨_, rfl, ?_⟩; have n0_ := zA (Kd.zav (zV HO_1196000) hb); have n1_ := zA (Kd.zav (zV HO_1196001) hb); have n2_ := zA (Kd.zbo (zR HO_1197000) hb); have n3_ := zA (Kd.zbo (zR HO_1197001) hb); have n4_ := zA (zae (g := gb1195) (o := .cells #[.slice Ao9 t1182.length co9, .slice Ao12 t1185.length co12] 28 (0, 0)) (zK BK1195) hb); have n5_ := zA (zae (g := gb1196) (o := .cells #[.slice Ao13 t1188.length co13, .slice Ao15 t1191.length co15] 40 (0, 0)) (zK BK1196) hb); have n6_ := zA (zaa (zB HB) hb); clear HO_1196000 HO_1196001 HO_1197000 HO_1197001 BK1195 BK1196 HB; have HO_1196000 := n0_; have HO_1196001 := n1_; have HO_1197000 := n2_; have HO_1197001 := n3_; have BK1195 := n4_; have BK1196 := n5_; have HB := n6_; clear n0_ n1_ n2_ n3_ n4_ n5_ n6_; (try clear hb); (try clear hb2); (try clear hk); (try clear hi)))
      go_ret
      exact ⟨zW, zB HB⟩
     ·
      rw [if_neg c25] at H
      exact absurd H (by simp)
    ·
     rw [if_neg c24] at H
     have c24b0 : decide (a0 < 1) = false := decide_eq_false c24
     clear c24
     by_cases c29 : a0 > 1000
     ·
      rw [if_pos c29] at H
      have c29b0 : decide (1000 < a0) = true := decide_eq_true c29
      clear c29
      by_cases c30 : t1199 = 0
      ·
       rw [if_pos c30] at H
       have c30b0 : (t1199 == 0) = true := beq_iff_eq.mpr c30
       have c30b1 : (t1199 != 0) = false := bne_eq_false_iff_eq.mpr c30
       clear c30
       obtain rfl := Option.some.inj H
       have hnb31 := NB1195_1196.out
       have hnc31 := NB1196_1195.out
       have hcz32_0 : wc.cell? ⟨gb1195, 0, none⟩ = some (.slice Ao9 t1182.length co9) := (zac BK1195.out 0).trans rfl
       have hcz32_1 : wc.cell? ⟨gb1195, 1, none⟩ = some (.slice Ao12 t1185.length co12) := (zac BK1195.out 1).trans rfl
       have hfz32_0 := zan BK1195.out 0
       have hfz32_1 := zan BK1195.out 1
       go_wp2_with (first | ((with_reducible refine zad (f := 46) rfl ?_); refine za0 (some 29) rfl rfl Tryd.func46 (by kernel_rfl) rfl #[.int .i64 a0, .agg #[.slice Ao9 t1182.length co9, .slice Ao12 t1185.length co12]] rfl (zE) ?_; (with_reducible refine (zb4.calls kj4 a0 _ _ t1182 _ _ t1185 t1199 t1200 _ ?side1 ?side2 ?side3 ?side4 A23.out).mono ?_); (case side1 => exact zJ (Kd.zam HO_1196000.out).2.2); (case side2 => exact (Kd.zam HO_1196000.out).2.1); (case side3 => exact zJ (Kd.zam HO_1196001.out).2.2); (case side4 => exact (Kd.zam HO_1196001.out).2.1); rintro e w33 ⟨rfl, hb⟩; refine ⟨_, rfl, ?_⟩; have n0_ := zA (Kd.zav (zV HO_1196000) hb); have n1_ := zA (Kd.zav (zV HO_1196001) hb); have n2_ := zA (Kd.zbo (zR HO_1197000) hb); have n3_ := zA (Kd.zbo (zR HO_1197001) hb); have n4_ := zA (zae (g := gb1195) (o := .cells #[.slice Ao9 t1182.length co9, .slice Ao12 t1185.length co12] 28 (0, 0)) (zK BK1195) hb); have n5_ := zA (zae (g := gb1196) (o := .cells #[.slice Ao13 t1188.length co13, .slice Ao15 t1191.length co15] 40 (0, 0)) (zK BK1196) hb); have n6_ := zA (zaa (zB HB) hb); clear HO_1196000 HO_1196001 HO_1197000 HO_1197001 BK1195 BK1196 HB; have HO_1196000 := n0_; have HO_1196001 := n1_; have HO_1197000 := n2_; have HO_1197001 := n3_; have BK1195 := n4_; have BK1196 := n5_; have HB := n6_; clear n0_ n1_ n2_ n3_ n4_ n5_ n6_; (try clear hb); (try clear hb2); (try clear hk); (try clear hi)))
       go_ret
       exact ⟨zW, zB HB⟩
      ·
       rw [if_neg c30] at H
       exact absurd H (by simp)
     ·
      rw [if_neg c29] at H
      have c29b0 : decide (1000 < a0) = false := decide_eq_false c29
      clear c29
      by_cases c34 : t1200 = 0
      ·
       rw [if_pos c34] at H
       have c34b0 : (t1200 == 0) = true := beq_iff_eq.mpr c34
       have c34b1 : (t1200 != 0) = false := bne_eq_false_iff_eq.mpr c34
       clear c34
       replace H := zO H
       obtain ⟨t1201, A350, H⟩ := H
       try dsimp only at H
       have A35 := zA A350
       clear A350
       obtain rfl := Option.some.inj H
       have hnb36 := NB1195_1196.out
       have hnc36 := NB1196_1195.out
       have hcz37_0 : wc.cell? ⟨gb1195, 0, none⟩ = some (.slice Ao9 t1182.length co9) := (zac BK1195.out 0).trans rfl
       have hcz37_1 : wc.cell? ⟨gb1195, 1, none⟩ = some (.slice Ao12 t1185.length co12) := (zac BK1195.out 1).trans rfl
       have hfz37_0 := zan BK1195.out 0
       have hfz37_1 := zan BK1195.out 1
       go_wp2_with (first | ((with_reducible refine zad (f := 46) rfl ?_); refine za0 (some 29) rfl rfl Tryd.func46 (by kernel_rfl) rfl #[.int .i64 a0, .agg #[.slice Ao9 t1182.length co9, .slice Ao12 t1185.length co12]] rfl (zE) ?_; (with_reducible refine (zb4.calls kj4 a0 _ _ t1182 _ _ t1185 t1199 t1200 _ ?side1 ?side2 ?side3 ?side4 A23.out).mono ?_); (case side1 => exact zJ (Kd.zam HO_1196000.out).2.2); (case side2 => exact (Kd.zam HO_1196000.out).2.1); (case side3 => exact zJ (Kd.zam HO_1196001.out).2.2); (case side4 => exact (Kd.zam HO_1196001.out).2.1); rintro e w38 ⟨rfl, hb⟩; refine ⟨_, rfl, ?_⟩; have n0_ := zA (Kd.zav (zV HO_1196000) hb); have n1_ := zA (Kd.zav (zV HO_1196001) hb); have n2_ := zA (Kd.zbo (zR HO_1197000) hb); have n3_ := zA (Kd.zbo (zR HO_1197001) hb); have n4_ := zA (zae (g := gb1195) (o := .cells #[.slice Ao9 t1182.length co9, .slice Ao12 t1185.length co12] 28 (0, 0)) (zK BK1195) hb); have n5_ := zA (zae (g := gb1196) (o := .cells #[.slice Ao13 t1188.length co13, .slice Ao15 t1191.length co15] 40 (0, 0)) (zK BK1196) hb); have n6_ := zA (zaa (zB HB) hb); clear HO_1196000 HO_1196001 HO_1197000 HO_1197001 BK1195 BK1196 HB; have HO_1196000 := n0_; have HO_1196001 := n1_; have HO_1197000 := n2_; have HO_1197001 := n3_; have BK1195 := n4_; have BK1196 := n5_; have HB := n6_; clear n0_ n1_ n2_ n3_ n4_ n5_ n6_; (try clear hb); (try clear hb2); (try clear hk); (try clear hi); have hcz39_0 : w38.cell? ⟨gb1196, 0, none⟩ = some (.slice Ao13 t1188.length co13) := (zac BK1196.out 0).trans rfl; have hcz39_1 : w38.cell? ⟨gb1196, 1, none⟩ = some (.slice Ao15 t1191.length co15) := (zac BK1196.out 1).trans rfl; have hfz39_0 := zan BK1196.out 0; have hfz39_1 := zan BK1196.out 1) | (go_at_call 47; (with_reducible refine (zay.calls kj4 a0 _ _ t1188 _ _ t1191 t1201 _ ?side1 ?side2 ?side3 ?side4 A35.out).mono ?_); (case side1 => exact zJ (Kd.zaz HO_1197000.out).2.2); (case side2 => exact (Kd.zaz HO_1197000.out).2.1); (case side3 => exact zJ (Kd.zaz HO_1197001.out).2.2); (case side4 => exact (Kd.zaz HO_1197001.out).2.1); rintro e w40 ⟨rfl, hb⟩; have n0_ := zA (Kd.zav (zV HO_1196000) hb); have n1_ := zA (Kd.zav (zV HO_1196001) hb); have n2_ := zA (Kd.zbo (zR HO_1197000) hb); have n3_ := zA (Kd.zbo (zR HO_1197001) hb); have n4_ := zA (zae (g := gb1195) (o := .cells #[.slice Ao9 t1182.length co9, .slice Ao12 t1185.length co12] 28 (0, 0)) (zK BK1195) hb); have n5_ := zA (zae (g := gb1196) (o := .cells #[.slice Ao13 t1188.length co13, .slice Ao15 t1191.length co15] 40 (0, 0)) (zK BK1196) hb); have n6_ := zA (zaa (zB HB) hb); clear HO_1196000 HO_1196001 HO_1197000 HO_1197001 BK1195 BK1196 HB; have HO_1196000 := n0_; have HO_1196001 := n1_; have HO_1197000 := n2_; have HO_1197001 := n3_; have BK1195 := n4_; have BK1196 := n5_; have HB := n6_; clear n0_ n1_ n2_ n3_ n4_ n5_ n6_; (try clear hb); (try clear hb2); (try clear hk); (try clear hi)))
       go_ret
       exact ⟨zW, zB HB⟩
      ·
       rw [if_neg c34] at H
       exact absurd H (by simp)
def za1.Pure : Prop := ∀ (a0 : Int) (a1 : Int) (a2 : Int), (Lit.int .i64 a0).wf = true → (Lit.int .i64 a1).wf = true → (Lit.int .i64 a2).wf = true → ∃ k, za1.f k a0 a1 a2 = some true
theorem za1.walk (P : za1.Pure) (a0 : Int) (a1 : Int) (a2 : Int) (w : World) (w0 : (Lit.int .i64 a0).wf = true) (w1 : (Lit.int .i64 a1).wf = true) (w2 : (Lit.int .i64 a2).wf = true) (hG : Glob w) :
  Calls Tryd.prog 10 #[.int .i64 a0, .int .i64 a1, .int .i64 a2] w fun e w' => e = .returned (.bool true) ∧ Below w.heap.size w w' := by
 obtain ⟨k, h⟩ := P a0 a1 a2 w0 w1 w2
 refine (za1.calls k a0 a1 a2 true w hG h).mono ?_
 rintro e w' ⟨rfl, hd⟩
 exact ⟨rfl, hd⟩
def Ev {α : Type} (F : Nat → Option α) (r : α) : Prop := ∃ K, ∀ k, K ≤ k → F k = some r
theorem Ev.const {α : Type} (r : α) : Ev (fun _ => some r) r := ⟨0, fun _ _ => rfl⟩
theorem Ev.congr {α : Type} {F G : Nat → Option α} {r : α} (h : ∀ k, F k = G k) (hg : Ev G r) : Ev F r := by
 obtain ⟨K, hK⟩ := hg
 exact ⟨K, fun k hk => (h k).trans (hK k hk)⟩
theorem Ev.step {α : Type} {F G : Nat → Option α} {r : α} (h : ∀ k, F (k + 1) = G k) (hg : Ev G r) : Ev F r := by
 obtain ⟨K, hK⟩ := hg
 refine ⟨K + 1, fun k hk => ?_⟩
 obtain ⟨m, rfl⟩ : ∃ m, k = m + 1 := ⟨k - 1, by omega⟩
 exact (h m).trans (hK m (by omega))
theorem Ev.bind {α β : Type} {F : Nat → Option α} {G : Nat → α → Option β} {x : α} {r : β} (hf : Ev F x) (hg : Ev (fun k => G k x) r) : Ev (fun k => (F k).bind (G k)) r := by
 obtain ⟨K, hK⟩ := hf
 obtain ⟨L, hL⟩ := hg
 refine ⟨K + L, fun k hk => ?_⟩
 show (F k).bind (G k) = some r
 rw [hK k (by omega)]
 exact hL k (by omega)
theorem Ev.get {α : Type} {F : Nat → Option α} {r : α} (h : Ev F r) : ∃ k, F k = some r := by
 obtain ⟨K, hK⟩ := h
 exact ⟨K, hK K (Nat.le_refl _)⟩
theorem w64s {x : Int} (h0 : -9223372036854775808 ≤ x) (h1 : x < 9223372036854775808) : wrap64 x = x := by unfold wrap64; omega
def val (B : Nat) : List Int → Nat
 | [] => 0
 | x :: xs => x.toNat + B * val B xs
def Dig (B : Nat) (l : List Int) : Prop := ∀ x ∈ l, 0 ≤ x ∧ x < (B : Int)
def strip : List Int → List Int
 | [] => []
 | x :: xs => if strip xs = [] then (if x = 0 then [] else [x]) else x :: strip xs
def dig (B n : Nat) : List Int := if h : n = 0 ∨ B ≤ 1 then [] else ((n % B : Nat) : Int) :: dig B (n / B)
termination_by n
decreasing_by exact Nat.div_lt_self (by omega) (by omega)
theorem zcq (B : Nat) : dig B 0 = [] := by rw [dig]; simp
theorem dig_pos {B n : Nat} (hB : 1 < B) (hn : n ≠ 0) : dig B n = ((n % B : Nat) : Int) :: dig B (n / B) := by
 rw [dig, dif_neg (by omega)]
theorem dig_ne {B n : Nat} (hB : 1 < B) (hn : n ≠ 0) : dig B n ≠ [] := by rw [dig_pos hB hn]; simp
theorem zc0 {B : Nat} (hB : 1 < B) (n : Nat) : val B (dig B n) = n := by
 induction n using Nat.strongRecOn with
 | ind n ih =>
  by_cases hn : n = 0
  ·
   subst hn
   rw [zcq]
   rfl
  ·
   rw [dig_pos hB hn, val, ih (n / B) (Nat.div_lt_self (by omega) hB)]
   have := Nat.mod_add_div n B
   omega
theorem zc2 {B : Nat} (hB : 1 < B) (n : Nat) : Dig B (dig B n) := by
 induction n using Nat.strongRecOn with
 | ind n ih =>
  by_cases hn : n = 0
  ·
   subst hn
   rw [zcq]
   intro x hx
   cases hx
  ·
   rw [dig_pos hB hn]
   intro x hx
   rcases List.mem_cons.1 hx with rfl | hx
   ·
    have := Nat.mod_lt n (show 0 < B by omega)
    omega
   ·
    exact ih (n / B) (Nat.div_lt_self (by omega) hB) x hx
theorem Dig.cons {B : Nat} {x : Int} {l : List Int} (h : Dig B (x :: l)) : (0 ≤ x ∧ x < (B : Int)) ∧ Dig B l := ⟨h x (by simp), fun y hy => h y (by simp [hy])⟩
theorem Dig.mk {B : Nat} {x : Int} {l : List Int} (h0 : 0 ≤ x) (h1 : x < (B : Int)) (h : Dig B l) : Dig B (x :: l) := by
 intro y hy
 rcases List.mem_cons.1 hy with rfl | hy
 ·
  exact ⟨h0, h1⟩
 ·
  exact h y hy
theorem Dig.nil (B : Nat) : Dig B [] := by intro x hx; cases hx
theorem Dig.app {B : Nat} {a b : List Int} (ha : Dig B a) (hb : Dig B b) : Dig B (a ++ b) := by
 intro x hx
 rcases List.mem_append.1 hx with h | h
 ·
  exact ha x h
 ·
  exact hb x h
theorem strip_dig {B : Nat} (hB : 1 < B) : ∀ (l : List Int), Dig B l → strip l = dig B (val B l)
 | [], _ => by rw [val, zcq]; rfl
 | x :: xs, h => by
  obtain ⟨⟨h0, h1⟩, h2⟩ := h.cons
  have ih := strip_dig hB xs h2
  have hm : ∀ v, (x.toNat + B * v) % B = x.toNat := fun v => by
   rw [Nat.add_mul_mod_self_left, Nat.mod_eq_of_lt (by omega)]
  have hd : ∀ v, (x.toNat + B * v) / B = v := fun v => by
   rw [Nat.add_mul_div_left _ _ (by omega), Nat.div_eq_of_lt (by omega), Nat.zero_add]
  rw [strip, val, ih]
  by_cases hv : val B xs = 0
  ·
   rw [hv, zcq, if_pos rfl]
   by_cases hx : x = 0
   ·
    subst hx
    simp [zcq]
   ·
    rw [if_neg hx, dig_pos hB (by omega), hm, hd, zcq]
    congr 1
    omega
  ·
   rw [if_neg (dig_ne hB hv)]
   have hne : x.toNat + B * val B xs ≠ 0 := by
    have := Nat.mul_pos (show 0 < B by omega) (Nat.pos_of_ne_zero hv)
    omega
   rw [dig_pos hB hne, hm, hd]
   congr 1
   omega
theorem strip_snoc0 : ∀ (l : List Int), strip (l ++ [0]) = strip l
 | [] => by simp [strip]
 | x :: xs => by
  rw [List.cons_append, strip, strip, strip_snoc0 xs]
theorem strip_snoc : ∀ (l : List Int) (x : Int), x ≠ 0 → strip (l ++ [x]) = l ++ [x]
 | [], x, h => by simp [strip, h]
 | y :: ys, x, h => by
  rw [List.cons_append, strip, strip_snoc ys x h, if_neg (by simp)]
def Good (l : List Int) : Prop := l = [] ∨ l.getD (l.length - 1) 0 ≠ 0
theorem dig_last {B : Nat} (hB : 1 < B) (n : Nat) : Good (dig B n) := by
 induction n using Nat.strongRecOn with
 | ind n ih =>
  by_cases hn : n = 0
  ·
   subst hn
   exact .inl (zcq B)
  ·
   right
   rw [dig_pos hB hn]
   have ih := ih (n / B) (Nat.div_lt_self (by omega) hB)
   by_cases hd : n / B = 0
   ·
    rw [hd, zcq]
    have h1 := Nat.div_add_mod n B
    rw [hd] at h1
    simp
    omega
   ·
    have hne := dig_ne hB hd
    rcases ih with ih | ih
    ·
     exact absurd ih hne
    ·
     have hl : 0 < (dig B (n / B)).length := List.length_pos_iff.2 hne
     simp only [List.length_cons, Nat.add_sub_cancel]
     rw [show (dig B (n / B)).length = (dig B (n / B)).length - 1 + 1 by omega, List.getD_cons_succ]
     exact ih
theorem dig_length {B : Nat} (hB : 1 < B) : ∀ (m n : Nat), n < B ^ m → (dig B n).length ≤ m
 | 0, n, h => by
  have : n = 0 := by simpa using h
  subst this
  rw [zcq]
  exact Nat.le_refl _
 | m + 1, n, h => by
  by_cases hn : n = 0
  ·
   subst hn
   rw [zcq]
   exact Nat.zero_le _
  ·
   rw [dig_pos hB hn, List.length_cons]
   have : n / B < B ^ m := by
    rw [Nat.div_lt_iff_lt_mul (by omega)]
    rwa [Nat.pow_succ] at h
   have := dig_length hB m _ this
   omega
theorem val_lt {B : Nat} : ∀ (l : List Int), Dig B l → val B l < B ^ l.length
 | [], _ => by simp [val]
 | x :: xs, h => by
  obtain ⟨⟨h0, h1⟩, h2⟩ := h.cons
  have ih := val_lt xs h2
  rw [val, List.length_cons, Nat.pow_succ]
  have : B * (val B xs + 1) ≤ B * B ^ xs.length := Nat.mul_le_mul_left _ ih
  rw [Nat.mul_add] at this
  rw [Nat.mul_comm (B ^ xs.length)]
  omega
def V (B : Nat) (l : List Int) (i : Nat) : Nat := val B (l.drop i)
theorem V_zero (B : Nat) (l : List Int) : V B l 0 = val B l := rfl
theorem V_end (B : Nat) {l : List Int} {i : Nat} (h : l.length ≤ i) : V B l i = 0 := by
 unfold V
 rw [List.drop_eq_nil_of_le h]
 rfl
theorem zda (B : Nat) (l : List Int) (i : Nat) : V B l i = (l.getD i 0).toNat + B * V B l (i + 1) := by
 by_cases h : i < l.length
 ·
  unfold V
  rw [List.drop_eq_getElem_cons h, val, List.getD_eq_getElem?_getD, List.getElem?_eq_getElem h]
  rfl
 ·
  rw [V_end B (by omega), V_end B (by omega), List.getD_eq_getElem?_getD, List.getElem?_eq_none (by omega)]
  rfl
theorem Dig.get {B : Nat} (hB : 0 < B) {l : List Int} (h : Dig B l) (i : Nat) : 0 ≤ l.getD i 0 ∧ l.getD i 0 < (B : Int) := by
 by_cases hi : i < l.length
 ·
  rw [List.getD_eq_getElem?_getD, List.getElem?_eq_getElem hi]
  exact h _ (List.getElem_mem hi)
 ·
  rw [List.getD_eq_getElem?_getD, List.getElem?_eq_none (by omega)]
  simp
  omega
theorem V_pos {B : Nat} (hB : 1 < B) {l : List Int} (h : Dig B l) (hg : Good l) (i : Nat) (hi : i < l.length) : 0 < V B l i := by
 rcases hg with rfl | hg
 ·
  simp at hi
 ·
  obtain ⟨m, hm⟩ : ∃ m, l.length - 1 = i + m := ⟨l.length - 1 - i, by omega⟩
  rw [hm] at hg
  have key : ∀ m i, l.getD (i + m) 0 ≠ 0 → 0 < V B l i := by
   intro m
   induction m with
   | zero =>
    intro i h0
    rw [zda]
    have := (h.get (show 0 < B by omega) i).1
    rw [Nat.add_zero] at h0
    omega
   | succ m ih =>
    intro i h0
    rw [zda]
    have := ih (i + 1) (by rw [show i + 1 + m = i + (m + 1) by omega]; exact h0)
    have := Nat.mul_pos (show 0 < B by omega) this
    omega
  exact key m i hg
theorem rd_nat (l : List Int) (i : Nat) : rd l (i : Int) = l.getD i 0 := by
 unfold rd
 simp
theorem val_append (B : Nat) : ∀ (a b : List Int), val B (a ++ b) = val B a + B ^ a.length * val B b
 | [], b => by simp [val]
 | x :: xs, b => by
  rw [List.cons_append, val, val, val_append B xs b, List.length_cons, Nat.pow_succ, Nat.mul_add, ← Nat.mul_assoc, Nat.mul_comm B (B ^ xs.length)]
  omega
theorem zcm (B : Nat) : ∀ n, val B (List.replicate n 0) = 0
 | 0 => rfl
 | n + 1 => by rw [List.replicate_succ, val, zcm B n]; simp
theorem Dig.rep {B : Nat} (hB : 0 < B) (n : Nat) : Dig B (List.replicate n 0) := by
 intro x hx
 obtain ⟨_, rfl⟩ := List.mem_replicate.1 hx
 omega
theorem wadd (i j : Nat) (h : i + j < 4611686018427387904) : wrap64 ((i : Int) + (j : Int)) = ((i + j : Nat) : Int) := by rw [w64s (by omega) (by omega)]; omega
theorem wadd1 (i : Nat) (h : i < 4611686018427387904) : wrap64 ((i : Int) + 1) = ((i + 1 : Nat) : Int) := by rw [w64s (by omega) (by omega)]; omega
theorem wsub1 (i : Nat) (h : i < 4611686018427387904) (h0 : 0 < i) : wrap64 ((i : Int) - 1) = ((i - 1 : Nat) : Int) := by rw [w64s (by omega) (by omega)]; omega
theorem wid (i : Nat) (h : i < 4611686018427387904) : wrap64 (i : Int) = (i : Int) := w64s (by omega) (by omega)
def sgn (x y : Nat) : Int := if x = y then 0 else if x < y then -1 else 1
theorem take_snoc (l : List Int) (n : Nat) (h : n < l.length) : l.take (n + 1) = l.take n ++ [l.getD n 0] := by
 rw [List.take_succ_eq_append_getElem h, List.getD_eq_getElem?_getD, List.getElem?_eq_getElem h]
 rfl
theorem V_lt {B : Nat} (hB : 0 < B) {a b : List Int} (ha : Dig B a) (hb : Dig B b) : ∀ i : Nat, V B a i < V B b i → val B a < val B b
 | 0, h => h
 | i + 1, h => by
  refine V_lt hB ha hb i ?_
  rw [zda B a i, zda B b i]
  have h1 := (ha.get hB i)
  have h2 : B * (V B a (i + 1) + 1) ≤ B * V B b (i + 1) := Nat.mul_le_mul_left _ h
  rw [Nat.mul_add] at h2
  omega
theorem len_lt {B : Nat} (hB : 1 < B) {a b : List Int} (ha : Dig B a) (hb : Dig B b) (hg : Good b) (h : a.length < b.length) : val B a < val B b := by
 refine V_lt (by omega) ha hb (b.length - 1) ?_
 rw [V_end B (show a.length ≤ b.length - 1 by omega)]
 exact V_pos hB hb hg _ (by omega)
theorem val_set (B : Nat) : ∀ (l : List Int) (j : Nat) (v : Int), j < l.length → val B (l.set j v) + B ^ j * (l.getD j 0).toNat = val B l + B ^ j * v.toNat
 | [], j, v, h => by simp at h
 | x :: xs, 0, v, h => by
  simp [val]
  omega
 | x :: xs, j + 1, v, h => by
  have ih := val_set B xs j v (by simpa using h)
  rw [List.set_cons_succ, val, val, List.getD_cons_succ, Nat.pow_succ, Nat.mul_comm (B ^ j) B, Nat.mul_assoc, Nat.mul_assoc]
  have : B * (val B (xs.set j v) + B ^ j * (xs.getD j 0).toNat) = B * (val B xs + B ^ j * v.toNat) := by rw [ih]
  rw [Nat.mul_add, Nat.mul_add] at this
  omega
theorem dig_set {B : Nat} {l : List Int} (h : Dig B l) (j : Nat) {v : Int} (h0 : 0 ≤ v) (h1 : v < (B : Int)) : Dig B (l.set j v) := by
 intro x hx
 rcases List.mem_or_eq_of_mem_set hx with h2 | rfl
 ·
  exact h x h2
 ·
  exact ⟨h0, h1⟩
theorem getD_set_ne {l : List Int} {i j : Nat} {v : Int} (h : i ≠ j) : (l.set i v).getD j 0 = l.getD j 0 := by
 rw [List.getD_eq_getElem?_getD, List.getD_eq_getElem?_getD, List.getElem?_set_ne h]
theorem mul_val (X B o x y c vo vs V V' q r : Nat) (hs : vs + X * o = vo + X * r) (hV : V = y + B * V') (hd : o + x * y + c = B * q + r) : vs + X * B * q + X * B * (x * V') = vo + X * c + X * (x * V) := by
 have h1 : X * (o + x * y + c) = X * (B * q + r) := by rw [hd]
 rw [hV]
 simp only [Nat.mul_add] at h1 ⊢
 have e1 : X * B * q = X * (B * q) := Nat.mul_assoc _ _ _
 have e2 : X * B * (x * V') = X * (x * (B * V')) := by rw [Nat.mul_assoc, Nat.mul_left_comm B x V']
 rw [e1, e2]
 omega
theorem V_bound {B : Nat} (hB : 0 < B) {l : List Int} (h : Dig B l) (i : Nat) : V B l i < B ^ l.length := by
 have h1 : Dig B (l.drop i) := fun x hx => h x (List.mem_of_mem_drop hx)
 have h2 := val_lt _ h1
 refine Nat.lt_of_lt_of_le h2 (Nat.pow_le_pow_right hB ?_)
 rw [List.length_drop]
 omega
theorem Ev.mono {α : Type} {F : Nat → Option α} (h : ∀ k, LeO (F k) (F (k + 1))) {K : Nat} {r : α} (hK : F K = some r) : Ev F r := by
 refine ⟨K, fun k hk => ?_⟩
 obtain ⟨m, rfl⟩ : ∃ m, k = K + m := ⟨k - K, by omega⟩
 clear hk
 induction m with
 | zero => exact hK
 | succ m ih => exact h (K + m) r ih
theorem sgn_add (p q c : Nat) : sgn (p + c) (q + c) = sgn p q := by
 unfold sgn
 by_cases h1 : p = q
 ·
  rw [if_pos h1, if_pos (by omega)]
 ·
  rw [if_neg h1, if_neg (by omega)]
  by_cases h2 : p < q
  ·
   rw [if_pos h2, if_pos (by omega)]
  ·
   rw [if_neg h2, if_neg (by omega)]
theorem sgn_lt {p q : Nat} (h : p < q) : sgn p q = -1 := by rw [sgn, if_neg (by omega), if_pos h]
theorem sgn_gt {p q : Nat} (h : q < p) : sgn p q = 1 := by rw [sgn, if_neg (by omega), if_neg (by omega)]
theorem top_lt {B p q x y X : Nat} (hp : p < X) (h : x < y) : p + X * x < q + X * y := by
 have : X * (x + 1) ≤ X * y := Nat.mul_le_mul_left _ h
 rw [Nat.mul_add] at this
 omega
theorem revCmp_val {B : Nat} : ∀ (n : Nat) (a b : List Int), a.length = n → b.length = n → Dig B a → Dig B b → revCmp a.reverse b.reverse = sgn (val B a) (val B b)
 | 0, a, b, ha, hb, _, _ => by
  obtain rfl := List.length_eq_zero_iff.1 ha
  obtain rfl := List.length_eq_zero_iff.1 hb
  simp [revCmp, sgn, val]
 | n + 1, a, b, ha, hb, da, db => by
  rcases List.eq_nil_or_concat a with rfl | ⟨a', x, rfl⟩
  ·
   simp at ha
  rcases List.eq_nil_or_concat b with rfl | ⟨b', y, rfl⟩
  ·
   simp at hb
  rw [List.concat_eq_append] at ha hb da db ⊢
  rw [List.concat_eq_append]
  have ha' : a'.length = n := by simpa using ha
  have hb' : b'.length = n := by simpa using hb
  have da' : Dig B a' := fun z hz => da z (by simp [hz])
  have db' : Dig B b' := fun z hz => db z (by simp [hz])
  have hx := da x (by simp)
  have hy := db y (by simp)
  have va := val_lt a' da'
  have vb := val_lt b' db'
  rw [ha'] at va
  rw [hb'] at vb
  rw [List.reverse_append, List.reverse_append, val_append, val_append, ha', hb']
  simp only [List.reverse_cons, List.reverse_nil, List.nil_append, List.cons_append, val, Nat.mul_zero, Nat.add_zero]
  rw [revCmp]
  by_cases h1 : x = y
  ·
   rw [if_pos h1, revCmp_val n a' b' ha' hb' da' db', h1, sgn_add]
  ·
   rw [if_neg h1]
   by_cases h2 : x < y
   ·
    rw [if_pos h2, sgn_lt (top_lt (B := B) va (by omega))]
   ·
    rw [if_neg h2, sgn_gt (top_lt (B := B) vb (by omega))]
theorem less_val (X W d y bo x bo' vo T va vb : Nat) (h : vo + X * (x + W * va) = T + X * (y + W * vb + bo)) (hd : d + y + bo = x + W * bo') : vo + X * d + X * W * va = T + X * W * (vb + bo') := by
 have h1 : X * (d + y + bo) = X * (x + W * bo') := by rw [hd]
 have e1 : X * W * va = X * (W * va) := Nat.mul_assoc _ _ _
 have e2 : X * W * (vb + bo') = X * (W * vb) + X * (W * bo') := by rw [Nat.mul_assoc, Nat.mul_add, Nat.mul_add]
 rw [e1, e2]
 simp only [Nat.mul_add] at h h1
 omega
theorem dig_mono {B : Nat} (hB : 1 < B) {x y : Nat} (h : x ≤ y) : (dig B x).length ≤ (dig B y).length := by
 have h1 := val_lt _ (zc2 hB y)
 rw [zc0 hB] at h1
 exact dig_length hB _ x (Nat.lt_of_le_of_lt h h1)
theorem Ev.pos {α : Type} {c : Prop} [Decidable c] {F G : Nat → Option α} {r : α} (hc : c) (h : Ev F r) : Ev (fun k => if c then F k else G k) r := Ev.congr (fun k => if_pos hc) h
theorem Ev.neg {α : Type} {c : Prop} [Decidable c] {F G : Nat → Option α} {r : α} (hc : ¬ c) (h : Ev G r) : Ev (fun k => if c then F k else G k) r := Ev.congr (fun k => if_neg hc) h
theorem Ev.plain {α β : Type} {x : Option α} {y : α} {G : Nat → α → Option β} {r : β} (hx : x = some y) (h : Ev (fun k => G k y) r) : Ev (fun k => x.bind (G k)) r := by subst hx; exact h
theorem W_add {x y m : Nat} (hx : x < 18446744073709551616 ^ m) (hy : y < 18446744073709551616 ^ m) : x + y < 18446744073709551616 ^ (m + 1) := by
 rw [Nat.pow_succ]
 omega
theorem W_mul {x y m n : Nat} (hx : x < 18446744073709551616 ^ m) (hy : y < 18446744073709551616 ^ n) : x * y < 18446744073709551616 ^ (m + n) := by
 rw [Nat.pow_add]
 exact Nat.mul_lt_mul'' hx hy
theorem W_le {x m n : Nat} (hx : x < 18446744073709551616 ^ m) (h : m ≤ n) : x < 18446744073709551616 ^ n := Nat.lt_of_lt_of_le hx (Nat.pow_le_pow_right (by decide) h)
end Go.Proofs.YtfjkamhcabckeaaDoor.P
end
