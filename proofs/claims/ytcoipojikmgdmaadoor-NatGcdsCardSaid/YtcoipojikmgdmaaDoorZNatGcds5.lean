-- Written by a program of this session (wip/tools/shake.py) out of its own texts and of the kit's printed ones; not trusted: Lean checks it.
import Derived.Test.YtcoipojikmgdmaaDoorZNatGcds4
section
namespace Go.Proofs.YtcoipojikmgdmaaDoor.P
open Go.RowKit Go.Proofs.YtcoipojikmgdmaaDoorW.PrintWords Go.Proofs.YtcoipojikmgdmaaDoorW.PrintLast Go.Proofs.YtcoipojikmgdmaaDoorW.PrintMore
attribute [local go_sem] max2_int min2_int max_two min_two max_three min_three max_four min_four
set_option linter.unusedVariables false
set_option linter.unusedSimpArgs false
def nat_Nat_shifted.l0 : Nat → Int → List Int → Int → List Int → Int → Int → Option (List Int)
  | 0, _, _, _, _, _, _ => none
  | k + 1, x1, x5, x6, x18, x19, x20 => if x20 < x19 then (if 0 ≤ x20 then (if x20 < (x18.length : Int) then (if 0 ≤ (Int.tmod x1 64) then (if x5.length < 17592186044416 then (if 0 ≤ (wrap64 (64 - (Int.tmod x1 64))) then (nat_Nat_shifted.l0 k x1 (x5 ++ [Go.bits .or .u64 (shl .u64 (rd x18 x20) (Int.tmod x1 64)) x6]) (shr .u64 (rd x18 x20) (wrap64 (64 - (Int.tmod x1 64)))) x18 x19 (wrap64 (x20 + 1))) else (none)) else (none)) else (none)) else (none)) else (none)) else (if x5.length < 17592186044416 then ((nat_trim.f k (x5 ++ [x6])).bind fun t479 => (some t479)) else (none))
def nat_Nat_shifted.f (k : Nat) (l0 : List Int) (a1 : Int) : Option (List Int) := if 0 ≤ (wrap64 (Int.tdiv a1 64)) then (if (wrap64 (Int.tdiv a1 64)) ≤ (wrap64 ((wrap64 ((wrap64 (Int.tdiv a1 64)) + (l0.length : Int))) + 1)) then (if (wrap64 ((wrap64 ((wrap64 (Int.tdiv a1 64)) + (l0.length : Int))) + 1) : Int).toNat ≤ 35184372088832 then (nat_Nat_shifted.l0 k a1 (List.replicate (wrap64 (Int.tdiv a1 64) : Int).toNat 0) 0 l0 (l0.length : Int) 0) else (none)) else (none)) else (none)
set_option maxHeartbeats 8000000 in
set_option maxRecDepth 100000 in
theorem nat_Nat_shifted.calls (k : Nat) (A0 : Option Addr) (c0 : Nat) (l0 : List Int) (a1 : Int) (r : List Int) (w : World) (hr0 : Kd.C (Kd.int .u64) w A0 l0.length l0) (hc0 : l0.length ≤ c0) (h : nat_Nat_shifted.f k l0 a1 = some r) :
    Calls Tryd.prog 53 #[.slice A0 l0.length c0, .int .i64 a1] w fun e w' => ∃ v0_ : Value, e = .returned (v0_) ∧ Kd.V (Kd.int .u64) 23 w' w.heap.size (fun k_ => (w.heap.size ≤ k_)) v0_ r ∧ Below w.heap.size w w' := by
  have HR0 := Aside0.mk hr0
  have HC0 := Aside0.mk hc0
  clear hr0 hc0
  have HB := Aside0.mk (Below.refl w.heap.size w)
  have H : (if 0 ≤ (wrap64 (Int.tdiv a1 64)) then (if (wrap64 (Int.tdiv a1 64)) ≤ (wrap64 ((wrap64 ((wrap64 (Int.tdiv a1 64)) + (l0.length : Int))) + 1)) then (if (wrap64 ((wrap64 ((wrap64 (Int.tdiv a1 64)) + (l0.length : Int))) + 1) : Int).toNat ≤ 35184372088832 then (nat_Nat_shifted.l0 k a1 (List.replicate (wrap64 (Int.tdiv a1 64) : Int).toNat 0) 0 l0 (l0.length : Int) 0) else (none)) else (none)) else (none)) = some r := h
  clear h
  obtain ⟨ji3, hji3⟩ : ∃ j_ : Int, (wrap64 (Int.tdiv a1 64)) = j_ := ⟨_, rfl⟩
  replace H : (if 0 ≤ (ji3) then (if (ji3) ≤ (wrap64 ((wrap64 ((ji3) + (l0.length : Int))) + 1)) then (if (wrap64 ((wrap64 ((ji3) + (l0.length : Int))) + 1) : Int).toNat ≤ 35184372088832 then (nat_Nat_shifted.l0 k a1 (List.replicate (ji3 : Int).toNat 0) 0 l0 (l0.length : Int) 0) else (none)) else (none)) else (none)) = some r := by first | (rw [hji3] at H; exact H) | (simp only [hji3] at H ⊢; exact H)
  have hji3w : (IntKind.i64.wrap (Int.tdiv a1 64)) = ji3 := (i64_w _).trans hji3
  by_cases c4 : 0 ≤ (ji3)
  · rw [if_pos c4] at H
    have c4b0 := eq_true c4
    have c4b1 : decide (0 ≤ (ji3)) = true := decide_eq_true c4
    clear c4
    by_cases c5 : (ji3) ≤ (wrap64 ((wrap64 ((ji3) + (l0.length : Int))) + 1))
    · rw [if_pos c5] at H
      have c5b0 := eq_true c5
      have c5b1 : decide ((ji3) ≤ (wrap64 ((wrap64 ((ji3) + (l0.length : Int))) + 1))) = true := decide_eq_true c5
      by_cases c6 : (wrap64 ((wrap64 ((ji3) + (l0.length : Int))) + 1) : Int).toNat ≤ 35184372088832
      · rw [if_pos c6] at H
        have c6b0 := eq_true c6
        have c6b1 : decide ((wrap64 ((wrap64 ((ji3) + (l0.length : Int))) + 1) : Int).toNat ≤ 35184372088832) = true := decide_eq_true c6
        obtain ⟨y469, hy469⟩ : ∃ y_ : List Int, y_ = (List.replicate (ji3 : Int).toNat 0) := ⟨_, rfl⟩
        replace H : (nat_Nat_shifted.l0 k a1 y469 0 l0 (l0.length : Int) 0) = some r := by first | (rw [hy469]; with_reducible exact H) | (have H2_ := (Option.bind_some _ _).symm.trans H; rw [hy469]; with_reducible exact H2_) | (have H2_ := (Option.bind_some _ _).symm.trans H; with_reducible exact H2_) | with_reducible exact H | (rw [hy469]; exact H) | exact H
        have Ny469 := Aside0.mk hy469
        clear hy469
        have H' := Aside0.mk H
        clear H
        go_enter Tryd.func53, Tryd.ntmps53
        go_wp2_with (first | ((with_reducible refine gate_dst (N := 17) rfl ?_); refine R_makec_ (Kd.int .u64) _ 23 rfl (N := 17) rfl 26 _ _ rfl ji3 (wrap64 ((wrap64 ((ji3) + (l0.length : Int))) + 1)) rfl rfl Tryd.underlying26 (.int .u64 0) 8 info23 rfl (by decide) (by omega) 0 (ok := fun _ => True) (okp := fun _ => True) rfl (fun _ hk => hk) trivial (of_decide_eq_true (by first | (with_reducible assumption) | assumption)) (of_decide_eq_true (by first | (with_reducible assumption) | assumption)) (Nat.le_trans (Nat.mul_le_mul_right _ (of_decide_eq_true (by first | (with_reducible assumption) | assumption) : (wrap64 ((wrap64 ((ji3) + (l0.length : Int))) + 1)).toNat ≤ 35184372088832)) (by omega)) (Below.refl _ _) (Nat.le_refl _) ?_; intro v470 w7 ho8 hb hg_ hnew_; clear hg_ hnew_; (first | rw [← Ny469.out] at ho8 | (simp only [Int.reduceToNat] at ho8; rw [← Ny469.out] at ho8)); have n0_ := Aside0.mk (Kd.R_lower (Kd.R_newM (M := fun k_ => (w.heap.size ≤ k_)) ho8 (below_size (by repeat (first | (with_reducible first | exact HB.out | apply below_alloc | apply pw_below_drewN | apply below_drew1) | exact HB.out))) (fun k_ h_ => h_)) (below_size (by repeat (first | (with_reducible first | exact HB.out | apply below_alloc | apply pw_below_drewN | apply below_drew1) | exact HB.out)))); have n1_ := Aside0.mk (below_step (by repeat (first | (with_reducible first | exact HB.out | apply below_alloc | apply pw_below_drewN | apply below_drew1) | exact HB.out)) hb); clear HB; have HO471 := n0_; have HB := n1_; clear n0_ n1_; clear hb ho8))
        go_loopg [5, 6, 20] k (fun kq v5 v6 v20 w' => ∃ (x5_1 : List Int) (x6_1 : Int) (x20_1 : Int), v6 = .int .u64 x6_1 ∧ v20 = .int .i64 x20_1 ∧ Aside0 (nat_Nat_shifted.l0 kq a1 x5_1 x6_1 l0 (l0.length : Int) x20_1 = some r) ∧ Aside0 (kq ≤ k) ∧ Aside0 (Kd.R (Kd.int .u64) 23 w' w.heap.size (fun k_ => (w.heap.size ≤ k_)) v5 x5_1) ∧ Aside0 (Below w.heap.size w w'))
        case atStart => exact ⟨(y469), (0), (0), (by first | rfl | (simp; done) | (simp [*]; done)), (by first | rfl | (simp; done) | (simp [*]; done)), H', ⟨Nat.le_refl _⟩, ⟨by (with_reducible repeat (first | apply Kd.R_alloc | apply Kd.R_drewN | apply Kd.R_drew)); exact Kd.R_mono HO471.out (fun _ hk => hk.1)⟩, ⟨by repeat (first | (with_reducible first | exact HB.out | apply below_alloc | apply pw_below_drewN | apply below_drew1) | exact HB.out)⟩⟩
        case round =>
          clear H'
          try clear p2
          try clear c4
          try clear c4b0
          try clear c4b1
          try clear c5
          try clear c5b0
          try clear c5b1
          try clear c6
          try clear c6b0
          try clear c6b1
          try clear p6
          obtain ⟨x5_1, x6_1, x20_1, rfl, rfl, HA, HK1, HO_5, HB⟩ := hrel
          cases gk with
          | zero => exact absurd HA.out (by simp [nat_Nat_shifted.l0])
          | succ k1 =>
            have H := HA.out
            clear HA
            simp only [nat_Nat_shifted.l0] at H
            by_cases c9 : x20_1 < (l0.length : Int)
            · rw [if_pos c9] at H
              have c9b0 : decide (x20_1 < (l0.length : Int)) = true := decide_eq_true c9
              clear c9
              by_cases c10 : 0 ≤ x20_1
              · rw [if_pos c10] at H
                have c10b0 : decide (0 ≤ x20_1) = true := decide_eq_true c10
                clear c10
                by_cases c11 : x20_1 < (l0.length : Int)
                · rw [if_pos c11] at H
                  have c11b0 : decide (x20_1 < (l0.length : Int)) = true := decide_eq_true c11
                  clear c11
                  obtain ⟨ji12, hji12⟩ : ∃ j_ : Int, (Int.tmod a1 64) = j_ := ⟨_, rfl⟩
                  replace H : (if 0 ≤ (ji12) then (if x5_1.length < 17592186044416 then (if 0 ≤ (wrap64 (64 - (ji12))) then (nat_Nat_shifted.l0 k1 a1 (x5_1 ++ [Go.bits .or .u64 (shl .u64 (rd l0 x20_1) (ji12)) x6_1]) (shr .u64 (rd l0 x20_1) (wrap64 (64 - (ji12)))) l0 (l0.length : Int) (wrap64 (x20_1 + 1))) else (none)) else (none)) else (none)) = some r := by first | (rw [hji12] at H; exact H) | (simp only [hji12] at H ⊢; exact H)
                  by_cases c13 : 0 ≤ (ji12)
                  · rw [if_pos c13] at H
                    have c13b0 := eq_true c13
                    have c13b1 : decide (0 ≤ (ji12)) = true := decide_eq_true c13
                    clear c13
                    obtain ⟨ji14, hji14⟩ : ∃ j_ : Int, (shl .u64 (rd l0 x20_1) (ji12)) = j_ := ⟨_, rfl⟩
                    replace H : (if x5_1.length < 17592186044416 then (if 0 ≤ (wrap64 (64 - (ji12))) then (nat_Nat_shifted.l0 k1 a1 (x5_1 ++ [Go.bits .or .u64 (ji14) x6_1]) (shr .u64 (rd l0 x20_1) (wrap64 (64 - (ji12)))) l0 (l0.length : Int) (wrap64 (x20_1 + 1))) else (none)) else (none)) = some r := by first | (rw [hji14] at H; exact H) | (simp only [hji14] at H ⊢; exact H)
                    have hji14_ : (IntKind.u64.wrap ((rd l0 x20_1) * 2 ^ min (ji12).toNat 64)) = ji14 := hji14
                    have hji14z : (ji12) ≤ 64 → (IntKind.u64.wrap ((rd l0 x20_1) * 2 ^ (ji12).toNat)) = ji14 := shl_small hji14
                    by_cases c15 : x5_1.length < 17592186044416
                    · rw [if_pos c15] at H
                      have LMc15 := Aside0.mk c15
                      clear c15
                      obtain ⟨y473, hy473⟩ : ∃ y_ : List Int, y_ = (x5_1 ++ [Go.bits .or .u64 (ji14) x6_1]) := ⟨_, rfl⟩
                      replace H : (if 0 ≤ (wrap64 (64 - (ji12))) then (nat_Nat_shifted.l0 k1 a1 y473 (shr .u64 (rd l0 x20_1) (wrap64 (64 - (ji12)))) l0 (l0.length : Int) (wrap64 (x20_1 + 1))) else (none)) = some r := by first | (rw [hy473]; with_reducible exact H) | (have H2_ := (Option.bind_some _ _).symm.trans H; rw [hy473]; with_reducible exact H2_) | (have H2_ := (Option.bind_some _ _).symm.trans H; with_reducible exact H2_) | with_reducible exact H | (rw [hy473]; exact H) | exact H
                      have Ny473 := Aside0.mk hy473
                      clear hy473
                      obtain ⟨ji16, hji16⟩ : ∃ j_ : Int, (wrap64 (64 - (ji12))) = j_ := ⟨_, rfl⟩
                      replace H : (if 0 ≤ (ji16) then (nat_Nat_shifted.l0 k1 a1 y473 (shr .u64 (rd l0 x20_1) (ji16)) l0 (l0.length : Int) (wrap64 (x20_1 + 1))) else (none)) = some r := by first | (rw [hji16] at H; exact H) | (simp only [hji16] at H ⊢; exact H)
                      have hji16w : (IntKind.i64.wrap (64 - (ji12))) = ji16 := (i64_w _).trans hji16
                      by_cases c17 : 0 ≤ (ji16)
                      · rw [if_pos c17] at H
                        have c17b0 := eq_true c17
                        have c17b1 : decide (0 ≤ (ji16)) = true := decide_eq_true c17
                        clear c17
                        obtain ⟨ji18, hji18⟩ : ∃ j_ : Int, (shr .u64 (rd l0 x20_1) (ji16)) = j_ := ⟨_, rfl⟩
                        replace H : (nat_Nat_shifted.l0 k1 a1 y473 ji18 l0 (l0.length : Int) (wrap64 (x20_1 + 1))) = some r := by first | (rw [hji18] at H; exact H) | (simp only [hji18] at H ⊢; exact H)
                        have hji18_ : ((rd l0 x20_1) / 2 ^ min (ji16).toNat 64) = ji18 := hji18
                        have hji18z : (ji16) ≤ 64 → ((rd l0 x20_1) / 2 ^ (ji16).toNat) = ji18 := shr_small hji18
                        have H' := Aside0.mk H
                        clear H
                        have p472 : 0 ≤ (x20_1 : Int) := of_decide_eq_true (by first | (with_reducible assumption) | assumption)
                        have q472 : x20_1 < (l0.length : Int) := of_decide_eq_true (by first | (with_reducible assumption) | assumption)
                        obtain ⟨ad472, e472, hx472_0⟩ := Kd.at_int HR0.out x20_1 p472 q472
                        cases e472
                        replace hx472_0 := (HB.out.cell (World.block_lt_of_cell? w _ hx472_0)).trans hx472_0
                        replace p472 := eq_true p472
                        replace q472 := eq_true q472
                        go_wp2_with (first | ((with_reducible refine gate_builtin (b := .append) (xs := #[.tmp 24, .tmp 31]) rfl ?_); at_builtin; refine Kd.R_append (Kd.int .u64) (w0 := w) w.heap.size rfl (.tmp 24) (.tmp 31) 26 23 (.int .u64 0) 8 rfl Tryd.underlying26 info23 rfl (by decide) (by omega) u5 x5_1 (Go.bits .or .u64 (ji14) x6_1) [.int .u64 (Go.bits .or .u64 (ji14) x6_1)] (fun k_ => (w.heap.size ≤ k_)) (fun _ => False) rfl rfl ?aP (fun _ hk => hk.elim) ?aF ?aO ?aB ?aS ?aL ?_; (case aP => exact rfl); (case aB => exact (by repeat (first | (with_reducible first | exact HB.out | apply below_alloc | apply pw_below_drewN | apply below_drew1) | exact HB.out))); (case aF => exact (fun k_ hk => (Nat.le_trans (below_size (by repeat (first | (with_reducible first | exact HB.out | apply below_alloc | apply pw_below_drewN | apply below_drew1) | exact HB.out))) hk))); (case aO => exact (by (with_reducible repeat (first | apply Kd.R_alloc | apply Kd.R_drewN | apply Kd.R_drew)); exact HO_5.out)); (case aS => exact (below_size (by repeat (first | (with_reducible first | exact HB.out | apply below_alloc | apply pw_below_drewN | apply below_drew1) | exact HB.out)))); (case aL => have := LMc15.out; omega); intro v474 w19 ho hb hg hat; rw [← Ny473.out] at ho; have n0_ := Aside0.mk (hb); have n1_ := Aside0.mk (ho); clear HB; clear HO_5; have HB := n0_; have HO475 := n1_; clear n0_ n1_; clear ho hb hg hat))
                        go_roundg k1
                        case measure => have := HK1.out; omega
                        case rel => exact ⟨(y473), (ji18), (wrap64 (x20_1 + 1)), (by first | rfl | (simp; done) | (simp only [← hji18] <;> (first | rfl | simp)) | (simp [*]; done)), (by first | rfl | (simp; done) | (simp [*]; done)), H', ⟨by have := HK1.out; omega⟩, ⟨by (with_reducible repeat (first | apply Kd.R_alloc | apply Kd.R_drewN | apply Kd.R_drew)); exact HO475.out⟩, ⟨by repeat (first | (with_reducible first | exact HB.out | apply below_alloc | apply pw_below_drewN | apply below_drew1) | exact HB.out)⟩⟩
                      · rw [if_neg c17] at H
                        exact absurd H (by simp)
                    · rw [if_neg c15] at H
                      exact absurd H (by simp)
                  · rw [if_neg c13] at H
                    exact absurd H (by simp)
                · rw [if_neg c11] at H
                  exact absurd H (by simp)
              · rw [if_neg c10] at H
                exact absurd H (by simp)
            · rw [if_neg c9] at H
              have c9b0 : decide (x20_1 < (l0.length : Int)) = false := decide_eq_false c9
              clear c9
              by_cases c20 : x5_1.length < 17592186044416
              · rw [if_pos c20] at H
                have LMc20 := Aside0.mk c20
                clear c20
                obtain ⟨y476, hy476⟩ : ∃ y_ : List Int, y_ = (x5_1 ++ [x6_1]) := ⟨_, rfl⟩
                replace H : ((nat_trim.f k1 y476).bind fun t479 => (some t479)) = some r := by first | (rw [hy476]; with_reducible exact H) | (have H2_ := (Option.bind_some _ _).symm.trans H; rw [hy476]; with_reducible exact H2_) | (have H2_ := (Option.bind_some _ _).symm.trans H; with_reducible exact H2_) | with_reducible exact H | (rw [hy476]; exact H) | exact H
                have Ny476 := Aside0.mk hy476
                clear hy476
                replace H := Option.bind_eq_some_iff.mp H
                obtain ⟨t479, A210, H⟩ := H
                replace H : (some t479) = some r := H
                have A21 := Aside0.mk A210
                clear A210
                obtain rfl := Option.some.inj H
                go_wp2_with (first | ((with_reducible refine gate_builtin (b := .append) (xs := #[.tmp 39, .tmp 41]) rfl ?_); at_builtin; refine Kd.R_append (Kd.int .u64) (w0 := w) w.heap.size rfl (.tmp 39) (.tmp 41) 26 23 (.int .u64 0) 8 rfl Tryd.underlying26 info23 rfl (by decide) (by omega) u5 x5_1 x6_1 [.int .u64 x6_1] (fun k_ => (w.heap.size ≤ k_)) (fun _ => False) rfl rfl ?aP (fun _ hk => hk.elim) ?aF ?aO ?aB ?aS ?aL ?_; (case aP => exact rfl); (case aB => exact (by repeat (first | (with_reducible first | exact HB.out | apply below_alloc | apply pw_below_drewN | apply below_drew1) | exact HB.out))); (case aF => exact (fun k_ hk => (Nat.le_trans (below_size (by repeat (first | (with_reducible first | exact HB.out | apply below_alloc | apply pw_below_drewN | apply below_drew1) | exact HB.out))) hk))); (case aO => exact (by (with_reducible repeat (first | apply Kd.R_alloc | apply Kd.R_drewN | apply Kd.R_drew)); exact HO_5.out)); (case aS => exact (below_size (by repeat (first | (with_reducible first | exact HB.out | apply below_alloc | apply pw_below_drewN | apply below_drew1) | exact HB.out)))); (case aL => have := LMc20.out; omega); intro v477 w22 ho hb hg hat; rw [← Ny476.out] at ho; have n0_ := Aside0.mk (hb); have n1_ := Aside0.mk (ho); clear HB; clear HO_5; have HB := n0_; have HO478 := n1_; clear n0_ n1_; clear ho hb hg hat; obtain ⟨Ao23, co23, eo23⟩ := Kd.R_slice HO478.out; subst eo23) | ((with_reducible refine gate_callee (f := 38) rfl ?_); refine goesL_ (some 43) rfl rfl Tryd.func38 (by kernel_rfl) rfl #[.slice Ao23 y476.length co23] rfl (by (try simp only [List.map_toArray, List.map_cons, List.map_nil]); first | done | rfl | (simp only [List.length_drop, List.length_take]; rfl) | ((simp [Act.eval, wrap64]) <;> omega) | ((simp [Act.eval, wrap64, IntKind.wrap, IntKind.bits, IntKind.signed]) <;> omega)) ?_; (with_reducible refine (nat_trim.calls k1 (fun k_ => some k_ = (.slice Ao23 y476.length co23 : Value).ownBlock) _ _ y476 t479 _ ?side1 A21.out).mono ?_); (case side1 => exact Kd.R_V (Kd.R_tight rfl (HO478.out))); rintro e w24 ⟨v480, rfl, ho0, hb⟩; refine ⟨_, rfl, ?_⟩; have n0_ := Aside0.mk (Kd.R_below (by (with_reducible repeat (first | apply Kd.R_alloc | apply Kd.R_drewN | apply Kd.R_drew)); exact HO478.out) hb); have n1_ := Aside0.mk (Kd.V_lower (Kd.V_mono (ok' := fun k_ => (w.heap.size ≤ k_)) ho0 (fun k_ hk_ => Or.elim hk_ (fun hs_ => ((HO478.out).1 k_ hs_.symm)) (fun hn_ => (Nat.le_trans (below_size (by repeat (first | (with_reducible first | exact HB.out | apply below_alloc | apply pw_below_drewN | apply below_drew1) | exact HB.out))) hn_)))) (below_size (by repeat (first | (with_reducible first | exact HB.out | apply below_alloc | apply pw_below_drewN | apply below_drew1) | exact HB.out)))); have n2_ := Aside0.mk (below_step (by repeat (first | (with_reducible first | exact HB.out | apply below_alloc | apply pw_below_drewN | apply below_drew1) | exact HB.out)) hb); clear HO478; clear HB; have HO478 := n0_; have HO481 := n1_; have HB := n2_; clear n0_ n1_ n2_; (try clear hb); (try clear hb2); (try clear hk); (try clear hi); (try clear ho0)))
                go_ret
                exact ⟨_, by first | rfl | (simp [errW_none, errW_some] <;> rfl) | (simp only [← hji3]; first | rfl | (simp [errW_none, errW_some] <;> rfl)) | (simp [*, errW_none, errW_some] <;> rfl), by (with_reducible repeat (first | apply Kd.V_alloc | apply Kd.V_drewN | apply Kd.V_drew)); exact HO481.out, by repeat (first | (with_reducible first | exact HB.out | apply below_alloc | apply pw_below_drewN | apply below_drew1) | exact HB.out)⟩
              · rw [if_neg c20] at H
                exact absurd H (by simp)
      · rw [if_neg c6] at H
        exact absurd H (by simp)
    · rw [if_neg c5] at H
      exact absurd H (by simp)
  · rw [if_neg c4] at H
    exact absurd H (by simp)
end Go.Proofs.YtcoipojikmgdmaaDoor.P
end
section
namespace Go.Proofs.YtcoipojikmgdmaaDoor.P
open Go.RowKit Go.Proofs.YtcoipojikmgdmaaDoorW.PrintWords Go.Proofs.YtcoipojikmgdmaaDoorW.PrintLast Go.Proofs.YtcoipojikmgdmaaDoorW.PrintMore
attribute [local go_sem] max2_int min2_int max_two min_two max_three min_three max_four min_four
set_option linter.unusedVariables false
set_option linter.unusedSimpArgs false
def nat_DivMod.l0 : Nat → List Int → List Int → List Int → Int → Option (List Int × List Int × Int)
  | 0, _, _, _, _ => none
  | k + 1, x1, x7, x8, x9 => if x9 ≥ 0 then ((nat_Nat_shifted.f k x1 x9).bind fun t493 => ((nat_Cmp.f x7 t493).bind fun t496 => (if t496 ≥ 0 then ((nat_less.f k x7 t493).bind fun t497 => (if 0 ≤ (wrap64 (Int.tdiv x9 64)) then (if (wrap64 (Int.tdiv x9 64)) < (x8.length : Int) then (if 0 ≤ (Int.tmod x9 64) then (nat_DivMod.l0 k x1 t497 (x8.set ((wrap64 (Int.tdiv x9 64)) : Int).toNat (Go.bits .or .u64 (rd x8 (wrap64 (Int.tdiv x9 64))) (shl .u64 1 (Int.tmod x9 64)))) (wrap64 (x9 - 1))) else (none)) else (none)) else (none))) else (nat_DivMod.l0 k x1 x7 x8 (wrap64 (x9 - 1)))))) else ((nat_trim.f k x8).bind fun t490 => (some (t490, x7, 0)))
def nat_DivMod.f (k : Nat) (l0 : List Int) (l1 : List Int) : Option (List Int × List Int × Int) := if (l1.length : Int) = 0 then (some (([] : List Int), ([] : List Int), 16)) else ((nat_Nat_uint64_51.f l0).bind fun t482 => (if 0 ≤ (l0.length : Int) then (if ((l0.length : Int) : Int).toNat ≤ 35184372088832 then ((nat_Nat_long.f l0).bind fun t488 => ((nat_Nat_long.f l1).bind fun t489 => (nat_DivMod.l0 k l1 t482 (List.replicate ((l0.length : Int) : Int).toNat 0) (wrap64 (t488 - t489))))) else (none)) else (none)))
def nat_DivMod.T11 : Bool × List (List Nat × List Nat) := (true, [([], []), ([], []), ([1], [1]), ([0, 2], [0, 2]), ([3], [3]), ([], []), ([5], [5]), ([6], [6]), ([4, 7], [4, 7]), ([0, 2, 0, 1, 2, 3, 4, 5, 6, 7, 8], [0, 2]), ([9, 8, 0, 1, 2, 3, 4, 5, 6, 7, 8], [8, 9])])
def nat_DivMod.B11 : List Nat := [0, 0, 2, 7, 15, 0, 32, 96, 255, 511, 1023]
theorem nat_DivMod.tab11 : rtab .any (opsOf Tryd.f33 11) = nat_DivMod.T11 := by kernel_rfl
theorem nat_DivMod.bits11 : waitsOk nat_DivMod.T11.2 nat_DivMod.B11 = true := by kernel_rfl
set_option maxHeartbeats 8000000 in
set_option maxRecDepth 100000 in
theorem nat_DivMod.calls (k : Nat) (A0 : Option Addr) (c0 : Nat) (l0 : List Int) (A1 : Option Addr) (c1 : Nat) (l1 : List Int) (r1 : List Int) (r2 : List Int) (r3 : Int) (w : World) (hr0 : Kd.C (Kd.int .u64) w A0 l0.length l0) (hc0 : l0.length ≤ c0) (hr1 : Kd.C (Kd.int .u64) w A1 l1.length l1) (hc1 : l1.length ≤ c1) (h : nat_DivMod.f k l0 l1 = some (r1, r2, r3)) :
    Calls Tryd.prog 33 #[.slice A0 l0.length c0, .slice A1 l1.length c1] w fun e w' => ∃ v0_ v1_ : Value, e = .returned (.tuple #[v0_, v1_, .int .i64 r3]) ∧ Kd.V (Kd.int .u64) 23 w' w.heap.size (fun k_ => (w.heap.size ≤ k_)) v0_ r1 ∧ Kd.V (Kd.int .u64) 23 w' w.heap.size (fun k_ => (w.heap.size ≤ k_)) v1_ r2 ∧ Below w.heap.size w w' := by
  have HR0 := Aside0.mk hr0
  have HC0 := Aside0.mk hc0
  clear hr0 hc0
  have HR1 := Aside0.mk hr1
  have HC1 := Aside0.mk hc1
  clear hr1 hc1
  have HB := Aside0.mk (Below.refl w.heap.size w)
  have H : (if (l1.length : Int) = 0 then (some (([] : List Int), ([] : List Int), 16)) else ((nat_Nat_uint64_51.f l0).bind fun t482 => (if 0 ≤ (l0.length : Int) then (if ((l0.length : Int) : Int).toNat ≤ 35184372088832 then ((nat_Nat_long.f l0).bind fun t488 => ((nat_Nat_long.f l1).bind fun t489 => (nat_DivMod.l0 k l1 t482 (List.replicate ((l0.length : Int) : Int).toNat 0) (wrap64 (t488 - t489))))) else (none)) else (none)))) = some (r1, r2, r3) := h
  clear h
  by_cases c3 : (l1.length : Int) = 0
  · rw [if_pos c3] at H
    have c3b0 : ((l1.length : Int) == 0) = true := beq_iff_eq.mpr c3
    have c3b1 : ((l1.length : Int) != 0) = false := bne_eq_false_iff_eq.mpr c3
    clear c3
    simp only [Option.some.injEq, Prod.mk.injEq] at H
    obtain ⟨rfl, rfl, rfl⟩ := H
    go_enter Tryd.func33, Tryd.ntmps33
    go_wp2
    go_ret3
    exact ⟨_, _, by first | rfl | (simp [errW_none, errW_some] <;> rfl) | (simp [*, errW_none, errW_some] <;> rfl), Kd.V_nil _ _ _ _ _, Kd.V_nil _ _ _ _ _, by repeat (first | (with_reducible first | exact HB.out | apply below_alloc | apply pw_below_drewN | apply below_drew1) | exact HB.out)⟩
  · rw [if_neg c3] at H
    have c3b0 : ((l1.length : Int) == 0) = false := beq_eq_false_iff_ne.mpr c3
    have c3b1 : ((l1.length : Int) != 0) = true := bne_iff_ne.mpr c3
    have c3b2 : ¬ (l1 = []) := fun h_ => c3 (by rw [h_]; rfl)
    replace H := Option.bind_eq_some_iff.mp H
    obtain ⟨t482, A40, H⟩ := H
    replace H : (if 0 ≤ (l0.length : Int) then (if ((l0.length : Int) : Int).toNat ≤ 35184372088832 then ((nat_Nat_long.f l0).bind fun t488 => ((nat_Nat_long.f l1).bind fun t489 => (nat_DivMod.l0 k l1 t482 (List.replicate ((l0.length : Int) : Int).toNat 0) (wrap64 (t488 - t489))))) else (none)) else (none)) = some (r1, r2, r3) := H
    have A4 := Aside0.mk A40
    clear A40
    by_cases c5 : 0 ≤ (l0.length : Int)
    · rw [if_pos c5] at H
      have c5b0 := eq_true c5
      have c5b1 : decide (0 ≤ (l0.length : Int)) = true := decide_eq_true c5
      clear c5
      by_cases c6 : ((l0.length : Int) : Int).toNat ≤ 35184372088832
      · rw [if_pos c6] at H
        have c6b0 := eq_true c6
        have c6b1 : decide (((l0.length : Int) : Int).toNat ≤ 35184372088832) = true := decide_eq_true c6
        clear c6
        obtain ⟨y485, hy485⟩ : ∃ y_ : List Int, y_ = (List.replicate ((l0.length : Int) : Int).toNat 0) := ⟨_, rfl⟩
        replace H : ((nat_Nat_long.f l0).bind fun t488 => ((nat_Nat_long.f l1).bind fun t489 => (nat_DivMod.l0 k l1 t482 y485 (wrap64 (t488 - t489))))) = some (r1, r2, r3) := by first | (rw [hy485]; with_reducible exact H) | (have H2_ := (Option.bind_some _ _).symm.trans H; rw [hy485]; with_reducible exact H2_) | (have H2_ := (Option.bind_some _ _).symm.trans H; with_reducible exact H2_) | with_reducible exact H | (rw [hy485]; exact H) | exact H
        have Ny485 := Aside0.mk hy485
        clear hy485
        replace H := Option.bind_eq_some_iff.mp H
        obtain ⟨t488, A70, H⟩ := H
        replace H : ((nat_Nat_long.f l1).bind fun t489 => (nat_DivMod.l0 k l1 t482 y485 (wrap64 (t488 - t489)))) = some (r1, r2, r3) := H
        have A7 := Aside0.mk A70
        clear A70
        replace H := Option.bind_eq_some_iff.mp H
        obtain ⟨t489, A80, H⟩ := H
        replace H : (nat_DivMod.l0 k l1 t482 y485 (wrap64 (t488 - t489))) = some (r1, r2, r3) := H
        have A8 := Aside0.mk A80
        clear A80
        have H' := Aside0.mk H
        clear H
        go_enter Tryd.func33, Tryd.ntmps33
        go_wp2_with (first | ((with_reducible refine gate_callee (f := 51) rfl ?_); refine goesL_ (some 15) rfl rfl Tryd.func51 (by kernel_rfl) rfl #[.slice A0 l0.length c0] rfl (by (try simp only [List.map_toArray, List.map_cons, List.map_nil]); first | done | rfl | (simp only [List.length_drop, List.length_take]; rfl) | ((simp [Act.eval, wrap64]) <;> omega) | ((simp [Act.eval, wrap64, IntKind.wrap, IntKind.bits, IntKind.signed]) <;> omega)) ?_; (with_reducible refine (nat_Nat_uint64_51.calls _ _ l0 t482 _ ?side1 ?side2 A4.out).mono ?_); (case side1 => repeat (first | exact HR0.out | (with_reducible refine Kd.C_alloc ?_ _) | (with_reducible refine Kd.C_drewN ?_ _) | (with_reducible refine Kd.C_drew ?_))); (case side2 => exact HC0.out); rintro e w9 ⟨v483, rfl, ho0, hb⟩; refine ⟨_, rfl, ?_⟩; have n0_ := Aside0.mk (Kd.R_lower (Kd.R_newM (M := fun k_ => (w.heap.size ≤ k_)) ho0 (below_size (by repeat (first | (with_reducible first | exact HB.out | apply below_alloc | apply pw_below_drewN | apply below_drew1) | exact HB.out))) (fun k_ h_ => h_)) (below_size (by repeat (first | (with_reducible first | exact HB.out | apply below_alloc | apply pw_below_drewN | apply below_drew1) | exact HB.out)))); have n1_ := Aside0.mk (below_step (by repeat (first | (with_reducible first | exact HB.out | apply below_alloc | apply pw_below_drewN | apply below_drew1) | exact HB.out)) hb); clear HB; have HO484 := n0_; have HB := n1_; clear n0_ n1_; (try clear hb); (try clear hb2); (try clear hk); (try clear hi); (try clear ho0)) | ((with_reducible refine gate_dst (N := 18) rfl ?_); refine Kd.R_make (Kd.int .u64) _ 23 rfl (N := 18) rfl 26 _ _ rfl (l0.length : Int) rfl rfl Tryd.underlying26 (.int .u64 0) 8 info23 rfl (by decide) (by omega) 0 (ok := fun _ => True) (okp := fun _ => True) rfl (fun _ hk => hk) trivial (of_decide_eq_true (by first | (with_reducible assumption) | assumption)) (Nat.le_trans (Nat.mul_le_mul_right _ (of_decide_eq_true (by first | (with_reducible assumption) | assumption) : (l0.length : Int).toNat ≤ 35184372088832)) (by omega)) (Below.refl _ _) (Nat.le_refl _) ?_; intro v486 w10 ho11 hb hg_ hnew_; clear hg_ hnew_; (first | rw [← Ny485.out] at ho11 | (simp only [Int.reduceToNat] at ho11; rw [← Ny485.out] at ho11)); have n0_ := Aside0.mk (Kd.R_elder' (by (with_reducible repeat (first | apply Kd.R_alloc | apply Kd.R_drewN | apply Kd.R_drew)); exact HO484.out) (Kd.R_base ho11) hb); have n1_ := Aside0.mk (Kd.R_lower (Kd.R_new' (Kd.R_newM (M := fun k_ => (w.heap.size ≤ k_)) ho11 (below_size (by repeat (first | (with_reducible first | exact HB.out | apply below_alloc | apply pw_below_drewN | apply below_drew1) | exact HB.out))) (fun k_ h_ => h_)) (Kd.R_lt (by (with_reducible repeat (first | apply Kd.R_alloc | apply Kd.R_drewN | apply Kd.R_drew)); exact HO484.out))) (below_size (by repeat (first | (with_reducible first | exact HB.out | apply below_alloc | apply pw_below_drewN | apply below_drew1) | exact HB.out)))); have n2_ := Aside0.mk (below_step (by repeat (first | (with_reducible first | exact HB.out | apply below_alloc | apply pw_below_drewN | apply below_drew1) | exact HB.out)) hb); clear HO484; clear HB; have HO484 := n0_; have HO487 := n1_; have HB := n2_; clear n0_ n1_ n2_; clear hb ho11) | ((with_reducible refine gate_callee (f := 52) rfl ?_); refine goesL_ (some 20) rfl rfl Tryd.func52 (by kernel_rfl) rfl #[.slice A0 l0.length c0] rfl (by (try simp only [List.map_toArray, List.map_cons, List.map_nil]); first | done | rfl | (simp only [List.length_drop, List.length_take]; rfl) | ((simp [Act.eval, wrap64]) <;> omega) | ((simp [Act.eval, wrap64, IntKind.wrap, IntKind.bits, IntKind.signed]) <;> omega)) ?_; (with_reducible refine (nat_Nat_long.calls _ _ l0 t488 _ ?side1 ?side2 A7.out).mono ?_); (case side1 => repeat (first | exact (Kd.C_below HR0.out HB.out) | (with_reducible refine Kd.C_alloc ?_ _) | (with_reducible refine Kd.C_drewN ?_ _) | (with_reducible refine Kd.C_drew ?_))); (case side2 => exact HC0.out); rintro e w' ⟨rfl, ⟨nd, rfl⟩⟩; refine ⟨_, rfl, ?_⟩) | ((with_reducible refine gate_callee (f := 52) rfl ?_); refine goesL_ (some 22) rfl rfl Tryd.func52 (by kernel_rfl) rfl #[.slice A1 l1.length c1] rfl (by (try simp only [List.map_toArray, List.map_cons, List.map_nil]); first | done | rfl | (simp only [List.length_drop, List.length_take]; rfl) | ((simp [Act.eval, wrap64]) <;> omega) | ((simp [Act.eval, wrap64, IntKind.wrap, IntKind.bits, IntKind.signed]) <;> omega)) ?_; (with_reducible refine (nat_Nat_long.calls _ _ l1 t489 _ ?side1 ?side2 A8.out).mono ?_); (case side1 => repeat (first | exact (Kd.C_below HR1.out (by repeat (first | (with_reducible first | exact HB.out | apply below_alloc | apply pw_below_drewN | apply below_drew1) | exact HB.out))) | (with_reducible refine Kd.C_alloc ?_ _) | (with_reducible refine Kd.C_drewN ?_ _) | (with_reducible refine Kd.C_drew ?_))); (case side2 => exact HC1.out); rintro e w' ⟨rfl, ⟨nd, rfl⟩⟩; refine ⟨_, rfl, ?_⟩))
        go_loopg [7, 9] k (fun kq v7 v9 w' => ∃ (x7_1 : List Int) (x8_1 : List Int) (x9_1 : Int), v9 = .int .i64 x9_1 ∧ Aside0 (nat_DivMod.l0 kq l1 x7_1 x8_1 x9_1 = some (r1, r2, r3)) ∧ Aside0 (kq ≤ k) ∧ Aside0 (Kd.V (Kd.int .u64) 23 w' w.heap.size (fun k_ => (w.heap.size ≤ k_) ∧ some k_ ≠ (v486 : Value).ownBlock) v7 x7_1) ∧ Aside0 (Kd.R (Kd.int .u64) 23 w' w.heap.size (fun k_ => (w.heap.size ≤ k_)) v486 x8_1) ∧ Aside0 (Below w.heap.size w w'))
        case atStart => exact ⟨(t482), (y485), (wrap64 (t488 - t489)), (by first | rfl | (simp; done) | (simp [*]; done)), H', ⟨Nat.le_refl _⟩, ⟨Kd.R_V (by (with_reducible repeat (first | apply Kd.R_alloc | apply Kd.R_drewN | apply Kd.R_drew)); exact Kd.R_mono HO484.out (fun _ hk => ⟨hk.1.1, hk.2⟩))⟩, ⟨by (with_reducible repeat (first | apply Kd.R_alloc | apply Kd.R_drewN | apply Kd.R_drew)); exact Kd.R_mono HO487.out (fun _ hk => hk.1.1)⟩, ⟨by repeat (first | (with_reducible first | exact HB.out | apply below_alloc | apply pw_below_drewN | apply below_drew1) | exact HB.out)⟩⟩
        case round =>
          clear H'
          try clear c1
          try clear p2
          try clear c3
          try clear c3b0
          try clear c3b1
          try clear c3b2
          try clear c5
          try clear c5b0
          try clear c5b1
          try clear c6
          try clear c6b0
          try clear c6b1
          try clear p6
          obtain ⟨x7_1, x8_1, x9_1, rfl, HA, HK1, HO_7, HO_8, HB⟩ := hrel
          cases gk with
          | zero => exact absurd HA.out (by simp [nat_DivMod.l0])
          | succ k1 =>
            have H := HA.out
            clear HA
            simp only [nat_DivMod.l0] at H
            by_cases c12 : x9_1 ≥ 0
            · rw [if_pos c12] at H
              have c12b0 : decide (0 ≤ x9_1) = true := decide_eq_true c12
              clear c12
              replace H := Option.bind_eq_some_iff.mp H
              obtain ⟨t493, A130, H⟩ := H
              replace H : ((nat_Cmp.f x7_1 t493).bind fun t496 => (if t496 ≥ 0 then ((nat_less.f k1 x7_1 t493).bind fun t497 => (if 0 ≤ (wrap64 (Int.tdiv x9_1 64)) then (if (wrap64 (Int.tdiv x9_1 64)) < (x8_1.length : Int) then (if 0 ≤ (Int.tmod x9_1 64) then (nat_DivMod.l0 k1 l1 t497 (x8_1.set ((wrap64 (Int.tdiv x9_1 64)) : Int).toNat (Go.bits .or .u64 (rd x8_1 (wrap64 (Int.tdiv x9_1 64))) (shl .u64 1 (Int.tmod x9_1 64)))) (wrap64 (x9_1 - 1))) else (none)) else (none)) else (none))) else (nat_DivMod.l0 k1 l1 x7_1 x8_1 (wrap64 (x9_1 - 1))))) = some (r1, r2, r3) := H
              have A13 := Aside0.mk A130
              clear A130
              replace H := Option.bind_eq_some_iff.mp H
              obtain ⟨t496, A140, H⟩ := H
              replace H : (if t496 ≥ 0 then ((nat_less.f k1 x7_1 t493).bind fun t497 => (if 0 ≤ (wrap64 (Int.tdiv x9_1 64)) then (if (wrap64 (Int.tdiv x9_1 64)) < (x8_1.length : Int) then (if 0 ≤ (Int.tmod x9_1 64) then (nat_DivMod.l0 k1 l1 t497 (x8_1.set ((wrap64 (Int.tdiv x9_1 64)) : Int).toNat (Go.bits .or .u64 (rd x8_1 (wrap64 (Int.tdiv x9_1 64))) (shl .u64 1 (Int.tmod x9_1 64)))) (wrap64 (x9_1 - 1))) else (none)) else (none)) else (none))) else (nat_DivMod.l0 k1 l1 x7_1 x8_1 (wrap64 (x9_1 - 1)))) = some (r1, r2, r3) := H
              have A14 := Aside0.mk A140
              clear A140
              by_cases c15 : t496 ≥ 0
              · rw [if_pos c15] at H
                have c15b0 : decide (0 ≤ t496) = true := decide_eq_true c15
                clear c15
                replace H := Option.bind_eq_some_iff.mp H
                obtain ⟨t497, A160, H⟩ := H
                replace H : (if 0 ≤ (wrap64 (Int.tdiv x9_1 64)) then (if (wrap64 (Int.tdiv x9_1 64)) < (x8_1.length : Int) then (if 0 ≤ (Int.tmod x9_1 64) then (nat_DivMod.l0 k1 l1 t497 (x8_1.set ((wrap64 (Int.tdiv x9_1 64)) : Int).toNat (Go.bits .or .u64 (rd x8_1 (wrap64 (Int.tdiv x9_1 64))) (shl .u64 1 (Int.tmod x9_1 64)))) (wrap64 (x9_1 - 1))) else (none)) else (none)) else (none)) = some (r1, r2, r3) := H
                have A16 := Aside0.mk A160
                clear A160
                obtain ⟨ji17, hji17⟩ : ∃ j_ : Int, (wrap64 (Int.tdiv x9_1 64)) = j_ := ⟨_, rfl⟩
                replace H : (if 0 ≤ (ji17) then (if (ji17) < (x8_1.length : Int) then (if 0 ≤ (Int.tmod x9_1 64) then (nat_DivMod.l0 k1 l1 t497 (x8_1.set ((ji17) : Int).toNat (Go.bits .or .u64 (rd x8_1 (ji17)) (shl .u64 1 (Int.tmod x9_1 64)))) (wrap64 (x9_1 - 1))) else (none)) else (none)) else (none)) = some (r1, r2, r3) := by first | (rw [hji17] at H; exact H) | (simp only [hji17] at H ⊢; exact H)
                (try rw [hji17] at A13)
                (try rw [hji17] at A14)
                (try rw [hji17] at A16)
                have hji17w : (IntKind.i64.wrap (Int.tdiv x9_1 64)) = ji17 := (i64_w _).trans hji17
                by_cases c18 : 0 ≤ (ji17)
                · rw [if_pos c18] at H
                  have c18b0 : decide (0 ≤ (ji17)) = true := decide_eq_true c18
                  clear c18
                  by_cases c19 : (ji17) < (x8_1.length : Int)
                  · rw [if_pos c19] at H
                    have c19b0 : decide ((ji17) < (x8_1.length : Int)) = true := decide_eq_true c19
                    clear c19
                    obtain ⟨ji20, hji20⟩ : ∃ j_ : Int, (Int.tmod x9_1 64) = j_ := ⟨_, rfl⟩
                    replace H : (if 0 ≤ (ji20) then (nat_DivMod.l0 k1 l1 t497 (x8_1.set ((ji17) : Int).toNat (Go.bits .or .u64 (rd x8_1 (ji17)) (shl .u64 1 (ji20)))) (wrap64 (x9_1 - 1))) else (none)) = some (r1, r2, r3) := by first | (rw [hji20] at H; exact H) | (simp only [hji20] at H ⊢; exact H)
                    (try rw [hji20] at A13)
                    (try rw [hji20] at A14)
                    (try rw [hji20] at A16)
                    by_cases c21 : 0 ≤ (ji20)
                    · rw [if_pos c21] at H
                      have c21b0 := eq_true c21
                      have c21b1 : decide (0 ≤ (ji20)) = true := decide_eq_true c21
                      clear c21
                      obtain ⟨ji22, hji22⟩ : ∃ j_ : Int, (shl .u64 1 (ji20)) = j_ := ⟨_, rfl⟩
                      replace H : (nat_DivMod.l0 k1 l1 t497 (x8_1.set ((ji17) : Int).toNat (Go.bits .or .u64 (rd x8_1 (ji17)) (ji22))) (wrap64 (x9_1 - 1))) = some (r1, r2, r3) := by first | (rw [hji22] at H; exact H) | (simp only [hji22] at H ⊢; exact H)
                      (try rw [hji22] at A13)
                      (try rw [hji22] at A14)
                      (try rw [hji22] at A16)
                      have hji22_ : (IntKind.u64.wrap (1 * 2 ^ min (ji20).toNat 64)) = ji22 := hji22
                      have hji22z : (ji20) ≤ 64 → (IntKind.u64.wrap (1 * 2 ^ (ji20).toNat)) = ji22 := shl_small hji22
                      have hji22u : (IntKind.u64.wrap (2 ^ min (ji20).toNat 64)) = ji22 := by have h_ := hji22_; rw [Int.one_mul] at h_; exact h_
                      have hji22v : (ji20) ≤ 64 → (IntKind.u64.wrap (2 ^ (ji20).toNat)) = ji22 := fun hle_ => by have h_ := hji22z hle_; rw [Int.one_mul] at h_; exact h_
                      obtain ⟨y501, hy501⟩ : ∃ y_ : List Int, y_ = (x8_1.set ((ji17) : Int).toNat (Go.bits .or .u64 (rd x8_1 (ji17)) (ji22))) := ⟨_, rfl⟩
                      replace H : (nat_DivMod.l0 k1 l1 t497 y501 (wrap64 (x9_1 - 1))) = some (r1, r2, r3) := by first | (rw [hy501]; with_reducible exact H) | (have H2_ := (Option.bind_some _ _).symm.trans H; rw [hy501]; with_reducible exact H2_) | (have H2_ := (Option.bind_some _ _).symm.trans H; with_reducible exact H2_) | with_reducible exact H | (rw [hy501]; exact H) | exact H
                      have Ny501 := Aside0.mk hy501
                      clear hy501
                      have H' := Aside0.mk H
                      clear H
                      try go_wp2_with (first | ((with_reducible refine gate_callee (f := 53) rfl ?_); refine goesL_ (some 30) rfl rfl Tryd.func53 (by kernel_rfl) rfl #[.slice A1 l1.length c1, .int .i64 x9_1] rfl (by (try simp only [List.map_toArray, List.map_cons, List.map_nil]); first | done | rfl | (simp only [List.length_drop, List.length_take]; rfl) | ((simp [Act.eval, wrap64]) <;> omega) | ((simp [Act.eval, wrap64, IntKind.wrap, IntKind.bits, IntKind.signed]) <;> omega)) ?_; (with_reducible refine (nat_Nat_shifted.calls k1 _ _ l1 x9_1 t493 _ ?side1 ?side2 A13.out).mono ?_); (case side1 => repeat (first | exact (Kd.C_below HR1.out HB.out) | (with_reducible refine Kd.C_alloc ?_ _) | (with_reducible refine Kd.C_drewN ?_ _) | (with_reducible refine Kd.C_drew ?_))); (case side2 => exact HC1.out); rintro e w24 ⟨v494, rfl, ho0, hb⟩; refine ⟨_, rfl, ?_⟩; have n0_ := Aside0.mk (Kd.V_below (by (with_reducible repeat (first | apply Kd.V_alloc | apply Kd.V_drewN | apply Kd.V_drew)); exact HO_7.out) hb); have n1_ := Aside0.mk (Kd.R_below (by (with_reducible repeat (first | apply Kd.R_alloc | apply Kd.R_drewN | apply Kd.R_drew)); exact HO_8.out) hb); have n2_ := Aside0.mk (Kd.V_lower (Kd.V_mono (ok' := fun k_ => (w.heap.size ≤ k_) ∧ some k_ ≠ (v486 : Value).ownBlock) ho0 (fun k_ hk_ => ⟨(Nat.le_trans (below_size (by repeat (first | (with_reducible first | exact HB.out | apply below_alloc | apply pw_below_drewN | apply below_drew1) | exact HB.out))) hk_), (Kd.fresh' (Kd.R_lt (by (with_reducible repeat (first | apply Kd.R_alloc | apply Kd.R_drewN | apply Kd.R_drew)); exact HO_8.out)) k_ hk_)⟩)) (below_size (by repeat (first | (with_reducible first | exact HB.out | apply below_alloc | apply pw_below_drewN | apply below_drew1) | exact HB.out)))); have n3_ := Aside0.mk (below_step (by repeat (first | (with_reducible first | exact HB.out | apply below_alloc | apply pw_below_drewN | apply below_drew1) | exact HB.out)) hb); clear HO_7; clear HO_8; clear HB; have HO_7 := n0_; have HO_8 := n1_; have HO495 := n2_; have HB := n3_; clear n0_ n1_ n2_ n3_; (try clear hb); (try clear hb2); (try clear hk); (try clear hi); (try clear ho0); obtain ⟨Ao25, co25, eo25⟩ := Kd.V_slice HO_7.out; subst eo25; obtain ⟨Ao26, co26, eo26⟩ := Kd.V_slice HO495.out; subst eo26) | ((with_reducible refine gate_callee (f := 24) rfl ?_); refine goesL_ (some 33) rfl rfl Tryd.func24 (by kernel_rfl) rfl #[.slice Ao25 x7_1.length co25, .slice Ao26 t493.length co26] rfl (by (try simp only [List.map_toArray, List.map_cons, List.map_nil]); first | done | rfl | (simp only [List.length_drop, List.length_take]; rfl) | ((simp [Act.eval, wrap64]) <;> omega) | ((simp [Act.eval, wrap64, IntKind.wrap, IntKind.bits, IntKind.signed]) <;> omega)) ?_; (with_reducible refine (nat_Cmp.calls _ _ x7_1 _ _ t493 t496 _ ?side1 ?side2 ?side3 ?side4 A14.out).mono ?_); (case side1 => repeat (first | exact (Kd.V_reads' HO_7.out).2.2 | (with_reducible refine Kd.C_alloc ?_ _) | (with_reducible refine Kd.C_drewN ?_ _) | (with_reducible refine Kd.C_drew ?_))); (case side2 => exact (Kd.V_reads' HO_7.out).2.1); (case side3 => repeat (first | exact (Kd.V_reads' HO495.out).2.2 | (with_reducible refine Kd.C_alloc ?_ _) | (with_reducible refine Kd.C_drewN ?_ _) | (with_reducible refine Kd.C_drew ?_))); (case side4 => exact (Kd.V_reads' HO495.out).2.1); rintro e w27 ⟨rfl, hb⟩; refine ⟨_, rfl, ?_⟩; have n0_ := Aside0.mk (Kd.V_below (by (with_reducible repeat (first | apply Kd.V_alloc | apply Kd.V_drewN | apply Kd.V_drew)); exact HO_7.out) hb); have n1_ := Aside0.mk (Kd.R_below (by (with_reducible repeat (first | apply Kd.R_alloc | apply Kd.R_drewN | apply Kd.R_drew)); exact HO_8.out) hb); have n2_ := Aside0.mk (Kd.V_below (by (with_reducible repeat (first | apply Kd.V_alloc | apply Kd.V_drewN | apply Kd.V_drew)); exact HO495.out) hb); have n3_ := Aside0.mk (below_step (by repeat (first | (with_reducible first | exact HB.out | apply below_alloc | apply pw_below_drewN | apply below_drew1) | exact HB.out)) hb); clear HO_7; clear HO_8; clear HO495; clear HB; have HO_7 := n0_; have HO_8 := n1_; have HO495 := n2_; have HB := n3_; clear n0_ n1_ n2_ n3_; (try clear hb); (try clear hb2); (try clear hk); (try clear hi)) | ((with_reducible refine gate_callee (f := 43) rfl ?_); refine goesL_ (some 37) rfl rfl Tryd.func43 (by kernel_rfl) rfl #[.slice Ao25 x7_1.length co25, .slice Ao26 t493.length co26] rfl (by (try simp only [List.map_toArray, List.map_cons, List.map_nil]); first | done | rfl | (simp only [List.length_drop, List.length_take]; rfl) | ((simp [Act.eval, wrap64]) <;> omega) | ((simp [Act.eval, wrap64, IntKind.wrap, IntKind.bits, IntKind.signed]) <;> omega)) ?_; (with_reducible refine (nat_less.calls k1 _ _ x7_1 _ _ t493 t497 _ ?side1 ?side2 ?side3 ?side4 A16.out).mono ?_); (case side1 => repeat (first | exact (Kd.V_reads' HO_7.out).2.2 | (with_reducible refine Kd.C_alloc ?_ _) | (with_reducible refine Kd.C_drewN ?_ _) | (with_reducible refine Kd.C_drew ?_))); (case side2 => exact (Kd.V_reads' HO_7.out).2.1); (case side3 => repeat (first | exact (Kd.V_reads' HO495.out).2.2 | (with_reducible refine Kd.C_alloc ?_ _) | (with_reducible refine Kd.C_drewN ?_ _) | (with_reducible refine Kd.C_drew ?_))); (case side4 => exact (Kd.V_reads' HO495.out).2.1); rintro e w28 ⟨v498, rfl, ho0, hb⟩; refine ⟨_, rfl, ?_⟩; have n0_ := Aside0.mk (Kd.V_below (by (with_reducible repeat (first | apply Kd.V_alloc | apply Kd.V_drewN | apply Kd.V_drew)); exact HO_7.out) hb); have n1_ := Aside0.mk (Kd.R_below (by (with_reducible repeat (first | apply Kd.R_alloc | apply Kd.R_drewN | apply Kd.R_drew)); exact HO_8.out) hb); have n2_ := Aside0.mk (Kd.V_below (by (with_reducible repeat (first | apply Kd.V_alloc | apply Kd.V_drewN | apply Kd.V_drew)); exact HO495.out) hb); have n3_ := Aside0.mk (Kd.V_lower (Kd.V_mono (ok' := fun k_ => (w.heap.size ≤ k_) ∧ some k_ ≠ (v486 : Value).ownBlock) ho0 (fun k_ hk_ => ⟨(Nat.le_trans (below_size (by repeat (first | (with_reducible first | exact HB.out | apply below_alloc | apply pw_below_drewN | apply below_drew1) | exact HB.out))) hk_), (Kd.fresh' (Kd.R_lt (by (with_reducible repeat (first | apply Kd.R_alloc | apply Kd.R_drewN | apply Kd.R_drew)); exact HO_8.out)) k_ hk_)⟩)) (below_size (by repeat (first | (with_reducible first | exact HB.out | apply below_alloc | apply pw_below_drewN | apply below_drew1) | exact HB.out)))); have n4_ := Aside0.mk (below_step (by repeat (first | (with_reducible first | exact HB.out | apply below_alloc | apply pw_below_drewN | apply below_drew1) | exact HB.out)) hb); clear HO_7; clear HO_8; clear HO495; clear HB; have HO_7 := n0_; have HO_8 := n1_; have HO495 := n2_; have HO499 := n3_; have HB := n4_; clear n0_ n1_ n2_ n3_ n4_; (try clear hb); (try clear hb2); (try clear hk); (try clear hi); (try clear ho0)))
                      have n0_ := Aside0.mk (Kd.V_drew HO_7.out)
                      have n1_ := Aside0.mk (Kd.R_drew HO_8.out)
                      have n2_ := Aside0.mk (Kd.V_drew HO495.out)
                      have n3_ := Aside0.mk (Kd.V_drew HO499.out)
                      have n4_ := Aside0.mk (below_drew1 HB.out)
                      clear HO_7
                      clear HO_8
                      clear HO495
                      clear HO499
                      clear HB
                      have HO_7 := n0_
                      have HO_8 := n1_
                      have HO495 := n2_
                      have HO499 := n3_
                      have HB := n4_
                      clear n0_ n1_ n2_ n3_ n4_
                      obtain ⟨Ao30, co30, eo30⟩ := Kd.R_slice HO_8.out
                      (first | subst eo30 | (injection eo30 with f1_ f2_ f3_; have f4_ := f1_.symm; have f5_ := f3_.symm; clear f1_ f2_ f3_; subst f4_; subst f5_))
                      have p500 : 0 ≤ ((ji17) : Int) := of_decide_eq_true (by first | (with_reducible assumption) | assumption)
                      have q500 : (ji17) < (x8_1.length : Int) := of_decide_eq_true (by first | (with_reducible assumption) | assumption)
                      obtain ⟨ad500, e500, hx500_0⟩ := Kd.at_int (Kd.R_reads' HO_8.out).2.2 (ji17) p500 q500
                      cases e500
                      replace p500 := eq_true p500
                      replace q500 := eq_true q500
                      have p23 : 0 ≤ ((ji17) : Int) := of_decide_eq_true (by first | (with_reducible assumption) | assumption)
                      have q23 : ((ji17) : Int) < ((x8_1.length : Int) : Int) := of_decide_eq_true (by first | (with_reducible assumption) | assumption)
                      obtain ⟨go23, co23, eo23, gb23, gl23, cl23, HG23⟩ := Kd.R_form HO_8.out (by omega)
                      (first | cases eo23 | (injection eo23 with ea_ en_ ec_; (first | subst ea_ | (injection ea_ with ea_; subst ea_)); subst ec_; clear en_))
                      have GB23 := Aside0.mk gb23
                      have GG23 := Aside0.mk HG23
                      clear gb23 gl23 HG23
                      (first | simp only [add_plain] at hx500_0 | skip)
                      obtain ⟨hx23_0, hf23_0⟩ := Kd.R_celln 0 HO_8.out ((ji17) : Int) p23 q23
                      replace p23 := eq_true p23
                      replace q23 := eq_true q23
                      have HP31 := Kd.R_putn HO_8.out ((ji17) : Int) (Go.bits .or .u64 (rd x8_1 (ji17)) (ji22))
                      rw [← Ny501.out] at HP31
                      have HQ31 := Aside0.mk HP31
                      clear HP31
                      refine start_ (n := 11) (S := fun w' => w'.cell? ⟨go23, ((ji17)).toNat, none⟩ = some (.int .u64 (rd x8_1 (ji17)))) (ds := [10]) #[false, false, false, false, false, false, false, false, false, false, false] (by kernel_rfl) rfl rfl (hx500_0) (fun hHeld => ?_); refine with_tabW nat_DivMod.tab11 nat_DivMod.bits11 (fun HT_ HW_ => ?_)
                      generalize w28.drew = w29 at HO_7 HO_8 HO495 HO499 HB GG23 HQ31 hf23_0 hx23_0 hx500_0 hHeld ⊢
                      refine pure_ (i := 0) (N := some 38) (v := ?_) (a' := ?_) #[true, false, false, false, false, false, false, false, false, false, false] rfl rfl (any_of HT_.out (by kernel_rfl)) (fun _ _ _ h => h) (Or.inl ⟨by rfl, ?_⟩) ?_ ?_
                      rotate_left
                      · intro w'
                        go_simp
                        with_reducible rfl
                      rotate_left
                      · simp only [Act.put, List.setIfInBounds_toArray, List.set_cons_zero, List.set_cons_succ, i64_w, i32_w]
                        rfl
                      refine pure_ (i := 1) (N := some 39) (v := ?_) (a' := ?_) #[true, true, false, false, false, false, false, false, false, false, false] rfl rfl (any_of HT_.out (by kernel_rfl)) (fun _ _ _ h => h) (Or.inl ⟨by rfl, ?_⟩) ?_ ?_
                      rotate_left
                      · intro w'
                        go_simp
                        with_reducible rfl
                      rotate_left
                      · simp only [Act.put, List.setIfInBounds_toArray, List.set_cons_zero, List.set_cons_succ, i64_w, i32_w]
                        rfl
                      refine pure_ (i := 2) (N := some 40) (v := ?_) (a' := ?_) #[true, true, true, false, false, false, false, false, false, false, false] rfl rfl (any_of HT_.out (by kernel_rfl)) (fun _ _ _ h => h) (Or.inl ⟨by rfl, ?_⟩) ?_ ?_
                      rotate_left
                      · intro w'
                        go_simp
                        with_reducible rfl
                      rotate_left
                      · simp only [Act.put, List.setIfInBounds_toArray, List.set_cons_zero, List.set_cons_succ, i64_w, i32_w]
                        rfl
                      refine pure_ (i := 3) (N := some 41) (v := ?_) (a' := ?_) #[true, true, true, true, false, false, false, false, false, false, false] rfl rfl (any_of HT_.out (by kernel_rfl)) (fun _ _ _ h => h) (Or.inl ⟨by rfl, ?_⟩) ?_ ?_
                      rotate_left
                      · intro w'
                        go_simp
                        with_reducible rfl
                      rotate_left
                      · simp only [Act.put, List.setIfInBounds_toArray, List.set_cons_zero, List.set_cons_succ, i64_w, i32_w]
                        rfl
                      refine pure_ (i := 5) (N := some 43) (v := ?_) (a' := ?_) #[true, true, true, true, false, true, false, false, false, false, false] rfl rfl (any_of HT_.out (by kernel_rfl)) (fun _ _ _ h => h) (Or.inl ⟨by rfl, ?_⟩) ?_ ?_
                      rotate_left
                      · intro w'
                        go_simp
                        with_reducible rfl
                      rotate_left
                      · simp only [Act.put, List.setIfInBounds_toArray, List.set_cons_zero, List.set_cons_succ, i64_w, i32_w]
                        rfl
                      refine pure_ (i := 6) (N := some 44) (v := ?_) (a' := ?_) #[true, true, true, true, false, true, true, false, false, false, false] rfl rfl (any_of HT_.out (by kernel_rfl)) (fun _ _ _ h => h) (Or.inl ⟨by rfl, ?_⟩) ?_ ?_
                      rotate_left
                      · intro w'
                        go_simp
                        with_reducible rfl
                      rotate_left
                      · simp only [Act.put, List.setIfInBounds_toArray, List.set_cons_zero, List.set_cons_succ, i64_w, i32_w]
                        rfl
                      refine pure_ (i := 7) (N := some 45) (v := ?_) (a' := ?_) #[true, true, true, true, false, true, true, true, false, false, false] rfl rfl (any_of HT_.out (by kernel_rfl)) (fun _ _ _ h => h) (Or.inl ⟨by rfl, ?_⟩) ?_ ?_
                      rotate_left
                      · intro w'
                        go_simp
                        with_reducible rfl
                      rotate_left
                      · simp only [Act.put, List.setIfInBounds_toArray, List.set_cons_zero, List.set_cons_succ, i64_w, i32_w]
                        rfl
                      refine take_ (i := 4) (N := some 42) (v := ?_) (a' := ?_) #[true, true, true, true, true, true, true, true, false, false, false] rfl rfl (take_ofW HT_.out HW_.out (by kernel_rfl)) (fun _ _ _ h => h) (Or.inl ⟨by rfl, ?_⟩) hHeld ?_ ?_
                      rotate_left
                      · intro w' s0
                        go_simp
                        with_reducible rfl
                      rotate_left
                      · simp only [Act.put, List.setIfInBounds_toArray, List.set_cons_zero, List.set_cons_succ, i64_w, i32_w]
                        rfl
                      refine pure_ (i := 8) (N := some 46) (v := ?_) (a' := ?_) #[true, true, true, true, true, true, true, true, true, false, false] rfl rfl (any_of HT_.out (by kernel_rfl)) (fun _ _ _ h => h) (Or.inl ⟨by rfl, ?_⟩) ?_ ?_
                      rotate_left
                      · intro w'
                        go_simp
                        with_reducible rfl
                      rotate_left
                      · simp only [Act.put, List.setIfInBounds_toArray, List.set_cons_zero, List.set_cons_succ, i64_w, i32_w]
                        rfl
                      refine pure_ (i := 9) (N := some 47) (v := ?_) (a' := ?_) #[true, true, true, true, true, true, true, true, true, true, false] rfl rfl (any_of HT_.out (by kernel_rfl)) (fun _ _ _ h => h) (Or.inl ⟨by rfl, ?_⟩) ?_ ?_
                      rotate_left
                      · intro w'
                        go_simp
                        with_reducible rfl
                      rotate_left
                      · simp only [Act.put, List.setIfInBounds_toArray, List.set_cons_zero, List.set_cons_succ, i64_w, i32_w]
                        rfl
                      refine last_ (i := 10) (N := none) #[true, true, true, true, true, true, true, true, true, true, true] rfl rfl (one_of HT_.out (by kernel_rfl)) (by decide) (fun K hK => ?_)
                      refine skip_ (w1 := ?_) (by rfl) rfl ?_ ?_
                      rotate_left
                      · go_simp
                        rfl
                      refine hK.out _ _ ?_
                      clear hK K
                      refine done_ (done_of HT_.out (by kernel_rfl)) ?_
                      try go_wp2
                      go_roundg k1
                      case measure => have := HK1.out; omega
                      case rel => exact ⟨(t497), (y501), (wrap64 (x9_1 - 1)), (by first | rfl | (simp; done) | (simp [*]; done)), H', ⟨by have := HK1.out; omega⟩, ⟨by (with_reducible repeat (first | apply Kd.V_alloc | apply Kd.V_drewN | apply Kd.V_drew)); exact Kd.V_mono (Kd.V_far (p := ⟨go23, ((ji17) : Int).toNat, none⟩) (Kd.V_mono HO499.out (fun k_ hk => (⟨hk, fun e_ => hk.2 (by rw [e_]; rfl)⟩ : _ ∧ k_ ≠ go23))) (fun _ hk => hk.2) (.int .u64 (Go.bits .or .u64 (rd x8_1 (ji17)) (ji22)))) (fun _ hk => ⟨hk.1.1, hk.1.2⟩)⟩, ⟨by (with_reducible repeat (first | apply Kd.R_alloc | apply Kd.R_drewN | apply Kd.R_drew)); exact HQ31.out⟩, ⟨by repeat (first | (with_reducible first | exact HB.out | apply below_alloc | apply pw_below_drewN | apply below_drew1 | refine below_set ?_ GB23.out) | exact HB.out)⟩⟩
                    · rw [if_neg c21] at H
                      exact absurd H (by simp)
                  · rw [if_neg c19] at H
                    exact absurd H (by simp)
                · rw [if_neg c18] at H
                  exact absurd H (by simp)
              · rw [if_neg c15] at H
                have c15b0 : decide (0 ≤ t496) = false := decide_eq_false c15
                clear c15
                have H' := Aside0.mk H
                clear H
                go_wp2_with (first | ((with_reducible refine gate_callee (f := 53) rfl ?_); refine goesL_ (some 30) rfl rfl Tryd.func53 (by kernel_rfl) rfl #[.slice A1 l1.length c1, .int .i64 x9_1] rfl (by (try simp only [List.map_toArray, List.map_cons, List.map_nil]); first | done | rfl | (simp only [List.length_drop, List.length_take]; rfl) | ((simp [Act.eval, wrap64]) <;> omega) | ((simp [Act.eval, wrap64, IntKind.wrap, IntKind.bits, IntKind.signed]) <;> omega)) ?_; (with_reducible refine (nat_Nat_shifted.calls k1 _ _ l1 x9_1 t493 _ ?side1 ?side2 A13.out).mono ?_); (case side1 => repeat (first | exact (Kd.C_below HR1.out HB.out) | (with_reducible refine Kd.C_alloc ?_ _) | (with_reducible refine Kd.C_drewN ?_ _) | (with_reducible refine Kd.C_drew ?_))); (case side2 => exact HC1.out); rintro e w32 ⟨v494, rfl, ho0, hb⟩; refine ⟨_, rfl, ?_⟩; have n0_ := Aside0.mk (Kd.V_below (by (with_reducible repeat (first | apply Kd.V_alloc | apply Kd.V_drewN | apply Kd.V_drew)); exact HO_7.out) hb); have n1_ := Aside0.mk (Kd.R_below (by (with_reducible repeat (first | apply Kd.R_alloc | apply Kd.R_drewN | apply Kd.R_drew)); exact HO_8.out) hb); have n2_ := Aside0.mk (Kd.V_lower (Kd.V_mono (ok' := fun k_ => (w.heap.size ≤ k_) ∧ some k_ ≠ (v486 : Value).ownBlock) ho0 (fun k_ hk_ => ⟨(Nat.le_trans (below_size (by repeat (first | (with_reducible first | exact HB.out | apply below_alloc | apply pw_below_drewN | apply below_drew1) | exact HB.out))) hk_), (Kd.fresh' (Kd.R_lt (by (with_reducible repeat (first | apply Kd.R_alloc | apply Kd.R_drewN | apply Kd.R_drew)); exact HO_8.out)) k_ hk_)⟩)) (below_size (by repeat (first | (with_reducible first | exact HB.out | apply below_alloc | apply pw_below_drewN | apply below_drew1) | exact HB.out)))); have n3_ := Aside0.mk (below_step (by repeat (first | (with_reducible first | exact HB.out | apply below_alloc | apply pw_below_drewN | apply below_drew1) | exact HB.out)) hb); clear HO_7; clear HO_8; clear HB; have HO_7 := n0_; have HO_8 := n1_; have HO495 := n2_; have HB := n3_; clear n0_ n1_ n2_ n3_; (try clear hb); (try clear hb2); (try clear hk); (try clear hi); (try clear ho0); obtain ⟨Ao33, co33, eo33⟩ := Kd.V_slice HO_7.out; subst eo33; obtain ⟨Ao34, co34, eo34⟩ := Kd.V_slice HO495.out; subst eo34) | ((with_reducible refine gate_callee (f := 24) rfl ?_); refine goesL_ (some 33) rfl rfl Tryd.func24 (by kernel_rfl) rfl #[.slice Ao33 x7_1.length co33, .slice Ao34 t493.length co34] rfl (by (try simp only [List.map_toArray, List.map_cons, List.map_nil]); first | done | rfl | (simp only [List.length_drop, List.length_take]; rfl) | ((simp [Act.eval, wrap64]) <;> omega) | ((simp [Act.eval, wrap64, IntKind.wrap, IntKind.bits, IntKind.signed]) <;> omega)) ?_; (with_reducible refine (nat_Cmp.calls _ _ x7_1 _ _ t493 t496 _ ?side1 ?side2 ?side3 ?side4 A14.out).mono ?_); (case side1 => repeat (first | exact (Kd.V_reads' HO_7.out).2.2 | (with_reducible refine Kd.C_alloc ?_ _) | (with_reducible refine Kd.C_drewN ?_ _) | (with_reducible refine Kd.C_drew ?_))); (case side2 => exact (Kd.V_reads' HO_7.out).2.1); (case side3 => repeat (first | exact (Kd.V_reads' HO495.out).2.2 | (with_reducible refine Kd.C_alloc ?_ _) | (with_reducible refine Kd.C_drewN ?_ _) | (with_reducible refine Kd.C_drew ?_))); (case side4 => exact (Kd.V_reads' HO495.out).2.1); rintro e w35 ⟨rfl, hb⟩; refine ⟨_, rfl, ?_⟩; have n0_ := Aside0.mk (Kd.V_below (by (with_reducible repeat (first | apply Kd.V_alloc | apply Kd.V_drewN | apply Kd.V_drew)); exact HO_7.out) hb); have n1_ := Aside0.mk (Kd.R_below (by (with_reducible repeat (first | apply Kd.R_alloc | apply Kd.R_drewN | apply Kd.R_drew)); exact HO_8.out) hb); have n2_ := Aside0.mk (Kd.V_below (by (with_reducible repeat (first | apply Kd.V_alloc | apply Kd.V_drewN | apply Kd.V_drew)); exact HO495.out) hb); have n3_ := Aside0.mk (below_step (by repeat (first | (with_reducible first | exact HB.out | apply below_alloc | apply pw_below_drewN | apply below_drew1) | exact HB.out)) hb); clear HO_7; clear HO_8; clear HO495; clear HB; have HO_7 := n0_; have HO_8 := n1_; have HO495 := n2_; have HB := n3_; clear n0_ n1_ n2_ n3_; (try clear hb); (try clear hb2); (try clear hk); (try clear hi)))
                go_roundg k1
                case measure => have := HK1.out; omega
                case rel => exact ⟨(x7_1), (x8_1), (wrap64 (x9_1 - 1)), (by first | rfl | (simp; done) | (simp [*]; done)), H', ⟨by have := HK1.out; omega⟩, ⟨by (with_reducible repeat (first | apply Kd.V_alloc | apply Kd.V_drewN | apply Kd.V_drew)); exact HO_7.out⟩, ⟨by (with_reducible repeat (first | apply Kd.R_alloc | apply Kd.R_drewN | apply Kd.R_drew)); exact HO_8.out⟩, ⟨by repeat (first | (with_reducible first | exact HB.out | apply below_alloc | apply pw_below_drewN | apply below_drew1) | exact HB.out)⟩⟩
            · rw [if_neg c12] at H
              have c12b0 : decide (0 ≤ x9_1) = false := decide_eq_false c12
              clear c12
              replace H := Option.bind_eq_some_iff.mp H
              obtain ⟨t490, A360, H⟩ := H
              replace H : (some (t490, x7_1, 0)) = some (r1, r2, r3) := H
              have A36 := Aside0.mk A360
              clear A360
              simp only [Option.some.injEq, Prod.mk.injEq] at H
              obtain ⟨rfl, rfl, rfl⟩ := H
              obtain ⟨Ao37, co37, eo37⟩ := Kd.R_slice HO_8.out
              subst eo37
              go_wp2_with (first | ((with_reducible refine gate_callee (f := 38) rfl ?_); refine goesL_ (some 49) rfl rfl Tryd.func38 (by kernel_rfl) rfl #[.slice Ao37 x8_1.length co37] rfl (by (try simp only [List.map_toArray, List.map_cons, List.map_nil]); first | done | rfl | (simp only [List.length_drop, List.length_take]; rfl) | ((simp [Act.eval, wrap64]) <;> omega) | ((simp [Act.eval, wrap64, IntKind.wrap, IntKind.bits, IntKind.signed]) <;> omega)) ?_; (with_reducible refine (nat_trim.calls k1 (fun k_ => some k_ = (.slice Ao37 x8_1.length co37 : Value).ownBlock) _ _ x8_1 t490 _ ?side1 A36.out).mono ?_); (case side1 => exact Kd.R_V (Kd.R_tight rfl (HO_8.out))); rintro e w38 ⟨v491, rfl, ho0, hb⟩; refine ⟨_, rfl, ?_⟩; have n0_ := Aside0.mk (Kd.V_below (by (with_reducible repeat (first | apply Kd.V_alloc | apply Kd.V_drewN | apply Kd.V_drew)); exact HO_7.out) hb); have n1_ := Aside0.mk (Kd.R_below (by (with_reducible repeat (first | apply Kd.R_alloc | apply Kd.R_drewN | apply Kd.R_drew)); exact HO_8.out) hb); have n2_ := Aside0.mk (Kd.V_lower (Kd.V_mono (ok' := fun k_ => (w.heap.size ≤ k_)) ho0 (fun k_ hk_ => Or.elim hk_ (fun hs_ => ((HO_8.out).1 k_ hs_.symm)) (fun hn_ => (Nat.le_trans (below_size (by repeat (first | (with_reducible first | exact HB.out | apply below_alloc | apply pw_below_drewN | apply below_drew1) | exact HB.out))) hn_)))) (below_size (by repeat (first | (with_reducible first | exact HB.out | apply below_alloc | apply pw_below_drewN | apply below_drew1) | exact HB.out)))); have n3_ := Aside0.mk (below_step (by repeat (first | (with_reducible first | exact HB.out | apply below_alloc | apply pw_below_drewN | apply below_drew1) | exact HB.out)) hb); clear HO_7; clear HO_8; clear HB; have HO_7 := n0_; have HO_8 := n1_; have HO492 := n2_; have HB := n3_; clear n0_ n1_ n2_ n3_; (try clear hb); (try clear hb2); (try clear hk); (try clear hi); (try clear ho0)))
              go_ret3
              exact ⟨_, _, by first | rfl | (simp [errW_none, errW_some] <;> rfl) | (simp [*, errW_none, errW_some] <;> rfl), by (with_reducible repeat (first | apply Kd.V_alloc | apply Kd.V_drewN | apply Kd.V_drew)); exact HO492.out, by (with_reducible repeat (first | apply Kd.V_alloc | apply Kd.V_drewN | apply Kd.V_drew)); exact Kd.V_mono HO_7.out (fun _ hk => hk.1), by repeat (first | (with_reducible first | exact HB.out | apply below_alloc | apply pw_below_drewN | apply below_drew1) | exact HB.out)⟩
      · rw [if_neg c6] at H
        exact absurd H (by simp)
    · rw [if_neg c5] at H
      exact absurd H (by simp)
end Go.Proofs.YtcoipojikmgdmaaDoor.P
end
section
namespace Go.Proofs.YtcoipojikmgdmaaDoor.P
open Go.RowKit Go.Proofs.YtcoipojikmgdmaaDoorW.PrintWords Go.Proofs.YtcoipojikmgdmaaDoorW.PrintLast Go.Proofs.YtcoipojikmgdmaaDoorW.PrintMore
attribute [local go_sem] max2_int min2_int max_two min_two max_three min_three max_four min_four
set_option linter.unusedVariables false
set_option linter.unusedSimpArgs false
def nat_Gcd.l0 : Nat → List Int → List Int → Option (List Int)
  | 0, _, _ => none
  | k + 1, x0, x1 => if (x1.length : Int) > 0 then ((nat_DivMod.f k x0 x1).bind fun bt505 => ((nat_Nat_uint64_51.f x1).bind fun t512 => (nat_Gcd.l0 k t512 bt505.2.1))) else (some x0)
def nat_Gcd.f (k : Nat) (l0 : List Int) (l1 : List Int) : Option (List Int) := (nat_Nat_uint64_51.f l0).bind fun t502 => (nat_Gcd.l0 k t502 l1)
set_option maxHeartbeats 8000000 in
set_option maxRecDepth 100000 in
theorem nat_Gcd.calls (k : Nat) (A0 : Option Addr) (c0 : Nat) (l0 : List Int) (P1_ : Nat → Prop) (A1 : Option Addr) (c1 : Nat) (l1 : List Int) (r : List Int) (w : World) (hr0 : Kd.C (Kd.int .u64) w A0 l0.length l0) (hc0 : l0.length ≤ c0) (hs1 : Kd.V (Kd.int .u64) 23 w w.heap.size (fun k_ => P1_ k_) (.slice A1 l1.length c1) l1) (h : nat_Gcd.f k l0 l1 = some r) :
    Calls Tryd.prog 31 #[.slice A0 l0.length c0, .slice A1 l1.length c1] w fun e w' => ∃ v0_ : Value, e = .returned (v0_) ∧ Kd.R (Kd.int .u64) 23 w' w.heap.size (fun k_ => (w.heap.size ≤ k_)) v0_ r ∧ Below w.heap.size w w' := by
  have HR0 := Aside0.mk hr0
  have HC0 := Aside0.mk hc0
  clear hr0 hc0
  have HO1 := Aside0.mk (show Kd.V (Kd.int .u64) 23 w w.heap.size (fun k_ => (P1_ k_ ∨ w.heap.size ≤ k_)) (.slice A1 l1.length c1) l1 from Kd.V_mono hs1 (fun k_ hk => .inl hk))
  have HB := Aside0.mk (Below.refl w.heap.size w)
  have H : ((nat_Nat_uint64_51.f l0).bind fun t502 => (nat_Gcd.l0 k t502 l1)) = some r := h
  clear h
  replace H := Option.bind_eq_some_iff.mp H
  obtain ⟨t502, A30, H⟩ := H
  replace H : (nat_Gcd.l0 k t502 l1) = some r := H
  have A3 := Aside0.mk A30
  clear A30
  have H' := Aside0.mk H
  clear H
  go_enter Tryd.func31, Tryd.ntmps31
  go_wp2_with (first | ((with_reducible refine gate_callee (f := 51) rfl ?_); refine goesL_ (some 9) rfl rfl Tryd.func51 (by kernel_rfl) rfl #[.slice A0 l0.length c0] rfl (by (try simp only [List.map_toArray, List.map_cons, List.map_nil]); first | done | rfl | (simp only [List.length_drop, List.length_take]; rfl) | ((simp [Act.eval, wrap64]) <;> omega) | ((simp [Act.eval, wrap64, IntKind.wrap, IntKind.bits, IntKind.signed]) <;> omega)) ?_; (with_reducible refine (nat_Nat_uint64_51.calls _ _ l0 t502 _ ?side1 ?side2 A3.out).mono ?_); (case side1 => repeat (first | exact HR0.out | (with_reducible refine Kd.C_alloc ?_ _) | (with_reducible refine Kd.C_drewN ?_ _) | (with_reducible refine Kd.C_drew ?_))); (case side2 => exact HC0.out); rintro e w4 ⟨v503, rfl, ho0, hb⟩; refine ⟨_, rfl, ?_⟩; have n0_ := Aside0.mk (Kd.V_elder' (by (with_reducible repeat (first | apply Kd.V_alloc | apply Kd.V_drewN | apply Kd.V_drew)); exact HO1.out) (Kd.R_base ho0) hb); have n1_ := Aside0.mk (Kd.R_lower (Kd.R_newM (M := fun k_ => (w.heap.size ≤ k_)) ho0 (below_size (by repeat (first | (with_reducible first | exact HB.out | apply below_alloc | apply pw_below_drewN | apply below_drew1) | exact HB.out))) (fun k_ h_ => h_)) (below_size (by repeat (first | (with_reducible first | exact HB.out | apply below_alloc | apply pw_below_drewN | apply below_drew1) | exact HB.out)))); have n2_ := Aside0.mk (below_step (by repeat (first | (with_reducible first | exact HB.out | apply below_alloc | apply pw_below_drewN | apply below_drew1) | exact HB.out)) hb); clear HO1; clear HB; have HO1 := n0_; have HO504 := n1_; have HB := n2_; clear n0_ n1_ n2_; (try clear hb); (try clear hb2); (try clear hk); (try clear hi); (try clear ho0)))
  go_loopg [0, 1] k (fun kq v0 v1 w' => ∃ (x0_1 : List Int) (x1_1 : List Int), Aside0 (nat_Gcd.l0 kq x0_1 x1_1 = some r) ∧ Aside0 (kq ≤ k) ∧ Aside0 (Kd.R (Kd.int .u64) 23 w' w.heap.size (fun k_ => (w.heap.size ≤ k_)) v0 x0_1) ∧ Aside0 (Kd.V (Kd.int .u64) 23 w' w.heap.size (fun k_ => (P1_ k_ ∨ w.heap.size ≤ k_) ∧ some k_ ≠ (v0 : Value).ownBlock) v1 x1_1) ∧ Aside0 (Below w.heap.size w w'))
  case atStart => exact ⟨(t502), (l1), H', ⟨Nat.le_refl _⟩, ⟨by (with_reducible repeat (first | apply Kd.R_alloc | apply Kd.R_drewN | apply Kd.R_drew)); exact Kd.R_mono HO504.out (fun _ hk => hk.1)⟩, ⟨by (with_reducible repeat (first | apply Kd.V_alloc | apply Kd.V_drewN | apply Kd.V_drew)); exact HO1.out⟩, ⟨by repeat (first | (with_reducible first | exact HB.out | apply below_alloc | apply pw_below_drewN | apply below_drew1) | exact HB.out)⟩⟩
  case round =>
    clear H'
    try clear c1
    try clear p2
    try clear c3
    obtain ⟨x0_1, x1_1, HA, HK1, HO_0, HO_1, HB⟩ := hrel
    cases gk with
    | zero => exact absurd HA.out (by simp [nat_Gcd.l0])
    | succ k1 =>
      have H := HA.out
      clear HA
      simp only [nat_Gcd.l0] at H
      by_cases c5 : (x1_1.length : Int) > 0
      · rw [if_pos c5] at H
        have c5b0 : decide (0 < (x1_1.length : Int)) = true := decide_eq_true c5
        have c5b1 : decide (0 < x1_1.length) = true := decide_eq_true (by omega)
        clear c5
        replace H := Option.bind_eq_some_iff.mp H
        obtain ⟨⟨t505, t508, t511⟩, A60, H⟩ := H
        replace H : ((nat_Nat_uint64_51.f x1_1).bind fun t512 => (nat_Gcd.l0 k1 t512 t508)) = some r := H
        have A6 := Aside0.mk A60
        clear A60
        replace H := Option.bind_eq_some_iff.mp H
        obtain ⟨t512, A70, H⟩ := H
        replace H : (nat_Gcd.l0 k1 t512 t508) = some r := H
        have A7 := Aside0.mk A70
        clear A70
        have H' := Aside0.mk H
        clear H
        obtain ⟨Ao8, co8, eo8⟩ := Kd.V_slice HO_1.out
        subst eo8
        obtain ⟨Ao9, co9, eo9⟩ := Kd.R_slice HO_0.out
        subst eo9
        go_wp2_with (first | ((with_reducible refine gate_callee (f := 33) rfl ?_); refine goesL_ (some 16) rfl rfl Tryd.func33 (by kernel_rfl) rfl #[.slice Ao9 x0_1.length co9, .slice Ao8 x1_1.length co8] rfl (by (try simp only [List.map_toArray, List.map_cons, List.map_nil]); first | done | rfl | (simp only [List.length_drop, List.length_take]; rfl) | ((simp [Act.eval, wrap64]) <;> omega) | ((simp [Act.eval, wrap64, IntKind.wrap, IntKind.bits, IntKind.signed]) <;> omega)) ?_; (with_reducible refine (nat_DivMod.calls k1 _ _ x0_1 _ _ x1_1 t505 t508 t511 _ ?side1 ?side2 ?side3 ?side4 A6.out).mono ?_); (case side1 => repeat (first | exact (Kd.R_reads' HO_0.out).2.2 | (with_reducible refine Kd.C_alloc ?_ _) | (with_reducible refine Kd.C_drewN ?_ _) | (with_reducible refine Kd.C_drew ?_))); (case side2 => exact (Kd.R_reads' HO_0.out).2.1); (case side3 => repeat (first | exact (Kd.V_reads' HO_1.out).2.2 | (with_reducible refine Kd.C_alloc ?_ _) | (with_reducible refine Kd.C_drewN ?_ _) | (with_reducible refine Kd.C_drew ?_))); (case side4 => exact (Kd.V_reads' HO_1.out).2.1); rintro e w10 ⟨v506, v509, rfl, ho0, ho1, hb⟩; refine ⟨_, rfl, ?_⟩; have n0_ := Aside0.mk (Kd.R_below (by (with_reducible repeat (first | apply Kd.R_alloc | apply Kd.R_drewN | apply Kd.R_drew)); exact HO_0.out) hb); have n1_ := Aside0.mk (Kd.V_below (by (with_reducible repeat (first | apply Kd.V_alloc | apply Kd.V_drewN | apply Kd.V_drew)); exact HO_1.out) hb); have n2_ := Aside0.mk (Kd.V_lower (Kd.V_mono (ok' := fun k_ => (P1_ k_ ∨ w.heap.size ≤ k_) ∧ some k_ ≠ (.slice Ao9 x0_1.length co9 : Value).ownBlock) ho0 (fun k_ hk_ => ⟨(.inr (Nat.le_trans (below_size (by repeat (first | (with_reducible first | exact HB.out | apply below_alloc | apply pw_below_drewN | apply below_drew1) | exact HB.out))) hk_)), (Kd.fresh' (Kd.R_lt (by (with_reducible repeat (first | apply Kd.R_alloc | apply Kd.R_drewN | apply Kd.R_drew)); exact HO_0.out)) k_ hk_)⟩)) (below_size (by repeat (first | (with_reducible first | exact HB.out | apply below_alloc | apply pw_below_drewN | apply below_drew1) | exact HB.out)))); have n3_ := Aside0.mk (Kd.V_lower (Kd.V_mono (ok' := fun k_ => (P1_ k_ ∨ w.heap.size ≤ k_) ∧ some k_ ≠ (.slice Ao9 x0_1.length co9 : Value).ownBlock) ho1 (fun k_ hk_ => ⟨(.inr (Nat.le_trans (below_size (by repeat (first | (with_reducible first | exact HB.out | apply below_alloc | apply pw_below_drewN | apply below_drew1) | exact HB.out))) hk_)), (Kd.fresh' (Kd.R_lt (by (with_reducible repeat (first | apply Kd.R_alloc | apply Kd.R_drewN | apply Kd.R_drew)); exact HO_0.out)) k_ hk_)⟩)) (below_size (by repeat (first | (with_reducible first | exact HB.out | apply below_alloc | apply pw_below_drewN | apply below_drew1) | exact HB.out)))); have n4_ := Aside0.mk (below_step (by repeat (first | (with_reducible first | exact HB.out | apply below_alloc | apply pw_below_drewN | apply below_drew1) | exact HB.out)) hb); clear HO_0; clear HO_1; clear HB; have HO_0 := n0_; have HO_1 := n1_; have HO507 := n2_; have HO510 := n3_; have HB := n4_; clear n0_ n1_ n2_ n3_ n4_; (try clear hb); (try clear hb2); (try clear hk); (try clear hi); (try clear ho0); (try clear ho1)) | ((with_reducible refine gate_callee (f := 51) rfl ?_); refine goesL_ (some 21) rfl rfl Tryd.func51 (by kernel_rfl) rfl #[.slice Ao8 x1_1.length co8] rfl (by (try simp only [List.map_toArray, List.map_cons, List.map_nil]); first | done | rfl | (simp only [List.length_drop, List.length_take]; rfl) | ((simp [Act.eval, wrap64]) <;> omega) | ((simp [Act.eval, wrap64, IntKind.wrap, IntKind.bits, IntKind.signed]) <;> omega)) ?_; (with_reducible refine (nat_Nat_uint64_51.calls _ _ x1_1 t512 _ ?side1 ?side2 A7.out).mono ?_); (case side1 => repeat (first | exact (Kd.V_reads' HO_1.out).2.2 | (with_reducible refine Kd.C_alloc ?_ _) | (with_reducible refine Kd.C_drewN ?_ _) | (with_reducible refine Kd.C_drew ?_))); (case side2 => exact (Kd.V_reads' HO_1.out).2.1); rintro e w11 ⟨v513, rfl, ho0, hb⟩; refine ⟨_, rfl, ?_⟩; have n0_ := Aside0.mk (Kd.R_elder' (by (with_reducible repeat (first | apply Kd.R_alloc | apply Kd.R_drewN | apply Kd.R_drew)); exact HO_0.out) (Kd.R_base ho0) hb); have n1_ := Aside0.mk (Kd.V_elder' (by (with_reducible repeat (first | apply Kd.V_alloc | apply Kd.V_drewN | apply Kd.V_drew)); exact HO_1.out) (Kd.R_base ho0) hb); have n2_ := Aside0.mk (Kd.V_elder' (by (with_reducible repeat (first | apply Kd.V_alloc | apply Kd.V_drewN | apply Kd.V_drew)); exact HO507.out) (Kd.R_base ho0) hb); have n3_ := Aside0.mk (Kd.V_elder' (by (with_reducible repeat (first | apply Kd.V_alloc | apply Kd.V_drewN | apply Kd.V_drew)); exact HO510.out) (Kd.R_base ho0) hb); have n4_ := Aside0.mk (Kd.R_lower (Kd.R_new' (Kd.R_newM (M := fun k_ => (w.heap.size ≤ k_)) ho0 (below_size (by repeat (first | (with_reducible first | exact HB.out | apply below_alloc | apply pw_below_drewN | apply below_drew1) | exact HB.out))) (fun k_ h_ => h_)) (Kd.R_lt (by (with_reducible repeat (first | apply Kd.R_alloc | apply Kd.R_drewN | apply Kd.R_drew)); exact HO_0.out))) (below_size (by repeat (first | (with_reducible first | exact HB.out | apply below_alloc | apply pw_below_drewN | apply below_drew1) | exact HB.out)))); have n5_ := Aside0.mk (below_step (by repeat (first | (with_reducible first | exact HB.out | apply below_alloc | apply pw_below_drewN | apply below_drew1) | exact HB.out)) hb); clear HO_0; clear HO_1; clear HO507; clear HO510; clear HB; have HO_0 := n0_; have HO_1 := n1_; have HO507 := n2_; have HO510 := n3_; have HO514 := n4_; have HB := n5_; clear n0_ n1_ n2_ n3_ n4_ n5_; (try clear hb); (try clear hb2); (try clear hk); (try clear hi); (try clear ho0)))
        go_roundg k1
        case measure => have := HK1.out; omega
        case rel => exact ⟨(t512), (t508), H', ⟨by have := HK1.out; omega⟩, ⟨by (with_reducible repeat (first | apply Kd.R_alloc | apply Kd.R_drewN | apply Kd.R_drew)); exact Kd.R_mono HO514.out (fun _ hk => hk.1.1)⟩, ⟨by (with_reducible repeat (first | apply Kd.V_alloc | apply Kd.V_drewN | apply Kd.V_drew)); exact Kd.V_mono HO510.out (fun _ hk => ⟨hk.1.1, hk.2⟩)⟩, ⟨by repeat (first | (with_reducible first | exact HB.out | apply below_alloc | apply pw_below_drewN | apply below_drew1) | exact HB.out)⟩⟩
      · rw [if_neg c5] at H
        have c5b0 : decide (0 < (x1_1.length : Int)) = false := decide_eq_false c5
        have c5b1 : decide (0 < x1_1.length) = false := decide_eq_false (by omega)
        clear c5
        obtain rfl := Option.some.inj H
        obtain ⟨Ao12, co12, eo12⟩ := Kd.V_slice HO_1.out
        subst eo12
        go_wp2
        go_ret
        exact ⟨_, by first | rfl | (simp [errW_none, errW_some] <;> rfl) | (simp [*, errW_none, errW_some] <;> rfl), by (with_reducible repeat (first | apply Kd.R_alloc | apply Kd.R_drewN | apply Kd.R_drew)); exact HO_0.out, by repeat (first | (with_reducible first | exact HB.out | apply below_alloc | apply pw_below_drewN | apply below_drew1) | exact HB.out)⟩
end Go.Proofs.YtcoipojikmgdmaaDoor.P
end
section
namespace Go.Proofs.YtcoipojikmgdmaaDoor.P
open Go.RowKit Go.Proofs.YtcoipojikmgdmaaDoorW.PrintWords Go.Proofs.YtcoipojikmgdmaaDoorW.PrintLast Go.Proofs.YtcoipojikmgdmaaDoorW.PrintMore
attribute [local go_sem] max2_int min2_int max_two min_two max_three min_three max_four min_four
set_option linter.unusedVariables false
set_option linter.unusedSimpArgs false
def roundellaw02_NatGcds.j0 : Nat → List Int → List Int → Bool → Option (Bool)
  | 0, _, _, _ => none
  | k + 1, x0, x1, x20 => if x20 = true then ((roundellaw02_awake.f k).bind fun t556 => (some t556)) else ((roundellaw02_copied.f x0).bind fun t557 => ((roundellaw02_copied.f x1).bind fun t560 => ((nat_Gcd.f k t557 t560).bind fun t563 => ((roundelref02_Limbs.f k x0).bind fun t566 => ((roundelref02_Limbs.f k x1).bind fun t569 => ((roundelref02_Gcd.f k t566 t569).bind fun t572 => ((roundellaw02_Is.f k t563 t572).bind fun t575 => (some t575))))))))
def roundellaw02_NatGcds.f (k : Nat) (l0 : List Int) (l1 : List Int) : Option (Bool) := (roundellaw02_awake.f k).bind fun t554 => (if t554 = true then ((roundellaw02_few.f l0 l1).bind fun t555 => (if t555 = true then (roundellaw02_NatGcds.j0 k l0 l1 (decide ((wrap64 ((l0.length : Int) + (l1.length : Int))) > 8))) else (roundellaw02_NatGcds.j0 k l0 l1 true))) else (roundellaw02_NatGcds.j0 k l0 l1 true))
set_option maxHeartbeats 8000000 in
set_option maxRecDepth 100000 in
theorem roundellaw02_NatGcds.calls (k : Nat) (A0 : Option Addr) (c0 : Nat) (l0 : List Int) (A1 : Option Addr) (c1 : Nat) (l1 : List Int) (r : Bool) (w : World) (hr0 : Kd.C (Kd.int .u64) w A0 l0.length l0) (hc0 : l0.length ≤ c0) (hr1 : Kd.C (Kd.int .u64) w A1 l1.length l1) (hc1 : l1.length ≤ c1) (hG : Glob w) (h : roundellaw02_NatGcds.f k l0 l1 = some r) :
    Calls Tryd.prog 8 #[.slice A0 l0.length c0, .slice A1 l1.length c1] w fun e w' => e = .returned (.bool r) ∧ Below w.heap.size w w' := by
  have HR0 := Aside0.mk hr0
  have HC0 := Aside0.mk hc0
  clear hr0 hc0
  have HR1 := Aside0.mk hr1
  have HC1 := Aside0.mk hc1
  clear hr1 hc1
  have HG := Aside0.mk hG
  clear hG
  have HB := Aside0.mk (Below.refl w.heap.size w)
  have H : ((roundellaw02_awake.f k).bind fun t554 => (if t554 = true then ((roundellaw02_few.f l0 l1).bind fun t555 => (if t555 = true then (roundellaw02_NatGcds.j0 k l0 l1 (decide ((wrap64 ((l0.length : Int) + (l1.length : Int))) > 8))) else (roundellaw02_NatGcds.j0 k l0 l1 true))) else (roundellaw02_NatGcds.j0 k l0 l1 true))) = some r := h
  clear h
  have HC3 := Aside0.mk H
  clear H
  go_enter Tryd.func8, Tryd.ntmps8
  go_upto_region 1 with (fail)
  go_cut [20] (fun v20 wc => ∃ (kq : Nat) (x20_2 : Bool), v20 = .bool x20_2 ∧ Aside0 (roundellaw02_NatGcds.j0 kq l0 l1 x20_2 = some r) ∧ Aside0 (kq ≤ k) ∧ Aside0 (Below w.heap.size w wc))
  case first =>
    have H := HC3.out
    clear HC3
    replace H := Option.bind_eq_some_iff.mp H
    obtain ⟨t554, A40, H⟩ := H
    replace H : (if t554 = true then ((roundellaw02_few.f l0 l1).bind fun t555 => (if t555 = true then (roundellaw02_NatGcds.j0 k l0 l1 (decide ((wrap64 ((l0.length : Int) + (l1.length : Int))) > 8))) else (roundellaw02_NatGcds.j0 k l0 l1 true))) else (roundellaw02_NatGcds.j0 k l0 l1 true)) = some r := H
    have A4 := Aside0.mk A40
    clear A40
    by_cases c5 : t554 = true
    · subst c5
      have H1 : ((roundellaw02_few.f l0 l1).bind fun t555 => (if t555 = true then (roundellaw02_NatGcds.j0 k l0 l1 (decide ((wrap64 ((l0.length : Int) + (l1.length : Int))) > 8))) else (roundellaw02_NatGcds.j0 k l0 l1 true))) = some r := by rw [if_pos rfl] at H; exact H
      clear H
      have H := H1
      clear H1
      replace H := Option.bind_eq_some_iff.mp H
      obtain ⟨t555, A60, H⟩ := H
      replace H : (if t555 = true then (roundellaw02_NatGcds.j0 k l0 l1 (decide ((wrap64 ((l0.length : Int) + (l1.length : Int))) > 8))) else (roundellaw02_NatGcds.j0 k l0 l1 true)) = some r := H
      have A6 := Aside0.mk A60
      clear A60
      by_cases c7 : t555 = true
      · subst c7
        have H1 : (roundellaw02_NatGcds.j0 k l0 l1 (decide ((wrap64 ((l0.length : Int) + (l1.length : Int))) > 8))) = some r := by rw [if_pos rfl] at H; exact H
        clear H
        have H := H1
        clear H1
        have H' := Aside0.mk H
        clear H
        go_wp2_with (first | ((with_reducible refine gate_callee (f := 12) rfl ?_); refine goesL_ (some 5) rfl rfl Tryd.func12 (by kernel_rfl) rfl #[] rfl (by (try simp only [List.map_toArray, List.map_cons, List.map_nil]); first | done | rfl | (simp only [List.length_drop, List.length_take]; rfl) | ((simp [Act.eval, wrap64]) <;> omega) | ((simp [Act.eval, wrap64, IntKind.wrap, IntKind.bits, IntKind.signed]) <;> omega)) ?_; (with_reducible refine (roundellaw02_awake.calls k  true _ ?side1 A4.out).mono ?_); (case side1 => exact Glob.below HG.out (by repeat (first | (with_reducible first | exact HB.out | apply below_alloc | apply pw_below_drewN | apply below_drew1) | exact HB.out))); rintro e w8 ⟨rfl, hb⟩; refine ⟨_, rfl, ?_⟩; have n0_ := Aside0.mk (below_step (by repeat (first | (with_reducible first | exact HB.out | apply below_alloc | apply pw_below_drewN | apply below_drew1) | exact HB.out)) hb); clear HB; have HB := n0_; clear n0_; (try clear hb); (try clear hb2); (try clear hk); (try clear hi)) | (go_at_call 19; (with_reducible refine (roundellaw02_few.calls _ _ l0 _ _ l1 true _ ?side1 ?side2 ?side3 ?side4 A6.out).mono ?_); (case side1 => repeat (first | exact (Kd.C_below HR0.out HB.out) | (with_reducible refine Kd.C_alloc ?_ _) | (with_reducible refine Kd.C_drewN ?_ _) | (with_reducible refine Kd.C_drew ?_))); (case side2 => exact HC0.out); (case side3 => repeat (first | exact (Kd.C_below HR1.out HB.out) | (with_reducible refine Kd.C_alloc ?_ _) | (with_reducible refine Kd.C_drewN ?_ _) | (with_reducible refine Kd.C_drew ?_))); (case side4 => exact HC1.out); rintro e w' ⟨rfl, ⟨nd, rfl⟩⟩))
        go_meet
        case rel => exact ⟨_, (decide ((wrap64 ((l0.length : Int) + (l1.length : Int))) > 8)), (by first | rfl | (simp; done) | (simp [*]; done)), H', ⟨by first | omega | exact Nat.le_refl _⟩, ⟨by repeat (first | (with_reducible first | exact HB.out | apply below_alloc | apply pw_below_drewN | apply below_drew1) | exact HB.out)⟩⟩
      · replace c7 := Bool.eq_false_iff.mpr c7
        subst c7
        have H1 : (roundellaw02_NatGcds.j0 k l0 l1 true) = some r := by rw [if_neg (show ¬ (false = true) by decide)] at H; exact H
        clear H
        have H := H1
        clear H1
        have H' := Aside0.mk H
        clear H
        go_wp2_with (first | ((with_reducible refine gate_callee (f := 12) rfl ?_); refine goesL_ (some 5) rfl rfl Tryd.func12 (by kernel_rfl) rfl #[] rfl (by (try simp only [List.map_toArray, List.map_cons, List.map_nil]); first | done | rfl | (simp only [List.length_drop, List.length_take]; rfl) | ((simp [Act.eval, wrap64]) <;> omega) | ((simp [Act.eval, wrap64, IntKind.wrap, IntKind.bits, IntKind.signed]) <;> omega)) ?_; (with_reducible refine (roundellaw02_awake.calls k  true _ ?side1 A4.out).mono ?_); (case side1 => exact Glob.below HG.out (by repeat (first | (with_reducible first | exact HB.out | apply below_alloc | apply pw_below_drewN | apply below_drew1) | exact HB.out))); rintro e w9 ⟨rfl, hb⟩; refine ⟨_, rfl, ?_⟩; have n0_ := Aside0.mk (below_step (by repeat (first | (with_reducible first | exact HB.out | apply below_alloc | apply pw_below_drewN | apply below_drew1) | exact HB.out)) hb); clear HB; have HB := n0_; clear n0_; (try clear hb); (try clear hb2); (try clear hk); (try clear hi)) | (go_at_call 19; (with_reducible refine (roundellaw02_few.calls _ _ l0 _ _ l1 false _ ?side1 ?side2 ?side3 ?side4 A6.out).mono ?_); (case side1 => repeat (first | exact (Kd.C_below HR0.out HB.out) | (with_reducible refine Kd.C_alloc ?_ _) | (with_reducible refine Kd.C_drewN ?_ _) | (with_reducible refine Kd.C_drew ?_))); (case side2 => exact HC0.out); (case side3 => repeat (first | exact (Kd.C_below HR1.out HB.out) | (with_reducible refine Kd.C_alloc ?_ _) | (with_reducible refine Kd.C_drewN ?_ _) | (with_reducible refine Kd.C_drew ?_))); (case side4 => exact HC1.out); rintro e w' ⟨rfl, ⟨nd, rfl⟩⟩))
        go_meet
        case rel => exact ⟨_, (true), (by first | rfl | (simp; done) | (simp [*]; done)), H', ⟨by first | omega | exact Nat.le_refl _⟩, ⟨by repeat (first | (with_reducible first | exact HB.out | apply below_alloc | apply pw_below_drewN | apply below_drew1) | exact HB.out)⟩⟩
    · replace c5 := Bool.eq_false_iff.mpr c5
      subst c5
      have H1 : (roundellaw02_NatGcds.j0 k l0 l1 true) = some r := by rw [if_neg (show ¬ (false = true) by decide)] at H; exact H
      clear H
      have H := H1
      clear H1
      have H' := Aside0.mk H
      clear H
      go_wp2_with (first | ((with_reducible refine gate_callee (f := 12) rfl ?_); refine goesL_ (some 5) rfl rfl Tryd.func12 (by kernel_rfl) rfl #[] rfl (by (try simp only [List.map_toArray, List.map_cons, List.map_nil]); first | done | rfl | (simp only [List.length_drop, List.length_take]; rfl) | ((simp [Act.eval, wrap64]) <;> omega) | ((simp [Act.eval, wrap64, IntKind.wrap, IntKind.bits, IntKind.signed]) <;> omega)) ?_; (with_reducible refine (roundellaw02_awake.calls k  false _ ?side1 A4.out).mono ?_); (case side1 => exact Glob.below HG.out (by repeat (first | (with_reducible first | exact HB.out | apply below_alloc | apply pw_below_drewN | apply below_drew1) | exact HB.out))); rintro e w10 ⟨rfl, hb⟩; refine ⟨_, rfl, ?_⟩; have n0_ := Aside0.mk (below_step (by repeat (first | (with_reducible first | exact HB.out | apply below_alloc | apply pw_below_drewN | apply below_drew1) | exact HB.out)) hb); clear HB; have HB := n0_; clear n0_; (try clear hb); (try clear hb2); (try clear hk); (try clear hi)))
      go_meet
      case rel => exact ⟨_, (true), (by first | rfl | (simp; done) | (simp [*]; done)), H', ⟨by first | omega | exact Nat.le_refl _⟩, ⟨by repeat (first | (with_reducible first | exact HB.out | apply below_alloc | apply pw_below_drewN | apply below_drew1) | exact HB.out)⟩⟩
  case rest =>
    clear HC3
    try clear c1
    try clear p2
    try clear c5
    try clear p6
    try clear c7
    try clear c8
    obtain ⟨kq, x20_2, rfl, HA, HJ2, HB⟩ := hcut
    cases kq with
    | zero => exact absurd HA.out (by simp [roundellaw02_NatGcds.j0])
    | succ kj2 =>
      have H := HA.out
      clear HA
      simp only [roundellaw02_NatGcds.j0] at H
      by_cases c11 : x20_2 = true
      · subst c11
        have H1 : ((roundellaw02_awake.f kj2).bind fun t556 => (some t556)) = some r := by rw [if_pos rfl] at H; exact H
        clear H
        have H := H1
        clear H1
        replace H := Option.bind_eq_some_iff.mp H
        obtain ⟨t556, A120, H⟩ := H
        replace H : (some t556) = some r := H
        have A12 := Aside0.mk A120
        clear A120
        obtain rfl := Option.some.inj H
        go_wp2_with (first | ((with_reducible refine gate_callee (f := 12) rfl ?_); refine goesL_ (some 21) rfl rfl Tryd.func12 (by kernel_rfl) rfl #[] rfl (by (try simp only [List.map_toArray, List.map_cons, List.map_nil]); first | done | rfl | (simp only [List.length_drop, List.length_take]; rfl) | ((simp [Act.eval, wrap64]) <;> omega) | ((simp [Act.eval, wrap64, IntKind.wrap, IntKind.bits, IntKind.signed]) <;> omega)) ?_; (with_reducible refine (roundellaw02_awake.calls kj2  t556 _ ?side1 A12.out).mono ?_); (case side1 => exact Glob.below HG.out (by repeat (first | (with_reducible first | exact HB.out | apply below_alloc | apply pw_below_drewN | apply below_drew1) | exact HB.out))); rintro e w13 ⟨rfl, hb⟩; refine ⟨_, rfl, ?_⟩; have n0_ := Aside0.mk (below_step (by repeat (first | (with_reducible first | exact HB.out | apply below_alloc | apply pw_below_drewN | apply below_drew1) | exact HB.out)) hb); clear HB; have HB := n0_; clear n0_; (try clear hb); (try clear hb2); (try clear hk); (try clear hi)))
        go_ret
        exact ⟨by first | rfl | (simp [errW_none, errW_some] <;> rfl) | (simp [*, errW_none, errW_some] <;> rfl), by repeat (first | (with_reducible first | exact HB.out | apply below_alloc | apply pw_below_drewN | apply below_drew1) | exact HB.out)⟩
      · replace c11 := Bool.eq_false_iff.mpr c11
        subst c11
        have H1 : ((roundellaw02_copied.f l0).bind fun t557 => ((roundellaw02_copied.f l1).bind fun t560 => ((nat_Gcd.f kj2 t557 t560).bind fun t563 => ((roundelref02_Limbs.f kj2 l0).bind fun t566 => ((roundelref02_Limbs.f kj2 l1).bind fun t569 => ((roundelref02_Gcd.f kj2 t566 t569).bind fun t572 => ((roundellaw02_Is.f kj2 t563 t572).bind fun t575 => (some t575)))))))) = some r := by rw [if_neg (show ¬ (false = true) by decide)] at H; exact H
        clear H
        have H := H1
        clear H1
        replace H := Option.bind_eq_some_iff.mp H
        obtain ⟨t557, A140, H⟩ := H
        replace H : ((roundellaw02_copied.f l1).bind fun t560 => ((nat_Gcd.f kj2 t557 t560).bind fun t563 => ((roundelref02_Limbs.f kj2 l0).bind fun t566 => ((roundelref02_Limbs.f kj2 l1).bind fun t569 => ((roundelref02_Gcd.f kj2 t566 t569).bind fun t572 => ((roundellaw02_Is.f kj2 t563 t572).bind fun t575 => (some t575))))))) = some r := H
        have A14 := Aside0.mk A140
        clear A140
        replace H := Option.bind_eq_some_iff.mp H
        obtain ⟨t560, A150, H⟩ := H
        replace H : ((nat_Gcd.f kj2 t557 t560).bind fun t563 => ((roundelref02_Limbs.f kj2 l0).bind fun t566 => ((roundelref02_Limbs.f kj2 l1).bind fun t569 => ((roundelref02_Gcd.f kj2 t566 t569).bind fun t572 => ((roundellaw02_Is.f kj2 t563 t572).bind fun t575 => (some t575)))))) = some r := H
        have A15 := Aside0.mk A150
        clear A150
        replace H := Option.bind_eq_some_iff.mp H
        obtain ⟨t563, A160, H⟩ := H
        replace H : ((roundelref02_Limbs.f kj2 l0).bind fun t566 => ((roundelref02_Limbs.f kj2 l1).bind fun t569 => ((roundelref02_Gcd.f kj2 t566 t569).bind fun t572 => ((roundellaw02_Is.f kj2 t563 t572).bind fun t575 => (some t575))))) = some r := H
        have A16 := Aside0.mk A160
        clear A160
        replace H := Option.bind_eq_some_iff.mp H
        obtain ⟨t566, A170, H⟩ := H
        replace H : ((roundelref02_Limbs.f kj2 l1).bind fun t569 => ((roundelref02_Gcd.f kj2 t566 t569).bind fun t572 => ((roundellaw02_Is.f kj2 t563 t572).bind fun t575 => (some t575)))) = some r := H
        have A17 := Aside0.mk A170
        clear A170
        replace H := Option.bind_eq_some_iff.mp H
        obtain ⟨t569, A180, H⟩ := H
        replace H : ((roundelref02_Gcd.f kj2 t566 t569).bind fun t572 => ((roundellaw02_Is.f kj2 t563 t572).bind fun t575 => (some t575))) = some r := H
        have A18 := Aside0.mk A180
        clear A180
        replace H := Option.bind_eq_some_iff.mp H
        obtain ⟨t572, A190, H⟩ := H
        replace H : ((roundellaw02_Is.f kj2 t563 t572).bind fun t575 => (some t575)) = some r := H
        have A19 := Aside0.mk A190
        clear A190
        replace H := Option.bind_eq_some_iff.mp H
        obtain ⟨t575, A200, H⟩ := H
        replace H : (some t575) = some r := H
        have A20 := Aside0.mk A200
        clear A200
        obtain rfl := Option.some.inj H
        go_wp2_with (first | ((with_reducible refine gate_callee (f := 14) rfl ?_); refine goesL_ (some 23) rfl rfl Tryd.func14 (by kernel_rfl) rfl #[.slice A0 l0.length c0] rfl (by (try simp only [List.map_toArray, List.map_cons, List.map_nil]); first | done | rfl | (simp only [List.length_drop, List.length_take]; rfl) | ((simp [Act.eval, wrap64]) <;> omega) | ((simp [Act.eval, wrap64, IntKind.wrap, IntKind.bits, IntKind.signed]) <;> omega)) ?_; (with_reducible refine (roundellaw02_copied.calls _ _ l0 t557 _ ?side1 ?side2 A14.out).mono ?_); (case side1 => repeat (first | exact (Kd.C_below HR0.out HB.out) | (with_reducible refine Kd.C_alloc ?_ _) | (with_reducible refine Kd.C_drewN ?_ _) | (with_reducible refine Kd.C_drew ?_))); (case side2 => exact HC0.out); rintro e w21 ⟨v558, rfl, ho0, hb⟩; refine ⟨_, rfl, ?_⟩; have n0_ := Aside0.mk (Kd.R_lower ho0 (below_size (by repeat (first | (with_reducible first | exact HB.out | apply below_alloc | apply pw_below_drewN | apply below_drew1) | exact HB.out)))); have n1_ := Aside0.mk (below_step (by repeat (first | (with_reducible first | exact HB.out | apply below_alloc | apply pw_below_drewN | apply below_drew1) | exact HB.out)) hb); clear HB; have HO559 := n0_; have HB := n1_; clear n0_ n1_; (try clear hb); (try clear hb2); (try clear hk); (try clear hi); (try clear ho0)) | ((with_reducible refine gate_callee (f := 14) rfl ?_); refine goesL_ (some 25) rfl rfl Tryd.func14 (by kernel_rfl) rfl #[.slice A1 l1.length c1] rfl (by (try simp only [List.map_toArray, List.map_cons, List.map_nil]); first | done | rfl | (simp only [List.length_drop, List.length_take]; rfl) | ((simp [Act.eval, wrap64]) <;> omega) | ((simp [Act.eval, wrap64, IntKind.wrap, IntKind.bits, IntKind.signed]) <;> omega)) ?_; (with_reducible refine (roundellaw02_copied.calls _ _ l1 t560 _ ?side1 ?side2 A15.out).mono ?_); (case side1 => repeat (first | exact (Kd.C_below HR1.out HB.out) | (with_reducible refine Kd.C_alloc ?_ _) | (with_reducible refine Kd.C_drewN ?_ _) | (with_reducible refine Kd.C_drew ?_))); (case side2 => exact HC1.out); rintro e w22 ⟨v561, rfl, ho0, hb⟩; refine ⟨_, rfl, ?_⟩; have n0_ := Aside0.mk (Kd.R_elder' (by (with_reducible repeat (first | apply Kd.R_alloc | apply Kd.R_drewN | apply Kd.R_drew)); exact HO559.out) (Kd.R_base ho0) hb); have n1_ := Aside0.mk (Kd.R_lower (Kd.R_new' ho0 (Kd.R_lt (by (with_reducible repeat (first | apply Kd.R_alloc | apply Kd.R_drewN | apply Kd.R_drew)); exact HO559.out))) (below_size (by repeat (first | (with_reducible first | exact HB.out | apply below_alloc | apply pw_below_drewN | apply below_drew1) | exact HB.out)))); have n2_ := Aside0.mk (below_step (by repeat (first | (with_reducible first | exact HB.out | apply below_alloc | apply pw_below_drewN | apply below_drew1) | exact HB.out)) hb); clear HO559; clear HB; have HO559 := n0_; have HO562 := n1_; have HB := n2_; clear n0_ n1_ n2_; (try clear hb); (try clear hb2); (try clear hk); (try clear hi); (try clear ho0); obtain ⟨Ao23, co23, eo23⟩ := Kd.R_slice HO559.out; subst eo23; obtain ⟨Ao24, co24, eo24⟩ := Kd.R_slice HO562.out; subst eo24) | ((with_reducible refine gate_callee (f := 31) rfl ?_); refine goesL_ (some 26) rfl rfl Tryd.func31 (by kernel_rfl) rfl #[.slice Ao23 t557.length co23, .slice Ao24 t560.length co24] rfl (by (try simp only [List.map_toArray, List.map_cons, List.map_nil]); first | done | rfl | (simp only [List.length_drop, List.length_take]; rfl) | ((simp [Act.eval, wrap64]) <;> omega) | ((simp [Act.eval, wrap64, IntKind.wrap, IntKind.bits, IntKind.signed]) <;> omega)) ?_; (with_reducible refine (nat_Gcd.calls kj2 _ _ t557 (fun k_ => some k_ = (.slice Ao24 t560.length co24 : Value).ownBlock) _ _ t560 t563 _ ?side1 ?side2 ?side3 A16.out).mono ?_); (case side1 => repeat (first | exact (Kd.R_reads' HO559.out).2.2 | (with_reducible refine Kd.C_alloc ?_ _) | (with_reducible refine Kd.C_drewN ?_ _) | (with_reducible refine Kd.C_drew ?_))); (case side2 => exact (Kd.R_reads' HO559.out).2.1); (case side3 => exact Kd.R_V (Kd.R_tight rfl (HO562.out))); rintro e w25 ⟨v564, rfl, ho0, hb⟩; refine ⟨_, rfl, ?_⟩; have n0_ := Aside0.mk (Kd.R_elder' (by (with_reducible repeat (first | apply Kd.R_alloc | apply Kd.R_drewN | apply Kd.R_drew)); exact HO559.out) (Kd.R_base ho0) hb); have n1_ := Aside0.mk (Kd.R_elder' (by (with_reducible repeat (first | apply Kd.R_alloc | apply Kd.R_drewN | apply Kd.R_drew)); exact HO562.out) (Kd.R_base ho0) hb); have n2_ := Aside0.mk (Kd.R_lower (Kd.R_new' (Kd.R_new' (Kd.R_mono (ok' := fun k_ => True) ho0 (fun _ hk_ => trivial)) (Kd.R_lt (by (with_reducible repeat (first | apply Kd.R_alloc | apply Kd.R_drewN | apply Kd.R_drew)); exact HO559.out))) (Kd.R_lt (by (with_reducible repeat (first | apply Kd.R_alloc | apply Kd.R_drewN | apply Kd.R_drew)); exact HO562.out))) (below_size (by repeat (first | (with_reducible first | exact HB.out | apply below_alloc | apply pw_below_drewN | apply below_drew1) | exact HB.out)))); have n3_ := Aside0.mk (below_step (by repeat (first | (with_reducible first | exact HB.out | apply below_alloc | apply pw_below_drewN | apply below_drew1) | exact HB.out)) hb); clear HO559; clear HO562; clear HB; have HO559 := n0_; have HO562 := n1_; have HO565 := n2_; have HB := n3_; clear n0_ n1_ n2_ n3_; (try clear hb); (try clear hb2); (try clear hk); (try clear hi); (try clear ho0)) | ((with_reducible refine gate_callee (f := 18) rfl ?_); refine goesL_ (some 28) rfl rfl Tryd.func18 (by kernel_rfl) rfl #[.slice A0 l0.length c0] rfl (by (try simp only [List.map_toArray, List.map_cons, List.map_nil]); first | done | rfl | (simp only [List.length_drop, List.length_take]; rfl) | ((simp [Act.eval, wrap64]) <;> omega) | ((simp [Act.eval, wrap64, IntKind.wrap, IntKind.bits, IntKind.signed]) <;> omega)) ?_; (with_reducible refine (roundelref02_Limbs.calls kj2 _ _ l0 t566 _ ?side1 ?side2 A17.out).mono ?_); (case side1 => repeat (first | exact (Kd.C_below HR0.out HB.out) | (with_reducible refine Kd.C_alloc ?_ _) | (with_reducible refine Kd.C_drewN ?_ _) | (with_reducible refine Kd.C_drew ?_))); (case side2 => exact HC0.out); rintro e w26 ⟨v567, rfl, ho0, hb⟩; refine ⟨_, rfl, ?_⟩; have n0_ := Aside0.mk (Kd.R_below (by (with_reducible repeat (first | apply Kd.R_alloc | apply Kd.R_drewN | apply Kd.R_drew)); exact HO559.out) hb); have n1_ := Aside0.mk (Kd.R_below (by (with_reducible repeat (first | apply Kd.R_alloc | apply Kd.R_drewN | apply Kd.R_drew)); exact HO562.out) hb); have n2_ := Aside0.mk (Kd.R_below (by (with_reducible repeat (first | apply Kd.R_alloc | apply Kd.R_drewN | apply Kd.R_drew)); exact HO565.out) hb); have n3_ := Aside0.mk (Kd.R_lower ho0 (below_size (by repeat (first | (with_reducible first | exact HB.out | apply below_alloc | apply pw_below_drewN | apply below_drew1) | exact HB.out)))); have n4_ := Aside0.mk (below_step (by repeat (first | (with_reducible first | exact HB.out | apply below_alloc | apply pw_below_drewN | apply below_drew1) | exact HB.out)) hb); clear HO559; clear HO562; clear HO565; clear HB; have HO559 := n0_; have HO562 := n1_; have HO565 := n2_; have HO568 := n3_; have HB := n4_; clear n0_ n1_ n2_ n3_ n4_; (try clear hb); (try clear hb2); (try clear hk); (try clear hi); (try clear ho0)) | ((with_reducible refine gate_callee (f := 18) rfl ?_); refine goesL_ (some 30) rfl rfl Tryd.func18 (by kernel_rfl) rfl #[.slice A1 l1.length c1] rfl (by (try simp only [List.map_toArray, List.map_cons, List.map_nil]); first | done | rfl | (simp only [List.length_drop, List.length_take]; rfl) | ((simp [Act.eval, wrap64]) <;> omega) | ((simp [Act.eval, wrap64, IntKind.wrap, IntKind.bits, IntKind.signed]) <;> omega)) ?_; (with_reducible refine (roundelref02_Limbs.calls kj2 _ _ l1 t569 _ ?side1 ?side2 A18.out).mono ?_); (case side1 => repeat (first | exact (Kd.C_below HR1.out HB.out) | (with_reducible refine Kd.C_alloc ?_ _) | (with_reducible refine Kd.C_drewN ?_ _) | (with_reducible refine Kd.C_drew ?_))); (case side2 => exact HC1.out); rintro e w27 ⟨v570, rfl, ho0, hb⟩; refine ⟨_, rfl, ?_⟩; have n0_ := Aside0.mk (Kd.R_below (by (with_reducible repeat (first | apply Kd.R_alloc | apply Kd.R_drewN | apply Kd.R_drew)); exact HO559.out) hb); have n1_ := Aside0.mk (Kd.R_below (by (with_reducible repeat (first | apply Kd.R_alloc | apply Kd.R_drewN | apply Kd.R_drew)); exact HO562.out) hb); have n2_ := Aside0.mk (Kd.R_below (by (with_reducible repeat (first | apply Kd.R_alloc | apply Kd.R_drewN | apply Kd.R_drew)); exact HO565.out) hb); have n3_ := Aside0.mk (Kd.R_elder' (by (with_reducible repeat (first | apply Kd.R_alloc | apply Kd.R_drewN | apply Kd.R_drew)); exact HO568.out) (Kd.R_base ho0) hb); have n4_ := Aside0.mk (Kd.R_lower (Kd.R_new' ho0 (Kd.R_lt (by (with_reducible repeat (first | apply Kd.R_alloc | apply Kd.R_drewN | apply Kd.R_drew)); exact HO568.out))) (below_size (by repeat (first | (with_reducible first | exact HB.out | apply below_alloc | apply pw_below_drewN | apply below_drew1) | exact HB.out)))); have n5_ := Aside0.mk (below_step (by repeat (first | (with_reducible first | exact HB.out | apply below_alloc | apply pw_below_drewN | apply below_drew1) | exact HB.out)) hb); clear HO559; clear HO562; clear HO565; clear HO568; clear HB; have HO559 := n0_; have HO562 := n1_; have HO565 := n2_; have HO568 := n3_; have HO571 := n4_; have HB := n5_; clear n0_ n1_ n2_ n3_ n4_ n5_; (try clear hb); (try clear hb2); (try clear hk); (try clear hi); (try clear ho0); obtain ⟨Ao28, co28, eo28⟩ := Kd.R_slice HO568.out; subst eo28; obtain ⟨Ao29, co29, eo29⟩ := Kd.R_slice HO571.out; subst eo29) | ((with_reducible refine gate_callee (f := 32) rfl ?_); refine goesL_ (some 31) rfl rfl Tryd.func32 (by kernel_rfl) rfl #[.slice Ao28 t566.length co28, .slice Ao29 t569.length co29] rfl (by (try simp only [List.map_toArray, List.map_cons, List.map_nil]); first | done | rfl | (simp only [List.length_drop, List.length_take]; rfl) | ((simp [Act.eval, wrap64]) <;> omega) | ((simp [Act.eval, wrap64, IntKind.wrap, IntKind.bits, IntKind.signed]) <;> omega)) ?_; (with_reducible refine (roundelref02_Gcd.calls kj2 (fun k_ => some k_ = (.slice Ao28 t566.length co28 : Value).ownBlock) _ _ t566 (fun k_ => some k_ = (.slice Ao29 t569.length co29 : Value).ownBlock) _ _ t569 t572 _ ?side1 ?side2 A19.out).mono ?_); (case side1 => exact Kd.R_V (Kd.R_tight rfl (Kd.R_apart' (Kd.R_apart' (Kd.R_apart' (HO568.out) (Kd.R_typed HO559.out) (by decide)) (Kd.R_typed HO562.out) (by decide)) (Kd.R_typed HO565.out) (by decide)))); (case side2 => exact Kd.R_V (Kd.R_tight rfl (Kd.R_apart' (Kd.R_apart' (Kd.R_apart' (HO571.out) (Kd.R_typed HO559.out) (by decide)) (Kd.R_typed HO562.out) (by decide)) (Kd.R_typed HO565.out) (by decide)))); rintro e w30 ⟨v573, rfl, ho0, hb⟩; refine ⟨_, rfl, ?_⟩; have n0_ := Aside0.mk (Kd.R_below (by (with_reducible repeat (first | apply Kd.R_alloc | apply Kd.R_drewN | apply Kd.R_drew)); exact HO559.out) hb); have n1_ := Aside0.mk (Kd.R_below (by (with_reducible repeat (first | apply Kd.R_alloc | apply Kd.R_drewN | apply Kd.R_drew)); exact HO562.out) hb); have n2_ := Aside0.mk (Kd.R_below (by (with_reducible repeat (first | apply Kd.R_alloc | apply Kd.R_drewN | apply Kd.R_drew)); exact HO565.out) hb); have n3_ := Aside0.mk (Kd.R_below (by (with_reducible repeat (first | apply Kd.R_alloc | apply Kd.R_drewN | apply Kd.R_drew)); exact HO568.out) hb); have n4_ := Aside0.mk (Kd.R_below (by (with_reducible repeat (first | apply Kd.R_alloc | apply Kd.R_drewN | apply Kd.R_drew)); exact HO571.out) hb); have n5_ := Aside0.mk (Kd.V_lower (Kd.V_mono (ok' := fun k_ => some k_ ≠ (.slice Ao23 t557.length co23 : Value).ownBlock ∧ some k_ ≠ (.slice Ao24 t560.length co24 : Value).ownBlock ∧ some k_ ≠ (v564 : Value).ownBlock) ho0 (fun k_ hk_ => ⟨Or.elim hk_ (fun hs_ => Or.elim hs_ (fun hs_ => ((Kd.R_apart' (Kd.R_apart' (Kd.R_apart' (HO568.out) (Kd.R_typed HO559.out) (by decide)) (Kd.R_typed HO562.out) (by decide)) (Kd.R_typed HO565.out) (by decide)).1 k_ hs_.symm).1.1.2) (fun hs_ => ((Kd.R_apart' (Kd.R_apart' (Kd.R_apart' (HO571.out) (Kd.R_typed HO559.out) (by decide)) (Kd.R_typed HO562.out) (by decide)) (Kd.R_typed HO565.out) (by decide)).1 k_ hs_.symm).1.1.2)) (fun hn_ => (Kd.fresh' (Kd.R_lt (by (with_reducible repeat (first | apply Kd.R_alloc | apply Kd.R_drewN | apply Kd.R_drew)); exact HO559.out)) k_ hn_)), Or.elim hk_ (fun hs_ => Or.elim hs_ (fun hs_ => ((Kd.R_apart' (Kd.R_apart' (Kd.R_apart' (HO568.out) (Kd.R_typed HO559.out) (by decide)) (Kd.R_typed HO562.out) (by decide)) (Kd.R_typed HO565.out) (by decide)).1 k_ hs_.symm).1.2) (fun hs_ => ((Kd.R_apart' (Kd.R_apart' (Kd.R_apart' (HO571.out) (Kd.R_typed HO559.out) (by decide)) (Kd.R_typed HO562.out) (by decide)) (Kd.R_typed HO565.out) (by decide)).1 k_ hs_.symm).1.2)) (fun hn_ => (Kd.fresh' (Kd.R_lt (by (with_reducible repeat (first | apply Kd.R_alloc | apply Kd.R_drewN | apply Kd.R_drew)); exact HO562.out)) k_ hn_)), Or.elim hk_ (fun hs_ => Or.elim hs_ (fun hs_ => ((Kd.R_apart' (Kd.R_apart' (Kd.R_apart' (HO568.out) (Kd.R_typed HO559.out) (by decide)) (Kd.R_typed HO562.out) (by decide)) (Kd.R_typed HO565.out) (by decide)).1 k_ hs_.symm).2) (fun hs_ => ((Kd.R_apart' (Kd.R_apart' (Kd.R_apart' (HO571.out) (Kd.R_typed HO559.out) (by decide)) (Kd.R_typed HO562.out) (by decide)) (Kd.R_typed HO565.out) (by decide)).1 k_ hs_.symm).2)) (fun hn_ => (Kd.fresh' (Kd.R_lt (by (with_reducible repeat (first | apply Kd.R_alloc | apply Kd.R_drewN | apply Kd.R_drew)); exact HO565.out)) k_ hn_))⟩)) (below_size (by repeat (first | (with_reducible first | exact HB.out | apply below_alloc | apply pw_below_drewN | apply below_drew1) | exact HB.out)))); have n6_ := Aside0.mk (below_step (by repeat (first | (with_reducible first | exact HB.out | apply below_alloc | apply pw_below_drewN | apply below_drew1) | exact HB.out)) hb); clear HO559; clear HO562; clear HO565; clear HO568; clear HO571; clear HB; have HO559 := n0_; have HO562 := n1_; have HO565 := n2_; have HO568 := n3_; have HO571 := n4_; have HO574 := n5_; have HB := n6_; clear n0_ n1_ n2_ n3_ n4_ n5_ n6_; (try clear hb); (try clear hb2); (try clear hk); (try clear hi); (try clear ho0); obtain ⟨Ao31, co31, eo31⟩ := Kd.R_slice HO565.out; subst eo31; obtain ⟨Ao32, co32, eo32⟩ := Kd.V_slice HO574.out; subst eo32) | ((with_reducible refine gate_callee (f := 16) rfl ?_); refine goesL_ (some 32) rfl rfl Tryd.func16 (by kernel_rfl) rfl #[.slice Ao31 t563.length co31, .slice Ao32 t572.length co32] rfl (by (try simp only [List.map_toArray, List.map_cons, List.map_nil]); first | done | rfl | (simp only [List.length_drop, List.length_take]; rfl) | ((simp [Act.eval, wrap64]) <;> omega) | ((simp [Act.eval, wrap64, IntKind.wrap, IntKind.bits, IntKind.signed]) <;> omega)) ?_; (with_reducible refine (roundellaw02_Is.calls kj2 _ _ t563 _ _ t572 t575 _ ?side1 ?side2 ?side3 ?side4 A20.out).mono ?_); (case side1 => repeat (first | exact (Kd.R_reads' HO565.out).2.2 | (with_reducible refine Kd.C_alloc ?_ _) | (with_reducible refine Kd.C_drewN ?_ _) | (with_reducible refine Kd.C_drew ?_))); (case side2 => exact (Kd.R_reads' HO565.out).2.1); (case side3 => repeat (first | exact (Kd.V_reads' HO574.out).2.2 | (with_reducible refine Kd.C_alloc ?_ _) | (with_reducible refine Kd.C_drewN ?_ _) | (with_reducible refine Kd.C_drew ?_))); (case side4 => exact (Kd.V_reads' HO574.out).2.1); rintro e w33 ⟨rfl, hb⟩; refine ⟨_, rfl, ?_⟩; have n0_ := Aside0.mk (Kd.R_below (by (with_reducible repeat (first | apply Kd.R_alloc | apply Kd.R_drewN | apply Kd.R_drew)); exact HO559.out) hb); have n1_ := Aside0.mk (Kd.R_below (by (with_reducible repeat (first | apply Kd.R_alloc | apply Kd.R_drewN | apply Kd.R_drew)); exact HO562.out) hb); have n2_ := Aside0.mk (Kd.R_below (by (with_reducible repeat (first | apply Kd.R_alloc | apply Kd.R_drewN | apply Kd.R_drew)); exact HO565.out) hb); have n3_ := Aside0.mk (Kd.R_below (by (with_reducible repeat (first | apply Kd.R_alloc | apply Kd.R_drewN | apply Kd.R_drew)); exact HO568.out) hb); have n4_ := Aside0.mk (Kd.R_below (by (with_reducible repeat (first | apply Kd.R_alloc | apply Kd.R_drewN | apply Kd.R_drew)); exact HO571.out) hb); have n5_ := Aside0.mk (Kd.V_below (by (with_reducible repeat (first | apply Kd.V_alloc | apply Kd.V_drewN | apply Kd.V_drew)); exact HO574.out) hb); have n6_ := Aside0.mk (below_step (by repeat (first | (with_reducible first | exact HB.out | apply below_alloc | apply pw_below_drewN | apply below_drew1) | exact HB.out)) hb); clear HO559; clear HO562; clear HO565; clear HO568; clear HO571; clear HO574; clear HB; have HO559 := n0_; have HO562 := n1_; have HO565 := n2_; have HO568 := n3_; have HO571 := n4_; have HO574 := n5_; have HB := n6_; clear n0_ n1_ n2_ n3_ n4_ n5_ n6_; (try clear hb); (try clear hb2); (try clear hk); (try clear hi)))
        go_ret
        exact ⟨by first | rfl | (simp [errW_none, errW_some] <;> rfl) | (simp [*, errW_none, errW_some] <;> rfl), by repeat (first | (with_reducible first | exact HB.out | apply below_alloc | apply pw_below_drewN | apply below_drew1) | exact HB.out)⟩
def roundellaw02_NatGcds.Pure : Prop := ∀ (l0 : List Int) (l1 : List Int), l0.length ≤ maxLen → l0.length * 8 ≤ 140737488351232 → (∀ x ∈ l0, (Lit.int .u64 x).wf = true) → l1.length ≤ maxLen → l1.length * 8 ≤ 140737488351232 → (∀ x ∈ l1, (Lit.int .u64 x).wf = true) → ∃ k, roundellaw02_NatGcds.f k l0 l1 = some true
theorem roundellaw02_NatGcds.walk (P : roundellaw02_NatGcds.Pure) (a0 : Option Addr) (len0 cap0 : Nat) (z0 : List Int) (a1 : Option Addr) (len1 cap1 : Nat) (z1 : List Int) (w : World) (w0 : (a0 = none ∧ len0 = 0 ∧ cap0 = 0 ∧ z0 = []) ∨ ∃ x, a0 = some x ∧ len0 ≤ cap0 ∧ cap0 ≤ maxLen ∧ z0.length = cap0 ∧ (∀ i, i < z0.length → w.cell? (x.add i) = some (.int .u64 (z0.getD i 0))) ∧ ∀ n ∈ z0, (Lit.int .u64 n).wf = true) (y0 : len0 * 8 ≤ 140737488351232) (w1 : (a1 = none ∧ len1 = 0 ∧ cap1 = 0 ∧ z1 = []) ∨ ∃ x, a1 = some x ∧ len1 ≤ cap1 ∧ cap1 ≤ maxLen ∧ z1.length = cap1 ∧ (∀ i, i < z1.length → w.cell? (x.add i) = some (.int .u64 (z1.getD i 0))) ∧ ∀ n ∈ z1, (Lit.int .u64 n).wf = true) (y1 : len1 * 8 ≤ 140737488351232) (hG : Glob w) :
    Calls Tryd.prog 8 #[.slice a0 len0 cap0, .slice a1 len1 cap1] w fun e w' => e = .returned (.bool true) ∧ Below w.heap.size w w' := by
  obtain ⟨l0, rfl, hr0, hm0, hw0, hc0⟩ := ReadsInt.ofRowC w0
  obtain ⟨l1, rfl, hr1, hm1, hw1, hc1⟩ := ReadsInt.ofRowC w1
  obtain ⟨k, h⟩ := P l0 l1 hm0 y0 hw0 hm1 y1 hw1
  refine (roundellaw02_NatGcds.calls k _ _ l0 _ _ l1 true w (Kd.C_of_reads (d := (0 : Int)) (h1 := fun _ => rfl) hr0) hc0 (Kd.C_of_reads (d := (0 : Int)) (h1 := fun _ => rfl) hr1) hc1 hG h).mono ?_
  rintro e w' ⟨rfl, hd⟩
  exact ⟨rfl, hd⟩
end Go.Proofs.YtcoipojikmgdmaaDoor.P
end
section
namespace Go.Proofs.YtcoipojikmgdmaaDoor.P
open Go.RowKit Go.Proofs.YtcoipojikmgdmaaDoorW.PrintWords Go.Proofs.YtcoipojikmgdmaaDoorW.PrintLast Go.Proofs.YtcoipojikmgdmaaDoorW.PrintMore
attribute [local go_sem] max2_int min2_int max_two min_two max_three min_three max_four min_four
set_option linter.unusedVariables false
set_option linter.unusedSimpArgs false
def Ev {α : Type} (F : Nat → Option α) (r : α) : Prop := ∃ K, ∀ k, K ≤ k → F k = some r
theorem Ev.const {α : Type} (r : α) : Ev (fun _ => some r) r := ⟨0, fun _ _ => rfl⟩
theorem Ev.congr {α : Type} {F G : Nat → Option α} {r : α} (h : ∀ k, F k = G k) (hg : Ev G r) : Ev F r := by
  obtain ⟨K, hK⟩ := hg
  exact ⟨K, fun k hk => (h k).trans (hK k hk)⟩
theorem Ev.step {α : Type} {F G : Nat → Option α} {r : α} (h : ∀ k, F (k + 1) = G k) (hg : Ev G r) : Ev F r := by
  obtain ⟨K, hK⟩ := hg
  refine ⟨K + 1, fun k hk => ?_⟩
  obtain ⟨m, rfl⟩ : ∃ m, k = m + 1 := ⟨k - 1, by omega⟩
  exact (h m).trans (hK m (by omega))
theorem Ev.bind {α β : Type} {F : Nat → Option α} {G : Nat → α → Option β} {x : α} {r : β} (hf : Ev F x) (hg : Ev (fun k => G k x) r) : Ev (fun k => (F k).bind (G k)) r := by
  obtain ⟨K, hK⟩ := hf
  obtain ⟨L, hL⟩ := hg
  refine ⟨K + L, fun k hk => ?_⟩
  show (F k).bind (G k) = some r
  rw [hK k (by omega)]
  exact hL k (by omega)
theorem Ev.get {α : Type} {F : Nat → Option α} {r : α} (h : Ev F r) : ∃ k, F k = some r := by
  obtain ⟨K, hK⟩ := h
  exact ⟨K, hK K (Nat.le_refl _)⟩
theorem w64s {x : Int} (h0 : -9223372036854775808 ≤ x) (h1 : x < 9223372036854775808) : wrap64 x = x := by unfold wrap64; omega
def val (B : Nat) : List Int → Nat
  | [] => 0
  | x :: xs => x.toNat + B * val B xs
def Dig (B : Nat) (l : List Int) : Prop := ∀ x ∈ l, 0 ≤ x ∧ x < (B : Int)
def strip : List Int → List Int
  | [] => []
  | x :: xs => if strip xs = [] then (if x = 0 then [] else [x]) else x :: strip xs
def dig (B n : Nat) : List Int := if h : n = 0 ∨ B ≤ 1 then [] else ((n % B : Nat) : Int) :: dig B (n / B)
termination_by n
decreasing_by exact Nat.div_lt_self (by omega) (by omega)
theorem dig_zero (B : Nat) : dig B 0 = [] := by rw [dig]; simp
theorem dig_pos {B n : Nat} (hB : 1 < B) (hn : n ≠ 0) : dig B n = ((n % B : Nat) : Int) :: dig B (n / B) := by
  rw [dig, dif_neg (by omega)]
theorem dig_ne {B n : Nat} (hB : 1 < B) (hn : n ≠ 0) : dig B n ≠ [] := by rw [dig_pos hB hn]; simp
theorem val_dig {B : Nat} (hB : 1 < B) (n : Nat) : val B (dig B n) = n := by
  induction n using Nat.strongRecOn with
  | ind n ih =>
    by_cases hn : n = 0
    · subst hn
      rw [dig_zero]
      rfl
    · rw [dig_pos hB hn, val, ih (n / B) (Nat.div_lt_self (by omega) hB)]
      have := Nat.mod_add_div n B
      omega
theorem Dig_dig {B : Nat} (hB : 1 < B) (n : Nat) : Dig B (dig B n) := by
  induction n using Nat.strongRecOn with
  | ind n ih =>
    by_cases hn : n = 0
    · subst hn
      rw [dig_zero]
      intro x hx
      cases hx
    · rw [dig_pos hB hn]
      intro x hx
      rcases List.mem_cons.1 hx with rfl | hx
      · have := Nat.mod_lt n (show 0 < B by omega)
        omega
      · exact ih (n / B) (Nat.div_lt_self (by omega) hB) x hx
theorem Dig.cons {B : Nat} {x : Int} {l : List Int} (h : Dig B (x :: l)) : (0 ≤ x ∧ x < (B : Int)) ∧ Dig B l := ⟨h x (by simp), fun y hy => h y (by simp [hy])⟩
theorem Dig.mk {B : Nat} {x : Int} {l : List Int} (h0 : 0 ≤ x) (h1 : x < (B : Int)) (h : Dig B l) : Dig B (x :: l) := by
  intro y hy
  rcases List.mem_cons.1 hy with rfl | hy
  · exact ⟨h0, h1⟩
  · exact h y hy
theorem Dig.nil (B : Nat) : Dig B [] := by intro x hx; cases hx
theorem Dig.app {B : Nat} {a b : List Int} (ha : Dig B a) (hb : Dig B b) : Dig B (a ++ b) := by
  intro x hx
  rcases List.mem_append.1 hx with h | h
  · exact ha x h
  · exact hb x h
theorem strip_dig {B : Nat} (hB : 1 < B) : ∀ (l : List Int), Dig B l → strip l = dig B (val B l)
  | [], _ => by rw [val, dig_zero]; rfl
  | x :: xs, h => by
    obtain ⟨⟨h0, h1⟩, h2⟩ := h.cons
    have ih := strip_dig hB xs h2
    have hm : ∀ v, (x.toNat + B * v) % B = x.toNat := fun v => by
      rw [Nat.add_mul_mod_self_left, Nat.mod_eq_of_lt (by omega)]
    have hd : ∀ v, (x.toNat + B * v) / B = v := fun v => by
      rw [Nat.add_mul_div_left _ _ (by omega), Nat.div_eq_of_lt (by omega), Nat.zero_add]
    rw [strip, val, ih]
    by_cases hv : val B xs = 0
    · rw [hv, dig_zero, if_pos rfl]
      by_cases hx : x = 0
      · subst hx
        simp [dig_zero]
      · rw [if_neg hx, dig_pos hB (by omega), hm, hd, dig_zero]
        congr 1
        omega
    · rw [if_neg (dig_ne hB hv)]
      have hne : x.toNat + B * val B xs ≠ 0 := by
        have := Nat.mul_pos (show 0 < B by omega) (Nat.pos_of_ne_zero hv)
        omega
      rw [dig_pos hB hne, hm, hd]
      congr 1
      omega
theorem strip_snoc0 : ∀ (l : List Int), strip (l ++ [0]) = strip l
  | [] => by simp [strip]
  | x :: xs => by
    rw [List.cons_append, strip, strip, strip_snoc0 xs]
theorem strip_snoc : ∀ (l : List Int) (x : Int), x ≠ 0 → strip (l ++ [x]) = l ++ [x]
  | [], x, h => by simp [strip, h]
  | y :: ys, x, h => by
    rw [List.cons_append, strip, strip_snoc ys x h, if_neg (by simp)]
def Good (l : List Int) : Prop := l = [] ∨ l.getD (l.length - 1) 0 ≠ 0
theorem good_dig {B : Nat} (hB : 1 < B) {l : List Int} (h : Dig B l) (hg : Good l) : l = dig B (val B l) := by
  rw [← strip_dig hB l h]
  rcases List.eq_nil_or_concat l with rfl | ⟨ys, y, rfl⟩
  · rfl
  · rcases hg with hg | hg
    · simp at hg
    · rw [List.concat_eq_append] at hg ⊢
      rw [strip_snoc _ _ (by simpa using hg)]
theorem dig_last {B : Nat} (hB : 1 < B) (n : Nat) : Good (dig B n) := by
  induction n using Nat.strongRecOn with
  | ind n ih =>
    by_cases hn : n = 0
    · subst hn
      exact .inl (dig_zero B)
    · right
      rw [dig_pos hB hn]
      have ih := ih (n / B) (Nat.div_lt_self (by omega) hB)
      by_cases hd : n / B = 0
      · rw [hd, dig_zero]
        have h1 := Nat.div_add_mod n B
        rw [hd] at h1
        simp
        omega
      · have hne := dig_ne hB hd
        rcases ih with ih | ih
        · exact absurd ih hne
        · have hl : 0 < (dig B (n / B)).length := List.length_pos_iff.2 hne
          simp only [List.length_cons, Nat.add_sub_cancel]
          rw [show (dig B (n / B)).length = (dig B (n / B)).length - 1 + 1 by omega, List.getD_cons_succ]
          exact ih
theorem dig_length {B : Nat} (hB : 1 < B) : ∀ (m n : Nat), n < B ^ m → (dig B n).length ≤ m
  | 0, n, h => by
    have : n = 0 := by simpa using h
    subst this
    rw [dig_zero]
    exact Nat.le_refl _
  | m + 1, n, h => by
    by_cases hn : n = 0
    · subst hn
      rw [dig_zero]
      exact Nat.zero_le _
    · rw [dig_pos hB hn, List.length_cons]
      have : n / B < B ^ m := by
        rw [Nat.div_lt_iff_lt_mul (by omega)]
        rwa [Nat.pow_succ] at h
      have := dig_length hB m _ this
      omega
theorem val_lt {B : Nat} : ∀ (l : List Int), Dig B l → val B l < B ^ l.length
  | [], _ => by simp [val]
  | x :: xs, h => by
    obtain ⟨⟨h0, h1⟩, h2⟩ := h.cons
    have ih := val_lt xs h2
    rw [val, List.length_cons, Nat.pow_succ]
    have : B * (val B xs + 1) ≤ B * B ^ xs.length := Nat.mul_le_mul_left _ ih
    rw [Nat.mul_add] at this
    rw [Nat.mul_comm (B ^ xs.length)]
    omega
def V (B : Nat) (l : List Int) (i : Nat) : Nat := val B (l.drop i)
theorem V_zero (B : Nat) (l : List Int) : V B l 0 = val B l := rfl
theorem V_end (B : Nat) {l : List Int} {i : Nat} (h : l.length ≤ i) : V B l i = 0 := by
  unfold V
  rw [List.drop_eq_nil_of_le h]
  rfl
theorem V_step (B : Nat) (l : List Int) (i : Nat) : V B l i = (l.getD i 0).toNat + B * V B l (i + 1) := by
  by_cases h : i < l.length
  · unfold V
    rw [List.drop_eq_getElem_cons h, val, List.getD_eq_getElem?_getD, List.getElem?_eq_getElem h]
    rfl
  · rw [V_end B (by omega), V_end B (by omega), List.getD_eq_getElem?_getD, List.getElem?_eq_none (by omega)]
    rfl
theorem Dig.get {B : Nat} (hB : 0 < B) {l : List Int} (h : Dig B l) (i : Nat) : 0 ≤ l.getD i 0 ∧ l.getD i 0 < (B : Int) := by
  by_cases hi : i < l.length
  · rw [List.getD_eq_getElem?_getD, List.getElem?_eq_getElem hi]
    exact h _ (List.getElem_mem hi)
  · rw [List.getD_eq_getElem?_getD, List.getElem?_eq_none (by omega)]
    simp
    omega
theorem V_pos {B : Nat} (hB : 1 < B) {l : List Int} (h : Dig B l) (hg : Good l) (i : Nat) (hi : i < l.length) : 0 < V B l i := by
  rcases hg with rfl | hg
  · simp at hi
  · obtain ⟨m, hm⟩ : ∃ m, l.length - 1 = i + m := ⟨l.length - 1 - i, by omega⟩
    rw [hm] at hg
    have key : ∀ m i, l.getD (i + m) 0 ≠ 0 → 0 < V B l i := by
      intro m
      induction m with
      | zero =>
        intro i h0
        rw [V_step]
        have := (h.get (show 0 < B by omega) i).1
        rw [Nat.add_zero] at h0
        omega
      | succ m ih =>
        intro i h0
        rw [V_step]
        have := ih (i + 1) (by rw [show i + 1 + m = i + (m + 1) by omega]; exact h0)
        have := Nat.mul_pos (show 0 < B by omega) this
        omega
    exact key m i hg
theorem rd_nat (l : List Int) (i : Nat) : rd l (i : Int) = l.getD i 0 := by
  unfold rd
  simp
theorem val_append (B : Nat) : ∀ (a b : List Int), val B (a ++ b) = val B a + B ^ a.length * val B b
  | [], b => by simp [val]
  | x :: xs, b => by
    rw [List.cons_append, val, val, val_append B xs b, List.length_cons, Nat.pow_succ, Nat.mul_add, ← Nat.mul_assoc, Nat.mul_comm B (B ^ xs.length)]
    omega
theorem val_replicate (B : Nat) : ∀ n, val B (List.replicate n 0) = 0
  | 0 => rfl
  | n + 1 => by rw [List.replicate_succ, val, val_replicate B n]; simp
theorem Dig.rep {B : Nat} (hB : 0 < B) (n : Nat) : Dig B (List.replicate n 0) := by
  intro x hx
  obtain ⟨_, rfl⟩ := List.mem_replicate.1 hx
  omega
theorem wadd (i j : Nat) (h : i + j < 4611686018427387904) : wrap64 ((i : Int) + (j : Int)) = ((i + j : Nat) : Int) := by rw [w64s (by omega) (by omega)]; omega
theorem wadd1 (i : Nat) (h : i < 4611686018427387904) : wrap64 ((i : Int) + 1) = ((i + 1 : Nat) : Int) := by rw [w64s (by omega) (by omega)]; omega
theorem wsub1 (i : Nat) (h : i < 4611686018427387904) (h0 : 0 < i) : wrap64 ((i : Int) - 1) = ((i - 1 : Nat) : Int) := by rw [w64s (by omega) (by omega)]; omega
theorem wid (i : Nat) (h : i < 4611686018427387904) : wrap64 (i : Int) = (i : Int) := w64s (by omega) (by omega)
def sgn (x y : Nat) : Int := if x = y then 0 else if x < y then -1 else 1
theorem take_snoc (l : List Int) (n : Nat) (h : n < l.length) : l.take (n + 1) = l.take n ++ [l.getD n 0] := by
  rw [List.take_succ_eq_append_getElem h, List.getD_eq_getElem?_getD, List.getElem?_eq_getElem h]
  rfl
theorem V_lt {B : Nat} (hB : 0 < B) {a b : List Int} (ha : Dig B a) (hb : Dig B b) : ∀ i : Nat, V B a i < V B b i → val B a < val B b
  | 0, h => h
  | i + 1, h => by
    refine V_lt hB ha hb i ?_
    rw [V_step B a i, V_step B b i]
    have h1 := (ha.get hB i)
    have h2 : B * (V B a (i + 1) + 1) ≤ B * V B b (i + 1) := Nat.mul_le_mul_left _ h
    rw [Nat.mul_add] at h2
    omega
theorem len_lt {B : Nat} (hB : 1 < B) {a b : List Int} (ha : Dig B a) (hb : Dig B b) (hg : Good b) (h : a.length < b.length) : val B a < val B b := by
  refine V_lt (by omega) ha hb (b.length - 1) ?_
  rw [V_end B (show a.length ≤ b.length - 1 by omega)]
  exact V_pos hB hb hg _ (by omega)
theorem pos3 {p q c : Nat} (h : 0 < p ∨ 0 < q ∨ 0 < c) : p + q + c ≠ 0 := by omega
theorem val_set (B : Nat) : ∀ (l : List Int) (j : Nat) (v : Int), j < l.length → val B (l.set j v) + B ^ j * (l.getD j 0).toNat = val B l + B ^ j * v.toNat
  | [], j, v, h => by simp at h
  | x :: xs, 0, v, h => by
    simp [val]
    omega
  | x :: xs, j + 1, v, h => by
    have ih := val_set B xs j v (by simpa using h)
    rw [List.set_cons_succ, val, val, List.getD_cons_succ, Nat.pow_succ, Nat.mul_comm (B ^ j) B, Nat.mul_assoc, Nat.mul_assoc]
    have : B * (val B (xs.set j v) + B ^ j * (xs.getD j 0).toNat) = B * (val B xs + B ^ j * v.toNat) := by rw [ih]
    rw [Nat.mul_add, Nat.mul_add] at this
    omega
theorem dig_set {B : Nat} {l : List Int} (h : Dig B l) (j : Nat) {v : Int} (h0 : 0 ≤ v) (h1 : v < (B : Int)) : Dig B (l.set j v) := by
  intro x hx
  rcases List.mem_or_eq_of_mem_set hx with h2 | rfl
  · exact h x h2
  · exact ⟨h0, h1⟩
theorem getD_set_ne {l : List Int} {i j : Nat} {v : Int} (h : i ≠ j) : (l.set i v).getD j 0 = l.getD j 0 := by
  rw [List.getD_eq_getElem?_getD, List.getD_eq_getElem?_getD, List.getElem?_set_ne h]
theorem mul_val (X B o x y c vo vs V V' q r : Nat) (hs : vs + X * o = vo + X * r) (hV : V = y + B * V') (hd : o + x * y + c = B * q + r) : vs + X * B * q + X * B * (x * V') = vo + X * c + X * (x * V) := by
  have h1 : X * (o + x * y + c) = X * (B * q + r) := by rw [hd]
  rw [hV]
  simp only [Nat.mul_add] at h1 ⊢
  have e1 : X * B * q = X * (B * q) := Nat.mul_assoc _ _ _
  have e2 : X * B * (x * V') = X * (x * (B * V')) := by rw [Nat.mul_assoc, Nat.mul_left_comm B x V']
  rw [e1, e2]
  omega
theorem V_bound {B : Nat} (hB : 0 < B) {l : List Int} (h : Dig B l) (i : Nat) : V B l i < B ^ l.length := by
  have h1 : Dig B (l.drop i) := fun x hx => h x (List.mem_of_mem_drop hx)
  have h2 := val_lt _ h1
  refine Nat.lt_of_lt_of_le h2 (Nat.pow_le_pow_right hB ?_)
  rw [List.length_drop]
  omega
theorem Ev.mono {α : Type} {F : Nat → Option α} (h : ∀ k, LeO (F k) (F (k + 1))) {K : Nat} {r : α} (hK : F K = some r) : Ev F r := by
  refine ⟨K, fun k hk => ?_⟩
  obtain ⟨m, rfl⟩ : ∃ m, k = K + m := ⟨k - K, by omega⟩
  clear hk
  induction m with
  | zero => exact hK
  | succ m ih => exact h (K + m) r ih
theorem sgn_add (p q c : Nat) : sgn (p + c) (q + c) = sgn p q := by
  unfold sgn
  by_cases h1 : p = q
  · rw [if_pos h1, if_pos (by omega)]
  · rw [if_neg h1, if_neg (by omega)]
    by_cases h2 : p < q
    · rw [if_pos h2, if_pos (by omega)]
    · rw [if_neg h2, if_neg (by omega)]
theorem sgn_lt {p q : Nat} (h : p < q) : sgn p q = -1 := by rw [sgn, if_neg (by omega), if_pos h]
theorem sgn_gt {p q : Nat} (h : q < p) : sgn p q = 1 := by rw [sgn, if_neg (by omega), if_neg (by omega)]
theorem top_lt {B p q x y X : Nat} (hp : p < X) (h : x < y) : p + X * x < q + X * y := by
  have : X * (x + 1) ≤ X * y := Nat.mul_le_mul_left _ h
  rw [Nat.mul_add] at this
  omega
theorem revCmp_val {B : Nat} : ∀ (n : Nat) (a b : List Int), a.length = n → b.length = n → Dig B a → Dig B b → revCmp a.reverse b.reverse = sgn (val B a) (val B b)
  | 0, a, b, ha, hb, _, _ => by
    obtain rfl := List.length_eq_zero_iff.1 ha
    obtain rfl := List.length_eq_zero_iff.1 hb
    simp [revCmp, sgn, val]
  | n + 1, a, b, ha, hb, da, db => by
    rcases List.eq_nil_or_concat a with rfl | ⟨a', x, rfl⟩
    · simp at ha
    rcases List.eq_nil_or_concat b with rfl | ⟨b', y, rfl⟩
    · simp at hb
    rw [List.concat_eq_append] at ha hb da db ⊢
    rw [List.concat_eq_append]
    have ha' : a'.length = n := by simpa using ha
    have hb' : b'.length = n := by simpa using hb
    have da' : Dig B a' := fun z hz => da z (by simp [hz])
    have db' : Dig B b' := fun z hz => db z (by simp [hz])
    have hx := da x (by simp)
    have hy := db y (by simp)
    have va := val_lt a' da'
    have vb := val_lt b' db'
    rw [ha'] at va
    rw [hb'] at vb
    rw [List.reverse_append, List.reverse_append, val_append, val_append, ha', hb']
    simp only [List.reverse_cons, List.reverse_nil, List.nil_append, List.cons_append, val, Nat.mul_zero, Nat.add_zero]
    rw [revCmp]
    by_cases h1 : x = y
    · rw [if_pos h1, revCmp_val n a' b' ha' hb' da' db', h1, sgn_add]
    · rw [if_neg h1]
      by_cases h2 : x < y
      · rw [if_pos h2, sgn_lt (top_lt (B := B) va (by omega))]
      · rw [if_neg h2, sgn_gt (top_lt (B := B) vb (by omega))]
theorem less_val (X W d y bo x bo' vo T va vb : Nat) (h : vo + X * (x + W * va) = T + X * (y + W * vb + bo)) (hd : d + y + bo = x + W * bo') : vo + X * d + X * W * va = T + X * W * (vb + bo') := by
  have h1 : X * (d + y + bo) = X * (x + W * bo') := by rw [hd]
  have e1 : X * W * va = X * (W * va) := Nat.mul_assoc _ _ _
  have e2 : X * W * (vb + bo') = X * (W * vb) + X * (W * bo') := by rw [Nat.mul_assoc, Nat.mul_add, Nat.mul_add]
  rw [e1, e2]
  simp only [Nat.mul_add] at h h1
  omega
theorem dig_mono {B : Nat} (hB : 1 < B) {x y : Nat} (h : x ≤ y) : (dig B x).length ≤ (dig B y).length := by
  have h1 := val_lt _ (Dig_dig hB y)
  rw [val_dig hB] at h1
  exact dig_length hB _ x (Nat.lt_of_le_of_lt h h1)
theorem Ev.pos {α : Type} {c : Prop} [Decidable c] {F G : Nat → Option α} {r : α} (hc : c) (h : Ev F r) : Ev (fun k => if c then F k else G k) r := Ev.congr (fun k => if_pos hc) h
theorem Ev.neg {α : Type} {c : Prop} [Decidable c] {F G : Nat → Option α} {r : α} (hc : ¬ c) (h : Ev G r) : Ev (fun k => if c then F k else G k) r := Ev.congr (fun k => if_neg hc) h
theorem Ev.plain {α β : Type} {x : Option α} {y : α} {G : Nat → α → Option β} {r : β} (hx : x = some y) (h : Ev (fun k => G k y) r) : Ev (fun k => x.bind (G k)) r := by subst hx; exact h
theorem W_le {x m n : Nat} (hx : x < 18446744073709551616 ^ m) (h : m ≤ n) : x < 18446744073709551616 ^ n := Nat.lt_of_lt_of_le hx (Nat.pow_le_pow_right (by decide) h)
end Go.Proofs.YtcoipojikmgdmaaDoor.P
end
section
namespace Go.Proofs.YtcoipojikmgdmaaDoor.P
open Go.RowKit Go.Proofs.YtcoipojikmgdmaaDoorW.PrintWords Go.Proofs.YtcoipojikmgdmaaDoorW.PrintLast Go.Proofs.YtcoipojikmgdmaaDoorW.PrintMore
attribute [local go_sem] max2_int min2_int max_two min_two max_three min_three max_four min_four
set_option linter.unusedVariables false
set_option linter.unusedSimpArgs false
theorem lit_u64 {x : Int} (h : (Lit.int .u64 x).wf = true) : 0 ≤ x ∧ x < 18446744073709551616 := by
  have h1 : IntKind.u64.min ≤ x ∧ x ≤ IntKind.u64.max := by simpa [Lit.wf] using h
  have h2 : IntKind.u64.min = 0 := by decide
  have h3 : IntKind.u64.max = 18446744073709551615 := by decide
  omega
theorem dig_lit {l : List Int} (h : ∀ x ∈ l, (Lit.int .u64 x).wf = true) : Dig 18446744073709551616 l := fun x hx => lit_u64 (h x hx)
def goodB (l : List Int) : Bool := if l.length = 0 then true else l.getD (l.length - 1) 0 != 0
theorem rGood (l : List Int) (hl : l.length < 1000000000) : roundelref02_Good.f l = some (goodB l) := by
  unfold roundelref02_Good.f goodB
  by_cases h : l.length = 0
  · rw [if_pos (by omega), if_pos h]
  · rw [if_neg (by omega), if_neg h, wsub1 l.length (by omega) (by omega), if_pos (by omega), if_pos (by omega), rd_nat]
theorem goodB_iff (l : List Int) : goodB l = true ↔ Good l := by
  unfold goodB Good
  by_cases h : l.length = 0
  · rw [if_pos h]
    simp [List.length_eq_zero_iff.1 h]
  · rw [if_neg h]
    have : l ≠ [] := fun e => h (by rw [e]; rfl)
    simp [this]
theorem goodB_dig (n : Nat) : goodB (dig 18446744073709551616 n) = true := (goodB_iff _).2 (dig_last (by decide) n)
theorem copied_eq (l : List Int) (hl : l.length < 1000000000) : roundellaw02_copied.f l = some l := by
  unfold roundellaw02_copied.f
  rw [Option.bind_some, if_pos (by simp; omega)]
  rfl
theorem ntrim_l0 : ∀ (n : Nat) (l : List Int), l.length = n → n < 1000000000 → Ev (fun k => nat_trim.l0 k l) (strip l) := by
  intro n
  induction n with
  | zero =>
    intro l hl _
    obtain rfl := List.length_eq_zero_iff.1 hl
    refine Ev.step (G := fun _ => some []) (fun k => ?_) (Ev.const _)
    rw [nat_trim.l0, if_neg (by simp)]
  | succ n ih =>
    intro l hl hn
    have e1 := Lib.hid (wsub1 l.length (by omega) (by omega))
    by_cases hz : l.getD n 0 = 0
    · refine Ev.step (G := fun k => nat_trim.l0 k (l.take n)) (fun k => ?_) ?_
      · rw [nat_trim.l0, if_pos (by omega), e1.out, hl, Nat.add_sub_cancel, if_pos (by omega), if_pos (by omega), rd_nat, if_pos hz, if_pos (by omega), Int.toNat_natCast]
      · have e : strip l = strip (l.take n) := by
          have h2 := take_snoc l n (by omega)
          rw [hz, ← hl, List.take_length] at h2
          have h3 := strip_snoc0 (l.take n)
          rw [← h2] at h3
          exact h3
        rw [e]
        exact ih (l.take n) (by rw [List.length_take]; omega) (by omega)
    · refine Ev.step (G := fun _ => some l) (fun k => ?_) ?_
      · rw [nat_trim.l0, if_pos (by omega), e1.out, hl, Nat.add_sub_cancel, if_pos (by omega), if_pos (by omega), rd_nat, if_neg hz]
      · have h2 := take_snoc l n (by omega)
        rw [← hl, List.take_length] at h2
        have e : strip l = l := by
          have h3 := strip_snoc (l.take n) _ hz
          rw [← h2] at h3
          exact h3
        rw [e]
        exact Ev.const _
theorem ntrim (l : List Int) (hl : l.length < 1000000000) (h : Dig 18446744073709551616 l) : Ev (fun k => nat_trim.f k l) (dig 18446744073709551616 (val 18446744073709551616 l)) := by
  rw [← strip_dig (by decide) l h]
  exact ntrim_l0 l.length l rfl hl
theorem nawake : Ev (fun k => roundellaw02_awake.f k) true := Ev.mono (K := 12) (fun k => roundellaw02_awake.mono k) (by kernel_rfl)
theorem nAt (l : List Int) (i : Nat) : nat_Nat_at.f l (i : Int) = some (l.getD i 0) := by
  unfold nat_Nat_at.f
  by_cases h : i < l.length
  · rw [if_neg (by omega), if_pos (by omega), if_pos (by omega), rd_nat]
  · rw [if_pos (by omega), List.getD_eq_getElem?_getD, List.getElem?_eq_none (by omega)]
    rfl
theorem nCmp' (a b : List Int) (ha : Dig 18446744073709551616 a) (hb : Dig 18446744073709551616 b) (ga : Good a) (gb : Good b) : natCmp a b = sgn (val 18446744073709551616 a) (val 18446744073709551616 b) := by
  unfold natCmp
  by_cases h : a.length = b.length
  · rw [if_pos h, revCmp_val a.length a b rfl h.symm ha hb]
  · rw [if_neg h]
    by_cases h2 : a.length < b.length
    · rw [if_pos h2, sgn_lt (len_lt (by decide) ha hb gb h2)]
    · rw [if_neg h2, sgn_gt (len_lt (by decide) hb ha ga (by omega))]
theorem nCmp (x y : Nat) : nat_Cmp.f (dig 18446744073709551616 x) (dig 18446744073709551616 y) = some (sgn x y) := by
  unfold nat_Cmp.f
  rw [nCmp' _ _ (Dig_dig (by decide) x) (Dig_dig (by decide) y) (dig_last (by decide) x) (dig_last (by decide) y), val_dig (by decide), val_dig (by decide)]
theorem sub64 (x y c : Nat) (hc : c ≤ 1) : bits_Sub64.f (x : Int) (y : Int) (c : Int) = some ((((x + 18446744073709551616 - y - c) % 18446744073709551616 : Nat) : Int), (((if x < y + c then 1 else 0 : Nat)) : Int)) := by
  unfold bits_Sub64.f
  rw [if_pos (by omega)]
  simp only [Int.toNat_natCast]
def Le (n m : Nat) : Prop := (dig 18446744073709551616 n).length ≤ m
theorem sub_digit (x y bo va vb : Nat) (hx : x < 18446744073709551616) (hy : y < 18446744073709551616) (hbo : bo ≤ 1) (h : y + 18446744073709551616 * vb + bo ≤ x + 18446744073709551616 * va) :
    (x + 18446744073709551616 - y - bo) % 18446744073709551616 + y + bo = x + 18446744073709551616 * (if x < y + bo then 1 else 0) ∧ vb + (if x < y + bo then 1 else 0) ≤ va ∧ (if x < y + bo then 1 else 0) ≤ 1 := by
  split <;> refine ⟨?_, ?_, ?_⟩ <;> omega
theorem nLess_l0 (a b : List Int) (ha : Dig 18446744073709551616 a) (hb : Dig 18446744073709551616 b) (hs : a.length < 1000000) (hs' : b.length ≤ a.length) (T : Nat) : ∀ (m i bo : Nat) (out : List Int), i + m = a.length → bo ≤ 1 → out.length = a.length → Dig 18446744073709551616 out → (∀ p, i ≤ p → out.getD p 0 = 0) →
    V 18446744073709551616 b i + bo ≤ V 18446744073709551616 a i → val 18446744073709551616 out + 18446744073709551616 ^ i * V 18446744073709551616 a i = T + 18446744073709551616 ^ i * (V 18446744073709551616 b i + bo) →
    Ev (fun k => nat_less.l0 k a b out (bo : Int) (a.length : Int) (i : Int)) (dig 18446744073709551616 T) := by
  intro m
  induction m with
  | zero =>
    intro i bo out hi hbo ho hd hz hle hT
    refine Ev.step (G := fun k => (nat_trim.f k out).bind fun t307 => some t307) (fun k => ?_) ?_
    · rw [nat_less.l0, if_neg (by omega)]
    · have h := ntrim out (by omega) hd
      rw [V_end _ (show a.length ≤ i by omega)] at hT hle
      have h0 : V 18446744073709551616 b i + bo = 0 := by omega
      rw [h0, Nat.mul_zero, Nat.add_zero, Nat.add_zero] at hT
      rw [hT] at h
      exact Ev.bind h (Ev.const _)
  | succ m ih =>
    intro i bo out hi hbo ho hd hz hle hT
    have ha1 := ha.get (show 0 < 18446744073709551616 by decide) i
    have hb1 := hb.get (show 0 < 18446744073709551616 by decide) i
    have hva := V_step 18446744073709551616 a i
    have hvb := V_step 18446744073709551616 b i
    obtain ⟨x, hx⟩ := Int.eq_ofNat_of_zero_le ha1.1
    obtain ⟨y, hy⟩ := Int.eq_ofNat_of_zero_le hb1.1
    rw [hx] at hva ha1
    rw [hy] at hvb hb1
    rw [Int.toNat_natCast] at hva hvb
    rw [hva, hvb] at hle hT
    obtain ⟨d1, d2, d3⟩ := sub_digit x y bo _ _ (by omega) (by omega) hbo hle
    have hset := val_set 18446744073709551616 out i (((x + 18446744073709551616 - y - bo) % 18446744073709551616 : Nat) : Int) (by omega)
    rw [hz i (Nat.le_refl _), Int.toNat_natCast, Int.toNat_zero, Nat.mul_zero, Nat.add_zero] at hset
    have hv := less_val _ _ _ _ _ _ _ _ _ _ _ hT d1
    rw [← hset, ← Nat.pow_succ] at hv
    have ih2 := ih (i + 1) (if x < y + bo then 1 else 0) (out.set i (((x + 18446744073709551616 - y - bo) % 18446744073709551616 : Nat) : Int)) (by omega) d3 (by rw [List.length_set]; exact ho) (dig_set hd _ (by omega) (by omega)) (fun p hp => by rw [getD_set_ne (by omega)]; exact hz p (by omega)) d2 hv
    have WA := Lib.hid (wadd1 i (by omega))
    have H2 := Lib.hid ih2
    clear ih2 hv hset d1 d2 d3 hT hle hva hvb
    refine Ev.step (fun k => ?_) H2.out
    rw [nat_less.l0, if_pos (by omega), if_pos (by omega), if_pos (by omega), nAt, Option.bind_some, rd_nat, hx, hy, sub64 x y bo hbo, Option.bind_some, if_pos (by omega), WA.out, Int.toNat_natCast]
theorem nLess (x y : Nat) (hx : Le x 100000) (hy : y ≤ x) : Ev (fun k => nat_less.f k (dig 18446744073709551616 x) (dig 18446744073709551616 y)) (dig 18446744073709551616 (x - y)) := by
  have hl := dig_mono (B := 18446744073709551616) (by decide) hy
  unfold Le at hx
  have dx := Dig_dig (B := 18446744073709551616) (by decide) x
  have dy := Dig_dig (B := 18446744073709551616) (by decide) y
  have vx := val_dig (B := 18446744073709551616) (by decide) x
  have vy := val_dig (B := 18446744073709551616) (by decide) y
  generalize dig 18446744073709551616 x = a at *
  generalize dig 18446744073709551616 y = b at *
  have h := nLess_l0 a b dx dy (by omega) hl (x - y) a.length 0 0 (List.replicate a.length 0) (by omega) (by omega) (by simp) (Dig.rep (by decide) _) (fun p _ => by
    rw [List.getD_eq_getElem?_getD, List.getElem?_replicate]
    split <;> rfl) (by rw [V_zero, V_zero, vx, vy]; omega) (by rw [V_zero, V_zero, vx, vy, val_replicate]; simp; omega)
  refine Ev.congr (fun k => ?_) h
  rw [nat_less.f, if_pos (by omega), Int.toNat_natCast, if_pos (by omega)]
  rfl
theorem Le_lt {x m : Nat} (hx : x < 18446744073709551616 ^ m) (h : m ≤ 100000) : Le x 100000 := Nat.le_trans (dig_length (by decide) m x hx) h
def fewB (a b : List Int) : Bool := decide (a.length ≤ 12) && decide (b.length ≤ 12) && goodB a && goodB b
theorem few_eq (a b : List Int) (ha : a.length < 1000000000) (hb : b.length < 1000000000) : roundellaw02_few.f a b = some (fewB a b) := by
  unfold roundellaw02_few.f fewB
  by_cases h1 : a.length ≤ 12
  · rw [if_pos (by omega), decide_eq_true h1]
    by_cases h2 : b.length ≤ 12
    · rw [if_pos (by omega), decide_eq_true h2, rGood a (by omega), rGood b (by omega)]
      cases goodB a <;> cases goodB b <;> rfl
    · rw [if_neg (by omega), decide_eq_false h2]
      rfl
  · rw [if_neg (by omega), decide_eq_false h1]
    rfl
theorem few_long (a b : List Int) (h : ¬ (a.length ≤ 12 ∧ b.length ≤ 12)) : roundellaw02_few.f a b = some false := by
  unfold roundellaw02_few.f
  by_cases h1 : a.length ≤ 12
  · rw [if_pos (by omega), if_neg (by omega)]
  · rw [if_neg (by omega)]
theorem few_cases (a b : List Int) (da : Dig 18446744073709551616 a) (db : Dig 18446744073709551616 b) : roundellaw02_few.f a b = some false ∨ (roundellaw02_few.f a b = some true ∧ ∃ x y, x < 18446744073709551616 ^ 12 ∧ y < 18446744073709551616 ^ 12 ∧ a = dig 18446744073709551616 x ∧ b = dig 18446744073709551616 y ∧ a.length ≤ 12 ∧ b.length ≤ 12) := by
  by_cases h : a.length ≤ 12 ∧ b.length ≤ 12
  · obtain ⟨h1, h2⟩ := h
    rw [few_eq a b (by omega) (by omega)]
    cases hg : fewB a b with
    | false => exact .inl rfl
    | true =>
      right
      simp only [fewB, Bool.and_eq_true] at hg
      have e1 := good_dig (by decide) da ((goodB_iff a).1 hg.1.2)
      have e2 := good_dig (by decide) db ((goodB_iff b).1 hg.2)
      exact ⟨rfl, _, _, W_le (val_lt a da) h1, W_le (val_lt b db) h2, e1, e2, h1, h2⟩
  · exact .inl (few_long a b h)
end Go.Proofs.YtcoipojikmgdmaaDoor.P
end
