-- Written by a program of this session (wip/tools/shake.py) out of its own texts and of the kit's printed ones; not trusted: Lean checks it.
import Derived.Test.YtfjkamhcabckeaaDoorZRatioBack3
set_option maxHeartbeats 8000000
set_option maxRecDepth 100000
set_option linter.unusedVariables false
set_option linter.unusedSimpArgs false
section
namespace Go.Proofs.YtfjkamhcabckeaaDoor.P
open Go.RowKit Go.Proofs.YtfjkamhcabckeaaDoorW.PrintWords Go.Proofs.YtfjkamhcabckeaaDoorW.PrintLast Go.Proofs.YtfjkamhcabckeaaDoorW.PrintMore
attribute [local go_sem] zc7 zc8 max_two min_two zct zcu zc6 zc9
def za9.l0 : Nat → List Int → List Int → List Int → Int → Int → Int → Option (List Int)
 | 0, _, _, _, _, _, _ => none
 | k + 1, x0, x1, x5, x6, x10, x11 => if x11 < x10 then (if 0 ≤ x11 then (if x11 < (x0.length : Int) then ((zbp.f x1 x11).bind fun t318 => (if (wrap64 ((wrap64 ((rd x0 x11) - t318)) - x6)) < 0 then (if x5.length < 17592186044416 then (za9.l0 k x0 x1 (x5 ++ [wrap64 ((wrap64 ((wrap64 ((rd x0 x11) - t318)) - x6)) + 10000)]) 1 x10 (wrap64 (x11 + 1))) else (none)) else (if x5.length < 17592186044416 then (za9.l0 k x0 x1 (x5 ++ [wrap64 ((wrap64 ((rd x0 x11) - t318)) - x6)]) 0 x10 (wrap64 (x11 + 1))) else (none)))) else (none)) else (none)) else ((zam.f k x5).bind fun t325 => (some t325))
def za9.f (k : Nat) (l0 : List Int) (l1 : List Int) : Option (List Int) := za9.l0 k l0 l1 ([] : List Int) 0 (l0.length : Int) 0
theorem za9.calls (k : Nat) (A0 : Option Addr) (c0 : Nat) (l0 : List Int) (A1 : Option Addr) (c1 : Nat) (l1 : List Int) (r : List Int) (w : World) (hr0 : Kd.C (Kd.int .i64) w A0 l0.length l0) (hc0 : l0.length ≤ c0) (hr1 : Kd.C (Kd.int .i64) w A1 l1.length l1) (hc1 : l1.length ≤ c1) (h : za9.f k l0 l1 = some r) :
  Calls Tryd.prog 66 #[.slice A0 l0.length c0, .slice A1 l1.length c1] w fun e w' => ∃ v0_ : Value, e = .returned (v0_) ∧ Kd.R (Kd.int .i64) 3 w' w.heap.size (fun _ => True) v0_ r ∧ Below w.heap.size w w' := by
 have HR0 := zA hr0
 have HC0 := zA hc0
 clear hr0 hc0
 have HR1 := zA hr1
 have HC1 := zA hc1
 clear hr1 hc1
 have HB := zA (Below.refl w.heap.size w)
 have H : (za9.l0 k l0 l1 ([] : List Int) 0 (l0.length : Int) 0) = some r := h
 clear h
 have H' := zA H
 clear H
 go_enter Tryd.func66, Tryd.ntmps66
 go_wp2
 repeat (go_quiet (fail); try go_wp2)
 go_loopg [5, 6, 11] k (fun kq v5 v6 v11 w' => ∃ (x5_1 : List Int) (x6_1 : Int) (x11_1 : Int), v6 = .int .i64 x6_1 ∧ v11 = .int .i64 x11_1 ∧ Aside0 (za9.l0 kq l0 l1 x5_1 x6_1 (l0.length : Int) x11_1 = some r) ∧ Aside0 (kq ≤ k) ∧ Aside0 (Kd.R (Kd.int .i64) 3 w' w.heap.size (fun _ => True) v5 x5_1) ∧ Aside0 (Below w.heap.size w w'))
 case atStart => exact ⟨(([] : List Int)), (0), (0), (zF), (zF), H', ⟨Nat.le_refl _⟩, ⟨by first | exact Kd.R_nil _ _ _ _ _ | exact Kd.N_nil _ _ _ _ _ | exact Kd.V_nil _ _ _ _ _ | exact Kd.Q_nil _ _ _ _ _ | exact Kd.S_nil _ _ _ _ _⟩, ⟨zB HB⟩⟩
 case round =>
  clear H'
  try clear c1
  try clear p2
  obtain ⟨x5_1, x6_1, x11_1, rfl, rfl, HA, HK1, HO_5, HB⟩ := hrel
  cases gk with
  | zero => exact absurd HA.out (by simp [za9.l0])
  | succ k1 =>
   have H := HA.out
   clear HA
   simp only [za9.l0] at H
   by_cases c3 : x11_1 < (l0.length : Int)
   ·
    rw [if_pos c3] at H
    have c3b0 : decide (x11_1 < (l0.length : Int)) = true := decide_eq_true c3
    clear c3
    by_cases c4 : 0 ≤ x11_1
    ·
     rw [if_pos c4] at H
     have c4b0 : decide (0 ≤ x11_1) = true := decide_eq_true c4
     clear c4
     by_cases c5 : x11_1 < (l0.length : Int)
     ·
      rw [if_pos c5] at H
      have c5b0 : decide (x11_1 < (l0.length : Int)) = true := decide_eq_true c5
      clear c5
      replace H := zO H
      obtain ⟨t318, A60, H⟩ := H
      try dsimp only at H
      have A6 := zA A60
      clear A60
      by_cases c7 : (wrap64 ((wrap64 ((rd l0 x11_1) - t318)) - x6_1)) < 0
      ·
       rw [if_pos c7] at H
       have c7b0 : decide ((wrap64 ((wrap64 ((rd l0 x11_1) - t318)) - x6_1)) < 0) = true := decide_eq_true c7
       clear c7
       by_cases c8 : x5_1.length < 17592186044416
       ·
        rw [if_pos c8] at H
        have LMc8 := zA c8
        clear c8
        obtain ⟨y319, hy319⟩ : ∃ y_ : List Int, y_ = (x5_1 ++ [wrap64 ((wrap64 ((wrap64 ((rd l0 x11_1) - t318)) - x6_1)) + 10000)]) := ⟨_, rfl⟩
        replace H : (za9.l0 k1 l0 l1 y319 1 (l0.length : Int) (wrap64 (x11_1 + 1))) = some r := by first | (rw [hy319]; with_reducible exact H) | (have H2_ := (Option.bind_some _ _).symm.trans H; rw [hy319]; with_reducible exact H2_) | (have H2_ := (Option.bind_some _ _).symm.trans H; with_reducible exact H2_) | with_reducible exact H | (rw [hy319]; exact H) | exact H
        have Ny319 := zA hy319
        clear hy319
        have H' := zA H
        clear H
        have p317 : 0 ≤ (x11_1 : Int) := of_decide_eq_true (by first | (with_reducible assumption) | assumption)
        have q317 : x11_1 < (l0.length : Int) := of_decide_eq_true (by first | (with_reducible assumption) | assumption)
        obtain ⟨ad317, e317, hx317_0⟩ := Kd.at_int HR0.out x11_1 p317 q317
        cases e317
        replace hx317_0 := (HB.out.cell (World.block_lt_of_cell? w _ hx317_0)).trans hx317_0
        replace p317 := eq_true p317
        replace q317 := eq_true q317
        go_wp2_with (first | (go_at_call 82; (with_reducible refine (zbp.calls _ _ l1 x11_1 t318 _ ?side1 ?side2 A6.out).mono ?_); (case side1 => exact zJ (Kd.za3 HR1.out HB.out)); (case side2 => exact HC1.out); rintro e w' ⟨rfl, ⟨nd, rfl⟩⟩; (try first | exact ⟨rfl, _, World.drewN_drewN _ _ _⟩ | exact ⟨rfl, _, Eq.trans (World.drewN_drewN _ _ _) (congrArg (World.drewN _) (Nat.add_assoc _ _ _))⟩)) | ((with_reducible refine zb2 (b := .append) (xs := #[.tmp 28, .tmp 30]) rfl ?_); at_builtin; refine Kd.zcz (Kd.int .i64) (w0 := w) w.heap.size rfl (.tmp 28) (.tmp 30) 31 3 (.int .i64 0) 8 rfl Tryd.underlying31 info3 rfl (by decide) (by omega) u5 x5_1 (wrap64 ((wrap64 ((wrap64 ((rd l0 x11_1) - t318)) - x6_1)) + 10000)) [.int .i64 (wrap64 ((wrap64 ((wrap64 ((rd l0 x11_1) - t318)) - x6_1)) + 10000))] (fun _ => True) (fun _ => False) rfl rfl ?aP (fun _ hk => hk.elim) ?aF ?aO ?aB ?aS ?aL ?_; (case aP => exact rfl); (case aB => exact (zB HB)); (case aF => exact (fun _ _ => trivial)); (case aO => exact (zR HO_5)); (case aS => exact (za (zB HB))); (case aL => have := LMc8.out; omega); intro v320 w9 ho hb hg hat; rw [← Ny319.out] at ho; have n0_ := zA (hb); have n1_ := zA (ho); clear HB HO_5; have HB := n0_; have HO321 := n1_; clear n0_ n1_ ho hb hg hat))
        repeat (go_quiet (first | (go_at_call 82; (with_reducible refine (zbp.calls _ _ l1 x11_1 t318 _ ?side1 ?side2 A6.out).mono ?_); (case side1 => exact zJ (Kd.za3 HR1.out HB.out)); (case side2 => exact HC1.out); rintro e w' ⟨rfl, ⟨nd, rfl⟩⟩; (try first | exact ⟨rfl, _, World.drewN_drewN _ _ _⟩ | exact ⟨rfl, _, Eq.trans (World.drewN_drewN _ _ _) (congrArg (World.drewN _) (Nat.add_assoc _ _ _))⟩)) | ((with_reducible refine zb2 (b := .append) (xs := #[.tmp 28, .tmp 30]) rfl ?_); at_builtin; refine Kd.zcz (Kd.int .i64) (w0 := w) w.heap.size rfl (.tmp 28) (.tmp 30) 31 3 (.int .i64 0) 8 rfl Tryd.underlying31 info3 rfl (by decide) (by omega) u5 x5_1 (wrap64 ((wrap64 ((wrap64 ((rd l0 x11_1) - t318)) - x6_1)) + 10000)) [.int .i64 (wrap64 ((wrap64 ((wrap64 ((rd l0 x11_1) - t318)) - x6_1)) + 10000))] (fun _ => True) (fun _ => False) rfl rfl ?aP (fun _ hk => hk.elim) ?aF ?aO ?aB ?aS ?aL ?_; (case aP => exact rfl); (case aB => exact (zB HB)); (case aF => exact (fun _ _ => trivial)); (case aO => exact (zR HO_5)); (case aS => exact (za (zB HB))); (case aL => have := LMc8.out; omega); intro v320 w9 ho hb hg hat; rw [← Ny319.out] at ho; have n0_ := zA (hb); have n1_ := zA (ho); clear HB HO_5; have HB := n0_; have HO321 := n1_; clear n0_ n1_ ho hb hg hat)); try go_wp2_with (first | (go_at_call 82; (with_reducible refine (zbp.calls _ _ l1 x11_1 t318 _ ?side1 ?side2 A6.out).mono ?_); (case side1 => exact zJ (Kd.za3 HR1.out HB.out)); (case side2 => exact HC1.out); rintro e w' ⟨rfl, ⟨nd, rfl⟩⟩; (try first | exact ⟨rfl, _, World.drewN_drewN _ _ _⟩ | exact ⟨rfl, _, Eq.trans (World.drewN_drewN _ _ _) (congrArg (World.drewN _) (Nat.add_assoc _ _ _))⟩)) | ((with_reducible refine zb2 (b := .append) (xs := #[.tmp 28, .tmp 30]) rfl ?_); at_builtin; refine Kd.zcz (Kd.int .i64) (w0 := w) w.heap.size rfl (.tmp 28) (.tmp 30) 31 3 (.int .i64 0) 8 rfl Tryd.underlying31 info3 rfl (by decide) (by omega) u5 x5_1 (wrap64 ((wrap64 ((wrap64 ((rd l0 x11_1) - t318)) - x6_1)) + 10000)) [.int .i64 (wrap64 ((wrap64 ((wrap64 ((rd l0 x11_1) - t318)) - x6_1)) + 10000))] (fun _ => True) (fun _ => False) rfl rfl ?aP (fun _ hk => hk.elim) ?aF ?aO ?aB ?aS ?aL ?_; (case aP => exact rfl); (case aB => exact (zB HB)); (case aF => exact (fun _ _ => trivial)); (case aO => exact (zR HO_5)); (case aS => exact (za (zB HB))); (case aL => have := LMc8.out; omega); intro v320 w9 ho hb hg hat; rw [← Ny319.out] at ho; have n0_ := zA (hb); have n1_ := zA (ho); clear HB HO_5; have HB := n0_; have HO321 := n1_; clear n0_ n1_ ho hb hg hat)))
        go_roundg k1
        case measure => have := HK1.out; omega
        case rel => exact ⟨(y319), (1), (wrap64 (x11_1 + 1)), (zF), (zF), H', ⟨by have := HK1.out; omega⟩, ⟨zR HO321⟩, ⟨zB HB⟩⟩
       ·
        rw [if_neg c8] at H
        exact absurd H (by simp)
      ·
       rw [if_neg c7] at H
       have c7b0 : decide ((wrap64 ((wrap64 ((rd l0 x11_1) - t318)) - x6_1)) < 0) = false := decide_eq_false c7
       clear c7
       by_cases c10 : x5_1.length < 17592186044416
       ·
        rw [if_pos c10] at H
        have LMc10 := zA c10
        clear c10
        obtain ⟨y322, hy322⟩ : ∃ y_ : List Int, y_ = (x5_1 ++ [wrap64 ((wrap64 ((rd l0 x11_1) - t318)) - x6_1)]) := ⟨_, rfl⟩
        replace H : (za9.l0 k1 l0 l1 y322 0 (l0.length : Int) (wrap64 (x11_1 + 1))) = some r := by first | (rw [hy322]; with_reducible exact H) | (have H2_ := (Option.bind_some _ _).symm.trans H; rw [hy322]; with_reducible exact H2_) | (have H2_ := (Option.bind_some _ _).symm.trans H; with_reducible exact H2_) | with_reducible exact H | (rw [hy322]; exact H) | exact H
        have Ny322 := zA hy322
        clear hy322
        have H' := zA H
        clear H
        have p317 : 0 ≤ (x11_1 : Int) := of_decide_eq_true (by first | (with_reducible assumption) | assumption)
        have q317 : x11_1 < (l0.length : Int) := of_decide_eq_true (by first | (with_reducible assumption) | assumption)
        obtain ⟨ad317, e317, hx317_0⟩ := Kd.at_int HR0.out x11_1 p317 q317
        cases e317
        replace hx317_0 := (HB.out.cell (World.block_lt_of_cell? w _ hx317_0)).trans hx317_0
        replace p317 := eq_true p317
        replace q317 := eq_true q317
        go_wp2_with (first | (go_at_call 82; (with_reducible refine (zbp.calls _ _ l1 x11_1 t318 _ ?side1 ?side2 A6.out).mono ?_); (case side1 => exact zJ (Kd.za3 HR1.out HB.out)); (case side2 => exact HC1.out); rintro e w' ⟨rfl, ⟨nd, rfl⟩⟩; (try first | exact ⟨rfl, _, World.drewN_drewN _ _ _⟩ | exact ⟨rfl, _, Eq.trans (World.drewN_drewN _ _ _) (congrArg (World.drewN _) (Nat.add_assoc _ _ _))⟩)) | ((with_reducible refine zb2 (b := .append) (xs := #[.tmp 28, .tmp 30]) rfl ?_); at_builtin; refine Kd.zcz (Kd.int .i64) (w0 := w) w.heap.size rfl (.tmp 28) (.tmp 30) 31 3 (.int .i64 0) 8 rfl Tryd.underlying31 info3 rfl (by decide) (by omega) u5 x5_1 (wrap64 ((wrap64 ((rd l0 x11_1) - t318)) - x6_1)) [.int .i64 (wrap64 ((wrap64 ((rd l0 x11_1) - t318)) - x6_1))] (fun _ => True) (fun _ => False) rfl rfl ?aP (fun _ hk => hk.elim) ?aF ?aO ?aB ?aS ?aL ?_; (case aP => exact rfl); (case aB => exact (zB HB)); (case aF => exact (fun _ _ => trivial)); (case aO => exact (zR HO_5)); (case aS => exact (za (zB HB))); (case aL => have := LMc10.out; omega); intro v323 w11 ho hb hg hat; rw [← Ny322.out] at ho; have n0_ := zA (hb); have n1_ := zA (ho); clear HB HO_5; have HB := n0_; have HO324 := n1_; clear n0_ n1_ ho hb hg hat))
        repeat (go_quiet (first | (go_at_call 82; (with_reducible refine (zbp.calls _ _ l1 x11_1 t318 _ ?side1 ?side2 A6.out).mono ?_); (case side1 => exact zJ (Kd.za3 HR1.out HB.out)); (case side2 => exact HC1.out); rintro e w' ⟨rfl, ⟨nd, rfl⟩⟩; (try first | exact ⟨rfl, _, World.drewN_drewN _ _ _⟩ | exact ⟨rfl, _, Eq.trans (World.drewN_drewN _ _ _) (congrArg (World.drewN _) (Nat.add_assoc _ _ _))⟩)) | ((with_reducible refine zb2 (b := .append) (xs := #[.tmp 28, .tmp 30]) rfl ?_); at_builtin; refine Kd.zcz (Kd.int .i64) (w0 := w) w.heap.size rfl (.tmp 28) (.tmp 30) 31 3 (.int .i64 0) 8 rfl Tryd.underlying31 info3 rfl (by decide) (by omega) u5 x5_1 (wrap64 ((wrap64 ((rd l0 x11_1) - t318)) - x6_1)) [.int .i64 (wrap64 ((wrap64 ((rd l0 x11_1) - t318)) - x6_1))] (fun _ => True) (fun _ => False) rfl rfl ?aP (fun _ hk => hk.elim) ?aF ?aO ?aB ?aS ?aL ?_; (case aP => exact rfl); (case aB => exact (zB HB)); (case aF => exact (fun _ _ => trivial)); (case aO => exact (zR HO_5)); (case aS => exact (za (zB HB))); (case aL => have := LMc10.out; omega); intro v323 w11 ho hb hg hat; rw [← Ny322.out] at ho; have n0_ := zA (hb); have n1_ := zA (ho); clear HB HO_5; have HB := n0_; have HO324 := n1_; clear n0_ n1_ ho hb hg hat)); try go_wp2_with (first | (go_at_call 82; (with_reducible refine (zbp.calls _ _ l1 x11_1 t318 _ ?side1 ?side2 A6.out).mono ?_); (case side1 => exact zJ (Kd.za3 HR1.out HB.out)); (case side2 => exact HC1.out); rintro e w' ⟨rfl, ⟨nd, rfl⟩⟩; (try first | exact ⟨rfl, _, World.drewN_drewN _ _ _⟩ | exact ⟨rfl, _, Eq.trans (World.drewN_drewN _ _ _) (congrArg (World.drewN _) (Nat.add_assoc _ _ _))⟩)) | ((with_reducible refine zb2 (b := .append) (xs := #[.tmp 28, .tmp 30]) rfl ?_); at_builtin; refine Kd.zcz (Kd.int .i64) (w0 := w) w.heap.size rfl (.tmp 28) (.tmp 30) 31 3 (.int .i64 0) 8 rfl Tryd.underlying31 info3 rfl (by decide) (by omega) u5 x5_1 (wrap64 ((wrap64 ((rd l0 x11_1) - t318)) - x6_1)) [.int .i64 (wrap64 ((wrap64 ((rd l0 x11_1) - t318)) - x6_1))] (fun _ => True) (fun _ => False) rfl rfl ?aP (fun _ hk => hk.elim) ?aF ?aO ?aB ?aS ?aL ?_; (case aP => exact rfl); (case aB => exact (zB HB)); (case aF => exact (fun _ _ => trivial)); (case aO => exact (zR HO_5)); (case aS => exact (za (zB HB))); (case aL => have := LMc10.out; omega); intro v323 w11 ho hb hg hat; rw [← Ny322.out] at ho; have n0_ := zA (hb); have n1_ := zA (ho); clear HB HO_5; have HB := n0_; have HO324 := n1_; clear n0_ n1_ ho hb hg hat)))
        go_roundg k1
        case measure => have := HK1.out; omega
        case rel => exact ⟨(y322), (0), (wrap64 (x11_1 + 1)), (zF), (zF), H', ⟨by have := HK1.out; omega⟩, ⟨zR HO324⟩, ⟨zB HB⟩⟩
       ·
        rw [if_neg c10] at H
        exact absurd H (by simp)
     ·
      rw [if_neg c5] at H
      exact absurd H (by simp)
    ·
     rw [if_neg c4] at H
     exact absurd H (by simp)
   ·
    rw [if_neg c3] at H
    have c3b0 : decide (x11_1 < (l0.length : Int)) = false := decide_eq_false c3
    clear c3
    replace H := zO H
    obtain ⟨t325, A120, H⟩ := H
    try dsimp only at H
    have A12 := zA A120
    clear A120
    obtain rfl := Option.some.inj H
    obtain ⟨Ao13, co13, eo13⟩ := Kd.zbn HO_5.out
    subst eo13
    go_wp2_with (first | (go_at_call 83; (with_reducible refine (zam.calls k1 (fun k_ => some k_ = (.slice Ao13 x5_1.length co13 : Value).ownBlock) (.slice Ao13 x5_1.length co13) x5_1 t325 w _ ?side1 ?side2 A12.out).mono ?_); (case side1 => repeat (first | (with_reducible first | exact HB.out | apply za1 | apply zbf | apply zbu) | exact HB.out)); (case side2 => exact Kd.zc4 rfl HO_5.out); rintro e w14 ⟨v326, rfl, ho0, hb, hkp⟩; have n0_ := zA (Kd.zbl (ok' := fun k_ => True) ho0 (fun k_ hk_ => trivial)); have n1_ := zA (hb); clear HB HO_5; have HO327 := n0_; have HB := n1_; clear n0_ n1_; (try clear hb); (try clear hkp); (try clear ho0)))
    repeat (go_quiet (first | (go_at_call 83; (with_reducible refine (zam.calls k1 (fun k_ => some k_ = (.slice Ao13 x5_1.length co13 : Value).ownBlock) (.slice Ao13 x5_1.length co13) x5_1 t325 w _ ?side1 ?side2 A12.out).mono ?_); (case side1 => repeat (first | (with_reducible first | exact HB.out | apply za1 | apply zbf | apply zbu) | exact HB.out)); (case side2 => exact Kd.zc4 rfl HO_5.out); rintro e w14 ⟨v326, rfl, ho0, hb, hkp⟩; have n0_ := zA (Kd.zbl (ok' := fun k_ => True) ho0 (fun k_ hk_ => trivial)); have n1_ := zA (hb); clear HB HO_5; have HO327 := n0_; have HB := n1_; clear n0_ n1_; (try clear hb); (try clear hkp); (try clear ho0))); try go_wp2_with (first | (go_at_call 83; (with_reducible refine (zam.calls k1 (fun k_ => some k_ = (.slice Ao13 x5_1.length co13 : Value).ownBlock) (.slice Ao13 x5_1.length co13) x5_1 t325 w _ ?side1 ?side2 A12.out).mono ?_); (case side1 => repeat (first | (with_reducible first | exact HB.out | apply za1 | apply zbf | apply zbu) | exact HB.out)); (case side2 => exact Kd.zc4 rfl HO_5.out); rintro e w14 ⟨v326, rfl, ho0, hb, hkp⟩; have n0_ := zA (Kd.zbl (ok' := fun k_ => True) ho0 (fun k_ hk_ => trivial)); have n1_ := zA (hb); clear HB HO_5; have HO327 := n0_; have HB := n1_; clear n0_ n1_; (try clear hb); (try clear hkp); (try clear ho0))))
    go_ret
    exact ⟨_, zW, zR HO327, zB HB⟩
mutual
def zai.l0 : Nat → List Int → List Int → List Int → List Int → Int → Option (List Int × List Int)
 | 0, _, _, _, _, _ => none
 | k + 1, x0, x1, x6, x7, x8 => if x8 ≥ 0 then (if 0 ≤ x8 then (if x8 < (x0.length : Int) then ((some (([rd x0 x8] : List Int) : List Int)).bind fun y335 => (if y335.length + x7.length < 17592186044416 then ((zam.f k (y335 ++ x7)).bind fun t341 => (zai.l1 k x0 x1 x6 t341 x8 0 9999)) else (none))) else (none)) else (none)) else ((zam.f k x6).bind fun t331 => (some (t331, x7)))
def zai.l1 : Nat → List Int → List Int → List Int → List Int → Int → Int → Int → Option (List Int × List Int)
 | 0, _, _, _, _, _, _, _ => none
 | k + 1, x0, x1, x6, x7, x8, x9, x10 => if x9 < x10 then ((zax.f k (wrap64 (Int.tdiv (wrap64 ((wrap64 (x9 + x10)) + 1)) 2))).bind fun t354 => ((zaj.f k x1 t354).bind fun t357 => ((za4.f k t357 x7).bind fun t360 => (if t360 ≤ 0 then (zai.l1 k x0 x1 x6 x7 x8 (wrap64 (Int.tdiv (wrap64 ((wrap64 (x9 + x10)) + 1)) 2)) x10) else (zai.l1 k x0 x1 x6 x7 x8 x9 (wrap64 ((wrap64 (Int.tdiv (wrap64 ((wrap64 (x9 + x10)) + 1)) 2)) - 1))))))) else (if 0 ≤ x8 then (if x8 < (x6.length : Int) then ((zax.f k x9).bind fun t345 => ((zaj.f k x1 t345).bind fun t348 => ((za9.f k x7 t348).bind fun t351 => (zai.l0 k x0 x1 (x6.set (x8 : Int).toNat x9) t351 (wrap64 (x8 - 1)))))) else (none)) else (none))
end
def zai.f (k : Nat) (l0 : List Int) (l1 : List Int) : Option (List Int × List Int) := if 0 ≤ (l0.length : Int) then (if ((l0.length : Int) : Int).toNat ≤ 35184372088832 then (zai.l0 k l0 l1 (List.replicate ((l0.length : Int) : Int).toNat 0) ([] : List Int) (wrap64 ((l0.length : Int) - 1))) else (none)) else (none)
theorem zai.calls (k : Nat) (A0 : Option Addr) (c0 : Nat) (l0 : List Int) (A1 : Option Addr) (c1 : Nat) (l1 : List Int) (r1 : List Int) (r2 : List Int) (w : World) (hr0 : Kd.C (Kd.int .i64) w A0 l0.length l0) (hc0 : l0.length ≤ c0) (hr1 : Kd.C (Kd.int .i64) w A1 l1.length l1) (hc1 : l1.length ≤ c1) (h : zai.f k l0 l1 = some (r1, r2)) :
  Calls Tryd.prog 57 #[.slice A0 l0.length c0, .slice A1 l1.length c1] w fun e w' => ∃ v0_ v1_ : Value, e = .returned (.tuple #[v0_, v1_]) ∧ Kd.R (Kd.int .i64) 3 w' w.heap.size (fun k_ => some k_ ≠ (v1_ : Value).ownBlock) v0_ r1 ∧ Kd.R (Kd.int .i64) 3 w' w.heap.size (fun k_ => some k_ ≠ (v0_ : Value).ownBlock) v1_ r2 ∧ Below w.heap.size w w' := by
 have HR0 := zA hr0
 have HC0 := zA hc0
 clear hr0 hc0
 have HR1 := zA hr1
 have HC1 := zA hc1
 clear hr1 hc1
 have HB := zA (Below.refl w.heap.size w)
 have H : (if 0 ≤ (l0.length : Int) then (if ((l0.length : Int) : Int).toNat ≤ 35184372088832 then (zai.l0 k l0 l1 (List.replicate ((l0.length : Int) : Int).toNat 0) ([] : List Int) (wrap64 ((l0.length : Int) - 1))) else (none)) else (none)) = some (r1, r2) := h
 clear h
 by_cases c3 : 0 ≤ (l0.length : Int)
 ·
  rw [if_pos c3] at H
  have c3b0 := eq_true c3
  have c3b1 : decide (0 ≤ (l0.length : Int)) = true := decide_eq_true c3
  clear c3
  by_cases c4 : ((l0.length : Int) : Int).toNat ≤ 35184372088832
  ·
   rw [if_pos c4] at H
   have c4b0 := eq_true c4
   have c4b1 : decide (((l0.length : Int) : Int).toNat ≤ 35184372088832) = true := decide_eq_true c4
   clear c4
   obtain ⟨y328, hy328⟩ : ∃ y_ : List Int, y_ = (List.replicate ((l0.length : Int) : Int).toNat 0) := ⟨_, rfl⟩
   replace H : (zai.l0 k l0 l1 y328 ([] : List Int) (wrap64 ((l0.length : Int) - 1))) = some (r1, r2) := by first | (rw [hy328]; with_reducible exact H) | (have H2_ := (Option.bind_some _ _).symm.trans H; rw [hy328]; with_reducible exact H2_) | (have H2_ := (Option.bind_some _ _).symm.trans H; with_reducible exact H2_) | with_reducible exact H | (rw [hy328]; exact H) | exact H
   have Ny328 := zA hy328
   clear hy328
   have H' := zA H
   clear H
   go_enter Tryd.func57, Tryd.ntmps57
   go_wp2_with (first | ((with_reducible refine zbe (N := 14) rfl ?_); refine Kd.R_make (Kd.int .i64) _ 3 rfl (N := 14) rfl 31 _ _ rfl (l0.length : Int) rfl rfl Tryd.underlying31 (.int .i64 0) 8 info3 rfl (by decide) (by omega) 0 (ok := fun _ => True) (okp := fun _ => True) rfl (fun _ hk => hk) trivial (of_decide_eq_true (by first | (with_reducible assumption) | assumption)) (Nat.le_trans (Nat.mul_le_mul_right _ (of_decide_eq_true (by first | (with_reducible assumption) | assumption) : (l0.length : Int).toNat ≤ 35184372088832)) (by omega)) (Below.refl _ _) (Nat.le_refl _) ?_; intro v329 w5 ho6 hb hg_ hnew_; clear hg_ hnew_; (first | rw [← Ny328.out] at ho6 | (simp only [Int.reduceToNat] at ho6; rw [← Ny328.out] at ho6)); have n0_ := zA (Kd.zbr ho6 (za (zB HB))); have n1_ := zA (zaa (zB HB) hb); clear HB; have HO330 := n0_; have HB := n1_; clear n0_ n1_ hb ho6))
   go_loopg [7, 8] k (fun kq v7 v8 w' => ∃ (x6_1 : List Int) (x7_1 : List Int) (x8_1 : Int), v8 = .int .i64 x8_1 ∧ Aside0 (zai.l0 kq l0 l1 x6_1 x7_1 x8_1 = some (r1, r2)) ∧ Aside0 (kq ≤ k) ∧ Aside0 (Kd.R (Kd.int .i64) 3 w' w.heap.size (fun k_ => some k_ ≠ (v7 : Value).ownBlock) v329 x6_1) ∧ Aside0 (Kd.R (Kd.int .i64) 3 w' w.heap.size (fun k_ => some k_ ≠ (v329 : Value).ownBlock) v7 x7_1) ∧ Aside0 (Below w.heap.size w w'))
   case atStart => exact ⟨(y328), (([] : List Int)), (wrap64 ((l0.length : Int) - 1)), (zF), H', ⟨Nat.le_refl _⟩, ⟨by (with_reducible repeat (first | apply Kd.zbz | apply Kd.zb0 | apply Kd.zca)); exact Kd.zbl HO330.out (fun _ hk => (by simp [Value.ownBlock]))⟩, ⟨by first | exact Kd.R_nil _ _ _ _ _ | exact Kd.N_nil _ _ _ _ _ | exact Kd.V_nil _ _ _ _ _ | exact Kd.Q_nil _ _ _ _ _ | exact Kd.S_nil _ _ _ _ _⟩, ⟨zB HB⟩⟩
   case round =>
    clear H'
    try clear c1
    try clear p2
    try clear c3
    try clear c3b0
    try clear c3b1
    try clear c4
    try clear c4b0
    try clear c4b1
    try clear c5
    try clear p6
    obtain ⟨x6_1, x7_1, x8_1, rfl, HA, HK1, HO_6, HO_7, HB⟩ := hrel
    cases gk with
    | zero => exact absurd HA.out (by simp [zai.l0])
    | succ k1 =>
     have H := HA.out
     clear HA
     simp only [zai.l0] at H
     by_cases c7 : x8_1 ≥ 0
     ·
      rw [if_pos c7] at H
      have c7b0 : decide (0 ≤ x8_1) = true := decide_eq_true c7
      clear c7
      by_cases c8 : 0 ≤ x8_1
      ·
       rw [if_pos c8] at H
       have c8b0 : decide (0 ≤ x8_1) = true := decide_eq_true c8
       clear c8
       by_cases c9 : x8_1 < (l0.length : Int)
       ·
        rw [if_pos c9] at H
        have c9b0 : decide (x8_1 < (l0.length : Int)) = true := decide_eq_true c9
        clear c9
        obtain ⟨y335, hy335⟩ : ∃ y_ : List Int, y_ = (([rd l0 x8_1] : List Int)) := ⟨_, rfl⟩
        replace H : (if y335.length + x7_1.length < 17592186044416 then ((zam.f k1 (y335 ++ x7_1)).bind fun t341 => (zai.l1 k1 l0 l1 x6_1 t341 x8_1 0 9999)) else (none)) = some (r1, r2) := by first | (rw [hy335]; with_reducible exact H) | (have H2_ := (Option.bind_some _ _).symm.trans H; rw [hy335]; with_reducible exact H2_) | (have H2_ := (Option.bind_some _ _).symm.trans H; with_reducible exact H2_) | with_reducible exact H | (rw [hy335]; exact H) | exact H
        have Ny335 := zA hy335
        clear hy335
        by_cases c10 : y335.length + x7_1.length < 17592186044416
        ·
         rw [if_pos c10] at H
         have LMc10 := zA c10
         clear c10
         obtain ⟨y338, hy338⟩ : ∃ y_ : List Int, y_ = (y335 ++ x7_1) := ⟨_, rfl⟩
         replace H : ((zam.f k1 y338).bind fun t341 => (zai.l1 k1 l0 l1 x6_1 t341 x8_1 0 9999)) = some (r1, r2) := by first | (rw [hy338]; with_reducible exact H) | (have H2_ := (Option.bind_some _ _).symm.trans H; rw [hy338]; with_reducible exact H2_) | (have H2_ := (Option.bind_some _ _).symm.trans H; with_reducible exact H2_) | with_reducible exact H | (rw [hy338]; exact H) | exact H
         have Ny338 := zA hy338
         clear hy338
         replace H := zO H
         obtain ⟨t341, A110, H⟩ := H
         try dsimp only at H
         have A11 := zA A110
         clear A110
         have H' := zA H
         clear H
         have p334 : 0 ≤ (x8_1 : Int) := of_decide_eq_true (by first | (with_reducible assumption) | assumption)
         have q334 : x8_1 < (l0.length : Int) := of_decide_eq_true (by first | (with_reducible assumption) | assumption)
         obtain ⟨ad334, e334, hx334_0⟩ := Kd.at_int HR0.out x8_1 p334 q334
         cases e334
         replace hx334_0 := (HB.out.cell (World.block_lt_of_cell? w _ hx334_0)).trans hx334_0
         replace p334 := eq_true p334
         replace q334 := eq_true q334
         go_wp2_with (first | ((with_reducible refine zbe (N := 26) rfl ?_); refine Kd.R_lit (Kd.int .i64) _ 3 ?hg (N := 26) ?hd (xs := ([rd l0 x8_1] : List Int)) (inner := [.int .i64 (rd l0 x8_1)]) (ok := fun _ => True) (okp := fun _ => True) ?hr ?hp (fun _ hk => hk) trivial (Below.refl _ _) (Nat.le_refl _) (by simp) ?_; (case hd => rfl); (case hg => rfl); (case hr => first | (go_simp; done) | (go_simp; rfl)); (case hp => exact (Reps.one (show Kd.M (Kd.int .i64) _ _ _ (rd l0 x8_1) [.int .i64 (rd l0 x8_1)] from rfl) (Reps.none _ _))); intro v336 w12 ho13 hb hg_ hnew_; clear hg_ hnew_; (first | rw [← Ny335.out] at ho13 | (simp only [Int.reduceToNat] at ho13; rw [← Ny335.out] at ho13)); have n0_ := zA (Kd.zbj (zR HO_6) (Kd.zbi ho13) hb); have n1_ := zA (Kd.zbj (zR HO_7) (Kd.zbi ho13) hb); have n2_ := zA (Kd.zbr (Kd.zb5 (Kd.zb5 ho13 (Kd.R_lt (zR HO_6))) (Kd.R_lt (zR HO_7))) (za (zB HB))); have n3_ := zA (zaa (zB HB) hb); clear HO_6 HO_7 HB; have HO_6 := n0_; have HO_7 := n1_; have HO337 := n2_; have HB := n3_; clear n0_ n1_ n2_ n3_ hb ho13; obtain ⟨Ao15, co15, eo15⟩ := Kd.zbn HO_7.out; subst eo15) | ((with_reducible refine zb2 (b := .append) (xs := #[.tmp 26, .tmp 27]) rfl ?_); at_builtin; refine Kd.R_append_rows (Kd.int .i64) (w0 := w) w.heap.size rfl (.tmp 26) (.tmp 27) 31 3 (.int .i64 0) 8 rfl Tryd.underlying31 info3 rfl (by decide) (by omega) v336 y335 x7_1 _ _ _ (fun k_ => some k_ ≠ (v329 : Value).ownBlock ∧ some k_ ≠ (.slice Ao15 x7_1.length co15 : Value).ownBlock) (fun _ => False) rfl rfl ?aO ?aR (fun _ _ h => h) (fun _ h => h.elim) ?aF ?aB ?aS ?aL ?_; (case aR => exact zJ (Kd.za2 HO_7.out).2.2); (case aB => exact (zB HB)); (case aF => exact (fun k_ hk => ⟨Kd.fresh' (Kd.R_lt (zR HO_6)) k_ hk, Kd.fresh' (Kd.R_lt (zR HO_7)) k_ hk⟩)); (case aO => exact (by (with_reducible repeat (first | apply Kd.zbz | apply Kd.zb0 | apply Kd.zca)); exact Kd.zbl HO337.out (fun _ hk => ⟨hk.1.2, hk.2⟩))); (case aS => exact (za (zB HB))); (case aL => have := LMc10.out; omega); intro v339 w14 ho hb hg hat; rw [← Ny338.out] at ho; have n0_ := zA (Kd.R_after (ok := (fun k_ => some k_ ≠ (.slice Ao15 x7_1.length co15 : Value).ownBlock)) (zR HO_6) hg hat); have n1_ := zA (Kd.R_after (ok := (fun k_ => some k_ ≠ (v329 : Value).ownBlock)) (zR HO_7) hg hat); have n2_ := zA (hb); have n3_ := zA (ho); clear HO_6 HO_7 HB HO337; have HO_6 := n0_; have HO_7 := n1_; have HB := n2_; have HO340 := n3_; clear n0_ n1_ n2_ n3_ ho hb hg hat; obtain ⟨Ao16, co16, eo16⟩ := Kd.zbn HO340.out; subst eo16) | ((with_reducible refine zae (f := 83) rfl ?_); refine za5 (some 29) rfl rfl Tryd.func83 (by kernel_rfl) rfl #[.slice Ao16 y338.length co16] rfl (zE) ?_; (with_reducible refine (zam.calls k1 (fun k_ => some k_ = (.slice Ao16 y338.length co16 : Value).ownBlock) (.slice Ao16 y338.length co16) y338 t341 w _ ?side1 ?side2 A11.out).mono ?_); (case side1 => repeat (first | (with_reducible first | exact HB.out | apply za1 | apply zbf | apply zbu) | exact HB.out)); (case side2 => exact Kd.zc4 rfl HO340.out); rintro e w17 ⟨v342, rfl, ho0, hb, hkp⟩; refine ⟨_, rfl, ?_⟩; have n0_ := zA (Kd.zbl (ok' := fun k_ => some k_ ≠ (.slice Ao15 x7_1.length co15 : Value).ownBlock ∧ some k_ ≠ (v342 : Value).ownBlock) (Kd.R_keptB (HO_6.out) hkp (fun k_ hk_ hs_ => (hk_.2) hs_)) (fun k_ hk_ => ⟨hk_.1.1, fun e_ => Or.elim (ho0.1 k_ e_.symm) (fun hs_ => hk_.2.1 hs_) (fun hn_ => Nat.not_le.2 hk_.2.2 hn_)⟩)); have n1_ := zA (Kd.zbl (ok' := fun k_ => some k_ ≠ (v329 : Value).ownBlock ∧ some k_ ≠ (v342 : Value).ownBlock) (Kd.R_keptB (HO_7.out) hkp (fun k_ hk_ hs_ => (hk_.2) hs_)) (fun k_ hk_ => ⟨hk_.1.1, fun e_ => Or.elim (ho0.1 k_ e_.symm) (fun hs_ => hk_.2.1 hs_) (fun hn_ => Nat.not_le.2 hk_.2.2 hn_)⟩)); have n2_ := zA (Kd.zbl (ok' := fun k_ => some k_ ≠ (v329 : Value).ownBlock ∧ some k_ ≠ (.slice Ao15 x7_1.length co15 : Value).ownBlock) ho0 (fun k_ hk_ => ⟨Or.elim hk_ (fun hs_ => fun e_ => (((HO_6.out).1 k_ e_.symm).2) hs_) (fun hn_ => (Kd.fresh' (Kd.R_lt (zR HO_6)) k_ hn_)), Or.elim hk_ (fun hs_ => fun e_ => (((HO_7.out).1 k_ e_.symm).2) hs_) (fun hn_ => (Kd.fresh' (Kd.R_lt (zR HO_7)) k_ hn_))⟩)); have n3_ := zA (hb); clear HO_6 HO_7 HB HO340; have HO_6 := n0_; have HO_7 := n1_; have HO343 := n2_; have HB := n3_; clear n0_ n1_ n2_ n3_; (try clear hb); (try clear hkp); (try clear ho0)))
         go_loopg [9, 10] k1 (fun kq v9 v10 w' => ∃ (x9_2 : Int) (x10_2 : Int), v9 = .int .i64 x9_2 ∧ v10 = .int .i64 x10_2 ∧ Aside0 (zai.l1 kq l0 l1 x6_1 t341 x8_1 x9_2 x10_2 = some (r1, r2)) ∧ Aside0 (kq ≤ k1) ∧ Aside0 (Kd.R (Kd.int .i64) 3 w' w.heap.size (fun k_ => some k_ ≠ (v342 : Value).ownBlock) v329 x6_1) ∧ Aside0 (Kd.R (Kd.int .i64) 3 w' w.heap.size (fun k_ => some k_ ≠ (v329 : Value).ownBlock) v342 t341) ∧ Aside0 (Below w.heap.size w w'))
         case atStart => exact ⟨(0), (9999), (zF), (zF), H', ⟨Nat.le_refl _⟩, ⟨by (with_reducible repeat (first | apply Kd.zbz | apply Kd.zb0 | apply Kd.zca)); exact Kd.zbl HO_6.out (fun _ hk => hk.2)⟩, ⟨by (with_reducible repeat (first | apply Kd.zbz | apply Kd.zb0 | apply Kd.zca)); exact Kd.zbl HO343.out (fun _ hk => hk.1)⟩, ⟨zB HB⟩⟩
         case round =>
          clear H'
          try clear c1
          try clear p2
          try clear c3
          try clear c3b0
          try clear c3b1
          try clear p3
          try clear q3
          try clear hx3
          try clear c4
          try clear c4b0
          try clear c4b1
          try clear c5
          try clear p6
          try clear c7
          try clear c7b0
          try clear c8
          try clear c8b0
          try clear c9
          try clear c9b0
          try clear c10
          try clear hx334_0
          try clear p2
          try clear p334
          try clear p6
          try clear q334
          obtain ⟨x9_2, x10_2, rfl, rfl, HA, HK2, HO_6, HO_7, HB⟩ := hrel
          cases gk with
          | zero => exact absurd HA.out (by simp [zai.l1])
          | succ k2 =>
           have H := HA.out
           clear HA
           simp only [zai.l1] at H
           by_cases c18 : x9_2 < x10_2
           ·
            rw [if_pos c18] at H
            have c18b0 : decide (x9_2 < x10_2) = true := decide_eq_true c18
            clear c18
            replace H := zO H
            obtain ⟨t354, A190, H⟩ := H
            try dsimp only at H
            have A19 := zA A190
            clear A190
            replace H := zO H
            obtain ⟨t357, A200, H⟩ := H
            try dsimp only at H
            have A20 := zA A200
            clear A200
            replace H := zO H
            obtain ⟨t360, A210, H⟩ := H
            try dsimp only at H
            have A21 := zA A210
            clear A210
            by_cases c22 : t360 ≤ 0
            ·
             rw [if_pos c22] at H
             have c22b0 : decide (t360 ≤ 0) = true := decide_eq_true c22
             clear c22
             have H' := zA H
             clear H
             go_wp2_with (first | ((with_reducible refine zae (f := 20) rfl ?_); refine za5 (some 40) rfl rfl Tryd.func20 (by kernel_rfl) rfl #[.int .i64 (wrap64 (Int.tdiv (wrap64 ((wrap64 (x9_2 + x10_2)) + 1)) 2))] rfl (zE) ?_; (with_reducible refine (zax.calls k2 (wrap64 (Int.tdiv (wrap64 ((wrap64 (x9_2 + x10_2)) + 1)) 2)) t354 _ A19.out).mono ?_); rintro e w23 ⟨v355, rfl, ho0, hb⟩; refine ⟨_, rfl, ?_⟩; have n0_ := zA (Kd.zbj (zR HO_6) (Kd.zbi ho0) hb); have n1_ := zA (Kd.zbj (zR HO_7) (Kd.zbi ho0) hb); have n2_ := zA (Kd.zbr (Kd.zb5 (Kd.zb5 ho0 (Kd.R_lt (zR HO_6))) (Kd.R_lt (zR HO_7))) (za (zB HB))); have n3_ := zA (zaa (zB HB) hb); clear HO_6 HO_7 HB; have HO_6 := n0_; have HO_7 := n1_; have HO356 := n2_; have HB := n3_; clear n0_ n1_ n2_ n3_; (try clear hb); (try clear hb2); (try clear hk); (try clear hi); (try clear ho0); obtain ⟨Ao24, co24, eo24⟩ := Kd.zbn HO356.out; subst eo24) | ((with_reducible refine zae (f := 56) rfl ?_); refine za5 (some 41) rfl rfl Tryd.func56 (by kernel_rfl) rfl #[.slice A1 l1.length c1, .slice Ao24 t354.length co24] rfl (zE) ?_; (with_reducible refine (zaj.calls k2 _ _ l1 _ _ t354 t357 _ ?side1 ?side2 ?side3 ?side4 A20.out).mono ?_); (case side1 => exact zJ (Kd.za3 HR1.out HB.out)); (case side2 => exact HC1.out); (case side3 => exact zJ (Kd.za2 HO356.out).2.2); (case side4 => exact (Kd.za2 HO356.out).2.1); rintro e w25 ⟨v358, rfl, ho0, hb⟩; refine ⟨_, rfl, ?_⟩; have n0_ := zA (Kd.zbj (zR HO_6) (Kd.zbi ho0) hb); have n1_ := zA (Kd.zbj (zR HO_7) (Kd.zbi ho0) hb); have n2_ := zA (Kd.zbj (zR HO356) (Kd.zbi ho0) hb); have n3_ := zA (Kd.zbr (Kd.zb5 (Kd.zb5 (Kd.zb5 ho0 (Kd.R_lt (zR HO_6))) (Kd.R_lt (zR HO_7))) (Kd.R_lt (zR HO356))) (za (zB HB))); have n4_ := zA (zaa (zB HB) hb); clear HO_6 HO_7 HO356 HB; have HO_6 := n0_; have HO_7 := n1_; have HO356 := n2_; have HO359 := n3_; have HB := n4_; clear n0_ n1_ n2_ n3_ n4_; (try clear hb); (try clear hb2); (try clear hk); (try clear hi); (try clear ho0); obtain ⟨Ao26, co26, eo26⟩ := Kd.zbn HO359.out; subst eo26; obtain ⟨Ao27, co27, eo27⟩ := Kd.zbn HO_7.out; subst eo27) | ((with_reducible refine zae (f := 18) rfl ?_); refine za5 (some 43) rfl rfl Tryd.func18 (by kernel_rfl) rfl #[.slice Ao26 t357.length co26, .slice Ao27 t341.length co27] rfl (zE) ?_; (with_reducible refine (za4.calls k2 _ _ t357 _ _ t341 t360 _ ?side1 ?side2 ?side3 ?side4 A21.out).mono ?_); (case side1 => exact zJ (Kd.za2 HO359.out).2.2); (case side2 => exact (Kd.za2 HO359.out).2.1); (case side3 => exact zJ (Kd.za2 HO_7.out).2.2); (case side4 => exact (Kd.za2 HO_7.out).2.1); rintro e w' ⟨rfl, ⟨nd, rfl⟩⟩; refine ⟨_, rfl, ?_⟩))
             go_roundg k2
             case measure => have := HK1.out; have := HK2.out; omega
             case rel => exact ⟨(wrap64 (Int.tdiv (wrap64 ((wrap64 (x9_2 + x10_2)) + 1)) 2)), (x10_2), (zF), (zF), H', ⟨by have := HK1.out; have := HK2.out; omega⟩, ⟨by (with_reducible repeat (first | apply Kd.zbz | apply Kd.zb0 | apply Kd.zca)); exact Kd.zbl HO_6.out (fun _ hk => hk.1.1)⟩, ⟨by (with_reducible repeat (first | apply Kd.zbz | apply Kd.zb0 | apply Kd.zca)); exact Kd.zbl HO_7.out (fun _ hk => hk.1.1)⟩, ⟨zB HB⟩⟩
            ·
             rw [if_neg c22] at H
             have c22b0 : decide (t360 ≤ 0) = false := decide_eq_false c22
             clear c22
             have H' := zA H
             clear H
             go_wp2_with (first | ((with_reducible refine zae (f := 20) rfl ?_); refine za5 (some 40) rfl rfl Tryd.func20 (by kernel_rfl) rfl #[.int .i64 (wrap64 (Int.tdiv (wrap64 ((wrap64 (x9_2 + x10_2)) + 1)) 2))] rfl (zE) ?_; (with_reducible refine (zax.calls k2 (wrap64 (Int.tdiv (wrap64 ((wrap64 (x9_2 + x10_2)) + 1)) 2)) t354 _ A19.out).mono ?_); rintro e w28 ⟨v355, rfl, ho0, hb⟩; refine ⟨_, rfl, ?_⟩; have n0_ := zA (Kd.zbj (zR HO_6) (Kd.zbi ho0) hb); have n1_ := zA (Kd.zbj (zR HO_7) (Kd.zbi ho0) hb); have n2_ := zA (Kd.zbr (Kd.zb5 (Kd.zb5 ho0 (Kd.R_lt (zR HO_6))) (Kd.R_lt (zR HO_7))) (za (zB HB))); have n3_ := zA (zaa (zB HB) hb); clear HO_6 HO_7 HB; have HO_6 := n0_; have HO_7 := n1_; have HO356 := n2_; have HB := n3_; clear n0_ n1_ n2_ n3_; (try clear hb); (try clear hb2); (try clear hk); (try clear hi); (try clear ho0); obtain ⟨Ao29, co29, eo29⟩ := Kd.zbn HO356.out; subst eo29) | ((with_reducible refine zae (f := 56) rfl ?_); refine za5 (some 41) rfl rfl Tryd.func56 (by kernel_rfl) rfl #[.slice A1 l1.length c1, .slice Ao29 t354.length co29] rfl (zE) ?_; (with_reducible refine (zaj.calls k2 _ _ l1 _ _ t354 t357 _ ?side1 ?side2 ?side3 ?side4 A20.out).mono ?_); (case side1 => exact zJ (Kd.za3 HR1.out HB.out)); (case side2 => exact HC1.out); (case side3 => exact zJ (Kd.za2 HO356.out).2.2); (case side4 => exact (Kd.za2 HO356.out).2.1); rintro e w30 ⟨v358, rfl, ho0, hb⟩; refine ⟨_, rfl, ?_⟩; have n0_ := zA (Kd.zbj (zR HO_6) (Kd.zbi ho0) hb); have n1_ := zA (Kd.zbj (zR HO_7) (Kd.zbi ho0) hb); have n2_ := zA (Kd.zbj (zR HO356) (Kd.zbi ho0) hb); have n3_ := zA (Kd.zbr (Kd.zb5 (Kd.zb5 (Kd.zb5 ho0 (Kd.R_lt (zR HO_6))) (Kd.R_lt (zR HO_7))) (Kd.R_lt (zR HO356))) (za (zB HB))); have n4_ := zA (zaa (zB HB) hb); clear HO_6 HO_7 HO356 HB; have HO_6 := n0_; have HO_7 := n1_; have HO356 := n2_; have HO359 := n3_; have HB := n4_; clear n0_ n1_ n2_ n3_ n4_; (try clear hb); (try clear hb2); (try clear hk); (try clear hi); (try clear ho0); obtain ⟨Ao31, co31, eo31⟩ := Kd.zbn HO359.out; subst eo31; obtain ⟨Ao32, co32, eo32⟩ := Kd.zbn HO_7.out; subst eo32) | ((with_reducible refine zae (f := 18) rfl ?_); refine za5 (some 43) rfl rfl Tryd.func18 (by kernel_rfl) rfl #[.slice Ao31 t357.length co31, .slice Ao32 t341.length co32] rfl (zE) ?_; (with_reducible refine (za4.calls k2 _ _ t357 _ _ t341 t360 _ ?side1 ?side2 ?side3 ?side4 A21.out).mono ?_); (case side1 => exact zJ (Kd.za2 HO359.out).2.2); (case side2 => exact (Kd.za2 HO359.out).2.1); (case side3 => exact zJ (Kd.za2 HO_7.out).2.2); (case side4 => exact (Kd.za2 HO_7.out).2.1); rintro e w' ⟨rfl, ⟨nd, rfl⟩⟩; refine ⟨_, rfl, ?_⟩))
             go_roundg k2
             case measure => have := HK1.out; have := HK2.out; omega
             case rel => exact ⟨(x9_2), (wrap64 ((wrap64 (Int.tdiv (wrap64 ((wrap64 (x9_2 + x10_2)) + 1)) 2)) - 1)), (zF), (zF), H', ⟨by have := HK1.out; have := HK2.out; omega⟩, ⟨by (with_reducible repeat (first | apply Kd.zbz | apply Kd.zb0 | apply Kd.zca)); exact Kd.zbl HO_6.out (fun _ hk => hk.1.1)⟩, ⟨by (with_reducible repeat (first | apply Kd.zbz | apply Kd.zb0 | apply Kd.zca)); exact Kd.zbl HO_7.out (fun _ hk => hk.1.1)⟩, ⟨zB HB⟩⟩
           ·
            rw [if_neg c18] at H
            have c18b0 : decide (x9_2 < x10_2) = false := decide_eq_false c18
            clear c18
            by_cases c33 : 0 ≤ x8_1
            ·
             rw [if_pos c33] at H
             have c33b0 : decide (0 ≤ x8_1) = true := decide_eq_true c33
             clear c33
             by_cases c34 : x8_1 < (x6_1.length : Int)
             ·
              rw [if_pos c34] at H
              have c34b0 : decide (x8_1 < (x6_1.length : Int)) = true := decide_eq_true c34
              clear c34
              obtain ⟨y344, hy344⟩ : ∃ y_ : List Int, y_ = (x6_1.set (x8_1 : Int).toNat x9_2) := ⟨_, rfl⟩
              replace H : ((zax.f k2 x9_2).bind fun t345 => ((zaj.f k2 l1 t345).bind fun t348 => ((za9.f k2 t341 t348).bind fun t351 => (zai.l0 k2 l0 l1 y344 t351 (wrap64 (x8_1 - 1)))))) = some (r1, r2) := by first | (rw [hy344]; with_reducible exact H) | (have H2_ := (Option.bind_some _ _).symm.trans H; rw [hy344]; with_reducible exact H2_) | (have H2_ := (Option.bind_some _ _).symm.trans H; with_reducible exact H2_) | with_reducible exact H | (rw [hy344]; exact H) | exact H
              have Ny344 := zA hy344
              clear hy344
              replace H := zO H
              obtain ⟨t345, A360, H⟩ := H
              try dsimp only at H
              have A36 := zA A360
              clear A360
              replace H := zO H
              obtain ⟨t348, A370, H⟩ := H
              try dsimp only at H
              have A37 := zA A370
              clear A370
              replace H := zO H
              obtain ⟨t351, A380, H⟩ := H
              try dsimp only at H
              have A38 := zA A380
              clear A380
              have H' := zA H
              clear H
              have p35 : 0 ≤ (x8_1 : Int) := of_decide_eq_true (by first | (with_reducible assumption) | assumption)
              have q35 : (x8_1 : Int) < ((x6_1.length : Int) : Int) := of_decide_eq_true (by first | (with_reducible assumption) | assumption)
              obtain ⟨go35, co35, eo35, gb35, gl35, cl35, HG35⟩ := Kd.R_form HO_6.out (by omega)
              (first | cases eo35 | (injection eo35 with ea_ en_ ec_; (first | subst ea_ | (injection ea_ with ea_; subst ea_)); subst ec_; clear en_))
              have GB35 := zA gb35
              have GG35 := zA HG35
              clear gb35 gl35 HG35
              obtain ⟨hx35_0, hf35_0⟩ := Kd.zc2 0 HO_6.out (x8_1 : Int) p35 q35
              replace p35 := eq_true p35
              replace q35 := eq_true q35
              have HP39 := Kd.R_putg HO_6.out (x8_1 : Int) x9_2
              go_wp2_with (first | ((with_reducible refine zc3 (t := 3) (p := 51) rfl ?_); refine zcr (t := 3) (p := 51) (v := ?vo_w40) (w1 := (wr.setCell ⟨go35, (x8_1 : Int).toNat, none⟩ (.int .i64 x9_2))) ?hg ?ho ?hn ?hr ?_; (case ho => rfl); (case hg => rfl); (case hn => rfl); (case hr => first | (go_simp; done) | (go_simp; rfl)); intro w40 hw; have hg : wr.grownBy w40 (some go35) := (by rw [hw]; exact HP39.2); have hp_ : Kd.R (Kd.int .i64) 3 w40 w.heap.size (fun k_ => some k_ ≠ (v342 : Value).ownBlock) (.slice (some ⟨go35, 0, none⟩) x6_1.length co35) y344 := (by rw [hw, Ny344.out]; exact HP39.1); clear HP39; have n0_ := zA (hp_); have n1_ := zA (Kd.R_after (v := (.slice (some ⟨go35, 0, none⟩) x6_1.length co35)) (v1 := (.slice (some ⟨go35, 0, none⟩) x6_1.length co35)) (ok := (fun _ => True)) (by (with_reducible repeat (first | apply Kd.zbz | apply Kd.zb0 | apply Kd.zca)); exact Kd.zbl HO_7.out (fun _ hk => ⟨trivial, hk⟩)) hg (.inl rfl)); have n2_ := zA ((by rw [hw]; exact zc5 (HB.out) GB35.out : Below w.heap.size w w40)); clear HO_6 HO_7 HB; have HO_6 := n0_; have HO_7 := n1_; have HB := n2_; clear n0_ n1_ n2_ hg hw hp_) | ((with_reducible refine zae (f := 20) rfl ?_); refine za5 (some 55) rfl rfl Tryd.func20 (by kernel_rfl) rfl #[.int .i64 x9_2] rfl (zE) ?_; (with_reducible refine (zax.calls k2 x9_2 t345 _ A36.out).mono ?_); rintro e w41 ⟨v346, rfl, ho0, hb⟩; refine ⟨_, rfl, ?_⟩; have n0_ := zA (Kd.zbj (zR HO_6) (Kd.zbi ho0) hb); have n1_ := zA (Kd.zbj (zR HO_7) (Kd.zbi ho0) hb); have n2_ := zA (Kd.zbr (Kd.zb5 (Kd.zb5 ho0 (Kd.R_lt (zR HO_6))) (Kd.R_lt (zR HO_7))) (za (zB HB))); have n3_ := zA (zaa (zB HB) hb); clear HO_6 HO_7 HB; have HO_6 := n0_; have HO_7 := n1_; have HO347 := n2_; have HB := n3_; clear n0_ n1_ n2_ n3_; (try clear hb); (try clear hb2); (try clear hk); (try clear hi); (try clear ho0); obtain ⟨Ao42, co42, eo42⟩ := Kd.zbn HO347.out; subst eo42) | ((with_reducible refine zae (f := 56) rfl ?_); refine za5 (some 56) rfl rfl Tryd.func56 (by kernel_rfl) rfl #[.slice A1 l1.length c1, .slice Ao42 t345.length co42] rfl (zE) ?_; (with_reducible refine (zaj.calls k2 _ _ l1 _ _ t345 t348 _ ?side1 ?side2 ?side3 ?side4 A37.out).mono ?_); (case side1 => exact zJ (Kd.za3 HR1.out HB.out)); (case side2 => exact HC1.out); (case side3 => exact zJ (Kd.za2 HO347.out).2.2); (case side4 => exact (Kd.za2 HO347.out).2.1); rintro e w43 ⟨v349, rfl, ho0, hb⟩; refine ⟨_, rfl, ?_⟩; have n0_ := zA (Kd.zbj (zR HO_6) (Kd.zbi ho0) hb); have n1_ := zA (Kd.zbj (zR HO_7) (Kd.zbi ho0) hb); have n2_ := zA (Kd.zbj (zR HO347) (Kd.zbi ho0) hb); have n3_ := zA (Kd.zbr (Kd.zb5 (Kd.zb5 (Kd.zb5 ho0 (Kd.R_lt (zR HO_6))) (Kd.R_lt (zR HO_7))) (Kd.R_lt (zR HO347))) (za (zB HB))); have n4_ := zA (zaa (zB HB) hb); clear HO_6 HO_7 HO347 HB; have HO_6 := n0_; have HO_7 := n1_; have HO347 := n2_; have HO350 := n3_; have HB := n4_; clear n0_ n1_ n2_ n3_ n4_; (try clear hb); (try clear hb2); (try clear hk); (try clear hi); (try clear ho0); obtain ⟨Ao44, co44, eo44⟩ := Kd.zbn HO_7.out; subst eo44; obtain ⟨Ao45, co45, eo45⟩ := Kd.zbn HO350.out; subst eo45) | ((with_reducible refine zae (f := 66) rfl ?_); refine za5 (some 57) rfl rfl Tryd.func66 (by kernel_rfl) rfl #[.slice Ao44 t341.length co44, .slice Ao45 t348.length co45] rfl (zE) ?_; (with_reducible refine (za9.calls k2 _ _ t341 _ _ t348 t351 _ ?side1 ?side2 ?side3 ?side4 A38.out).mono ?_); (case side1 => exact zJ (Kd.za2 HO_7.out).2.2); (case side2 => exact (Kd.za2 HO_7.out).2.1); (case side3 => exact zJ (Kd.za2 HO350.out).2.2); (case side4 => exact (Kd.za2 HO350.out).2.1); rintro e w46 ⟨v352, rfl, ho0, hb⟩; refine ⟨_, rfl, ?_⟩; have n0_ := zA (Kd.zbj (zR HO_6) (Kd.zbi ho0) hb); have n1_ := zA (Kd.zbj (zR HO_7) (Kd.zbi ho0) hb); have n2_ := zA (Kd.zbj (zR HO347) (Kd.zbi ho0) hb); have n3_ := zA (Kd.zbj (zR HO350) (Kd.zbi ho0) hb); have n4_ := zA (Kd.zbr (Kd.zb5 (Kd.zb5 (Kd.zb5 (Kd.zb5 ho0 (Kd.R_lt (zR HO_6))) (Kd.R_lt (zR HO_7))) (Kd.R_lt (zR HO347))) (Kd.R_lt (zR HO350))) (za (zB HB))); have n5_ := zA (zaa (zB HB) hb); clear HO_6 HO_7 HO347 HO350 HB; have HO_6 := n0_; have HO_7 := n1_; have HO347 := n2_; have HO350 := n3_; have HO353 := n4_; have HB := n5_; clear n0_ n1_ n2_ n3_ n4_ n5_; (try clear hb); (try clear hb2); (try clear hk); (try clear hi); (try clear ho0)))
              go_roundg k2
              case measure => have := HK1.out; have := HK2.out; omega
              case rel => exact ⟨(y344), (t351), (wrap64 (x8_1 - 1)), (zF), H', ⟨by have := HK1.out; have := HK2.out; omega⟩, ⟨by (with_reducible repeat (first | apply Kd.zbz | apply Kd.zb0 | apply Kd.zca)); exact Kd.zbl HO_6.out (fun _ hk => hk.2)⟩, ⟨by (with_reducible repeat (first | apply Kd.zbz | apply Kd.zb0 | apply Kd.zca)); exact Kd.zbl HO353.out (fun _ hk => hk.1.1.1.2)⟩, ⟨zB HB⟩⟩
             ·
              rw [if_neg c34] at H
              exact absurd H (by simp)
            ·
             rw [if_neg c33] at H
             exact absurd H (by simp)
        ·
         rw [if_neg c10] at H
         exact absurd H (by simp)
       ·
        rw [if_neg c9] at H
        exact absurd H (by simp)
      ·
       rw [if_neg c8] at H
       exact absurd H (by simp)
     ·
      rw [if_neg c7] at H
      have c7b0 : decide (0 ≤ x8_1) = false := decide_eq_false c7
      clear c7
      replace H := zO H
      obtain ⟨t331, A470, H⟩ := H
      try dsimp only at H
      have A47 := zA A470
      clear A470
      simp only [Option.some.injEq, Prod.mk.injEq] at H
      obtain ⟨rfl, rfl⟩ := H
      obtain ⟨Ao48, co48, eo48⟩ := Kd.zbn HO_6.out
      subst eo48
      go_wp2_with (first | ((with_reducible refine zae (f := 83) rfl ?_); refine za5 (some 59) rfl rfl Tryd.func83 (by kernel_rfl) rfl #[.slice Ao48 x6_1.length co48] rfl (zE) ?_; (with_reducible refine (zam.calls k1 (fun k_ => some k_ = (.slice Ao48 x6_1.length co48 : Value).ownBlock) (.slice Ao48 x6_1.length co48) x6_1 t331 w _ ?side1 ?side2 A47.out).mono ?_); (case side1 => repeat (first | (with_reducible first | exact HB.out | apply za1 | apply zbf | apply zbu) | exact HB.out)); (case side2 => exact Kd.zc4 rfl HO_6.out); rintro e w49 ⟨v332, rfl, ho0, hb, hkp⟩; refine ⟨_, rfl, ?_⟩; have n0_ := zA (Kd.zbl (ok' := fun k_ => some k_ ≠ (v332 : Value).ownBlock) (Kd.R_keptB (HO_7.out) hkp (fun k_ hk_ hs_ => (hk_) hs_)) (fun k_ hk_ => fun e_ => Or.elim (ho0.1 k_ e_.symm) (fun hs_ => hk_.2.1 hs_) (fun hn_ => Nat.not_le.2 hk_.2.2 hn_))); have n1_ := zA (Kd.zbl (ok' := fun k_ => some k_ ≠ (u7 : Value).ownBlock) ho0 (fun k_ hk_ => Or.elim hk_ (fun hs_ => fun e_ => (((HO_7.out).1 k_ e_.symm)) hs_) (fun hn_ => (Kd.fresh' (Kd.R_lt (zR HO_7)) k_ hn_)))); have n2_ := zA (hb); clear HO_7 HB HO_6; have HO_7 := n0_; have HO333 := n1_; have HB := n2_; clear n0_ n1_ n2_; (try clear hb); (try clear hkp); (try clear ho0)))
      go_ret2
      exact ⟨_, _, zW, zR HO333, zR HO_7, zB HB⟩
  ·
   rw [if_neg c4] at H
   exact absurd H (by simp)
 ·
  rw [if_neg c3] at H
  exact absurd H (by simp)
def zbc.l0 : Nat → List Int → List Int → Option (List Int)
 | 0, _, _ => none
 | k + 1, x0, x1 => if (x1.length : Int) > 0 then ((zai.f k x0 x1).bind fun bt361 => (zbc.l0 k x1 bt361.2)) else (some x0)
def zbc.f (k : Nat) (l0 : List Int) (l1 : List Int) : Option (List Int) := zbc.l0 k l0 l1
theorem zbc.calls (k : Nat) (P0_ : Nat → Prop) (A0 : Option Addr) (c0 : Nat) (l0 : List Int) (P1_ : Nat → Prop) (A1 : Option Addr) (c1 : Nat) (l1 : List Int) (r : List Int) (w : World) (hs0 : Kd.V (Kd.int .i64) 3 w w.heap.size (fun k_ => P0_ k_) (.slice A0 l0.length c0) l0) (hs1 : Kd.V (Kd.int .i64) 3 w w.heap.size (fun k_ => P1_ k_) (.slice A1 l1.length c1) l1) (h : zbc.f k l0 l1 = some r) :
  Calls Tryd.prog 19 #[.slice A0 l0.length c0, .slice A1 l1.length c1] w fun e w' => ∃ v0_ : Value, e = .returned (v0_) ∧ Kd.V (Kd.int .i64) 3 w' w.heap.size (fun k_ => ((P0_ k_ ∨ P1_ k_) ∨ w.heap.size ≤ k_)) v0_ r ∧ Below w.heap.size w w' := by
 have HO0 := zA (show Kd.V (Kd.int .i64) 3 w w.heap.size (fun k_ => ((P0_ k_ ∨ P1_ k_) ∨ w.heap.size ≤ k_)) (.slice A0 l0.length c0) l0 from Kd.zan hs0 (fun k_ hk => .inl (.inl hk)))
 have HO1 := zA (show Kd.V (Kd.int .i64) 3 w w.heap.size (fun k_ => ((P0_ k_ ∨ P1_ k_) ∨ w.heap.size ≤ k_)) (.slice A1 l1.length c1) l1 from Kd.zan hs1 (fun k_ hk => .inl (.inr hk)))
 have HB := zA (Below.refl w.heap.size w)
 have H : (zbc.l0 k l0 l1) = some r := h
 clear h
 have H' := zA H
 clear H
 go_enter Tryd.func19, Tryd.ntmps19
 go_wp2
 go_loopg [0, 1] k (fun kq v0 v1 w' => ∃ (x0_1 : List Int) (x1_1 : List Int), Aside0 (zbc.l0 kq x0_1 x1_1 = some r) ∧ Aside0 (kq ≤ k) ∧ Aside0 (Kd.V (Kd.int .i64) 3 w' w.heap.size (fun k_ => ((P0_ k_ ∨ P1_ k_) ∨ w.heap.size ≤ k_)) v0 x0_1) ∧ Aside0 (Kd.V (Kd.int .i64) 3 w' w.heap.size (fun k_ => ((P0_ k_ ∨ P1_ k_) ∨ w.heap.size ≤ k_)) v1 x1_1) ∧ Aside0 (Below w.heap.size w w'))
 case atStart => exact ⟨(l0), (l1), H', ⟨Nat.le_refl _⟩, ⟨zV HO0⟩, ⟨zV HO1⟩, ⟨zB HB⟩⟩
 case round =>
  clear H'
  try clear c1
  try clear p2
  obtain ⟨x0_1, x1_1, HA, HK1, HO_0, HO_1, HB⟩ := hrel
  cases gk with
  | zero => exact absurd HA.out (by simp [zbc.l0])
  | succ k1 =>
   have H := HA.out
   clear HA
   simp only [zbc.l0] at H
   by_cases c3 : (x1_1.length : Int) > 0
   ·
    rw [if_pos c3] at H
    have c3b0 : decide (0 < (x1_1.length : Int)) = true := decide_eq_true c3
    have c3b1 : decide (0 < x1_1.length) = true := decide_eq_true (by omega)
    clear c3
    replace H := zO H
    obtain ⟨⟨t361, t362⟩, A40, H⟩ := H
    try dsimp only at H
    have A4 := zA A40
    clear A40
    have H' := zA H
    clear H
    obtain ⟨Ao5, co5, eo5⟩ := Kd.za7 HO_1.out
    subst eo5
    obtain ⟨Ao6, co6, eo6⟩ := Kd.za7 HO_0.out
    subst eo6
    go_wp2_with (first | ((with_reducible refine zae (f := 57) rfl ?_); refine za5 (some 13) rfl rfl Tryd.func57 (by kernel_rfl) rfl #[.slice Ao6 x0_1.length co6, .slice Ao5 x1_1.length co5] rfl (zE) ?_; (with_reducible refine (zai.calls k1 _ _ x0_1 _ _ x1_1 t361 t362 _ ?side1 ?side2 ?side3 ?side4 A4.out).mono ?_); (case side1 => exact zJ (Kd.zaq HO_0.out).2.2); (case side2 => exact (Kd.zaq HO_0.out).2.1); (case side3 => exact zJ (Kd.zaq HO_1.out).2.2); (case side4 => exact (Kd.zaq HO_1.out).2.1); rintro e w7 ⟨v363, v365, rfl, ho0, ho1, hb⟩; refine ⟨_, rfl, ?_⟩; have n0_ := zA (Kd.zan (Kd.V_told (Kd.V_told (Kd.V_old (zV HO_0) hb) (Kd.zbi ho0)) (Kd.zbi ho1)) (fun _ h_ => h_.1)); have n1_ := zA (Kd.zan (Kd.V_told (Kd.V_told (Kd.V_old (zV HO_1) hb) (Kd.zbi ho0)) (Kd.zbi ho1)) (fun _ h_ => h_.1)); have n2_ := zA (Kd.zbr (Kd.zcv (M := fun k_ => (w.heap.size ≤ k_)) ho0 (za (zB HB)) (fun k_ h_ => h_)) (za (zB HB))); have n3_ := zA (Kd.zbr (Kd.zcv (M := fun k_ => (w.heap.size ≤ k_)) ho1 (za (zB HB)) (fun k_ h_ => h_)) (za (zB HB))); have n4_ := zA (zaa (zB HB) hb); clear HO_0 HO_1 HB; have HO_0 := n0_; have HO_1 := n1_; have HO364 := n2_; have HO366 := n3_; have HB := n4_; clear n0_ n1_ n2_ n3_ n4_; (try clear hb); (try clear hb2); (try clear hk); (try clear hi); (try clear ho0); (try clear ho1)))
    go_roundg k1
    case measure => have := HK1.out; omega
    case rel => exact ⟨(x1_1), (t362), H', ⟨by have := HK1.out; omega⟩, ⟨by (with_reducible repeat (first | apply Kd.zbv | apply Kd.zbw | apply Kd.zb3)); exact Kd.zan HO_1.out (fun _ hk => hk.1.1)⟩, ⟨Kd.zan (Kd.R_V (by (with_reducible repeat (first | apply Kd.zbz | apply Kd.zb0 | apply Kd.zca)); exact Kd.zbl HO366.out (fun _ hk => hk.1))) (fun k_ hk => by first | exact ⟨(.inr (hk.1)), hk.2⟩ | exact (.inr (hk)))⟩, ⟨zB HB⟩⟩
   ·
    rw [if_neg c3] at H
    have c3b0 : decide (0 < (x1_1.length : Int)) = false := decide_eq_false c3
    have c3b1 : decide (0 < x1_1.length) = false := decide_eq_false (by omega)
    clear c3
    obtain rfl := Option.some.inj H
    obtain ⟨Ao8, co8, eo8⟩ := Kd.za7 HO_1.out
    subst eo8
    go_wp2
    go_ret
    exact ⟨_, zW, zV HO_0, zB HB⟩
def zcd.f (k : Nat) (l0 : List Int) (l1 : List Int) : Option (List Int × List Int) := (zbc.f k l0 l1).bind fun t424 => ((zai.f k l0 t424).bind fun bt427 => ((zai.f k l1 t424).bind fun bt433 => (some (bt427.1, bt433.1))))
theorem zcd.calls (k : Nat) (A0 : Option Addr) (c0 : Nat) (l0 : List Int) (A1 : Option Addr) (c1 : Nat) (l1 : List Int) (r1 : List Int) (r2 : List Int) (w : World) (hr0 : Kd.C (Kd.int .i64) w A0 l0.length l0) (hc0 : l0.length ≤ c0) (hr1 : Kd.C (Kd.int .i64) w A1 l1.length l1) (hc1 : l1.length ≤ c1) (h : zcd.f k l0 l1 = some (r1, r2)) :
  Calls Tryd.prog 59 #[.slice A0 l0.length c0, .slice A1 l1.length c1] w fun e w' => ∃ v0_ v1_ : Value, e = .returned (.agg #[v0_, v1_]) ∧ Kd.R (Kd.int .i64) 3 w' w.heap.size (fun k_ => some k_ ≠ (v1_ : Value).ownBlock) v0_ r1 ∧ Kd.R (Kd.int .i64) 3 w' w.heap.size (fun k_ => some k_ ≠ (v0_ : Value).ownBlock) v1_ r2 ∧ Below w.heap.size w w' := by
 have hu40 := Tryd.underlying40
 have HR0 := zA hr0
 have HC0 := zA hc0
 clear hr0 hc0
 have HR1 := zA hr1
 have HC1 := zA hc1
 clear hr1 hc1
 have HB := zA (Below.refl w.heap.size w)
 have H : ((zbc.f k l0 l1).bind fun t424 => ((zai.f k l0 t424).bind fun bt427 => ((zai.f k l1 t424).bind fun bt433 => (some (bt427.1, bt433.1))))) = some (r1, r2) := h
 clear h
 replace H := zO H
 obtain ⟨t424, A30, H⟩ := H
 try dsimp only at H
 have A3 := zA A30
 clear A30
 replace H := zO H
 obtain ⟨⟨t427, t428⟩, A40, H⟩ := H
 try dsimp only at H
 have A4 := zA A40
 clear A40
 replace H := zO H
 obtain ⟨⟨t433, t434⟩, A50, H⟩ := H
 try dsimp only at H
 have A5 := zA A50
 clear A50
 simp only [Option.some.injEq, Prod.mk.injEq] at H
 obtain ⟨rfl, rfl⟩ := H
 go_enter Tryd.func59, Tryd.ntmps59
 go_wp2_with (first | ((with_reducible refine zbe (N := 4) rfl ?_); refine zbk ?hg (N := 4) ?hd (cs := #[.slice none 0 0, .slice none 0 0]) (t := 40) ?hr ?_; (case hd => rfl); (case hg => rfl); (case hr => first | (go_simp; done) | (go_simp; rfl)); intro gb423 hg w6 hbox hb; have n0_ := zA (zaa (zB HB) hb); have n1_ := zA (hbox); have n2_ := zA ((by rw [hg]; exact (za (zB HB)) : w.heap.size ≤ gb423)); have n3_ := zA ((by rw [hg]; exact (za (zB HB)) : w.heap.size ≤ gb423)); clear HB; have HB := n0_; have BK423 := n1_; have GW423 := n2_; have GE423 := n3_; clear n0_ n1_ n2_ n3_ hb hbox hg) | ((with_reducible refine zae (f := 19) rfl ?_); refine za5 (some 12) rfl rfl Tryd.func19 (by kernel_rfl) rfl #[.slice A0 l0.length c0, .slice A1 l1.length c1] rfl (zE) ?_; (with_reducible refine (zbc.calls k (fun k_ => k_ < w.heap.size) _ _ l0 (fun k_ => k_ < w.heap.size) _ _ l1 t424 _ ?side1 ?side2 A3.out).mono ?_); (case side1 => exact Kd.V_mk HC0.out (Kd.F_below (Kd.C_F (Kd.heap_int .i64) HR0.out) (zB HB))); (case side2 => exact Kd.V_mk HC1.out (Kd.F_below (Kd.C_F (Kd.heap_int .i64) HR1.out) (zB HB))); rintro e w7 ⟨v425, rfl, ho0, hb⟩; refine ⟨_, rfl, ?_⟩; have n0_ := zA (Kd.za6 (Kd.zan (ok' := fun k_ => k_ ≠ gb423) ho0 (fun k_ hk_ => Or.elim hk_ (fun hs_ => Or.elim hs_ (fun hs_ => fun e_ => Nat.not_le.2 hs_ (by rw [e_]; exact GW423.out)) (fun hs_ => fun e_ => Nat.not_le.2 hs_ (by rw [e_]; exact GW423.out))) (fun hn_ => (Kd.freshB (g := gb423) (o := .cells #[.slice none 0 0, .slice none 0 0] 40 (0, 0)) (zK BK423) k_ hn_)))) (za (zB HB))); have n1_ := zA (zac (g := gb423) (o := .cells #[.slice none 0 0, .slice none 0 0] 40 (0, 0)) (zK BK423) hb); have n2_ := zA (zaa (zB HB) hb); clear BK423 HB; have HO426 := n0_; have BK423 := n1_; have HB := n2_; clear n0_ n1_ n2_; (try clear hb); (try clear hb2); (try clear hk); (try clear hi); (try clear ho0); obtain ⟨Ao8, co8, eo8⟩ := Kd.za7 HO426.out; subst eo8) | ((with_reducible refine zae (f := 57) rfl ?_); refine za5 (some 16) rfl rfl Tryd.func57 (by kernel_rfl) rfl #[.slice A0 l0.length c0, .slice Ao8 t424.length co8] rfl (zE) ?_; (with_reducible refine (zai.calls k _ _ l0 _ _ t424 t427 t428 _ ?side1 ?side2 ?side3 ?side4 A4.out).mono ?_); (case side1 => exact zJ (Kd.za3 HR0.out HB.out)); (case side2 => exact HC0.out); (case side3 => exact zJ (Kd.zaq HO426.out).2.2); (case side4 => exact (Kd.zaq HO426.out).2.1); rintro e w9 ⟨v429, v431, rfl, ho0, ho1, hb⟩; refine ⟨_, rfl, ?_⟩; have n0_ := zA (Kd.zan (Kd.V_told (Kd.V_told (Kd.V_old (zV HO426) hb) (Kd.zbi ho0)) (Kd.zbi ho1)) (fun _ h_ => h_.1)); have n1_ := zA (Kd.zbr ho0 (za (zB HB))); have n2_ := zA (Kd.zbr ho1 (za (zB HB))); have n3_ := zA (zac (g := gb423) (o := .cells #[.slice none 0 0, .slice none 0 0] 40 (0, 0)) (zK BK423) hb); have n4_ := zA (zaa (zB HB) hb); clear HO426 BK423 HB; have HO426 := n0_; have HO430 := n1_; have HO432 := n2_; have BK423 := n3_; have HB := n4_; clear n0_ n1_ n2_ n3_ n4_; (try clear hb); (try clear hb2); (try clear hk); (try clear hi); (try clear ho0); (try clear ho1)) | ((with_reducible refine zae (f := 57) rfl ?_); refine za5 (some 22) rfl rfl Tryd.func57 (by kernel_rfl) rfl #[.slice A1 l1.length c1, .slice Ao8 t424.length co8] rfl (zE) ?_; (with_reducible refine (zai.calls k _ _ l1 _ _ t424 t433 t434 _ ?side1 ?side2 ?side3 ?side4 A5.out).mono ?_); (case side1 => exact zJ (Kd.za3 HR1.out HB.out)); (case side2 => exact HC1.out); (case side3 => exact zJ (Kd.zaq HO426.out).2.2); (case side4 => exact (Kd.zaq HO426.out).2.1); rintro e w10 ⟨v435, v437, rfl, ho0, ho1, hb⟩; refine ⟨_, rfl, ?_⟩; have n0_ := zA (Kd.zan (Kd.V_told (Kd.V_told (Kd.V_old (zV HO426) hb) (Kd.zbi ho0)) (Kd.zbi ho1)) (fun _ h_ => h_.1)); have n1_ := zA (Kd.zbl (Kd.R_told (Kd.R_told (Kd.R_old (zR HO430) hb) (Kd.zbi ho0)) (Kd.zbi ho1)) (fun _ h_ => h_.1)); have n2_ := zA (Kd.zbl (Kd.R_told (Kd.R_told (Kd.R_old (zR HO432) hb) (Kd.zbi ho0)) (Kd.zbi ho1)) (fun _ h_ => h_.1)); have n3_ := zA (Kd.zbr (Kd.zb5 (Kd.zb5 ho0 (Kd.R_lt (zR HO430))) (Kd.R_lt (zR HO432))) (za (zB HB))); have n4_ := zA (Kd.zbr (Kd.zb5 (Kd.zb5 ho1 (Kd.R_lt (zR HO430))) (Kd.R_lt (zR HO432))) (za (zB HB))); have n5_ := zA (zac (g := gb423) (o := .cells #[.slice none 0 0, .slice none 0 0] 40 (0, 0)) (zK BK423) hb); have n6_ := zA (zaa (zB HB) hb); clear HO426 HO430 HO432 BK423 HB; have HO426 := n0_; have HO430 := n1_; have HO432 := n2_; have HO436 := n3_; have HO438 := n4_; have BK423 := n5_; have HB := n6_; clear n0_ n1_ n2_ n3_ n4_ n5_ n6_; (try clear hb); (try clear hb2); (try clear hk); (try clear hi); (try clear ho0); (try clear ho1); obtain ⟨Ao11, co11, eo11⟩ := Kd.zbn HO436.out; subst eo11; obtain ⟨Ao12, co12, eo12⟩ := Kd.zbn HO430.out; subst eo12; have hcz13_0 : w10.cell? ⟨gb423, 0, none⟩ = some (.slice none 0 0) := (zab BK423.out 0).trans rfl; have hcz13_1 : w10.cell? ⟨gb423, 1, none⟩ = some (.slice none 0 0) := (zab BK423.out 1).trans rfl; have hfz13_0 := zal BK423.out 0; have hfz13_1 := zal BK423.out 1))
 refine bodyPost_ret (results_cell_row rfl _ _ gb423 40 #[.slice Ao12 t427.length co12, .slice Ao11 t433.length co11] (0, 0) _ rfl (by (with_reducible repeat (first | refine zau ?_ _ | refine zat ?_ | refine zar ?_ _)); refine zb1 (cs := #[.slice Ao12 t427.length co12, .slice none 0 0]) ?_ 1 _ rfl; (with_reducible repeat (first | refine zau ?_ _ | refine zat ?_ | refine zar ?_ _)); refine zb1 (cs := #[.slice none 0 0, .slice none 0 0]) ?_ 0 _ rfl; (with_reducible repeat (first | refine zau ?_ _ | refine zat ?_ | refine zar ?_ _)); exact BK423.out) Tryd.underlying40 rfl (by kernel_rfl)) rfl ?_
 exact ⟨_, _, zW, by (with_reducible repeat (first | apply Kd.zbz | apply Kd.zb0 | apply Kd.zca)); exact Kd.zbl (Kd.R_far (p := ⟨gb423, 1, none⟩) (Kd.R_far (p := ⟨gb423, 0, none⟩) (Kd.R_types HO430.out BK423.out (by decide)) (fun _ hk => hk.2) (.slice Ao12 t427.length co12)) (fun _ hk => hk.2) (.slice Ao11 t433.length co11)) (fun _ hk => hk.1.1.2), by (with_reducible repeat (first | apply Kd.zbz | apply Kd.zb0 | apply Kd.zca)); exact Kd.zbl (Kd.R_far (p := ⟨gb423, 1, none⟩) (Kd.R_far (p := ⟨gb423, 0, none⟩) (Kd.R_types HO436.out BK423.out (by decide)) (fun _ hk => hk.2) (.slice Ao12 t427.length co12)) (fun _ hk => hk.2) (.slice Ao11 t433.length co11)) (fun _ hk => hk.1.1.2), zB HB⟩
mutual
def zav.l0 : Nat → List Int → List Int → List Int → Int → Int → Option (List Int)
 | 0, _, _, _, _, _ => none
 | k + 1, x0, x1, x5, x6, x7 => if x7 < (x0.length : Int) then (zav.j1 k x0 x1 x5 x6 x7 true) else (if x7 < (x1.length : Int) then (zav.j1 k x0 x1 x5 x6 x7 true) else (zav.j1 k x0 x1 x5 x6 x7 (decide (x6 > 0))))
def zav.j1 : Nat → List Int → List Int → List Int → Int → Int → Bool → Option (List Int)
 | 0, _, _, _, _, _, _ => none
 | k + 1, x0, x1, x5, x6, x7, x22 => if x22 = true then ((zbp.f x0 x7).bind fun t276 => ((zbp.f x1 x7).bind fun t277 => (if x5.length < 17592186044416 then (zav.l0 k x0 x1 (x5 ++ [Int.tmod (wrap64 ((wrap64 (t276 + t277)) + x6)) 10000]) (wrap64 (Int.tdiv (wrap64 ((wrap64 (t276 + t277)) + x6)) 10000)) (wrap64 (x7 + 1))) else (none)))) else (some x5)
end
def zav.f (k : Nat) (l0 : List Int) (l1 : List Int) : Option (List Int) := zav.l0 k l0 l1 ([] : List Int) 0 0
theorem zav.calls (k : Nat) (A0 : Option Addr) (c0 : Nat) (l0 : List Int) (A1 : Option Addr) (c1 : Nat) (l1 : List Int) (r : List Int) (w : World) (hr0 : Kd.C (Kd.int .i64) w A0 l0.length l0) (hc0 : l0.length ≤ c0) (hr1 : Kd.C (Kd.int .i64) w A1 l1.length l1) (hc1 : l1.length ≤ c1) (h : zav.f k l0 l1 = some r) :
  Calls Tryd.prog 55 #[.slice A0 l0.length c0, .slice A1 l1.length c1] w fun e w' => ∃ v0_ : Value, e = .returned (v0_) ∧ Kd.R (Kd.int .i64) 3 w' w.heap.size (fun _ => True) v0_ r ∧ Below w.heap.size w w' := by
 have HR0 := zA hr0
 have HC0 := zA hc0
 clear hr0 hc0
 have HR1 := zA hr1
 have HC1 := zA hc1
 clear hr1 hc1
 have HB := zA (Below.refl w.heap.size w)
 have H : (zav.l0 k l0 l1 ([] : List Int) 0 0) = some r := h
 clear h
 have H' := zA H
 clear H
 go_enter Tryd.func55, Tryd.ntmps55
 go_wp2
 go_loopg [5, 6, 7] k (fun kq v5 v6 v7 w' => ∃ (x5_1 : List Int) (x6_1 : Int) (x7_1 : Int), v6 = .int .i64 x6_1 ∧ v7 = .int .i64 x7_1 ∧ Aside0 (zav.l0 kq l0 l1 x5_1 x6_1 x7_1 = some r) ∧ Aside0 (kq ≤ k) ∧ Aside0 (Kd.R (Kd.int .i64) 3 w' w.heap.size (fun _ => True) v5 x5_1) ∧ Aside0 (Below w.heap.size w w'))
 case atStart => exact ⟨(([] : List Int)), (0), (0), (zF), (zF), H', ⟨Nat.le_refl _⟩, ⟨by first | exact Kd.R_nil _ _ _ _ _ | exact Kd.N_nil _ _ _ _ _ | exact Kd.V_nil _ _ _ _ _ | exact Kd.Q_nil _ _ _ _ _ | exact Kd.S_nil _ _ _ _ _⟩, ⟨zB HB⟩⟩
 case round =>
  clear H'
  try clear c1
  try clear p2
  obtain ⟨x5_1, x6_1, x7_1, rfl, rfl, HA, HK1, HO_5, HB⟩ := hrel
  cases gk with
  | zero => exact absurd HA.out (by simp [zav.l0])
  | succ k1 =>
   have H := HA.out
   clear HA
   simp only [zav.l0] at H
   have HC3 := zA H
   clear H
   go_upto_region 4 with (fail)
   go_cut [22] (fun v22 wc => ∃ (kq : Nat) (x22_2 : Bool), v22 = .bool x22_2 ∧ Aside0 (zav.j1 kq l0 l1 x5_1 x6_1 x7_1 x22_2 = some r) ∧ Aside0 (kq ≤ k1) ∧ Aside0 (Kd.R (Kd.int .i64) 3 wc w.heap.size (fun _ => True) u5 x5_1) ∧ Aside0 (Below w.heap.size w wc))
   case first =>
    have H := HC3.out
    clear HC3
    by_cases c4 : x7_1 < (l0.length : Int)
    ·
     rw [if_pos c4] at H
     have c4b0 : decide (x7_1 < (l0.length : Int)) = true := decide_eq_true c4
     clear c4
     (first | rw [c4b0] | (simp only [i64_w, i32_w]; rw [c4b0]) | skip)
     have H' := zA H
     clear H
     go_wp2
     go_meet
     case rel => exact ⟨_, (true), (zF), H', ⟨by have := HK1.out; first | omega | exact Nat.le_refl _⟩, ⟨zR HO_5⟩, ⟨zB HB⟩⟩
    ·
     rw [if_neg c4] at H
     have c4b0 : decide (x7_1 < (l0.length : Int)) = false := decide_eq_false c4
     clear c4
     (first | rw [c4b0] | (simp only [i64_w, i32_w]; rw [c4b0]) | skip)
     by_cases c5 : x7_1 < (l1.length : Int)
     ·
      rw [if_pos c5] at H
      have c5b0 : decide (x7_1 < (l1.length : Int)) = true := decide_eq_true c5
      clear c5
      have H' := zA H
      clear H
      go_wp2
      go_meet
      case rel => exact ⟨_, (true), (zF), H', ⟨by have := HK1.out; first | omega | exact Nat.le_refl _⟩, ⟨zR HO_5⟩, ⟨zB HB⟩⟩
     ·
      rw [if_neg c5] at H
      have c5b0 : decide (x7_1 < (l1.length : Int)) = false := decide_eq_false c5
      clear c5
      have H' := zA H
      clear H
      go_wp2
      go_meet
      case rel => exact ⟨_, (decide (x6_1 > 0)), (zF), H', ⟨by have := HK1.out; first | omega | exact Nat.le_refl _⟩, ⟨zR HO_5⟩, ⟨zB HB⟩⟩
   case rest =>
    clear HC3
    try clear c1
    try clear p2
    try clear c4
    try clear c4b0
    try clear c5
    try clear c5b0
    try clear p2
    obtain ⟨kq, x22_2, rfl, HA, HJ2, HO_5, HB⟩ := hcut
    cases kq with
    | zero => exact absurd HA.out (by simp [zav.j1])
    | succ kj2 =>
     have H := HA.out
     clear HA
     simp only [zav.j1] at H
     by_cases c6 : x22_2 = true
     ·
      subst c6
      rw [if_pos rfl] at H
      replace H := zO H
      obtain ⟨t276, A70, H⟩ := H
      try dsimp only at H
      have A7 := zA A70
      clear A70
      replace H := zO H
      obtain ⟨t277, A80, H⟩ := H
      try dsimp only at H
      have A8 := zA A80
      clear A80
      by_cases c9 : x5_1.length < 17592186044416
      ·
       rw [if_pos c9] at H
       have LMc9 := zA c9
       clear c9
       obtain ⟨y278, hy278⟩ : ∃ y_ : List Int, y_ = (x5_1 ++ [Int.tmod (wrap64 ((wrap64 (t276 + t277)) + x6_1)) 10000]) := ⟨_, rfl⟩
       replace H : (zav.l0 kj2 l0 l1 y278 (wrap64 (Int.tdiv (wrap64 ((wrap64 (t276 + t277)) + x6_1)) 10000)) (wrap64 (x7_1 + 1))) = some r := by first | (rw [hy278]; with_reducible exact H) | (have H2_ := (Option.bind_some _ _).symm.trans H; rw [hy278]; with_reducible exact H2_) | (have H2_ := (Option.bind_some _ _).symm.trans H; with_reducible exact H2_) | with_reducible exact H | (rw [hy278]; exact H) | exact H
       have Ny278 := zA hy278
       clear hy278
       have H' := zA H
       clear H
       go_wp2_with (first | ((with_reducible refine zae (f := 82) rfl ?_); refine za5 (some 27) rfl rfl Tryd.func82 (by kernel_rfl) rfl #[.slice A0 l0.length c0, .int .i64 x7_1] rfl (zE) ?_; (with_reducible refine (zbp.calls _ _ l0 x7_1 t276 _ ?side1 ?side2 A7.out).mono ?_); (case side1 => exact zJ (Kd.za3 HR0.out HB.out)); (case side2 => exact HC0.out); rintro e w' ⟨rfl, ⟨nd, rfl⟩⟩; refine ⟨_, rfl, ?_⟩) | ((with_reducible refine zae (f := 82) rfl ?_); refine za5 (some 30) rfl rfl Tryd.func82 (by kernel_rfl) rfl #[.slice A1 l1.length c1, .int .i64 x7_1] rfl (zE) ?_; (with_reducible refine (zbp.calls _ _ l1 x7_1 t277 _ ?side1 ?side2 A8.out).mono ?_); (case side1 => exact zJ (Kd.za3 HR1.out (zB HB))); (case side2 => exact HC1.out); rintro e w' ⟨rfl, ⟨nd, rfl⟩⟩; refine ⟨_, rfl, ?_⟩) | ((with_reducible refine zb2 (b := .append) (xs := #[.tmp 34, .tmp 37]) rfl ?_); (try (refine gate_guard (by rfl) ?_; dsimp only)); at_builtin; refine Kd.zcz (Kd.int .i64) (w0 := w) w.heap.size rfl (.tmp 34) (.tmp 37) 31 3 (.int .i64 0) 8 rfl Tryd.underlying31 info3 rfl (by decide) (by omega) u5 x5_1 (Int.tmod (wrap64 ((wrap64 (t276 + t277)) + x6_1)) 10000) [.int .i64 (Int.tmod (wrap64 ((wrap64 (t276 + t277)) + x6_1)) 10000)] (fun _ => True) (fun _ => False) rfl rfl ?aP (fun _ hk => hk.elim) ?aF ?aO ?aB ?aS ?aL ?_; (case aP => exact rfl); (case aB => exact (zB HB)); (case aF => exact (fun _ _ => trivial)); (case aO => exact (zR HO_5)); (case aS => exact (za (zB HB))); (case aL => have := LMc9.out; omega); intro v279 w10 ho hb hg hat; rw [← Ny278.out] at ho; have n0_ := zA (hb); have n1_ := zA (ho); clear HB HO_5; have HB := n0_; have HO280 := n1_; clear n0_ n1_ ho hb hg hat))
       go_roundg kj2
       case measure => have := HK1.out; have := HJ2.out; omega
       case rel => exact ⟨(y278), (wrap64 (Int.tdiv (wrap64 ((wrap64 (t276 + t277)) + x6_1)) 10000)), (wrap64 (x7_1 + 1)), (zF), (zF), H', ⟨by have := HK1.out; have := HJ2.out; omega⟩, ⟨zR HO280⟩, ⟨zB HB⟩⟩
      ·
       rw [if_neg c9] at H
       exact absurd H (by simp)
     ·
      replace c6 := Bool.eq_false_iff.mpr c6
      subst c6
      rw [if_neg (show ¬ (false = true) by decide)] at H
      obtain rfl := Option.some.inj H
      go_wp2
      go_ret
      exact ⟨_, zW, zR HO_5, zB HB⟩
def zbo.f (k : Nat) (l0_0 : List Int) (l0_1 : List Int) : Option (List Int) := (zas.f k l0_0 l0_1).bind fun bt197 => (some bt197.1)
theorem zbo.mono : ∀ a0 a1 k, LeO (zbo.f k a0 a1) (zbo.f (k + 1) a0 a1) := by
 intro a0 a1 k
 unfold zbo.f
 repeat' first
   | (with_reducible exact zas.mono _ _ _)
   | (with_reducible exact LeO.refl _)
   | (with_reducible exact LeO.none _)
   | (with_reducible refine LeO.ite ?_ ?_)
   | (with_reducible refine LeO.bind ?_ (fun _ => ?_))
   | exact zas.mono _ _ _
   | exact LeO.none _
   | refine LeO.ite ?_ ?_
   | refine LeO.bind ?_ (fun _ => ?_)
theorem zbo.calls (k : Nat) (A0_0 : Option Addr) (c0_0 : Nat) (l0_0 : List Int) (A0_1 : Option Addr) (c0_1 : Nat) (l0_1 : List Int) (r : List Int) (w : World) (hr0_0 : Kd.C (Kd.int .u64) w A0_0 l0_0.length l0_0) (hc0_0 : l0_0.length ≤ c0_0) (hr0_1 : Kd.C (Kd.int .u64) w A0_1 l0_1.length l0_1) (hc0_1 : l0_1.length ≤ c0_1) (h : zbo.f k l0_0 l0_1 = some r) :
  Calls Tryd.prog 27 #[.agg #[.slice A0_0 l0_0.length c0_0, .slice A0_1 l0_1.length c0_1]] w fun e w' => ∃ v0_ : Value, e = .returned (v0_) ∧ Kd.V (Kd.int .u64) 57 w' w.heap.size (fun k_ => (w.heap.size ≤ k_)) v0_ r ∧ Below w.heap.size w w' := by
 have hu28 := Tryd.underlying28
 have HR0_0 := zA hr0_0
 have HC0_0 := zA hc0_0
 clear hr0_0 hc0_0
 have HR0_1 := zA hr0_1
 have HC0_1 := zA hc0_1
 clear hr0_1 hc0_1
 have HB := zA (Below.refl w.heap.size w)
 have H : ((zas.f k l0_0 l0_1).bind fun bt197 => (some bt197.1)) = some r := h
 clear h
 replace H := zO H
 obtain ⟨⟨t197, t200, t203⟩, A20, H⟩ := H
 try dsimp only at H
 have A2 := zA A20
 clear A20
 obtain rfl := Option.some.inj H
 go_enter Tryd.func27, Tryd.ntmps27
 go_wp2_with (first | ((with_reducible refine zbe (N := 1) rfl ?_); refine zbk ?hg (N := 1) ?hd (cs := #[.slice A0_0 l0_0.length c0_0, .slice A0_1 l0_1.length c0_1]) (t := 28) ?hr ?_; (case hd => rfl); (case hg => rfl); (case hr => first | (go_simp; done) | (go_simp; rfl)); intro gb196 hg w3 hbox hb; have n0_ := zA (zaa (zB HB) hb); have n1_ := zA (hbox); have n2_ := zA ((by rw [hg]; exact (za (zB HB)) : w.heap.size ≤ gb196)); have n3_ := zA ((by rw [hg]; exact (za (zB HB)) : w.heap.size ≤ gb196)); clear HB; have HB := n0_; have BK196 := n1_; have GW196 := n2_; have GE196 := n3_; clear n0_ n1_ n2_ n3_ hb hbox hg; have hcz4_0 : w3.cell? ⟨gb196, 0, none⟩ = some (.slice A0_0 l0_0.length c0_0) := (zab BK196.out 0).trans rfl; have hcz4_1 : w3.cell? ⟨gb196, 1, none⟩ = some (.slice A0_1 l0_1.length c0_1) := (zab BK196.out 1).trans rfl; have hfz4_0 := zal BK196.out 0; have hfz4_1 := zal BK196.out 1) | ((with_reducible refine zae (f := 60) rfl ?_); refine za5 (some 11) rfl rfl Tryd.func60 (by kernel_rfl) rfl #[.slice A0_0 l0_0.length c0_0, .slice A0_1 l0_1.length c0_1] rfl (zE) ?_; (with_reducible refine (zas.calls k _ _ l0_0 _ _ l0_1 t197 t200 t203 _ ?side1 ?side2 ?side3 ?side4 A2.out).mono ?_); (case side1 => exact zJ (Kd.za3 HR0_0.out HB.out)); (case side2 => exact HC0_0.out); (case side3 => exact zJ (Kd.za3 HR0_1.out HB.out)); (case side4 => exact HC0_1.out); rintro e w5 ⟨v198, v201, rfl, ho0, ho1, hb⟩; refine ⟨_, rfl, ?_⟩; have n0_ := zA (Kd.za6 (Kd.zan (ok' := fun k_ => (w.heap.size ≤ k_) ∧ k_ ≠ gb196) ho0 (fun k_ hk_ => ⟨(Nat.le_trans (za (zB HB)) hk_), (Kd.freshB (g := gb196) (o := .cells #[.slice A0_0 l0_0.length c0_0, .slice A0_1 l0_1.length c0_1] 28 (0, 0)) (zK BK196) k_ hk_)⟩)) (za (zB HB))); have n1_ := zA (Kd.za6 (Kd.zan (ok' := fun k_ => (w.heap.size ≤ k_) ∧ k_ ≠ gb196) ho1 (fun k_ hk_ => ⟨(Nat.le_trans (za (zB HB)) hk_), (Kd.freshB (g := gb196) (o := .cells #[.slice A0_0 l0_0.length c0_0, .slice A0_1 l0_1.length c0_1] 28 (0, 0)) (zK BK196) k_ hk_)⟩)) (za (zB HB))); have n2_ := zA (zac (g := gb196) (o := .cells #[.slice A0_0 l0_0.length c0_0, .slice A0_1 l0_1.length c0_1] 28 (0, 0)) (zK BK196) hb); have n3_ := zA (zaa (zB HB) hb); clear BK196 HB; have HO199 := n0_; have HO202 := n1_; have BK196 := n2_; have HB := n3_; clear n0_ n1_ n2_ n3_; (try clear hb); (try clear hb2); (try clear hk); (try clear hi); (try clear ho0); (try clear ho1)))
 go_ret
 exact ⟨_, zW, by (with_reducible repeat (first | apply Kd.zbv | apply Kd.zbw | apply Kd.zb3)); exact Kd.zan HO199.out (fun _ hk => hk.1), zB HB⟩
def zck.f (k : Nat) (a0 : Int) : Option (List Int) := (zaz.f k (([a0] : List Int))).bind fun t207 => (some t207)
theorem zck.mono : ∀ a0 k, LeO (zck.f k a0) (zck.f (k + 1) a0) := by
 intro a0 k
 unfold zck.f
 repeat' first
   | (with_reducible exact zaz.mono _ _)
   | (with_reducible exact LeO.refl _)
   | (with_reducible exact LeO.none _)
   | (with_reducible refine LeO.ite ?_ ?_)
   | (with_reducible refine LeO.bind ?_ (fun _ => ?_))
   | exact zaz.mono _ _
   | exact LeO.none _
   | refine LeO.ite ?_ ?_
   | refine LeO.bind ?_ (fun _ => ?_)
theorem zck.calls (k : Nat) (a0 : Int) (r : List Int) (w : World) (h : zck.f k a0 = some r) :
  Calls Tryd.prog 36 #[.int .u64 a0] w fun e w' => ∃ v0_ : Value, e = .returned (v0_) ∧ Kd.V (Kd.int .u64) 57 w' w.heap.size (fun k_ => (w.heap.size ≤ k_)) v0_ r ∧ Below w.heap.size w w' := by
 have HB := zA (Below.refl w.heap.size w)
 have H : ((zaz.f k (([a0] : List Int))).bind fun t207 => (some t207)) = some r := h
 clear h
 obtain ⟨y204, hy204⟩ : ∃ y_ : List Int, y_ = (([a0] : List Int)) := ⟨_, rfl⟩
 replace H : ((zaz.f k y204).bind fun t207 => (some t207)) = some r := by first | (rw [hy204]; with_reducible exact H) | (have H2_ := (Option.bind_some _ _).symm.trans H; rw [hy204]; with_reducible exact H2_) | (have H2_ := (Option.bind_some _ _).symm.trans H; with_reducible exact H2_) | with_reducible exact H | (rw [hy204]; exact H) | exact H
 have Ny204 := zA hy204
 clear hy204
 replace H := zO H
 obtain ⟨t207, A20, H⟩ := H
 try dsimp only at H
 have A2 := zA A20
 clear A20
 obtain rfl := Option.some.inj H
 go_enter Tryd.func36, Tryd.ntmps36
 go_wp2_with (first | ((with_reducible refine zbe (N := 4) rfl ?_); refine Kd.R_lit (Kd.int .u64) _ 57 ?hg (N := 4) ?hd (xs := ([a0] : List Int)) (inner := [.int .u64 a0]) (ok := fun _ => True) (okp := fun _ => True) ?hr ?hp (fun _ hk => hk) trivial (Below.refl _ _) (Nat.le_refl _) (by simp) ?_; (case hd => rfl); (case hg => rfl); (case hr => first | (go_simp; done) | (go_simp; rfl)); (case hp => exact (Reps.one (show Kd.M (Kd.int .u64) _ _ _ a0 [.int .u64 a0] from rfl) (Reps.none _ _))); intro v205 w3 ho4 hb hg_ hnew_; clear hg_ hnew_; (first | rw [← Ny204.out] at ho4 | (simp only [Int.reduceToNat] at ho4; rw [← Ny204.out] at ho4)); have n0_ := zA (Kd.zbr (Kd.zcv (M := fun k_ => (w.heap.size ≤ k_)) ho4 (za (zB HB)) (fun k_ h_ => h_)) (za (zB HB))); have n1_ := zA (zaa (zB HB) hb); clear HB; have HO206 := n0_; have HB := n1_; clear n0_ n1_ hb ho4; obtain ⟨Ao5, co5, eo5⟩ := Kd.zbn HO206.out; subst eo5) | ((with_reducible refine zae (f := 65) rfl ?_); refine za5 (some 5) rfl rfl Tryd.func65 (by kernel_rfl) rfl #[.slice Ao5 y204.length co5] rfl (zE) ?_; (with_reducible refine (zaz.calls k (fun k_ => some k_ = (.slice Ao5 y204.length co5 : Value).ownBlock) _ _ y204 t207 _ ?side1 A2.out).mono ?_); (case side1 => exact Kd.R_V (Kd.zc4 rfl (HO206.out))); rintro e w6 ⟨v208, rfl, ho0, hb⟩; refine ⟨_, rfl, ?_⟩; have n0_ := zA (Kd.zbs (zR HO206) hb); have n1_ := zA (Kd.za6 (Kd.zan (ok' := fun k_ => (w.heap.size ≤ k_)) ho0 (fun k_ hk_ => Or.elim hk_ (fun hs_ => ((HO206.out).1 k_ hs_.symm).1) (fun hn_ => (Nat.le_trans (za (zB HB)) hn_)))) (za (zB HB))); have n2_ := zA (zaa (zB HB) hb); clear HO206 HB; have HO206 := n0_; have HO209 := n1_; have HB := n2_; clear n0_ n1_ n2_; (try clear hb); (try clear hb2); (try clear hk); (try clear hi); (try clear ho0)))
 go_ret
 exact ⟨_, zW, zV HO209, zB HB⟩
def bits_LeadingZeros64.f (a0 : Int) : Option (Int) := (bits_Len64.f a0).bind fun t210 => (some (wrap64 (64 - t210)))
theorem bits_LeadingZeros64.calls (a0 : Int) (r : Int) (w : World) (h : bits_LeadingZeros64.f a0 = some r) :
  Calls Tryd.prog 108 #[.int .u64 a0] w fun e w' => e = .returned (.int .i64 r) ∧ Drawn0 w w' := by
 have H : ((bits_Len64.f a0).bind fun t210 => (some (wrap64 (64 - t210)))) = some r := h
 clear h
 replace H := zO H
 obtain ⟨t210, A20, H⟩ := H
 try dsimp only at H
 have A2 := zA A20
 clear A20
 obtain rfl := Option.some.inj H
 go_enter Tryd.func108, Tryd.ntmps108
 go_wp2_with (first | ((with_reducible refine zae (f := 104) rfl ?_); refine za5 (some 4) rfl rfl Tryd.func104 (by kernel_rfl) rfl #[.int .u64 a0] rfl (zE) ?_; (with_reducible refine (bits_Len64.calls a0 t210 _ A2.out).mono ?_); rintro e w' ⟨rfl, ⟨nd, rfl⟩⟩; refine ⟨_, rfl, ?_⟩))
 go_ret
 exact ⟨zF, by repeat (first | exact Drawn0.refl _ | apply Drawn0.step)⟩
def zcg.f (k : Nat)  : Option (List Int) := (zck.f k 1).bind fun t230 => (some t230)
theorem zcg.mono : ∀ k, LeO (zcg.f k ) (zcg.f (k + 1) ) := by
 intro  k
 unfold zcg.f
 repeat' first
   | (with_reducible exact zck.mono _ _)
   | (with_reducible exact LeO.refl _)
   | (with_reducible exact LeO.none _)
   | (with_reducible refine LeO.ite ?_ ?_)
   | (with_reducible refine LeO.bind ?_ (fun _ => ?_))
   | exact zck.mono _ _
   | exact LeO.none _
   | refine LeO.ite ?_ ?_
   | refine LeO.bind ?_ (fun _ => ?_)
theorem zcg.calls (k : Nat)  (r : List Int) (w : World) (h : zcg.f k  = some r) :
  Calls Tryd.prog 54 #[] w fun e w' => ∃ v0_ : Value, e = .returned (v0_) ∧ Kd.V (Kd.int .u64) 57 w' w.heap.size (fun k_ => (w.heap.size ≤ k_)) v0_ r ∧ Below w.heap.size w w' := by
 have HB := zA (Below.refl w.heap.size w)
 have H : ((zck.f k 1).bind fun t230 => (some t230)) = some r := h
 clear h
 replace H := zO H
 obtain ⟨t230, A10, H⟩ := H
 try dsimp only at H
 have A1 := zA A10
 clear A10
 obtain rfl := Option.some.inj H
 go_enter Tryd.func54, Tryd.ntmps54
 go_wp2_with (first | ((with_reducible refine zae (f := 36) rfl ?_); refine za5 (some 1) rfl rfl Tryd.func36 (by kernel_rfl) rfl #[.int .u64 1] rfl (zE) ?_; (with_reducible refine (zck.calls k 1 t230 _ A1.out).mono ?_); rintro e w2 ⟨v231, rfl, ho0, hb⟩; refine ⟨_, rfl, ?_⟩; have n0_ := zA (Kd.za6 (Kd.zan (ok' := fun k_ => (w.heap.size ≤ k_)) ho0 (fun k_ hk_ => (Nat.le_trans (za (zB HB)) hk_))) (za (zB HB))); have n1_ := zA (zaa (zB HB) hb); clear HB; have HO232 := n0_; have HB := n1_; clear n0_ n1_; (try clear hb); (try clear hb2); (try clear hk); (try clear hi); (try clear ho0)))
 go_ret
 exact ⟨_, zW, zV HO232, zB HB⟩
def zby.f (l0 : List Int) : Option (Bool) := if (l0.length : Int) = 0 then (some true) else (if 0 ≤ (wrap64 ((l0.length : Int) - 1)) then (if (wrap64 ((l0.length : Int) - 1)) < (l0.length : Int) then (some ((rd l0 (wrap64 ((l0.length : Int) - 1))) != 0)) else (none)) else (none))
theorem zby.calls (A0 : Option Addr) (c0 : Nat) (l0 : List Int) (r : Bool) (w : World) (hr0 : Kd.C (Kd.int .u64) w A0 l0.length l0) (hc0 : l0.length ≤ c0) (h : zby.f l0 = some r) :
  Calls Tryd.prog 15 #[.slice A0 l0.length c0] w fun e w' => e = .returned (.bool r) ∧ Drawn0 w w' := by
 have HR0 := zA hr0
 have HC0 := zA hc0
 clear hr0 hc0
 have H : (if (l0.length : Int) = 0 then (some true) else (if 0 ≤ (wrap64 ((l0.length : Int) - 1)) then (if (wrap64 ((l0.length : Int) - 1)) < (l0.length : Int) then (some ((rd l0 (wrap64 ((l0.length : Int) - 1))) != 0)) else (none)) else (none))) = some r := h
 clear h
 by_cases c2 : (l0.length : Int) = 0
 ·
  rw [if_pos c2] at H
  have c2b0 : ((l0.length : Int) == 0) = true := beq_iff_eq.mpr c2
  have c2b1 : ((l0.length : Int) != 0) = false := bne_eq_false_iff_eq.mpr c2
  clear c2
  obtain rfl := Option.some.inj H
  go_enter Tryd.func15, Tryd.ntmps15
  go_wp2
  go_ret
  exact ⟨zF, by repeat (first | exact Drawn0.refl _ | apply Drawn0.step)⟩
 ·
  rw [if_neg c2] at H
  have c2b0 : ((l0.length : Int) == 0) = false := beq_eq_false_iff_ne.mpr c2
  have c2b1 : ((l0.length : Int) != 0) = true := bne_iff_ne.mpr c2
  have c2b2 : ¬ (l0 = []) := fun h_ => c2 (by rw [h_]; rfl)
  obtain ⟨ji3, hji3⟩ : ∃ j_ : Int, (wrap64 ((l0.length : Int) - 1)) = j_ := ⟨_, rfl⟩
  replace H : (if 0 ≤ (ji3) then (if (ji3) < (l0.length : Int) then (some ((rd l0 (ji3)) != 0)) else (none)) else (none)) = some r := by first | (rw [hji3] at H; exact H) | (simp only [hji3] at H ⊢; exact H)
  have hji3w : (IntKind.i64.wrap ((l0.length : Int) - 1)) = ji3 := (i64_w _).trans hji3
  by_cases c4 : 0 ≤ (ji3)
  ·
   rw [if_pos c4] at H
   have c4b0 : decide (0 ≤ (ji3)) = true := decide_eq_true c4
   clear c4
   by_cases c5 : (ji3) < (l0.length : Int)
   ·
    rw [if_pos c5] at H
    have c5b0 : decide ((ji3) < (l0.length : Int)) = true := decide_eq_true c5
    clear c5
    obtain rfl := Option.some.inj H
    have p260 : 0 ≤ ((ji3) : Int) := of_decide_eq_true (by first | (with_reducible assumption) | assumption)
    have q260 : (ji3) < (l0.length : Int) := of_decide_eq_true (by first | (with_reducible assumption) | assumption)
    obtain ⟨ad260, e260, hx260_0⟩ := Kd.at_int HR0.out (ji3) p260 q260
    cases e260
    replace p260 := eq_true p260
    replace q260 := eq_true q260
    go_enter Tryd.func15, Tryd.ntmps15
    go_wp2
    go_ret
    exact ⟨by first | rfl | (simp; done) | (simp only [← hji3] <;> (first | rfl | simp)) | (simp [*]; done), by repeat (first | exact Drawn0.refl _ | apply Drawn0.step)⟩
   ·
    rw [if_neg c5] at H
    exact absurd H (by simp)
  ·
   rw [if_neg c4] at H
   exact absurd H (by simp)
mutual
def zaf.l0 : Nat → List Int → List Int → Int → Option (List Int)
 | 0, _, _, _ => none
 | k + 1, x0, x3, x4 => if x4 ≥ 0 then (zaf.l1 k x0 x3 x4 3) else (some x3)
def zaf.l1 : Nat → List Int → List Int → Int → Int → Option (List Int)
 | 0, _, _, _, _ => none
 | k + 1, x0, x3, x4, x5 => if x5 ≥ 0 then (if 0 ≤ x4 then (if x4 < (x0.length : Int) then (zaf.l2 k x0 x3 x4 x5 (rd x0 x4) x5 0) else (none)) else (none)) else (zaf.l0 k x0 x3 (wrap64 (x4 - 1)))
def zaf.l2 : Nat → List Int → List Int → Int → Int → Int → Int → Int → Option (List Int)
 | 0, _, _, _, _, _, _, _ => none
 | k + 1, x0, x3, x4, x5, x6, x22, x23 => if x23 < x22 then (zaf.l2 k x0 x3 x4 x5 (IntKind.u64.wrap (Int.tdiv x6 65536)) x22 (wrap64 (x23 + 1))) else ((zax.f k 65536).bind fun t301 => ((zaj.f k x3 t301).bind fun t304 => ((zax.f k (wrap64 (Int.tmod x6 65536))).bind fun t307 => ((zav.f k t304 t307).bind fun t310 => (zaf.l1 k x0 t310 x4 (wrap64 (x5 - 1)))))))
end
def zaf.f (k : Nat) (l0 : List Int) : Option (List Int) := zaf.l0 k l0 ([] : List Int) (wrap64 ((l0.length : Int) - 1))
theorem zaf.calls (k : Nat) (A0 : Option Addr) (c0 : Nat) (l0 : List Int) (r : List Int) (w : World) (hr0 : Kd.C (Kd.int .u64) w A0 l0.length l0) (hc0 : l0.length ≤ c0) (h : zaf.f k l0 = some r) :
  Calls Tryd.prog 17 #[.slice A0 l0.length c0] w fun e w' => ∃ v0_ : Value, e = .returned (v0_) ∧ Kd.R (Kd.int .i64) 3 w' w.heap.size (fun _ => True) v0_ r ∧ Below w.heap.size w w' := by
 have HR0 := zA hr0
 have HC0 := zA hc0
 clear hr0 hc0
 have HB := zA (Below.refl w.heap.size w)
 have H : (zaf.l0 k l0 ([] : List Int) (wrap64 ((l0.length : Int) - 1))) = some r := h
 clear h
 have H' := zA H
 clear H
 go_enter Tryd.func17, Tryd.ntmps17
 go_wp2
 go_loopg [3, 4] k (fun kq v3 v4 w' => ∃ (x3_1 : List Int) (x4_1 : Int), v4 = .int .i64 x4_1 ∧ Aside0 (zaf.l0 kq l0 x3_1 x4_1 = some r) ∧ Aside0 (kq ≤ k) ∧ Aside0 (Kd.R (Kd.int .i64) 3 w' w.heap.size (fun _ => True) v3 x3_1) ∧ Aside0 (Below w.heap.size w w'))
 case atStart => exact ⟨(([] : List Int)), (wrap64 ((l0.length : Int) - 1)), (zF), H', ⟨Nat.le_refl _⟩, ⟨by first | exact Kd.R_nil _ _ _ _ _ | exact Kd.N_nil _ _ _ _ _ | exact Kd.V_nil _ _ _ _ _ | exact Kd.Q_nil _ _ _ _ _ | exact Kd.S_nil _ _ _ _ _⟩, ⟨zB HB⟩⟩
 case round =>
  clear H'
  try clear c1
  obtain ⟨x3_1, x4_1, rfl, HA, HK1, HO_3, HB⟩ := hrel
  cases gk with
  | zero => exact absurd HA.out (by simp [zaf.l0])
  | succ k1 =>
   have H := HA.out
   clear HA
   simp only [zaf.l0] at H
   by_cases c2 : x4_1 ≥ 0
   ·
    rw [if_pos c2] at H
    have c2b0 : decide (0 ≤ x4_1) = true := decide_eq_true c2
    clear c2
    have H' := zA H
    clear H
    go_wp2
    go_loopg [3, 5] k1 (fun kq v3 v5 w' => ∃ (x3_2 : List Int) (x5_2 : Int), v5 = .int .i64 x5_2 ∧ Aside0 (zaf.l1 kq l0 x3_2 x4_1 x5_2 = some r) ∧ Aside0 (kq ≤ k1) ∧ Aside0 (Kd.R (Kd.int .i64) 3 w' w.heap.size (fun _ => True) v3 x3_2) ∧ Aside0 (Below w.heap.size w w'))
    case atStart => exact ⟨(x3_1), (3), (zF), H', ⟨Nat.le_refl _⟩, ⟨zR HO_3⟩, ⟨zB HB⟩⟩
    case round =>
     clear H'
     try clear c1
     try clear c2
     try clear c2b0
     try clear p2
     obtain ⟨x3_2, x5_2, rfl, HA, HK2, HO_3, HB⟩ := hrel
     cases gk with
     | zero => exact absurd HA.out (by simp [zaf.l1])
     | succ k2 =>
      have H := HA.out
      clear HA
      simp only [zaf.l1] at H
      by_cases c3 : x5_2 ≥ 0
      ·
       rw [if_pos c3] at H
       have c3b0 : decide (0 ≤ x5_2) = true := decide_eq_true c3
       clear c3
       by_cases c4 : 0 ≤ x4_1
       ·
        rw [if_pos c4] at H
        have c4b0 : decide (0 ≤ x4_1) = true := decide_eq_true c4
        clear c4
        by_cases c5 : x4_1 < (l0.length : Int)
        ·
         rw [if_pos c5] at H
         have c5b0 : decide (x4_1 < (l0.length : Int)) = true := decide_eq_true c5
         clear c5
         have H' := zA H
         clear H
         have p300 : 0 ≤ (x4_1 : Int) := of_decide_eq_true (by first | (with_reducible assumption) | assumption)
         have q300 : x4_1 < (l0.length : Int) := of_decide_eq_true (by first | (with_reducible assumption) | assumption)
         obtain ⟨ad300, e300, hx300_0⟩ := Kd.at_int HR0.out x4_1 p300 q300
         cases e300
         replace hx300_0 := (HB.out.cell (World.block_lt_of_cell? w _ hx300_0)).trans hx300_0
         replace p300 := eq_true p300
         replace q300 := eq_true q300
         go_wp2
         go_loopg [6, 23] k2 (fun kq v6 v23 w' => ∃ (x6_3 : Int) (x23_3 : Int), v6 = .int .u64 x6_3 ∧ v23 = .int .i64 x23_3 ∧ Aside0 (zaf.l2 kq l0 x3_2 x4_1 x5_2 x6_3 x5_2 x23_3 = some r) ∧ Aside0 (kq ≤ k2) ∧ Aside0 (Kd.R (Kd.int .i64) 3 w' w.heap.size (fun _ => True) u3 x3_2) ∧ Aside0 (Below w.heap.size w w'))
         case atStart => exact ⟨(rd l0 x4_1), (0), (zF), (zF), H', ⟨Nat.le_refl _⟩, ⟨zR HO_3⟩, ⟨zB HB⟩⟩
         case round =>
          clear H'
          try clear c1
          try clear c2
          try clear c2b0
          try clear p2
          try clear c3
          try clear c3b0
          try clear p3
          try clear q3
          try clear hx3
          try clear c4
          try clear c4b0
          try clear c5
          try clear c5b0
          try clear hx300_0
          try clear p2
          try clear p300
          try clear q300
          obtain ⟨x6_3, x23_3, rfl, rfl, HA, HK3, HO_3, HB⟩ := hrel
          cases gk with
          | zero => exact absurd HA.out (by simp [zaf.l2])
          | succ k3 =>
           have H := HA.out
           clear HA
           simp only [zaf.l2] at H
           by_cases c6 : x23_3 < x5_2
           ·
            rw [if_pos c6] at H
            have c6b0 : decide (x23_3 < x5_2) = true := decide_eq_true c6
            clear c6
            have H' := zA H
            clear H
            go_wp2
            go_roundg k3
            case measure => have := HK1.out; have := HK2.out; have := HK3.out; omega
            case rel => exact ⟨(IntKind.u64.wrap (Int.tdiv x6_3 65536)), (wrap64 (x23_3 + 1)), (zF), (zF), H', ⟨by have := HK1.out; have := HK2.out; have := HK3.out; omega⟩, ⟨zR HO_3⟩, ⟨zB HB⟩⟩
           ·
            rw [if_neg c6] at H
            have c6b0 : decide (x23_3 < x5_2) = false := decide_eq_false c6
            clear c6
            replace H := zO H
            obtain ⟨t301, A70, H⟩ := H
            try dsimp only at H
            have A7 := zA A70
            clear A70
            replace H := zO H
            obtain ⟨t304, A80, H⟩ := H
            try dsimp only at H
            have A8 := zA A80
            clear A80
            replace H := zO H
            obtain ⟨t307, A90, H⟩ := H
            try dsimp only at H
            have A9 := zA A90
            clear A90
            replace H := zO H
            obtain ⟨t310, A100, H⟩ := H
            try dsimp only at H
            have A10 := zA A100
            clear A100
            have H' := zA H
            clear H
            go_wp2_with (first | ((with_reducible refine zae (f := 20) rfl ?_); refine za5 (some 29) rfl rfl Tryd.func20 (by kernel_rfl) rfl #[.int .i64 65536] rfl (zE) ?_; (with_reducible refine (zax.calls k3 65536 t301 _ A7.out).mono ?_); rintro e w11 ⟨v302, rfl, ho0, hb⟩; refine ⟨_, rfl, ?_⟩; have n0_ := zA (Kd.zbj (zR HO_3) (Kd.zbi ho0) hb); have n1_ := zA (Kd.zbr (Kd.zb5 ho0 (Kd.R_lt (zR HO_3))) (za (zB HB))); have n2_ := zA (zaa (zB HB) hb); clear HO_3 HB; have HO_3 := n0_; have HO303 := n1_; have HB := n2_; clear n0_ n1_ n2_; (try clear hb); (try clear hb2); (try clear hk); (try clear hi); (try clear ho0); obtain ⟨Ao12, co12, eo12⟩ := Kd.zbn HO_3.out; subst eo12; obtain ⟨Ao13, co13, eo13⟩ := Kd.zbn HO303.out; subst eo13) | ((with_reducible refine zae (f := 56) rfl ?_); refine za5 (some 30) rfl rfl Tryd.func56 (by kernel_rfl) rfl #[.slice Ao12 x3_2.length co12, .slice Ao13 t301.length co13] rfl (zE) ?_; (with_reducible refine (zaj.calls k3 _ _ x3_2 _ _ t301 t304 _ ?side1 ?side2 ?side3 ?side4 A8.out).mono ?_); (case side1 => exact zJ (Kd.za2 HO_3.out).2.2); (case side2 => exact (Kd.za2 HO_3.out).2.1); (case side3 => exact zJ (Kd.za2 HO303.out).2.2); (case side4 => exact (Kd.za2 HO303.out).2.1); rintro e w14 ⟨v305, rfl, ho0, hb⟩; refine ⟨_, rfl, ?_⟩; have n0_ := zA (Kd.zbj (zR HO_3) (Kd.zbi ho0) hb); have n1_ := zA (Kd.zbj (zR HO303) (Kd.zbi ho0) hb); have n2_ := zA (Kd.zbr (Kd.zb5 (Kd.zb5 ho0 (Kd.R_lt (zR HO_3))) (Kd.R_lt (zR HO303))) (za (zB HB))); have n3_ := zA (zaa (zB HB) hb); clear HO_3 HO303 HB; have HO_3 := n0_; have HO303 := n1_; have HO306 := n2_; have HB := n3_; clear n0_ n1_ n2_ n3_; (try clear hb); (try clear hb2); (try clear hk); (try clear hi); (try clear ho0)) | ((with_reducible refine zae (f := 20) rfl ?_); refine za5 (some 34) rfl rfl Tryd.func20 (by kernel_rfl) rfl #[.int .i64 (wrap64 (Int.tmod x6_3 65536))] rfl (zE) ?_; (with_reducible refine (zax.calls k3 (wrap64 (Int.tmod x6_3 65536)) t307 _ A9.out).mono ?_); rintro e w15 ⟨v308, rfl, ho0, hb⟩; refine ⟨_, rfl, ?_⟩; have n0_ := zA (Kd.zbj (zR HO_3) (Kd.zbi ho0) hb); have n1_ := zA (Kd.zbj (zR HO303) (Kd.zbi ho0) hb); have n2_ := zA (Kd.zbj (zR HO306) (Kd.zbi ho0) hb); have n3_ := zA (Kd.zbr (Kd.zb5 (Kd.zb5 (Kd.zb5 ho0 (Kd.R_lt (zR HO_3))) (Kd.R_lt (zR HO303))) (Kd.R_lt (zR HO306))) (za (zB HB))); have n4_ := zA (zaa (zB HB) hb); clear HO_3 HO303 HO306 HB; have HO_3 := n0_; have HO303 := n1_; have HO306 := n2_; have HO309 := n3_; have HB := n4_; clear n0_ n1_ n2_ n3_ n4_; (try clear hb); (try clear hb2); (try clear hk); (try clear hi); (try clear ho0); obtain ⟨Ao16, co16, eo16⟩ := Kd.zbn HO306.out; subst eo16; obtain ⟨Ao17, co17, eo17⟩ := Kd.zbn HO309.out; subst eo17) | ((with_reducible refine zae (f := 55) rfl ?_); refine za5 (some 35) rfl rfl Tryd.func55 (by kernel_rfl) rfl #[.slice Ao16 t304.length co16, .slice Ao17 t307.length co17] rfl (zE) ?_; (with_reducible refine (zav.calls k3 _ _ t304 _ _ t307 t310 _ ?side1 ?side2 ?side3 ?side4 A10.out).mono ?_); (case side1 => exact zJ (Kd.za2 HO306.out).2.2); (case side2 => exact (Kd.za2 HO306.out).2.1); (case side3 => exact zJ (Kd.za2 HO309.out).2.2); (case side4 => exact (Kd.za2 HO309.out).2.1); rintro e w18 ⟨v311, rfl, ho0, hb⟩; refine ⟨_, rfl, ?_⟩; have n0_ := zA (Kd.zbj (zR HO_3) (Kd.zbi ho0) hb); have n1_ := zA (Kd.zbj (zR HO303) (Kd.zbi ho0) hb); have n2_ := zA (Kd.zbj (zR HO306) (Kd.zbi ho0) hb); have n3_ := zA (Kd.zbj (zR HO309) (Kd.zbi ho0) hb); have n4_ := zA (Kd.zbr (Kd.zb5 (Kd.zb5 (Kd.zb5 (Kd.zb5 ho0 (Kd.R_lt (zR HO_3))) (Kd.R_lt (zR HO303))) (Kd.R_lt (zR HO306))) (Kd.R_lt (zR HO309))) (za (zB HB))); have n5_ := zA (zaa (zB HB) hb); clear HO_3 HO303 HO306 HO309 HB; have HO_3 := n0_; have HO303 := n1_; have HO306 := n2_; have HO309 := n3_; have HO312 := n4_; have HB := n5_; clear n0_ n1_ n2_ n3_ n4_ n5_; (try clear hb); (try clear hb2); (try clear hk); (try clear hi); (try clear ho0)))
            go_roundg k3
            case measure => have := HK1.out; have := HK2.out; have := HK3.out; omega
            case rel => exact ⟨(t310), (wrap64 (x5_2 - 1)), (zF), H', ⟨by have := HK1.out; have := HK2.out; have := HK3.out; omega⟩, ⟨by (with_reducible repeat (first | apply Kd.zbz | apply Kd.zb0 | apply Kd.zca)); exact Kd.zbl HO312.out (fun _ hk => trivial)⟩, ⟨zB HB⟩⟩
        ·
         rw [if_neg c5] at H
         exact absurd H (by simp)
       ·
        rw [if_neg c4] at H
        exact absurd H (by simp)
      ·
       rw [if_neg c3] at H
       have c3b0 : decide (0 ≤ x5_2) = false := decide_eq_false c3
       clear c3
       have H' := zA H
       clear H
       go_wp2
       go_roundg k2
       case measure => have := HK1.out; have := HK2.out; omega
       case rel => exact ⟨(x3_2), (wrap64 (x4_1 - 1)), (zF), H', ⟨by have := HK1.out; have := HK2.out; omega⟩, ⟨zR HO_3⟩, ⟨zB HB⟩⟩
   ·
    rw [if_neg c2] at H
    have c2b0 : decide (0 ≤ x4_1) = false := decide_eq_false c2
    clear c2
    obtain rfl := Option.some.inj H
    go_wp2
    go_ret
    exact ⟨_, zW, zR HO_3, zB HB⟩
def ratio_Int.f (k : Nat) (a0 : Int) : Option (List Int × List Int) := (zck.f k (IntKind.u64.wrap (mx a0 0))).bind fun t410 => ((zcg.f k).bind fun t413 => (some (t410, t413)))
theorem ratio_Int.calls (k : Nat) (a0 : Int) (r1 : List Int) (r2 : List Int) (w : World) (h : ratio_Int.f k a0 = some (r1, r2)) :
  Calls Tryd.prog 22 #[.int .i64 a0] w fun e w' => ∃ v0_ v1_ : Value, e = .returned (.agg #[v0_, v1_]) ∧ Kd.V (Kd.int .u64) 57 w' w.heap.size (fun k_ => (w.heap.size ≤ k_)) v0_ r1 ∧ Kd.V (Kd.int .u64) 57 w' w.heap.size (fun k_ => (w.heap.size ≤ k_)) v1_ r2 ∧ Below w.heap.size w w' := by
 have hu28 := Tryd.underlying28
 have HB := zA (Below.refl w.heap.size w)
 have H : ((zck.f k (IntKind.u64.wrap (mx a0 0))).bind fun t410 => ((zcg.f k).bind fun t413 => (some (t410, t413)))) = some (r1, r2) := h
 clear h
 obtain ⟨ji2, hji2⟩ : ∃ j_ : Int, (mx a0 0) = j_ := ⟨_, rfl⟩
 replace H : ((zck.f k (IntKind.u64.wrap (ji2))).bind fun t410 => ((zcg.f k).bind fun t413 => (some (t410, t413)))) = some (r1, r2) := by first | (rw [hji2] at H; exact H) | (simp only [hji2] at H ⊢; exact H)
 (try (have hji2l : 0 ≤ ji2 := by (rw [← hji2]; unfold mx; (repeat' split) <;> omega)))
 (try (have hji2m : 0 ≤ ji2 := by omega))
 have hji2_ : (if a0 < 0 then 0 else a0) = ji2 := hji2
 (try (have hji2n_ := hji2_; simp only [Int.ofNat_lt] at hji2n_))
 replace H := zO H
 obtain ⟨t410, A30, H⟩ := H
 try dsimp only at H
 have A3 := zA A30
 clear A30
 replace H := zO H
 obtain ⟨t413, A40, H⟩ := H
 try dsimp only at H
 have A4 := zA A40
 clear A40
 simp only [Option.some.injEq, Prod.mk.injEq] at H
 obtain ⟨rfl, rfl⟩ := H
 go_enter Tryd.func22, Tryd.ntmps22
 go_wp2_with (first | ((with_reducible refine zbe (N := 2) rfl ?_); refine zbk ?hg (N := 2) ?hd (cs := #[.slice none 0 0, .slice none 0 0]) (t := 28) ?hr ?_; (case hd => rfl); (case hg => rfl); (case hr => first | (go_simp; done) | (go_simp; rfl)); intro gb409 hg w5 hbox hb; have n0_ := zA (zaa (zB HB) hb); have n1_ := zA (hbox); have n2_ := zA ((by rw [hg]; exact (za (zB HB)) : w.heap.size ≤ gb409)); have n3_ := zA ((by rw [hg]; exact (za (zB HB)) : w.heap.size ≤ gb409)); clear HB; have HB := n0_; have BK409 := n1_; have GW409 := n2_; have GE409 := n3_; clear n0_ n1_ n2_ n3_ hb hbox hg) | ((with_reducible refine zae (f := 36) rfl ?_); refine za5 (some 6) rfl rfl Tryd.func36 (by kernel_rfl) rfl #[.int .u64 (IntKind.u64.wrap (ji2))] rfl (by (try simp only [List.map_toArray, List.map_cons, List.map_nil]); first | done | (simp only [hji2]; rfl) | rfl | (simp only [List.length_drop, List.length_take]; rfl) | ((simp [Act.eval, wrap64]) <;> omega) | ((simp [Act.eval, wrap64, IntKind.wrap, IntKind.bits, IntKind.signed]) <;> omega)) ?_; (with_reducible refine (zck.calls k (IntKind.u64.wrap (ji2)) t410 _ A3.out).mono ?_); rintro e w6 ⟨v411, rfl, ho0, hb⟩; refine ⟨_, rfl, ?_⟩; have n0_ := zA (Kd.za6 (Kd.zan (ok' := fun k_ => (w.heap.size ≤ k_) ∧ k_ ≠ gb409) ho0 (fun k_ hk_ => ⟨(Nat.le_trans (za (zB HB)) hk_), (Kd.freshB (g := gb409) (o := .cells #[.slice none 0 0, .slice none 0 0] 28 (0, 0)) (zK BK409) k_ hk_)⟩)) (za (zB HB))); have n1_ := zA (zac (g := gb409) (o := .cells #[.slice none 0 0, .slice none 0 0] 28 (0, 0)) (zK BK409) hb); have n2_ := zA (zaa (zB HB) hb); clear BK409 HB; have HO412 := n0_; have BK409 := n1_; have HB := n2_; clear n0_ n1_ n2_; (try clear hb); (try clear hb2); (try clear hk); (try clear hi); (try clear ho0)) | ((with_reducible refine zae (f := 54) rfl ?_); refine za5 (some 7) rfl rfl Tryd.func54 (by kernel_rfl) rfl #[] rfl (zE) ?_; (with_reducible refine (zcg.calls k  t413 _ A4.out).mono ?_); rintro e w7 ⟨v414, rfl, ho0, hb⟩; refine ⟨_, rfl, ?_⟩; have n0_ := zA (Kd.zaw (zV HO412) hb); have n1_ := zA (Kd.za6 (Kd.zan (ok' := fun k_ => (w.heap.size ≤ k_) ∧ k_ ≠ gb409) ho0 (fun k_ hk_ => ⟨(Nat.le_trans (za (zB HB)) hk_), (Kd.freshB (g := gb409) (o := .cells #[.slice none 0 0, .slice none 0 0] 28 (0, 0)) (zK BK409) k_ hk_)⟩)) (za (zB HB))); have n2_ := zA (zac (g := gb409) (o := .cells #[.slice none 0 0, .slice none 0 0] 28 (0, 0)) (zK BK409) hb); have n3_ := zA (zaa (zB HB) hb); clear HO412 BK409 HB; have HO412 := n0_; have HO415 := n1_; have BK409 := n2_; have HB := n3_; clear n0_ n1_ n2_ n3_; (try clear hb); (try clear hb2); (try clear hk); (try clear hi); (try clear ho0); obtain ⟨Ao8, co8, eo8⟩ := Kd.za7 HO415.out; subst eo8; obtain ⟨Ao9, co9, eo9⟩ := Kd.za7 HO412.out; subst eo9; have hcz10_0 : w7.cell? ⟨gb409, 0, none⟩ = some (.slice none 0 0) := (zab BK409.out 0).trans rfl; have hcz10_1 : w7.cell? ⟨gb409, 1, none⟩ = some (.slice none 0 0) := (zab BK409.out 1).trans rfl; have hfz10_0 := zal BK409.out 0; have hfz10_1 := zal BK409.out 1))
 refine bodyPost_ret (results_cell_row rfl _ _ gb409 28 #[.slice Ao9 t410.length co9, .slice Ao8 t413.length co8] (0, 0) _ rfl (by (with_reducible repeat (first | refine zau ?_ _ | refine zat ?_ | refine zar ?_ _)); refine zb1 (cs := #[.slice Ao9 t410.length co9, .slice none 0 0]) ?_ 1 _ rfl; (with_reducible repeat (first | refine zau ?_ _ | refine zat ?_ | refine zar ?_ _)); refine zb1 (cs := #[.slice none 0 0, .slice none 0 0]) ?_ 0 _ rfl; (with_reducible repeat (first | refine zau ?_ _ | refine zat ?_ | refine zar ?_ _)); exact BK409.out) Tryd.underlying28 rfl (by kernel_rfl)) rfl ?_
 exact ⟨_, _, by first | rfl | (simp [zb7, zb6] <;> rfl) | (simp only [← hji2]; first | rfl | (simp [zb7, zb6] <;> rfl)) | (simp [*, zb7, zb6] <;> rfl), by (with_reducible repeat (first | apply Kd.zbv | apply Kd.zbw | apply Kd.zb3)); exact Kd.zan (Kd.V_far (p := ⟨gb409, 1, none⟩) (Kd.V_far (p := ⟨gb409, 0, none⟩) (Kd.zan HO412.out (fun k_ hk => (⟨hk, hk.2⟩ : _ ∧ k_ ≠ gb409))) (fun _ hk => hk.2) (.slice Ao9 t410.length co9)) (fun _ hk => hk.2) (.slice Ao8 t413.length co8)) (fun _ hk => hk.1.1), by (with_reducible repeat (first | apply Kd.zbv | apply Kd.zbw | apply Kd.zb3)); exact Kd.zan (Kd.V_far (p := ⟨gb409, 1, none⟩) (Kd.V_far (p := ⟨gb409, 0, none⟩) (Kd.zan HO415.out (fun k_ hk => (⟨hk, hk.2⟩ : _ ∧ k_ ≠ gb409))) (fun _ hk => hk.2) (.slice Ao9 t410.length co9)) (fun _ hk => hk.2) (.slice Ao8 t413.length co8)) (fun _ hk => hk.1.1), zB HB⟩
end Go.Proofs.YtfjkamhcabckeaaDoor.P
end
