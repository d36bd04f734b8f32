-- Written by a program of this session (wip/tools/shake.py) out of its own texts and of the kit's printed ones; not trusted: Lean checks it.
import Derived.Test.YtfjkamhcabckeaaDoorZRatioSums4
set_option maxHeartbeats 8000000
set_option maxRecDepth 100000
set_option linter.unusedVariables false
set_option linter.unusedSimpArgs false
section
namespace Go.Proofs.YtfjkamhcabckeaaDoor.P
open Go.RowKit Go.Proofs.YtfjkamhcabckeaaDoorW.PrintWords Go.Proofs.YtfjkamhcabckeaaDoorW.PrintLast Go.Proofs.YtfjkamhcabckeaaDoorW.PrintMore
attribute [local go_sem] zdo zdl max_two min_two zc9 zdb zdm zdk
def zbg.l0 : Nat → List Int → List Int → List Int → Int → Int → Int → Option (List Int)
 | 0, _, _, _, _, _, _ => none
 | k + 1, x0, x1, x5, x6, x10, x11 => if x11 < x10 then (if 0 ≤ x11 then (if x11 < (x0.length : Int) then ((zb5.f x1 x11).bind fun t318 => (if (wrap64 ((wrap64 ((rd x0 x11) - t318)) - x6)) < 0 then (if x5.length < 17592186044416 then (zbg.l0 k x0 x1 (x5 ++ [wrap64 ((wrap64 ((wrap64 ((rd x0 x11) - t318)) - x6)) + 10000)]) 1 x10 (wrap64 (x11 + 1))) else (none)) else (if x5.length < 17592186044416 then (zbg.l0 k x0 x1 (x5 ++ [wrap64 ((wrap64 ((rd x0 x11) - t318)) - x6)]) 0 x10 (wrap64 (x11 + 1))) else (none)))) else (none)) else (none)) else ((zay.f k x5).bind fun t325 => (some t325))
def zbg.f (k : Nat) (l0 : List Int) (l1 : List Int) : Option (List Int) := zbg.l0 k l0 l1 ([] : List Int) 0 (l0.length : Int) 0
theorem zbg.calls (k : Nat) (A0 : Option Addr) (c0 : Nat) (l0 : List Int) (A1 : Option Addr) (c1 : Nat) (l1 : List Int) (r : List Int) (w : World) (hr0 : Kd.C (Kd.int .i64) w A0 l0.length l0) (hc0 : l0.length ≤ c0) (hr1 : Kd.C (Kd.int .i64) w A1 l1.length l1) (hc1 : l1.length ≤ c1) (h : zbg.f k l0 l1 = some r) :
  Calls Tryd.prog 66 #[.slice A0 l0.length c0, .slice A1 l1.length c1] w fun e w' => ∃ v0_ : Value, e = .returned (v0_) ∧ Kd.R (Kd.int .i64) 3 w' w.heap.size (fun _ => True) v0_ r ∧ Below w.heap.size w w' := by
 have HR0 := zA hr0
 have HC0 := zA hc0
 clear hr0 hc0
 have HR1 := zA hr1
 have HC1 := zA hc1
 clear hr1 hc1
 have HB := zA (Below.refl w.heap.size w)
 have H : (zbg.l0 k l0 l1 ([] : List Int) 0 (l0.length : Int) 0) = some r := h
 clear h
 have H' := zA H
 clear H
 go_enter Tryd.func66, Tryd.ntmps66
 go_wp2
 repeat (go_quiet (fail); try go_wp2)
 go_loopg [5, 6, 11] k (fun kq v5 v6 v11 w' => ∃ (x5_1 : List Int) (x6_1 : Int) (x11_1 : Int), v6 = .int .i64 x6_1 ∧ v11 = .int .i64 x11_1 ∧ Aside0 (zbg.l0 kq l0 l1 x5_1 x6_1 (l0.length : Int) x11_1 = some r) ∧ Aside0 (kq ≤ k) ∧ Aside0 (Kd.R (Kd.int .i64) 3 w' w.heap.size (fun _ => True) v5 x5_1) ∧ Aside0 (Below w.heap.size w w'))
 case atStart => exact ⟨(([] : List Int)), (0), (0), (zF), (zF), H', ⟨Nat.le_refl _⟩, ⟨by first | exact Kd.R_nil _ _ _ _ _ | exact Kd.N_nil _ _ _ _ _ | exact Kd.V_nil _ _ _ _ _ | exact Kd.Q_nil _ _ _ _ _ | exact Kd.S_nil _ _ _ _ _⟩, ⟨zB HB⟩⟩
 case round =>
  clear H'
  try clear c1
  try clear p2
  obtain ⟨x5_1, x6_1, x11_1, rfl, rfl, HA, HK1, HO_5, HB⟩ := hrel
  cases gk with
  | zero => exact absurd HA.out (by simp [zbg.l0])
  | succ k1 =>
   have H := HA.out
   clear HA
   simp only [zbg.l0] at H
   by_cases c3 : x11_1 < (l0.length : Int)
   ·
    rw [if_pos c3] at H
    have c3b0 : decide (x11_1 < (l0.length : Int)) = true := decide_eq_true c3
    clear c3
    by_cases c4 : 0 ≤ x11_1
    ·
     rw [if_pos c4] at H
     have c4b0 : decide (0 ≤ x11_1) = true := decide_eq_true c4
     clear c4
     by_cases c5 : x11_1 < (l0.length : Int)
     ·
      rw [if_pos c5] at H
      have c5b0 : decide (x11_1 < (l0.length : Int)) = true := decide_eq_true c5
      clear c5
      replace H := zO H
      obtain ⟨t318, A60, H⟩ := H
      try dsimp only at H
      have A6 := zA A60
      clear A60
      by_cases c7 : (wrap64 ((wrap64 ((rd l0 x11_1) - t318)) - x6_1)) < 0
      ·
       rw [if_pos c7] at H
       have c7b0 : decide ((wrap64 ((wrap64 ((rd l0 x11_1) - t318)) - x6_1)) < 0) = true := decide_eq_true c7
       clear c7
       by_cases c8 : x5_1.length < 17592186044416
       ·
        rw [if_pos c8] at H
        have LMc8 := zA c8
        clear c8
        obtain ⟨y319, hy319⟩ : ∃ y_ : List Int, y_ = (x5_1 ++ [wrap64 ((wrap64 ((wrap64 ((rd l0 x11_1) - t318)) - x6_1)) + 10000)]) := ⟨_, rfl⟩
        replace H : (zbg.l0 k1 l0 l1 y319 1 (l0.length : Int) (wrap64 (x11_1 + 1))) = some r := by first | (rw [hy319]; with_reducible exact H) | (have H2_ := (Option.bind_some _ _).symm.trans H; rw [hy319]; with_reducible exact H2_) | (have H2_ := (Option.bind_some _ _).symm.trans H; with_reducible exact H2_) | with_reducible exact H | (rw [hy319]; exact H) | exact H
        have Ny319 := zA hy319
        clear hy319
        have H' := zA H
        clear H
        have p317 : 0 ≤ (x11_1 : Int) := of_decide_eq_true (by first | (with_reducible assumption) | assumption)
        have q317 : x11_1 < (l0.length : Int) := of_decide_eq_true (by first | (with_reducible assumption) | assumption)
        obtain ⟨ad317, e317, hx317_0⟩ := Kd.at_int HR0.out x11_1 p317 q317
        cases e317
        replace hx317_0 := (HB.out.cell (World.block_lt_of_cell? w _ hx317_0)).trans hx317_0
        replace p317 := eq_true p317
        replace q317 := eq_true q317
        go_wp2_with (first | (go_at_call 82; (with_reducible refine (zb5.calls _ _ l1 x11_1 t318 _ ?side1 ?side2 A6.out).mono ?_); (case side1 => exact zJ (Kd.za6 HR1.out HB.out)); (case side2 => exact HC1.out); rintro e w' ⟨rfl, ⟨nd, rfl⟩⟩; (try first | exact ⟨rfl, _, World.drewN_drewN _ _ _⟩ | exact ⟨rfl, _, Eq.trans (World.drewN_drewN _ _ _) (congrArg (World.drewN _) (Nat.add_assoc _ _ _))⟩)) | ((with_reducible refine zce (b := .append) (xs := #[.tmp 28, .tmp 30]) rfl ?_); at_builtin; refine Kd.zc8 (Kd.int .i64) (w0 := w) w.heap.size rfl (.tmp 28) (.tmp 30) 31 3 (.int .i64 0) 8 rfl Tryd.underlying31 info3 rfl (by decide) (by omega) u5 x5_1 (wrap64 ((wrap64 ((wrap64 ((rd l0 x11_1) - t318)) - x6_1)) + 10000)) [.int .i64 (wrap64 ((wrap64 ((wrap64 ((rd l0 x11_1) - t318)) - x6_1)) + 10000))] (fun _ => True) (fun _ => False) rfl rfl ?aP (fun _ hk => hk.elim) ?aF ?aO ?aB ?aS ?aL ?_; (case aP => exact rfl); (case aB => exact (zB HB)); (case aF => exact (fun _ _ => trivial)); (case aO => exact (zR HO_5)); (case aS => exact (za (zB HB))); (case aL => have := LMc8.out; omega); intro v320 w9 ho hb hg hat; rw [← Ny319.out] at ho; have n0_ := zA (hb); have n1_ := zA (ho); clear HB HO_5; have HB := n0_; have HO321 := n1_; clear n0_ n1_ ho hb hg hat))
        repeat (go_quiet (first | (go_at_call 82; (with_reducible refine (zb5.calls _ _ l1 x11_1 t318 _ ?side1 ?side2 A6.out).mono ?_); (case side1 => exact zJ (Kd.za6 HR1.out HB.out)); (case side2 => exact HC1.out); rintro e w' ⟨rfl, ⟨nd, rfl⟩⟩; (try first | exact ⟨rfl, _, World.drewN_drewN _ _ _⟩ | exact ⟨rfl, _, Eq.trans (World.drewN_drewN _ _ _) (congrArg (World.drewN _) (Nat.add_assoc _ _ _))⟩)) | ((with_reducible refine zce (b := .append) (xs := #[.tmp 28, .tmp 30]) rfl ?_); at_builtin; refine Kd.zc8 (Kd.int .i64) (w0 := w) w.heap.size rfl (.tmp 28) (.tmp 30) 31 3 (.int .i64 0) 8 rfl Tryd.underlying31 info3 rfl (by decide) (by omega) u5 x5_1 (wrap64 ((wrap64 ((wrap64 ((rd l0 x11_1) - t318)) - x6_1)) + 10000)) [.int .i64 (wrap64 ((wrap64 ((wrap64 ((rd l0 x11_1) - t318)) - x6_1)) + 10000))] (fun _ => True) (fun _ => False) rfl rfl ?aP (fun _ hk => hk.elim) ?aF ?aO ?aB ?aS ?aL ?_; (case aP => exact rfl); (case aB => exact (zB HB)); (case aF => exact (fun _ _ => trivial)); (case aO => exact (zR HO_5)); (case aS => exact (za (zB HB))); (case aL => have := LMc8.out; omega); intro v320 w9 ho hb hg hat; rw [← Ny319.out] at ho; have n0_ := zA (hb); have n1_ := zA (ho); clear HB HO_5; have HB := n0_; have HO321 := n1_; clear n0_ n1_ ho hb hg hat)); try go_wp2_with (first | (go_at_call 82; (with_reducible refine (zb5.calls _ _ l1 x11_1 t318 _ ?side1 ?side2 A6.out).mono ?_); (case side1 => exact zJ (Kd.za6 HR1.out HB.out)); (case side2 => exact HC1.out); rintro e w' ⟨rfl, ⟨nd, rfl⟩⟩; (try first | exact ⟨rfl, _, World.drewN_drewN _ _ _⟩ | exact ⟨rfl, _, Eq.trans (World.drewN_drewN _ _ _) (congrArg (World.drewN _) (Nat.add_assoc _ _ _))⟩)) | ((with_reducible refine zce (b := .append) (xs := #[.tmp 28, .tmp 30]) rfl ?_); at_builtin; refine Kd.zc8 (Kd.int .i64) (w0 := w) w.heap.size rfl (.tmp 28) (.tmp 30) 31 3 (.int .i64 0) 8 rfl Tryd.underlying31 info3 rfl (by decide) (by omega) u5 x5_1 (wrap64 ((wrap64 ((wrap64 ((rd l0 x11_1) - t318)) - x6_1)) + 10000)) [.int .i64 (wrap64 ((wrap64 ((wrap64 ((rd l0 x11_1) - t318)) - x6_1)) + 10000))] (fun _ => True) (fun _ => False) rfl rfl ?aP (fun _ hk => hk.elim) ?aF ?aO ?aB ?aS ?aL ?_; (case aP => exact rfl); (case aB => exact (zB HB)); (case aF => exact (fun _ _ => trivial)); (case aO => exact (zR HO_5)); (case aS => exact (za (zB HB))); (case aL => have := LMc8.out; omega); intro v320 w9 ho hb hg hat; rw [← Ny319.out] at ho; have n0_ := zA (hb); have n1_ := zA (ho); clear HB HO_5; have HB := n0_; have HO321 := n1_; clear n0_ n1_ ho hb hg hat)))
        go_roundg k1
        case measure => have := HK1.out; omega
        case rel => exact ⟨(y319), (1), (wrap64 (x11_1 + 1)), (zF), (zF), H', ⟨by have := HK1.out; omega⟩, ⟨zR HO321⟩, ⟨zB HB⟩⟩
       ·
        rw [if_neg c8] at H
        exact absurd H (by simp)
      ·
       rw [if_neg c7] at H
       have c7b0 : decide ((wrap64 ((wrap64 ((rd l0 x11_1) - t318)) - x6_1)) < 0) = false := decide_eq_false c7
       clear c7
       by_cases c10 : x5_1.length < 17592186044416
       ·
        rw [if_pos c10] at H
        have LMc10 := zA c10
        clear c10
        obtain ⟨y322, hy322⟩ : ∃ y_ : List Int, y_ = (x5_1 ++ [wrap64 ((wrap64 ((rd l0 x11_1) - t318)) - x6_1)]) := ⟨_, rfl⟩
        replace H : (zbg.l0 k1 l0 l1 y322 0 (l0.length : Int) (wrap64 (x11_1 + 1))) = some r := by first | (rw [hy322]; with_reducible exact H) | (have H2_ := (Option.bind_some _ _).symm.trans H; rw [hy322]; with_reducible exact H2_) | (have H2_ := (Option.bind_some _ _).symm.trans H; with_reducible exact H2_) | with_reducible exact H | (rw [hy322]; exact H) | exact H
        have Ny322 := zA hy322
        clear hy322
        have H' := zA H
        clear H
        have p317 : 0 ≤ (x11_1 : Int) := of_decide_eq_true (by first | (with_reducible assumption) | assumption)
        have q317 : x11_1 < (l0.length : Int) := of_decide_eq_true (by first | (with_reducible assumption) | assumption)
        obtain ⟨ad317, e317, hx317_0⟩ := Kd.at_int HR0.out x11_1 p317 q317
        cases e317
        replace hx317_0 := (HB.out.cell (World.block_lt_of_cell? w _ hx317_0)).trans hx317_0
        replace p317 := eq_true p317
        replace q317 := eq_true q317
        go_wp2_with (first | (go_at_call 82; (with_reducible refine (zb5.calls _ _ l1 x11_1 t318 _ ?side1 ?side2 A6.out).mono ?_); (case side1 => exact zJ (Kd.za6 HR1.out HB.out)); (case side2 => exact HC1.out); rintro e w' ⟨rfl, ⟨nd, rfl⟩⟩; (try first | exact ⟨rfl, _, World.drewN_drewN _ _ _⟩ | exact ⟨rfl, _, Eq.trans (World.drewN_drewN _ _ _) (congrArg (World.drewN _) (Nat.add_assoc _ _ _))⟩)) | ((with_reducible refine zce (b := .append) (xs := #[.tmp 28, .tmp 30]) rfl ?_); at_builtin; refine Kd.zc8 (Kd.int .i64) (w0 := w) w.heap.size rfl (.tmp 28) (.tmp 30) 31 3 (.int .i64 0) 8 rfl Tryd.underlying31 info3 rfl (by decide) (by omega) u5 x5_1 (wrap64 ((wrap64 ((rd l0 x11_1) - t318)) - x6_1)) [.int .i64 (wrap64 ((wrap64 ((rd l0 x11_1) - t318)) - x6_1))] (fun _ => True) (fun _ => False) rfl rfl ?aP (fun _ hk => hk.elim) ?aF ?aO ?aB ?aS ?aL ?_; (case aP => exact rfl); (case aB => exact (zB HB)); (case aF => exact (fun _ _ => trivial)); (case aO => exact (zR HO_5)); (case aS => exact (za (zB HB))); (case aL => have := LMc10.out; omega); intro v323 w11 ho hb hg hat; rw [← Ny322.out] at ho; have n0_ := zA (hb); have n1_ := zA (ho); clear HB HO_5; have HB := n0_; have HO324 := n1_; clear n0_ n1_ ho hb hg hat))
        repeat (go_quiet (first | (go_at_call 82; (with_reducible refine (zb5.calls _ _ l1 x11_1 t318 _ ?side1 ?side2 A6.out).mono ?_); (case side1 => exact zJ (Kd.za6 HR1.out HB.out)); (case side2 => exact HC1.out); rintro e w' ⟨rfl, ⟨nd, rfl⟩⟩; (try first | exact ⟨rfl, _, World.drewN_drewN _ _ _⟩ | exact ⟨rfl, _, Eq.trans (World.drewN_drewN _ _ _) (congrArg (World.drewN _) (Nat.add_assoc _ _ _))⟩)) | ((with_reducible refine zce (b := .append) (xs := #[.tmp 28, .tmp 30]) rfl ?_); at_builtin; refine Kd.zc8 (Kd.int .i64) (w0 := w) w.heap.size rfl (.tmp 28) (.tmp 30) 31 3 (.int .i64 0) 8 rfl Tryd.underlying31 info3 rfl (by decide) (by omega) u5 x5_1 (wrap64 ((wrap64 ((rd l0 x11_1) - t318)) - x6_1)) [.int .i64 (wrap64 ((wrap64 ((rd l0 x11_1) - t318)) - x6_1))] (fun _ => True) (fun _ => False) rfl rfl ?aP (fun _ hk => hk.elim) ?aF ?aO ?aB ?aS ?aL ?_; (case aP => exact rfl); (case aB => exact (zB HB)); (case aF => exact (fun _ _ => trivial)); (case aO => exact (zR HO_5)); (case aS => exact (za (zB HB))); (case aL => have := LMc10.out; omega); intro v323 w11 ho hb hg hat; rw [← Ny322.out] at ho; have n0_ := zA (hb); have n1_ := zA (ho); clear HB HO_5; have HB := n0_; have HO324 := n1_; clear n0_ n1_ ho hb hg hat)); try go_wp2_with (first | (go_at_call 82; (with_reducible refine (zb5.calls _ _ l1 x11_1 t318 _ ?side1 ?side2 A6.out).mono ?_); (case side1 => exact zJ (Kd.za6 HR1.out HB.out)); (case side2 => exact HC1.out); rintro e w' ⟨rfl, ⟨nd, rfl⟩⟩; (try first | exact ⟨rfl, _, World.drewN_drewN _ _ _⟩ | exact ⟨rfl, _, Eq.trans (World.drewN_drewN _ _ _) (congrArg (World.drewN _) (Nat.add_assoc _ _ _))⟩)) | ((with_reducible refine zce (b := .append) (xs := #[.tmp 28, .tmp 30]) rfl ?_); at_builtin; refine Kd.zc8 (Kd.int .i64) (w0 := w) w.heap.size rfl (.tmp 28) (.tmp 30) 31 3 (.int .i64 0) 8 rfl Tryd.underlying31 info3 rfl (by decide) (by omega) u5 x5_1 (wrap64 ((wrap64 ((rd l0 x11_1) - t318)) - x6_1)) [.int .i64 (wrap64 ((wrap64 ((rd l0 x11_1) - t318)) - x6_1))] (fun _ => True) (fun _ => False) rfl rfl ?aP (fun _ hk => hk.elim) ?aF ?aO ?aB ?aS ?aL ?_; (case aP => exact rfl); (case aB => exact (zB HB)); (case aF => exact (fun _ _ => trivial)); (case aO => exact (zR HO_5)); (case aS => exact (za (zB HB))); (case aL => have := LMc10.out; omega); intro v323 w11 ho hb hg hat; rw [← Ny322.out] at ho; have n0_ := zA (hb); have n1_ := zA (ho); clear HB HO_5; have HB := n0_; have HO324 := n1_; clear n0_ n1_ ho hb hg hat)))
        go_roundg k1
        case measure => have := HK1.out; omega
        case rel => exact ⟨(y322), (0), (wrap64 (x11_1 + 1)), (zF), (zF), H', ⟨by have := HK1.out; omega⟩, ⟨zR HO324⟩, ⟨zB HB⟩⟩
       ·
        rw [if_neg c10] at H
        exact absurd H (by simp)
     ·
      rw [if_neg c5] at H
      exact absurd H (by simp)
    ·
     rw [if_neg c4] at H
     exact absurd H (by simp)
   ·
    rw [if_neg c3] at H
    have c3b0 : decide (x11_1 < (l0.length : Int)) = false := decide_eq_false c3
    clear c3
    replace H := zO H
    obtain ⟨t325, A120, H⟩ := H
    try dsimp only at H
    have A12 := zA A120
    clear A120
    obtain rfl := Option.some.inj H
    obtain ⟨Ao13, co13, eo13⟩ := Kd.zbn HO_5.out
    subst eo13
    go_wp2_with (first | (go_at_call 83; (with_reducible refine (zay.calls k1 (fun k_ => some k_ = (.slice Ao13 x5_1.length co13 : Value).ownBlock) (.slice Ao13 x5_1.length co13) x5_1 t325 w _ ?side1 ?side2 A12.out).mono ?_); (case side1 => repeat (first | (with_reducible first | exact HB.out | apply zcc | apply zbz | apply zb0) | exact HB.out)); (case side2 => exact Kd.zdf rfl HO_5.out); rintro e w14 ⟨v326, rfl, ho0, hb, hkp⟩; have n0_ := zA (Kd.zav (ok' := fun k_ => True) ho0 (fun k_ hk_ => trivial)); have n1_ := zA (hb); clear HB HO_5; have HO327 := n0_; have HB := n1_; clear n0_ n1_; (try clear hb); (try clear hkp); (try clear ho0)))
    repeat (go_quiet (first | (go_at_call 83; (with_reducible refine (zay.calls k1 (fun k_ => some k_ = (.slice Ao13 x5_1.length co13 : Value).ownBlock) (.slice Ao13 x5_1.length co13) x5_1 t325 w _ ?side1 ?side2 A12.out).mono ?_); (case side1 => repeat (first | (with_reducible first | exact HB.out | apply zcc | apply zbz | apply zb0) | exact HB.out)); (case side2 => exact Kd.zdf rfl HO_5.out); rintro e w14 ⟨v326, rfl, ho0, hb, hkp⟩; have n0_ := zA (Kd.zav (ok' := fun k_ => True) ho0 (fun k_ hk_ => trivial)); have n1_ := zA (hb); clear HB HO_5; have HO327 := n0_; have HB := n1_; clear n0_ n1_; (try clear hb); (try clear hkp); (try clear ho0))); try go_wp2_with (first | (go_at_call 83; (with_reducible refine (zay.calls k1 (fun k_ => some k_ = (.slice Ao13 x5_1.length co13 : Value).ownBlock) (.slice Ao13 x5_1.length co13) x5_1 t325 w _ ?side1 ?side2 A12.out).mono ?_); (case side1 => repeat (first | (with_reducible first | exact HB.out | apply zcc | apply zbz | apply zb0) | exact HB.out)); (case side2 => exact Kd.zdf rfl HO_5.out); rintro e w14 ⟨v326, rfl, ho0, hb, hkp⟩; have n0_ := zA (Kd.zav (ok' := fun k_ => True) ho0 (fun k_ hk_ => trivial)); have n1_ := zA (hb); clear HB HO_5; have HO327 := n0_; have HB := n1_; clear n0_ n1_; (try clear hb); (try clear hkp); (try clear ho0))))
    go_ret
    exact ⟨_, zW, zR HO327, zB HB⟩
mutual
def zau.l0 : Nat → List Int → List Int → List Int → List Int → Int → Option (List Int × List Int)
 | 0, _, _, _, _, _ => none
 | k + 1, x0, x1, x6, x7, x8 => if x8 ≥ 0 then (if 0 ≤ x8 then (if x8 < (x0.length : Int) then ((some (([rd x0 x8] : List Int) : List Int)).bind fun y335 => (if y335.length + x7.length < 17592186044416 then ((zay.f k (y335 ++ x7)).bind fun t341 => (zau.l1 k x0 x1 x6 t341 x8 0 9999)) else (none))) else (none)) else (none)) else ((zay.f k x6).bind fun t331 => (some (t331, x7)))
def zau.l1 : Nat → List Int → List Int → List Int → List Int → Int → Int → Int → Option (List Int × List Int)
 | 0, _, _, _, _, _, _, _ => none
 | k + 1, x0, x1, x6, x7, x8, x9, x10 => if x9 < x10 then ((zb.f k (wrap64 (Int.tdiv (wrap64 ((wrap64 (x9 + x10)) + 1)) 2))).bind fun t354 => ((zam.f k x1 t354).bind fun t357 => ((za7.f k t357 x7).bind fun t360 => (if t360 ≤ 0 then (zau.l1 k x0 x1 x6 x7 x8 (wrap64 (Int.tdiv (wrap64 ((wrap64 (x9 + x10)) + 1)) 2)) x10) else (zau.l1 k x0 x1 x6 x7 x8 x9 (wrap64 ((wrap64 (Int.tdiv (wrap64 ((wrap64 (x9 + x10)) + 1)) 2)) - 1))))))) else (if 0 ≤ x8 then (if x8 < (x6.length : Int) then ((zb.f k x9).bind fun t345 => ((zam.f k x1 t345).bind fun t348 => ((zbg.f k x7 t348).bind fun t351 => (zau.l0 k x0 x1 (x6.set (x8 : Int).toNat x9) t351 (wrap64 (x8 - 1)))))) else (none)) else (none))
end
def zau.f (k : Nat) (l0 : List Int) (l1 : List Int) : Option (List Int × List Int) := if 0 ≤ (l0.length : Int) then (if ((l0.length : Int) : Int).toNat ≤ 35184372088832 then (zau.l0 k l0 l1 (List.replicate ((l0.length : Int) : Int).toNat 0) ([] : List Int) (wrap64 ((l0.length : Int) - 1))) else (none)) else (none)
theorem zau.calls (k : Nat) (A0 : Option Addr) (c0 : Nat) (l0 : List Int) (A1 : Option Addr) (c1 : Nat) (l1 : List Int) (r1 : List Int) (r2 : List Int) (w : World) (hr0 : Kd.C (Kd.int .i64) w A0 l0.length l0) (hc0 : l0.length ≤ c0) (hr1 : Kd.C (Kd.int .i64) w A1 l1.length l1) (hc1 : l1.length ≤ c1) (h : zau.f k l0 l1 = some (r1, r2)) :
  Calls Tryd.prog 57 #[.slice A0 l0.length c0, .slice A1 l1.length c1] w fun e w' => ∃ v0_ v1_ : Value, e = .returned (.tuple #[v0_, v1_]) ∧ Kd.R (Kd.int .i64) 3 w' w.heap.size (fun k_ => some k_ ≠ (v1_ : Value).ownBlock) v0_ r1 ∧ Kd.R (Kd.int .i64) 3 w' w.heap.size (fun k_ => some k_ ≠ (v0_ : Value).ownBlock) v1_ r2 ∧ Below w.heap.size w w' := by
 have HR0 := zA hr0
 have HC0 := zA hc0
 clear hr0 hc0
 have HR1 := zA hr1
 have HC1 := zA hc1
 clear hr1 hc1
 have HB := zA (Below.refl w.heap.size w)
 have H : (if 0 ≤ (l0.length : Int) then (if ((l0.length : Int) : Int).toNat ≤ 35184372088832 then (zau.l0 k l0 l1 (List.replicate ((l0.length : Int) : Int).toNat 0) ([] : List Int) (wrap64 ((l0.length : Int) - 1))) else (none)) else (none)) = some (r1, r2) := h
 clear h
 by_cases c3 : 0 ≤ (l0.length : Int)
 ·
  rw [if_pos c3] at H
  have c3b0 := eq_true c3
  have c3b1 : decide (0 ≤ (l0.length : Int)) = true := decide_eq_true c3
  clear c3
  by_cases c4 : ((l0.length : Int) : Int).toNat ≤ 35184372088832
  ·
   rw [if_pos c4] at H
   have c4b0 := eq_true c4
   have c4b1 : decide (((l0.length : Int) : Int).toNat ≤ 35184372088832) = true := decide_eq_true c4
   clear c4
   obtain ⟨y328, hy328⟩ : ∃ y_ : List Int, y_ = (List.replicate ((l0.length : Int) : Int).toNat 0) := ⟨_, rfl⟩
   replace H : (zau.l0 k l0 l1 y328 ([] : List Int) (wrap64 ((l0.length : Int) - 1))) = some (r1, r2) := by first | (rw [hy328]; with_reducible exact H) | (have H2_ := (Option.bind_some _ _).symm.trans H; rw [hy328]; with_reducible exact H2_) | (have H2_ := (Option.bind_some _ _).symm.trans H; with_reducible exact H2_) | with_reducible exact H | (rw [hy328]; exact H) | exact H
   have Ny328 := zA hy328
   clear hy328
   have H' := zA H
   clear H
   go_enter Tryd.func57, Tryd.ntmps57
   go_wp2_with (first | ((with_reducible refine zbh (N := 14) rfl ?_); refine Kd.R_make (Kd.int .i64) _ 3 rfl (N := 14) rfl 31 _ _ rfl (l0.length : Int) rfl rfl Tryd.underlying31 (.int .i64 0) 8 info3 rfl (by decide) (by omega) 0 (ok := fun _ => True) (okp := fun _ => True) rfl (fun _ hk => hk) trivial (of_decide_eq_true (by first | (with_reducible assumption) | assumption)) (Nat.le_trans (Nat.mul_le_mul_right _ (of_decide_eq_true (by first | (with_reducible assumption) | assumption) : (l0.length : Int).toNat ≤ 35184372088832)) (by omega)) (Below.refl _ _) (Nat.le_refl _) ?_; intro v329 w5 ho6 hb hg_ hnew_; clear hg_ hnew_; (first | rw [← Ny328.out] at ho6 | (simp only [Int.reduceToNat] at ho6; rw [← Ny328.out] at ho6)); have n0_ := zA (Kd.zbm ho6 (za (zB HB))); have n1_ := zA (zaf (zB HB) hb); clear HB; have HO330 := n0_; have HB := n1_; clear n0_ n1_ hb ho6))
   go_loopg [7, 8] k (fun kq v7 v8 w' => ∃ (x6_1 : List Int) (x7_1 : List Int) (x8_1 : Int), v8 = .int .i64 x8_1 ∧ Aside0 (zau.l0 kq l0 l1 x6_1 x7_1 x8_1 = some (r1, r2)) ∧ Aside0 (kq ≤ k) ∧ Aside0 (Kd.R (Kd.int .i64) 3 w' w.heap.size (fun k_ => some k_ ≠ (v7 : Value).ownBlock) v329 x6_1) ∧ Aside0 (Kd.R (Kd.int .i64) 3 w' w.heap.size (fun k_ => some k_ ≠ (v329 : Value).ownBlock) v7 x7_1) ∧ Aside0 (Below w.heap.size w w'))
   case atStart => exact ⟨(y328), (([] : List Int)), (wrap64 ((l0.length : Int) - 1)), (zF), H', ⟨Nat.le_refl _⟩, ⟨by (with_reducible repeat (first | apply Kd.za3 | apply Kd.za4 | apply Kd.zbb)); exact Kd.zav HO330.out (fun _ hk => (by simp [Value.ownBlock]))⟩, ⟨by first | exact Kd.R_nil _ _ _ _ _ | exact Kd.N_nil _ _ _ _ _ | exact Kd.V_nil _ _ _ _ _ | exact Kd.Q_nil _ _ _ _ _ | exact Kd.S_nil _ _ _ _ _⟩, ⟨zB HB⟩⟩
   case round =>
    clear H'
    try clear c1
    try clear p2
    try clear c3
    try clear c3b0
    try clear c3b1
    try clear c4
    try clear c4b0
    try clear c4b1
    try clear c5
    try clear p6
    obtain ⟨x6_1, x7_1, x8_1, rfl, HA, HK1, HO_6, HO_7, HB⟩ := hrel
    cases gk with
    | zero => exact absurd HA.out (by simp [zau.l0])
    | succ k1 =>
     have H := HA.out
     clear HA
     simp only [zau.l0] at H
     by_cases c7 : x8_1 ≥ 0
     ·
      rw [if_pos c7] at H
      have c7b0 : decide (0 ≤ x8_1) = true := decide_eq_true c7
      clear c7
      by_cases c8 : 0 ≤ x8_1
      ·
       rw [if_pos c8] at H
       have c8b0 : decide (0 ≤ x8_1) = true := decide_eq_true c8
       clear c8
       by_cases c9 : x8_1 < (l0.length : Int)
       ·
        rw [if_pos c9] at H
        have c9b0 : decide (x8_1 < (l0.length : Int)) = true := decide_eq_true c9
        clear c9
        obtain ⟨y335, hy335⟩ : ∃ y_ : List Int, y_ = (([rd l0 x8_1] : List Int)) := ⟨_, rfl⟩
        replace H : (if y335.length + x7_1.length < 17592186044416 then ((zay.f k1 (y335 ++ x7_1)).bind fun t341 => (zau.l1 k1 l0 l1 x6_1 t341 x8_1 0 9999)) else (none)) = some (r1, r2) := by first | (rw [hy335]; with_reducible exact H) | (have H2_ := (Option.bind_some _ _).symm.trans H; rw [hy335]; with_reducible exact H2_) | (have H2_ := (Option.bind_some _ _).symm.trans H; with_reducible exact H2_) | with_reducible exact H | (rw [hy335]; exact H) | exact H
        have Ny335 := zA hy335
        clear hy335
        by_cases c10 : y335.length + x7_1.length < 17592186044416
        ·
         rw [if_pos c10] at H
         have LMc10 := zA c10
         clear c10
         obtain ⟨y338, hy338⟩ : ∃ y_ : List Int, y_ = (y335 ++ x7_1) := ⟨_, rfl⟩
         replace H : ((zay.f k1 y338).bind fun t341 => (zau.l1 k1 l0 l1 x6_1 t341 x8_1 0 9999)) = some (r1, r2) := by first | (rw [hy338]; with_reducible exact H) | (have H2_ := (Option.bind_some _ _).symm.trans H; rw [hy338]; with_reducible exact H2_) | (have H2_ := (Option.bind_some _ _).symm.trans H; with_reducible exact H2_) | with_reducible exact H | (rw [hy338]; exact H) | exact H
         have Ny338 := zA hy338
         clear hy338
         replace H := zO H
         obtain ⟨t341, A110, H⟩ := H
         try dsimp only at H
         have A11 := zA A110
         clear A110
         have H' := zA H
         clear H
         have p334 : 0 ≤ (x8_1 : Int) := of_decide_eq_true (by first | (with_reducible assumption) | assumption)
         have q334 : x8_1 < (l0.length : Int) := of_decide_eq_true (by first | (with_reducible assumption) | assumption)
         obtain ⟨ad334, e334, hx334_0⟩ := Kd.at_int HR0.out x8_1 p334 q334
         cases e334
         replace hx334_0 := (HB.out.cell (World.block_lt_of_cell? w _ hx334_0)).trans hx334_0
         replace p334 := eq_true p334
         replace q334 := eq_true q334
         go_wp2_with (first | ((with_reducible refine zbh (N := 26) rfl ?_); refine Kd.R_lit (Kd.int .i64) _ 3 ?hg (N := 26) ?hd (xs := ([rd l0 x8_1] : List Int)) (inner := [.int .i64 (rd l0 x8_1)]) (ok := fun _ => True) (okp := fun _ => True) ?hr ?hp (fun _ hk => hk) trivial (Below.refl _ _) (Nat.le_refl _) (by simp) ?_; (case hd => rfl); (case hg => rfl); (case hr => first | (go_simp; done) | (go_simp; rfl)); (case hp => exact (Reps.one (show Kd.M (Kd.int .i64) _ _ _ (rd l0 x8_1) [.int .i64 (rd l0 x8_1)] from rfl) (Reps.none _ _))); intro v336 w12 ho13 hb hg_ hnew_; clear hg_ hnew_; (first | rw [← Ny335.out] at ho13 | (simp only [Int.reduceToNat] at ho13; rw [← Ny335.out] at ho13)); have n0_ := zA (Kd.zbp (zR HO_6) (Kd.za1 ho13) hb); have n1_ := zA (Kd.zbp (zR HO_7) (Kd.za1 ho13) hb); have n2_ := zA (Kd.zbm (Kd.zbk (Kd.zbk ho13 (Kd.R_lt (zR HO_6))) (Kd.R_lt (zR HO_7))) (za (zB HB))); have n3_ := zA (zaf (zB HB) hb); clear HO_6 HO_7 HB; have HO_6 := n0_; have HO_7 := n1_; have HO337 := n2_; have HB := n3_; clear n0_ n1_ n2_ n3_ hb ho13; obtain ⟨Ao15, co15, eo15⟩ := Kd.zbn HO_7.out; subst eo15) | ((with_reducible refine zce (b := .append) (xs := #[.tmp 26, .tmp 27]) rfl ?_); at_builtin; refine Kd.R_append_rows (Kd.int .i64) (w0 := w) w.heap.size rfl (.tmp 26) (.tmp 27) 31 3 (.int .i64 0) 8 rfl Tryd.underlying31 info3 rfl (by decide) (by omega) v336 y335 x7_1 _ _ _ (fun k_ => some k_ ≠ (v329 : Value).ownBlock ∧ some k_ ≠ (.slice Ao15 x7_1.length co15 : Value).ownBlock) (fun _ => False) rfl rfl ?aO ?aR (fun _ _ h => h) (fun _ h => h.elim) ?aF ?aB ?aS ?aL ?_; (case aR => exact zJ (Kd.zat HO_7.out).2.2); (case aB => exact (zB HB)); (case aF => exact (fun k_ hk => ⟨Kd.fresh' (Kd.R_lt (zR HO_6)) k_ hk, Kd.fresh' (Kd.R_lt (zR HO_7)) k_ hk⟩)); (case aO => exact (by (with_reducible repeat (first | apply Kd.za3 | apply Kd.za4 | apply Kd.zbb)); exact Kd.zav HO337.out (fun _ hk => ⟨hk.1.2, hk.2⟩))); (case aS => exact (za (zB HB))); (case aL => have := LMc10.out; omega); intro v339 w14 ho hb hg hat; rw [← Ny338.out] at ho; have n0_ := zA (Kd.R_after (ok := (fun k_ => some k_ ≠ (.slice Ao15 x7_1.length co15 : Value).ownBlock)) (zR HO_6) hg hat); have n1_ := zA (Kd.R_after (ok := (fun k_ => some k_ ≠ (v329 : Value).ownBlock)) (zR HO_7) hg hat); have n2_ := zA (hb); have n3_ := zA (ho); clear HO_6 HO_7 HB HO337; have HO_6 := n0_; have HO_7 := n1_; have HB := n2_; have HO340 := n3_; clear n0_ n1_ n2_ n3_ ho hb hg hat; obtain ⟨Ao16, co16, eo16⟩ := Kd.zbn HO340.out; subst eo16) | ((with_reducible refine zah (f := 83) rfl ?_); refine zba (some 29) rfl rfl Tryd.func83 (by kernel_rfl) rfl #[.slice Ao16 y338.length co16] rfl (zE) ?_; (with_reducible refine (zay.calls k1 (fun k_ => some k_ = (.slice Ao16 y338.length co16 : Value).ownBlock) (.slice Ao16 y338.length co16) y338 t341 w _ ?side1 ?side2 A11.out).mono ?_); (case side1 => repeat (first | (with_reducible first | exact HB.out | apply zcc | apply zbz | apply zb0) | exact HB.out)); (case side2 => exact Kd.zdf rfl HO340.out); rintro e w17 ⟨v342, rfl, ho0, hb, hkp⟩; refine ⟨_, rfl, ?_⟩; have n0_ := zA (Kd.zav (ok' := fun k_ => some k_ ≠ (.slice Ao15 x7_1.length co15 : Value).ownBlock ∧ some k_ ≠ (v342 : Value).ownBlock) (Kd.R_keptB (HO_6.out) hkp (fun k_ hk_ hs_ => (hk_.2) hs_)) (fun k_ hk_ => ⟨hk_.1.1, fun e_ => Or.elim (ho0.1 k_ e_.symm) (fun hs_ => hk_.2.1 hs_) (fun hn_ => Nat.not_le.2 hk_.2.2 hn_)⟩)); have n1_ := zA (Kd.zav (ok' := fun k_ => some k_ ≠ (v329 : Value).ownBlock ∧ some k_ ≠ (v342 : Value).ownBlock) (Kd.R_keptB (HO_7.out) hkp (fun k_ hk_ hs_ => (hk_.2) hs_)) (fun k_ hk_ => ⟨hk_.1.1, fun e_ => Or.elim (ho0.1 k_ e_.symm) (fun hs_ => hk_.2.1 hs_) (fun hn_ => Nat.not_le.2 hk_.2.2 hn_)⟩)); have n2_ := zA (Kd.zav (ok' := fun k_ => some k_ ≠ (v329 : Value).ownBlock ∧ some k_ ≠ (.slice Ao15 x7_1.length co15 : Value).ownBlock) ho0 (fun k_ hk_ => ⟨Or.elim hk_ (fun hs_ => fun e_ => (((HO_6.out).1 k_ e_.symm).2) hs_) (fun hn_ => (Kd.fresh' (Kd.R_lt (zR HO_6)) k_ hn_)), Or.elim hk_ (fun hs_ => fun e_ => (((HO_7.out).1 k_ e_.symm).2) hs_) (fun hn_ => (Kd.fresh' (Kd.R_lt (zR HO_7)) k_ hn_))⟩)); have n3_ := zA (hb); clear HO_6 HO_7 HB HO340; have HO_6 := n0_; have HO_7 := n1_; have HO343 := n2_; have HB := n3_; clear n0_ n1_ n2_ n3_; (try clear hb); (try clear hkp); (try clear ho0)))
         go_loopg [9, 10] k1 (fun kq v9 v10 w' => ∃ (x9_2 : Int) (x10_2 : Int), v9 = .int .i64 x9_2 ∧ v10 = .int .i64 x10_2 ∧ Aside0 (zau.l1 kq l0 l1 x6_1 t341 x8_1 x9_2 x10_2 = some (r1, r2)) ∧ Aside0 (kq ≤ k1) ∧ Aside0 (Kd.R (Kd.int .i64) 3 w' w.heap.size (fun k_ => some k_ ≠ (v342 : Value).ownBlock) v329 x6_1) ∧ Aside0 (Kd.R (Kd.int .i64) 3 w' w.heap.size (fun k_ => some k_ ≠ (v329 : Value).ownBlock) v342 t341) ∧ Aside0 (Below w.heap.size w w'))
         case atStart => exact ⟨(0), (9999), (zF), (zF), H', ⟨Nat.le_refl _⟩, ⟨by (with_reducible repeat (first | apply Kd.za3 | apply Kd.za4 | apply Kd.zbb)); exact Kd.zav HO_6.out (fun _ hk => hk.2)⟩, ⟨by (with_reducible repeat (first | apply Kd.za3 | apply Kd.za4 | apply Kd.zbb)); exact Kd.zav HO343.out (fun _ hk => hk.1)⟩, ⟨zB HB⟩⟩
         case round =>
          clear H'
          try clear c1
          try clear p2
          try clear c3
          try clear c3b0
          try clear c3b1
          try clear p3
          try clear q3
          try clear hx3
          try clear c4
          try clear c4b0
          try clear c4b1
          try clear c5
          try clear p6
          try clear c7
          try clear c7b0
          try clear c8
          try clear c8b0
          try clear c9
          try clear c9b0
          try clear c10
          try clear hx334_0
          try clear p2
          try clear p334
          try clear p6
          try clear q334
          obtain ⟨x9_2, x10_2, rfl, rfl, HA, HK2, HO_6, HO_7, HB⟩ := hrel
          cases gk with
          | zero => exact absurd HA.out (by simp [zau.l1])
          | succ k2 =>
           have H := HA.out
           clear HA
           simp only [zau.l1] at H
           by_cases c18 : x9_2 < x10_2
           ·
            rw [if_pos c18] at H
            have c18b0 : decide (x9_2 < x10_2) = true := decide_eq_true c18
            clear c18
            replace H := zO H
            obtain ⟨t354, A190, H⟩ := H
            try dsimp only at H
            have A19 := zA A190
            clear A190
            replace H := zO H
            obtain ⟨t357, A200, H⟩ := H
            try dsimp only at H
            have A20 := zA A200
            clear A200
            replace H := zO H
            obtain ⟨t360, A210, H⟩ := H
            try dsimp only at H
            have A21 := zA A210
            clear A210
            by_cases c22 : t360 ≤ 0
            ·
             rw [if_pos c22] at H
             have c22b0 : decide (t360 ≤ 0) = true := decide_eq_true c22
             clear c22
             have H' := zA H
             clear H
             go_wp2_with (first | ((with_reducible refine zah (f := 20) rfl ?_); refine zba (some 40) rfl rfl Tryd.func20 (by kernel_rfl) rfl #[.int .i64 (wrap64 (Int.tdiv (wrap64 ((wrap64 (x9_2 + x10_2)) + 1)) 2))] rfl (zE) ?_; (with_reducible refine (zb.calls k2 (wrap64 (Int.tdiv (wrap64 ((wrap64 (x9_2 + x10_2)) + 1)) 2)) t354 _ A19.out).mono ?_); rintro e w23 ⟨v355, rfl, ho0, hb⟩; refine ⟨_, rfl, ?_⟩; have n0_ := zA (Kd.zbp (zR HO_6) (Kd.za1 ho0) hb); have n1_ := zA (Kd.zbp (zR HO_7) (Kd.za1 ho0) hb); have n2_ := zA (Kd.zbm (Kd.zbk (Kd.zbk ho0 (Kd.R_lt (zR HO_6))) (Kd.R_lt (zR HO_7))) (za (zB HB))); have n3_ := zA (zaf (zB HB) hb); clear HO_6 HO_7 HB; have HO_6 := n0_; have HO_7 := n1_; have HO356 := n2_; have HB := n3_; clear n0_ n1_ n2_ n3_; (try clear hb); (try clear hb2); (try clear hk); (try clear hi); (try clear ho0); obtain ⟨Ao24, co24, eo24⟩ := Kd.zbn HO356.out; subst eo24) | ((with_reducible refine zah (f := 56) rfl ?_); refine zba (some 41) rfl rfl Tryd.func56 (by kernel_rfl) rfl #[.slice A1 l1.length c1, .slice Ao24 t354.length co24] rfl (zE) ?_; (with_reducible refine (zam.calls k2 _ _ l1 _ _ t354 t357 _ ?side1 ?side2 ?side3 ?side4 A20.out).mono ?_); (case side1 => exact zJ (Kd.za6 HR1.out HB.out)); (case side2 => exact HC1.out); (case side3 => exact zJ (Kd.zat HO356.out).2.2); (case side4 => exact (Kd.zat HO356.out).2.1); rintro e w25 ⟨v358, rfl, ho0, hb⟩; refine ⟨_, rfl, ?_⟩; have n0_ := zA (Kd.zbp (zR HO_6) (Kd.za1 ho0) hb); have n1_ := zA (Kd.zbp (zR HO_7) (Kd.za1 ho0) hb); have n2_ := zA (Kd.zbp (zR HO356) (Kd.za1 ho0) hb); have n3_ := zA (Kd.zbm (Kd.zbk (Kd.zbk (Kd.zbk ho0 (Kd.R_lt (zR HO_6))) (Kd.R_lt (zR HO_7))) (Kd.R_lt (zR HO356))) (za (zB HB))); have n4_ := zA (zaf (zB HB) hb); clear HO_6 HO_7 HO356 HB; have HO_6 := n0_; have HO_7 := n1_; have HO356 := n2_; have HO359 := n3_; have HB := n4_; clear n0_ n1_ n2_ n3_ n4_; (try clear hb); (try clear hb2); (try clear hk); (try clear hi); (try clear ho0); obtain ⟨Ao26, co26, eo26⟩ := Kd.zbn HO359.out; subst eo26; obtain ⟨Ao27, co27, eo27⟩ := Kd.zbn HO_7.out; subst eo27) | ((with_reducible refine zah (f := 18) rfl ?_); refine zba (some 43) rfl rfl Tryd.func18 (by kernel_rfl) rfl #[.slice Ao26 t357.length co26, .slice Ao27 t341.length co27] rfl (zE) ?_; (with_reducible refine (za7.calls k2 _ _ t357 _ _ t341 t360 _ ?side1 ?side2 ?side3 ?side4 A21.out).mono ?_); (case side1 => exact zJ (Kd.zat HO359.out).2.2); (case side2 => exact (Kd.zat HO359.out).2.1); (case side3 => exact zJ (Kd.zat HO_7.out).2.2); (case side4 => exact (Kd.zat HO_7.out).2.1); rintro e w' ⟨rfl, ⟨nd, rfl⟩⟩; refine ⟨_, rfl, ?_⟩))
             go_roundg k2
             case measure => have := HK1.out; have := HK2.out; omega
             case rel => exact ⟨(wrap64 (Int.tdiv (wrap64 ((wrap64 (x9_2 + x10_2)) + 1)) 2)), (x10_2), (zF), (zF), H', ⟨by have := HK1.out; have := HK2.out; omega⟩, ⟨by (with_reducible repeat (first | apply Kd.za3 | apply Kd.za4 | apply Kd.zbb)); exact Kd.zav HO_6.out (fun _ hk => hk.1.1)⟩, ⟨by (with_reducible repeat (first | apply Kd.za3 | apply Kd.za4 | apply Kd.zbb)); exact Kd.zav HO_7.out (fun _ hk => hk.1.1)⟩, ⟨zB HB⟩⟩
            ·
             rw [if_neg c22] at H
             have c22b0 : decide (t360 ≤ 0) = false := decide_eq_false c22
             clear c22
             have H' := zA H
             clear H
             go_wp2_with (first | ((with_reducible refine zah (f := 20) rfl ?_); refine zba (some 40) rfl rfl Tryd.func20 (by kernel_rfl) rfl #[.int .i64 (wrap64 (Int.tdiv (wrap64 ((wrap64 (x9_2 + x10_2)) + 1)) 2))] rfl (zE) ?_; (with_reducible refine (zb.calls k2 (wrap64 (Int.tdiv (wrap64 ((wrap64 (x9_2 + x10_2)) + 1)) 2)) t354 _ A19.out).mono ?_); rintro e w28 ⟨v355, rfl, ho0, hb⟩; refine ⟨_, rfl, ?_⟩; have n0_ := zA (Kd.zbp (zR HO_6) (Kd.za1 ho0) hb); have n1_ := zA (Kd.zbp (zR HO_7) (Kd.za1 ho0) hb); have n2_ := zA (Kd.zbm (Kd.zbk (Kd.zbk ho0 (Kd.R_lt (zR HO_6))) (Kd.R_lt (zR HO_7))) (za (zB HB))); have n3_ := zA (zaf (zB HB) hb); clear HO_6 HO_7 HB; have HO_6 := n0_; have HO_7 := n1_; have HO356 := n2_; have HB := n3_; clear n0_ n1_ n2_ n3_; (try clear hb); (try clear hb2); (try clear hk); (try clear hi); (try clear ho0); obtain ⟨Ao29, co29, eo29⟩ := Kd.zbn HO356.out; subst eo29) | ((with_reducible refine zah (f := 56) rfl ?_); refine zba (some 41) rfl rfl Tryd.func56 (by kernel_rfl) rfl #[.slice A1 l1.length c1, .slice Ao29 t354.length co29] rfl (zE) ?_; (with_reducible refine (zam.calls k2 _ _ l1 _ _ t354 t357 _ ?side1 ?side2 ?side3 ?side4 A20.out).mono ?_); (case side1 => exact zJ (Kd.za6 HR1.out HB.out)); (case side2 => exact HC1.out); (case side3 => exact zJ (Kd.zat HO356.out).2.2); (case side4 => exact (Kd.zat HO356.out).2.1); rintro e w30 ⟨v358, rfl, ho0, hb⟩; refine ⟨_, rfl, ?_⟩; have n0_ := zA (Kd.zbp (zR HO_6) (Kd.za1 ho0) hb); have n1_ := zA (Kd.zbp (zR HO_7) (Kd.za1 ho0) hb); have n2_ := zA (Kd.zbp (zR HO356) (Kd.za1 ho0) hb); have n3_ := zA (Kd.zbm (Kd.zbk (Kd.zbk (Kd.zbk ho0 (Kd.R_lt (zR HO_6))) (Kd.R_lt (zR HO_7))) (Kd.R_lt (zR HO356))) (za (zB HB))); have n4_ := zA (zaf (zB HB) hb); clear HO_6 HO_7 HO356 HB; have HO_6 := n0_; have HO_7 := n1_; have HO356 := n2_; have HO359 := n3_; have HB := n4_; clear n0_ n1_ n2_ n3_ n4_; (try clear hb); (try clear hb2); (try clear hk); (try clear hi); (try clear ho0); obtain ⟨Ao31, co31, eo31⟩ := Kd.zbn HO359.out; subst eo31; obtain ⟨Ao32, co32, eo32⟩ := Kd.zbn HO_7.out; subst eo32) | ((with_reducible refine zah (f := 18) rfl ?_); refine zba (some 43) rfl rfl Tryd.func18 (by kernel_rfl) rfl #[.slice Ao31 t357.length co31, .slice Ao32 t341.length co32] rfl (zE) ?_; (with_reducible refine (za7.calls k2 _ _ t357 _ _ t341 t360 _ ?side1 ?side2 ?side3 ?side4 A21.out).mono ?_); (case side1 => exact zJ (Kd.zat HO359.out).2.2); (case side2 => exact (Kd.zat HO359.out).2.1); (case side3 => exact zJ (Kd.zat HO_7.out).2.2); (case side4 => exact (Kd.zat HO_7.out).2.1); rintro e w' ⟨rfl, ⟨nd, rfl⟩⟩; refine ⟨_, rfl, ?_⟩))
             go_roundg k2
             case measure => have := HK1.out; have := HK2.out; omega
             case rel => exact ⟨(x9_2), (wrap64 ((wrap64 (Int.tdiv (wrap64 ((wrap64 (x9_2 + x10_2)) + 1)) 2)) - 1)), (zF), (zF), H', ⟨by have := HK1.out; have := HK2.out; omega⟩, ⟨by (with_reducible repeat (first | apply Kd.za3 | apply Kd.za4 | apply Kd.zbb)); exact Kd.zav HO_6.out (fun _ hk => hk.1.1)⟩, ⟨by (with_reducible repeat (first | apply Kd.za3 | apply Kd.za4 | apply Kd.zbb)); exact Kd.zav HO_7.out (fun _ hk => hk.1.1)⟩, ⟨zB HB⟩⟩
           ·
            rw [if_neg c18] at H
            have c18b0 : decide (x9_2 < x10_2) = false := decide_eq_false c18
            clear c18
            by_cases c33 : 0 ≤ x8_1
            ·
             rw [if_pos c33] at H
             have c33b0 : decide (0 ≤ x8_1) = true := decide_eq_true c33
             clear c33
             by_cases c34 : x8_1 < (x6_1.length : Int)
             ·
              rw [if_pos c34] at H
              have c34b0 : decide (x8_1 < (x6_1.length : Int)) = true := decide_eq_true c34
              clear c34
              obtain ⟨y344, hy344⟩ : ∃ y_ : List Int, y_ = (x6_1.set (x8_1 : Int).toNat x9_2) := ⟨_, rfl⟩
              replace H : ((zb.f k2 x9_2).bind fun t345 => ((zam.f k2 l1 t345).bind fun t348 => ((zbg.f k2 t341 t348).bind fun t351 => (zau.l0 k2 l0 l1 y344 t351 (wrap64 (x8_1 - 1)))))) = some (r1, r2) := by first | (rw [hy344]; with_reducible exact H) | (have H2_ := (Option.bind_some _ _).symm.trans H; rw [hy344]; with_reducible exact H2_) | (have H2_ := (Option.bind_some _ _).symm.trans H; with_reducible exact H2_) | with_reducible exact H | (rw [hy344]; exact H) | exact H
              have Ny344 := zA hy344
              clear hy344
              replace H := zO H
              obtain ⟨t345, A360, H⟩ := H
              try dsimp only at H
              have A36 := zA A360
              clear A360
              replace H := zO H
              obtain ⟨t348, A370, H⟩ := H
              try dsimp only at H
              have A37 := zA A370
              clear A370
              replace H := zO H
              obtain ⟨t351, A380, H⟩ := H
              try dsimp only at H
              have A38 := zA A380
              clear A380
              have H' := zA H
              clear H
              have p35 : 0 ≤ (x8_1 : Int) := of_decide_eq_true (by first | (with_reducible assumption) | assumption)
              have q35 : (x8_1 : Int) < ((x6_1.length : Int) : Int) := of_decide_eq_true (by first | (with_reducible assumption) | assumption)
              obtain ⟨go35, co35, eo35, gb35, gl35, cl35, HG35⟩ := Kd.R_form HO_6.out (by omega)
              (first | cases eo35 | (injection eo35 with ea_ en_ ec_; (first | subst ea_ | (injection ea_ with ea_; subst ea_)); subst ec_; clear en_))
              have GB35 := zA gb35
              have GG35 := zA HG35
              clear gb35 gl35 HG35
              obtain ⟨hx35_0, hf35_0⟩ := Kd.zda 0 HO_6.out (x8_1 : Int) p35 q35
              replace p35 := eq_true p35
              replace q35 := eq_true q35
              have HP39 := Kd.R_putg HO_6.out (x8_1 : Int) x9_2
              go_wp2_with (first | ((with_reducible refine zde (t := 3) (p := 51) rfl ?_); refine zc1 (t := 3) (p := 51) (v := ?vo_w40) (w1 := (wr.setCell ⟨go35, (x8_1 : Int).toNat, none⟩ (.int .i64 x9_2))) ?hg ?ho ?hn ?hr ?_; (case ho => rfl); (case hg => rfl); (case hn => rfl); (case hr => first | (go_simp; done) | (go_simp; rfl)); intro w40 hw; have hg : wr.grownBy w40 (some go35) := (by rw [hw]; exact HP39.2); have hp_ : Kd.R (Kd.int .i64) 3 w40 w.heap.size (fun k_ => some k_ ≠ (v342 : Value).ownBlock) (.slice (some ⟨go35, 0, none⟩) x6_1.length co35) y344 := (by rw [hw, Ny344.out]; exact HP39.1); clear HP39; have n0_ := zA (hp_); have n1_ := zA (Kd.R_after (v := (.slice (some ⟨go35, 0, none⟩) x6_1.length co35)) (v1 := (.slice (some ⟨go35, 0, none⟩) x6_1.length co35)) (ok := (fun _ => True)) (by (with_reducible repeat (first | apply Kd.za3 | apply Kd.za4 | apply Kd.zbb)); exact Kd.zav HO_7.out (fun _ hk => ⟨trivial, hk⟩)) hg (.inl rfl)); have n2_ := zA ((by rw [hw]; exact zdg (HB.out) GB35.out : Below w.heap.size w w40)); clear HO_6 HO_7 HB; have HO_6 := n0_; have HO_7 := n1_; have HB := n2_; clear n0_ n1_ n2_ hg hw hp_) | ((with_reducible refine zah (f := 20) rfl ?_); refine zba (some 55) rfl rfl Tryd.func20 (by kernel_rfl) rfl #[.int .i64 x9_2] rfl (zE) ?_; (with_reducible refine (zb.calls k2 x9_2 t345 _ A36.out).mono ?_); rintro e w41 ⟨v346, rfl, ho0, hb⟩; refine ⟨_, rfl, ?_⟩; have n0_ := zA (Kd.zbp (zR HO_6) (Kd.za1 ho0) hb); have n1_ := zA (Kd.zbp (zR HO_7) (Kd.za1 ho0) hb); have n2_ := zA (Kd.zbm (Kd.zbk (Kd.zbk ho0 (Kd.R_lt (zR HO_6))) (Kd.R_lt (zR HO_7))) (za (zB HB))); have n3_ := zA (zaf (zB HB) hb); clear HO_6 HO_7 HB; have HO_6 := n0_; have HO_7 := n1_; have HO347 := n2_; have HB := n3_; clear n0_ n1_ n2_ n3_; (try clear hb); (try clear hb2); (try clear hk); (try clear hi); (try clear ho0); obtain ⟨Ao42, co42, eo42⟩ := Kd.zbn HO347.out; subst eo42) | ((with_reducible refine zah (f := 56) rfl ?_); refine zba (some 56) rfl rfl Tryd.func56 (by kernel_rfl) rfl #[.slice A1 l1.length c1, .slice Ao42 t345.length co42] rfl (zE) ?_; (with_reducible refine (zam.calls k2 _ _ l1 _ _ t345 t348 _ ?side1 ?side2 ?side3 ?side4 A37.out).mono ?_); (case side1 => exact zJ (Kd.za6 HR1.out HB.out)); (case side2 => exact HC1.out); (case side3 => exact zJ (Kd.zat HO347.out).2.2); (case side4 => exact (Kd.zat HO347.out).2.1); rintro e w43 ⟨v349, rfl, ho0, hb⟩; refine ⟨_, rfl, ?_⟩; have n0_ := zA (Kd.zbp (zR HO_6) (Kd.za1 ho0) hb); have n1_ := zA (Kd.zbp (zR HO_7) (Kd.za1 ho0) hb); have n2_ := zA (Kd.zbp (zR HO347) (Kd.za1 ho0) hb); have n3_ := zA (Kd.zbm (Kd.zbk (Kd.zbk (Kd.zbk ho0 (Kd.R_lt (zR HO_6))) (Kd.R_lt (zR HO_7))) (Kd.R_lt (zR HO347))) (za (zB HB))); have n4_ := zA (zaf (zB HB) hb); clear HO_6 HO_7 HO347 HB; have HO_6 := n0_; have HO_7 := n1_; have HO347 := n2_; have HO350 := n3_; have HB := n4_; clear n0_ n1_ n2_ n3_ n4_; (try clear hb); (try clear hb2); (try clear hk); (try clear hi); (try clear ho0); obtain ⟨Ao44, co44, eo44⟩ := Kd.zbn HO_7.out; subst eo44; obtain ⟨Ao45, co45, eo45⟩ := Kd.zbn HO350.out; subst eo45) | ((with_reducible refine zah (f := 66) rfl ?_); refine zba (some 57) rfl rfl Tryd.func66 (by kernel_rfl) rfl #[.slice Ao44 t341.length co44, .slice Ao45 t348.length co45] rfl (zE) ?_; (with_reducible refine (zbg.calls k2 _ _ t341 _ _ t348 t351 _ ?side1 ?side2 ?side3 ?side4 A38.out).mono ?_); (case side1 => exact zJ (Kd.zat HO_7.out).2.2); (case side2 => exact (Kd.zat HO_7.out).2.1); (case side3 => exact zJ (Kd.zat HO350.out).2.2); (case side4 => exact (Kd.zat HO350.out).2.1); rintro e w46 ⟨v352, rfl, ho0, hb⟩; refine ⟨_, rfl, ?_⟩; have n0_ := zA (Kd.zbp (zR HO_6) (Kd.za1 ho0) hb); have n1_ := zA (Kd.zbp (zR HO_7) (Kd.za1 ho0) hb); have n2_ := zA (Kd.zbp (zR HO347) (Kd.za1 ho0) hb); have n3_ := zA (Kd.zbp (zR HO350) (Kd.za1 ho0) hb); have n4_ := zA (Kd.zbm (Kd.zbk (Kd.zbk (Kd.zbk (Kd.zbk ho0 (Kd.R_lt (zR HO_6))) (Kd.R_lt (zR HO_7))) (Kd.R_lt (zR HO347))) (Kd.R_lt (zR HO350))) (za (zB HB))); have n5_ := zA (zaf (zB HB) hb); clear HO_6 HO_7 HO347 HO350 HB; have HO_6 := n0_; have HO_7 := n1_; have HO347 := n2_; have HO350 := n3_; have HO353 := n4_; have HB := n5_; clear n0_ n1_ n2_ n3_ n4_ n5_; (try clear hb); (try clear hb2); (try clear hk); (try clear hi); (try clear ho0)))
              go_roundg k2
              case measure => have := HK1.out; have := HK2.out; omega
              case rel => exact ⟨(y344), (t351), (wrap64 (x8_1 - 1)), (zF), H', ⟨by have := HK1.out; have := HK2.out; omega⟩, ⟨by (with_reducible repeat (first | apply Kd.za3 | apply Kd.za4 | apply Kd.zbb)); exact Kd.zav HO_6.out (fun _ hk => hk.2)⟩, ⟨by (with_reducible repeat (first | apply Kd.za3 | apply Kd.za4 | apply Kd.zbb)); exact Kd.zav HO353.out (fun _ hk => hk.1.1.1.2)⟩, ⟨zB HB⟩⟩
             ·
              rw [if_neg c34] at H
              exact absurd H (by simp)
            ·
             rw [if_neg c33] at H
             exact absurd H (by simp)
        ·
         rw [if_neg c10] at H
         exact absurd H (by simp)
       ·
        rw [if_neg c9] at H
        exact absurd H (by simp)
      ·
       rw [if_neg c8] at H
       exact absurd H (by simp)
     ·
      rw [if_neg c7] at H
      have c7b0 : decide (0 ≤ x8_1) = false := decide_eq_false c7
      clear c7
      replace H := zO H
      obtain ⟨t331, A470, H⟩ := H
      try dsimp only at H
      have A47 := zA A470
      clear A470
      simp only [Option.some.injEq, Prod.mk.injEq] at H
      obtain ⟨rfl, rfl⟩ := H
      obtain ⟨Ao48, co48, eo48⟩ := Kd.zbn HO_6.out
      subst eo48
      go_wp2_with (first | ((with_reducible refine zah (f := 83) rfl ?_); refine zba (some 59) rfl rfl Tryd.func83 (by kernel_rfl) rfl #[.slice Ao48 x6_1.length co48] rfl (zE) ?_; (with_reducible refine (zay.calls k1 (fun k_ => some k_ = (.slice Ao48 x6_1.length co48 : Value).ownBlock) (.slice Ao48 x6_1.length co48) x6_1 t331 w _ ?side1 ?side2 A47.out).mono ?_); (case side1 => repeat (first | (with_reducible first | exact HB.out | apply zcc | apply zbz | apply zb0) | exact HB.out)); (case side2 => exact Kd.zdf rfl HO_6.out); rintro e w49 ⟨v332, rfl, ho0, hb, hkp⟩; refine ⟨_, rfl, ?_⟩; have n0_ := zA (Kd.zav (ok' := fun k_ => some k_ ≠ (v332 : Value).ownBlock) (Kd.R_keptB (HO_7.out) hkp (fun k_ hk_ hs_ => (hk_) hs_)) (fun k_ hk_ => fun e_ => Or.elim (ho0.1 k_ e_.symm) (fun hs_ => hk_.2.1 hs_) (fun hn_ => Nat.not_le.2 hk_.2.2 hn_))); have n1_ := zA (Kd.zav (ok' := fun k_ => some k_ ≠ (u7 : Value).ownBlock) ho0 (fun k_ hk_ => Or.elim hk_ (fun hs_ => fun e_ => (((HO_7.out).1 k_ e_.symm)) hs_) (fun hn_ => (Kd.fresh' (Kd.R_lt (zR HO_7)) k_ hn_)))); have n2_ := zA (hb); clear HO_7 HB HO_6; have HO_7 := n0_; have HO333 := n1_; have HB := n2_; clear n0_ n1_ n2_; (try clear hb); (try clear hkp); (try clear ho0)))
      go_ret2
      exact ⟨_, _, zW, zR HO333, zR HO_7, zB HB⟩
  ·
   rw [if_neg c4] at H
   exact absurd H (by simp)
 ·
  rw [if_neg c3] at H
  exact absurd H (by simp)
def zbv.l0 : Nat → List Int → List Int → Option (List Int)
 | 0, _, _ => none
 | k + 1, x0, x1 => if (x1.length : Int) > 0 then ((zau.f k x0 x1).bind fun bt361 => (zbv.l0 k x1 bt361.2)) else (some x0)
def zbv.f (k : Nat) (l0 : List Int) (l1 : List Int) : Option (List Int) := zbv.l0 k l0 l1
theorem zbv.calls (k : Nat) (P0_ : Nat → Prop) (A0 : Option Addr) (c0 : Nat) (l0 : List Int) (P1_ : Nat → Prop) (A1 : Option Addr) (c1 : Nat) (l1 : List Int) (r : List Int) (w : World) (hs0 : Kd.V (Kd.int .i64) 3 w w.heap.size (fun k_ => P0_ k_) (.slice A0 l0.length c0) l0) (hs1 : Kd.V (Kd.int .i64) 3 w w.heap.size (fun k_ => P1_ k_) (.slice A1 l1.length c1) l1) (h : zbv.f k l0 l1 = some r) :
  Calls Tryd.prog 19 #[.slice A0 l0.length c0, .slice A1 l1.length c1] w fun e w' => ∃ v0_ : Value, e = .returned (v0_) ∧ Kd.V (Kd.int .i64) 3 w' w.heap.size (fun k_ => ((P0_ k_ ∨ P1_ k_) ∨ w.heap.size ≤ k_)) v0_ r ∧ Below w.heap.size w w' := by
 have HO0 := zA (show Kd.V (Kd.int .i64) 3 w w.heap.size (fun k_ => ((P0_ k_ ∨ P1_ k_) ∨ w.heap.size ≤ k_)) (.slice A0 l0.length c0) l0 from Kd.zak hs0 (fun k_ hk => .inl (.inl hk)))
 have HO1 := zA (show Kd.V (Kd.int .i64) 3 w w.heap.size (fun k_ => ((P0_ k_ ∨ P1_ k_) ∨ w.heap.size ≤ k_)) (.slice A1 l1.length c1) l1 from Kd.zak hs1 (fun k_ hk => .inl (.inr hk)))
 have HB := zA (Below.refl w.heap.size w)
 have H : (zbv.l0 k l0 l1) = some r := h
 clear h
 have H' := zA H
 clear H
 go_enter Tryd.func19, Tryd.ntmps19
 go_wp2
 go_loopg [0, 1] k (fun kq v0 v1 w' => ∃ (x0_1 : List Int) (x1_1 : List Int), Aside0 (zbv.l0 kq x0_1 x1_1 = some r) ∧ Aside0 (kq ≤ k) ∧ Aside0 (Kd.V (Kd.int .i64) 3 w' w.heap.size (fun k_ => ((P0_ k_ ∨ P1_ k_) ∨ w.heap.size ≤ k_)) v0 x0_1) ∧ Aside0 (Kd.V (Kd.int .i64) 3 w' w.heap.size (fun k_ => ((P0_ k_ ∨ P1_ k_) ∨ w.heap.size ≤ k_)) v1 x1_1) ∧ Aside0 (Below w.heap.size w w'))
 case atStart => exact ⟨(l0), (l1), H', ⟨Nat.le_refl _⟩, ⟨zV HO0⟩, ⟨zV HO1⟩, ⟨zB HB⟩⟩
 case round =>
  clear H'
  try clear c1
  try clear p2
  obtain ⟨x0_1, x1_1, HA, HK1, HO_0, HO_1, HB⟩ := hrel
  cases gk with
  | zero => exact absurd HA.out (by simp [zbv.l0])
  | succ k1 =>
   have H := HA.out
   clear HA
   simp only [zbv.l0] at H
   by_cases c3 : (x1_1.length : Int) > 0
   ·
    rw [if_pos c3] at H
    have c3b0 : decide (0 < (x1_1.length : Int)) = true := decide_eq_true c3
    have c3b1 : decide (0 < x1_1.length) = true := decide_eq_true (by omega)
    clear c3
    replace H := zO H
    obtain ⟨⟨t361, t362⟩, A40, H⟩ := H
    try dsimp only at H
    have A4 := zA A40
    clear A40
    have H' := zA H
    clear H
    obtain ⟨Ao5, co5, eo5⟩ := Kd.zbt HO_1.out
    subst eo5
    obtain ⟨Ao6, co6, eo6⟩ := Kd.zbt HO_0.out
    subst eo6
    go_wp2_with (first | ((with_reducible refine zah (f := 57) rfl ?_); refine zba (some 13) rfl rfl Tryd.func57 (by kernel_rfl) rfl #[.slice Ao6 x0_1.length co6, .slice Ao5 x1_1.length co5] rfl (zE) ?_; (with_reducible refine (zau.calls k1 _ _ x0_1 _ _ x1_1 t361 t362 _ ?side1 ?side2 ?side3 ?side4 A4.out).mono ?_); (case side1 => exact zJ (Kd.zas HO_0.out).2.2); (case side2 => exact (Kd.zas HO_0.out).2.1); (case side3 => exact zJ (Kd.zas HO_1.out).2.2); (case side4 => exact (Kd.zas HO_1.out).2.1); rintro e w7 ⟨v363, v365, rfl, ho0, ho1, hb⟩; refine ⟨_, rfl, ?_⟩; have n0_ := zA (Kd.zak (Kd.zch (Kd.zch (Kd.V_old (zV HO_0) hb) (Kd.za1 ho0)) (Kd.za1 ho1)) (fun _ h_ => h_.1)); have n1_ := zA (Kd.zak (Kd.zch (Kd.zch (Kd.V_old (zV HO_1) hb) (Kd.za1 ho0)) (Kd.za1 ho1)) (fun _ h_ => h_.1)); have n2_ := zA (Kd.zbm (Kd.zc4 (M := fun k_ => (w.heap.size ≤ k_)) ho0 (za (zB HB)) (fun k_ h_ => h_)) (za (zB HB))); have n3_ := zA (Kd.zbm (Kd.zc4 (M := fun k_ => (w.heap.size ≤ k_)) ho1 (za (zB HB)) (fun k_ h_ => h_)) (za (zB HB))); have n4_ := zA (zaf (zB HB) hb); clear HO_0 HO_1 HB; have HO_0 := n0_; have HO_1 := n1_; have HO364 := n2_; have HO366 := n3_; have HB := n4_; clear n0_ n1_ n2_ n3_ n4_; (try clear hb); (try clear hb2); (try clear hk); (try clear hi); (try clear ho0); (try clear ho1)))
    go_roundg k1
    case measure => have := HK1.out; omega
    case rel => exact ⟨(x1_1), (t362), H', ⟨by have := HK1.out; omega⟩, ⟨by (with_reducible repeat (first | apply Kd.za8 | apply Kd.za9 | apply Kd.zbc)); exact Kd.zak HO_1.out (fun _ hk => hk.1.1)⟩, ⟨Kd.zak (Kd.R_V (by (with_reducible repeat (first | apply Kd.za3 | apply Kd.za4 | apply Kd.zbb)); exact Kd.zav HO366.out (fun _ hk => hk.1))) (fun k_ hk => by first | exact ⟨(.inr (hk.1)), hk.2⟩ | exact (.inr (hk)))⟩, ⟨zB HB⟩⟩
   ·
    rw [if_neg c3] at H
    have c3b0 : decide (0 < (x1_1.length : Int)) = false := decide_eq_false c3
    have c3b1 : decide (0 < x1_1.length) = false := decide_eq_false (by omega)
    clear c3
    obtain rfl := Option.some.inj H
    obtain ⟨Ao8, co8, eo8⟩ := Kd.zbt HO_1.out
    subst eo8
    go_wp2
    go_ret
    exact ⟨_, zW, zV HO_0, zB HB⟩
def zb1.f (k : Nat) (l0 : List Int) (l1 : List Int) : Option (List Int × List Int) := (zbv.f k l0 l1).bind fun t424 => ((zau.f k l0 t424).bind fun bt427 => ((zau.f k l1 t424).bind fun bt433 => (some (bt427.1, bt433.1))))
theorem zb1.calls (k : Nat) (A0 : Option Addr) (c0 : Nat) (l0 : List Int) (A1 : Option Addr) (c1 : Nat) (l1 : List Int) (r1 : List Int) (r2 : List Int) (w : World) (hr0 : Kd.C (Kd.int .i64) w A0 l0.length l0) (hc0 : l0.length ≤ c0) (hr1 : Kd.C (Kd.int .i64) w A1 l1.length l1) (hc1 : l1.length ≤ c1) (h : zb1.f k l0 l1 = some (r1, r2)) :
  Calls Tryd.prog 59 #[.slice A0 l0.length c0, .slice A1 l1.length c1] w fun e w' => ∃ v0_ v1_ : Value, e = .returned (.agg #[v0_, v1_]) ∧ Kd.R (Kd.int .i64) 3 w' w.heap.size (fun k_ => some k_ ≠ (v1_ : Value).ownBlock) v0_ r1 ∧ Kd.R (Kd.int .i64) 3 w' w.heap.size (fun k_ => some k_ ≠ (v0_ : Value).ownBlock) v1_ r2 ∧ Below w.heap.size w w' := by
 have hu40 := Tryd.underlying40
 have HR0 := zA hr0
 have HC0 := zA hc0
 clear hr0 hc0
 have HR1 := zA hr1
 have HC1 := zA hc1
 clear hr1 hc1
 have HB := zA (Below.refl w.heap.size w)
 have H : ((zbv.f k l0 l1).bind fun t424 => ((zau.f k l0 t424).bind fun bt427 => ((zau.f k l1 t424).bind fun bt433 => (some (bt427.1, bt433.1))))) = some (r1, r2) := h
 clear h
 replace H := zO H
 obtain ⟨t424, A30, H⟩ := H
 try dsimp only at H
 have A3 := zA A30
 clear A30
 replace H := zO H
 obtain ⟨⟨t427, t428⟩, A40, H⟩ := H
 try dsimp only at H
 have A4 := zA A40
 clear A40
 replace H := zO H
 obtain ⟨⟨t433, t434⟩, A50, H⟩ := H
 try dsimp only at H
 have A5 := zA A50
 clear A50
 simp only [Option.some.injEq, Prod.mk.injEq] at H
 obtain ⟨rfl, rfl⟩ := H
 go_enter Tryd.func59, Tryd.ntmps59
 go_wp2_with (first | ((with_reducible refine zbh (N := 4) rfl ?_); refine zbj ?hg (N := 4) ?hd (cs := #[.slice none 0 0, .slice none 0 0]) (t := 40) ?hr ?_; (case hd => rfl); (case hg => rfl); (case hr => first | (go_simp; done) | (go_simp; rfl)); intro gb423 hg w6 hbox hb; have n0_ := zA (zaf (zB HB) hb); have n1_ := zA (hbox); have n2_ := zA ((by rw [hg]; exact (za (zB HB)) : w.heap.size ≤ gb423)); have n3_ := zA ((by rw [hg]; exact (za (zB HB)) : w.heap.size ≤ gb423)); clear HB; have HB := n0_; have BK423 := n1_; have GW423 := n2_; have GE423 := n3_; clear n0_ n1_ n2_ n3_ hb hbox hg) | ((with_reducible refine zah (f := 19) rfl ?_); refine zba (some 12) rfl rfl Tryd.func19 (by kernel_rfl) rfl #[.slice A0 l0.length c0, .slice A1 l1.length c1] rfl (zE) ?_; (with_reducible refine (zbv.calls k (fun k_ => k_ < w.heap.size) _ _ l0 (fun k_ => k_ < w.heap.size) _ _ l1 t424 _ ?side1 ?side2 A3.out).mono ?_); (case side1 => exact Kd.V_mk HC0.out (Kd.F_below (Kd.C_F (Kd.heap_int .i64) HR0.out) (zB HB))); (case side2 => exact Kd.V_mk HC1.out (Kd.F_below (Kd.C_F (Kd.heap_int .i64) HR1.out) (zB HB))); rintro e w7 ⟨v425, rfl, ho0, hb⟩; refine ⟨_, rfl, ?_⟩; have n0_ := zA (Kd.zbi (Kd.zak (ok' := fun k_ => k_ ≠ gb423) ho0 (fun k_ hk_ => Or.elim hk_ (fun hs_ => Or.elim hs_ (fun hs_ => fun e_ => Nat.not_le.2 hs_ (by rw [e_]; exact GW423.out)) (fun hs_ => fun e_ => Nat.not_le.2 hs_ (by rw [e_]; exact GW423.out))) (fun hn_ => (Kd.freshB (g := gb423) (o := .cells #[.slice none 0 0, .slice none 0 0] 40 (0, 0)) (zK BK423) k_ hn_)))) (za (zB HB))); have n1_ := zA (zaa (g := gb423) (o := .cells #[.slice none 0 0, .slice none 0 0] 40 (0, 0)) (zK BK423) hb); have n2_ := zA (zaf (zB HB) hb); clear BK423 HB; have HO426 := n0_; have BK423 := n1_; have HB := n2_; clear n0_ n1_ n2_; (try clear hb); (try clear hb2); (try clear hk); (try clear hi); (try clear ho0); obtain ⟨Ao8, co8, eo8⟩ := Kd.zbt HO426.out; subst eo8) | ((with_reducible refine zah (f := 57) rfl ?_); refine zba (some 16) rfl rfl Tryd.func57 (by kernel_rfl) rfl #[.slice A0 l0.length c0, .slice Ao8 t424.length co8] rfl (zE) ?_; (with_reducible refine (zau.calls k _ _ l0 _ _ t424 t427 t428 _ ?side1 ?side2 ?side3 ?side4 A4.out).mono ?_); (case side1 => exact zJ (Kd.za6 HR0.out HB.out)); (case side2 => exact HC0.out); (case side3 => exact zJ (Kd.zas HO426.out).2.2); (case side4 => exact (Kd.zas HO426.out).2.1); rintro e w9 ⟨v429, v431, rfl, ho0, ho1, hb⟩; refine ⟨_, rfl, ?_⟩; have n0_ := zA (Kd.zak (Kd.zch (Kd.zch (Kd.V_old (zV HO426) hb) (Kd.za1 ho0)) (Kd.za1 ho1)) (fun _ h_ => h_.1)); have n1_ := zA (Kd.zbm ho0 (za (zB HB))); have n2_ := zA (Kd.zbm ho1 (za (zB HB))); have n3_ := zA (zaa (g := gb423) (o := .cells #[.slice none 0 0, .slice none 0 0] 40 (0, 0)) (zK BK423) hb); have n4_ := zA (zaf (zB HB) hb); clear HO426 BK423 HB; have HO426 := n0_; have HO430 := n1_; have HO432 := n2_; have BK423 := n3_; have HB := n4_; clear n0_ n1_ n2_ n3_ n4_; (try clear hb); (try clear hb2); (try clear hk); (try clear hi); (try clear ho0); (try clear ho1)) | ((with_reducible refine zah (f := 57) rfl ?_); refine zba (some 22) rfl rfl Tryd.func57 (by kernel_rfl) rfl #[.slice A1 l1.length c1, .slice Ao8 t424.length co8] rfl (zE) ?_; (with_reducible refine (zau.calls k _ _ l1 _ _ t424 t433 t434 _ ?side1 ?side2 ?side3 ?side4 A5.out).mono ?_); (case side1 => exact zJ (Kd.za6 HR1.out HB.out)); (case side2 => exact HC1.out); (case side3 => exact zJ (Kd.zas HO426.out).2.2); (case side4 => exact (Kd.zas HO426.out).2.1); rintro e w10 ⟨v435, v437, rfl, ho0, ho1, hb⟩; refine ⟨_, rfl, ?_⟩; have n0_ := zA (Kd.zak (Kd.zch (Kd.zch (Kd.V_old (zV HO426) hb) (Kd.za1 ho0)) (Kd.za1 ho1)) (fun _ h_ => h_.1)); have n1_ := zA (Kd.zav (Kd.zci (Kd.zci (Kd.R_old (zR HO430) hb) (Kd.za1 ho0)) (Kd.za1 ho1)) (fun _ h_ => h_.1)); have n2_ := zA (Kd.zav (Kd.zci (Kd.zci (Kd.R_old (zR HO432) hb) (Kd.za1 ho0)) (Kd.za1 ho1)) (fun _ h_ => h_.1)); have n3_ := zA (Kd.zbm (Kd.zbk (Kd.zbk ho0 (Kd.R_lt (zR HO430))) (Kd.R_lt (zR HO432))) (za (zB HB))); have n4_ := zA (Kd.zbm (Kd.zbk (Kd.zbk ho1 (Kd.R_lt (zR HO430))) (Kd.R_lt (zR HO432))) (za (zB HB))); have n5_ := zA (zaa (g := gb423) (o := .cells #[.slice none 0 0, .slice none 0 0] 40 (0, 0)) (zK BK423) hb); have n6_ := zA (zaf (zB HB) hb); clear HO426 HO430 HO432 BK423 HB; have HO426 := n0_; have HO430 := n1_; have HO432 := n2_; have HO436 := n3_; have HO438 := n4_; have BK423 := n5_; have HB := n6_; clear n0_ n1_ n2_ n3_ n4_ n5_ n6_; (try clear hb); (try clear hb2); (try clear hk); (try clear hi); (try clear ho0); (try clear ho1); obtain ⟨Ao11, co11, eo11⟩ := Kd.zbn HO436.out; subst eo11; obtain ⟨Ao12, co12, eo12⟩ := Kd.zbn HO430.out; subst eo12; have hcz13_0 : w10.cell? ⟨gb423, 0, none⟩ = some (.slice none 0 0) := (zad BK423.out 0).trans rfl; have hcz13_1 : w10.cell? ⟨gb423, 1, none⟩ = some (.slice none 0 0) := (zad BK423.out 1).trans rfl; have hfz13_0 := zal BK423.out 0; have hfz13_1 := zal BK423.out 1))
 refine bodyPost_ret (results_cell_row rfl _ _ gb423 40 #[.slice Ao12 t427.length co12, .slice Ao11 t433.length co11] (0, 0) _ rfl (by (with_reducible repeat (first | refine zab ?_ _ | refine zae ?_ | refine zac ?_ _)); refine zbo (cs := #[.slice Ao12 t427.length co12, .slice none 0 0]) ?_ 1 _ rfl; (with_reducible repeat (first | refine zab ?_ _ | refine zae ?_ | refine zac ?_ _)); refine zbo (cs := #[.slice none 0 0, .slice none 0 0]) ?_ 0 _ rfl; (with_reducible repeat (first | refine zab ?_ _ | refine zae ?_ | refine zac ?_ _)); exact BK423.out) Tryd.underlying40 rfl (by kernel_rfl)) rfl ?_
 exact ⟨_, _, zW, by (with_reducible repeat (first | apply Kd.za3 | apply Kd.za4 | apply Kd.zbb)); exact Kd.zav (Kd.R_far (p := ⟨gb423, 1, none⟩) (Kd.R_far (p := ⟨gb423, 0, none⟩) (Kd.zbe HO430.out BK423.out (by decide)) (fun _ hk => hk.2) (.slice Ao12 t427.length co12)) (fun _ hk => hk.2) (.slice Ao11 t433.length co11)) (fun _ hk => hk.1.1.2), by (with_reducible repeat (first | apply Kd.za3 | apply Kd.za4 | apply Kd.zbb)); exact Kd.zav (Kd.R_far (p := ⟨gb423, 1, none⟩) (Kd.R_far (p := ⟨gb423, 0, none⟩) (Kd.zbe HO436.out BK423.out (by decide)) (fun _ hk => hk.2) (.slice Ao12 t427.length co12)) (fun _ hk => hk.2) (.slice Ao11 t433.length co11)) (fun _ hk => hk.1.1.2), zB HB⟩
end Go.Proofs.YtfjkamhcabckeaaDoor.P
end
