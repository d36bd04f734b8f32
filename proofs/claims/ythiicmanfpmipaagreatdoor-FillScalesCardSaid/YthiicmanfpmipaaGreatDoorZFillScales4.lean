-- Written by a program of this session (wip/tools/shake.py) out of its own texts and of the kit's printed ones; not trusted: Lean checks it.
import Derived.Test.YthiicmanfpmipaaGreatDoorZFillScales3
set_option maxHeartbeats 8000000
set_option maxRecDepth 100000
set_option linter.unusedVariables false
set_option linter.unusedSimpArgs false
section
namespace Go.Proofs.YthiicmanfpmipaaGreatDoor.P
open Go.RowKit Go.Proofs.YthiicmanfpmipaaGreatDoorW.PrintWords Go.Proofs.YthiicmanfpmipaaGreatDoorW.PrintLast Go.Proofs.YthiicmanfpmipaaGreatDoorW.PrintMore
attribute [local go_sem] zci zcj zcs zcr zb9 zca zcg zch
def zce.l0 : Nat → List Int → List ByteArray → Option (ByteArray)
 | 0, _, _ => none
 | k + 1, x0, x3 => (zcm.f k x0 1000000000000000000).bind fun bt353 => ((zbs.f bt353.2 10).bind fun t357 => (if (bt353.1.length : Int) = 0 then (if x3.length < 8796093022208 then ((zaf.f k (x3 ++ [t357])).bind fun t361 => ((strings_Join.f t361 (⟨#[]⟩ : ByteArray)).bind fun t362 => (some t362))) else (none)) else ((strings_Repeat.f (⟨#[48]⟩ : ByteArray) (wrap64 (18 - (t357.size : Int)))).bind fun t363 => (if t363.size + t357.size ≤ 9223372036854775807 then (if x3.length < 8796093022208 then (zce.l0 k bt353.1 (x3 ++ [t363 ++ t357])) else (none)) else (none)))))
def zce.f (k : Nat) (l0 : List Int) : Option (ByteArray) := zce.l0 k l0 ([] : List ByteArray)
theorem zce.calls (k : Nat) (P0_ : Nat → Prop) (A0 : Option Addr) (c0 : Nat) (l0 : List Int) (r : ByteArray) (w : World) (hs0 : Kd.V (Kd.int .u64) 82 w w.heap.size (fun k_ => P0_ k_) (.slice A0 l0.length c0) l0) (hG : Glob w) (h : zce.f k l0 = some r) :
  Calls Tryz.prog 66 #[.slice A0 l0.length c0] w fun e w' => e = .returned (.string r) ∧ Below w.heap.size w w' := by
 have HO0 := zA (show Kd.V (Kd.int .u64) 82 w w.heap.size (fun k_ => (P0_ k_ ∨ w.heap.size ≤ k_)) (.slice A0 l0.length c0) l0 from Kd.zaq hs0 (fun k_ hk => .inl hk))
 have HG := zA hG
 clear hG
 have HB := zA (Below.refl w.heap.size w)
 have H : (zce.l0 k l0 ([] : List ByteArray)) = some r := h
 clear h
 have H' := zA H
 clear H
 go_enter Tryz.func66, Tryz.ntmps66
 go_wp2
 go_loopg [0, 3] k (fun kq v0 v3 w' => ∃ (x0_1 : List Int) (x3_1 : List ByteArray), Aside0 (zce.l0 kq x0_1 x3_1 = some r) ∧ Aside0 (kq ≤ k) ∧ Aside0 (Kd.V (Kd.int .u64) 82 w' w.heap.size (fun k_ => (P0_ k_ ∨ w.heap.size ≤ k_) ∧ some k_ ≠ (v3 : Value).ownBlock) v0 x0_1) ∧ Aside0 (Kd.R Kd.string 9 w' w.heap.size (fun k_ => (w.heap.size ≤ k_)) v3 x3_1) ∧ Aside0 (Below w.heap.size w w'))
 case atStart => exact ⟨(l0), (([] : List ByteArray)), H', ⟨Nat.le_refl _⟩, ⟨by (with_reducible repeat (first | apply Kd.zbi | apply Kd.zbk | apply Kd.zbn)); exact Kd.zaq HO0.out (fun _ hk => ⟨hk, (by simp [Value.ownBlock])⟩)⟩, ⟨by first | exact Kd.R_nil _ _ _ _ _ | exact Kd.N_nil _ _ _ _ _ | exact Kd.V_nil _ _ _ _ _ | exact Kd.Q_nil _ _ _ _ _ | exact Kd.S_nil _ _ _ _ _⟩, ⟨zB HB⟩⟩
 case round =>
  clear H'
  obtain ⟨x0_1, x3_1, HA, HK1, HO_0, HO_3, HB⟩ := hrel
  cases gk with
  | zero => exact absurd HA.out (by simp [zce.l0])
  | succ k1 =>
   have H := HA.out
   clear HA
   simp only [zce.l0] at H
   replace H := zO H
   obtain ⟨⟨t353, t356⟩, A20, H⟩ := H
   try dsimp only at H
   have A2 := zA A20
   clear A20
   replace H := zO H
   obtain ⟨t357, A30, H⟩ := H
   try dsimp only at H
   have A3 := zA A30
   clear A30
   by_cases c4 : (t353.length : Int) = 0
   ·
    rw [if_pos c4] at H
    have c4b0 : ((t353.length : Int) == 0) = true := beq_iff_eq.mpr c4
    have c4b1 : ((t353.length : Int) != 0) = false := bne_eq_false_iff_eq.mpr c4
    clear c4
    by_cases c5 : x3_1.length < 8796093022208
    ·
     rw [if_pos c5] at H
     have LMc5 := zA c5
     clear c5
     obtain ⟨y358, hy358⟩ : ∃ y_ : List ByteArray, y_ = (x3_1 ++ [t357]) := ⟨_, rfl⟩
     replace H : ((zaf.f k1 y358).bind fun t361 => ((strings_Join.f t361 (⟨#[]⟩ : ByteArray)).bind fun t362 => (some t362))) = some r := by first | (rw [hy358]; with_reducible exact H) | (have H2_ := (Option.bind_some _ _).symm.trans H; rw [hy358]; with_reducible exact H2_) | (have H2_ := (Option.bind_some _ _).symm.trans H; with_reducible exact H2_) | with_reducible exact H | (rw [hy358]; exact H) | exact H
     have Ny358 := zA hy358
     clear hy358
     replace H := zO H
     obtain ⟨t361, A60, H⟩ := H
     try dsimp only at H
     have A6 := zA A60
     clear A60
     replace H := zO H
     obtain ⟨t362, A70, H⟩ := H
     try dsimp only at H
     have A7 := zA A70
     clear A70
     obtain rfl := Option.some.inj H
     obtain ⟨Ao8, co8, eo8⟩ := Kd.za9 HO_0.out
     subst eo8
     go_wp2_with (first | ((with_reducible refine zad (f := 115) rfl ?_); refine zaz (some 8) rfl rfl Tryz.func115 (by kernel_rfl) rfl #[.slice Ao8 x0_1.length co8, .int .u64 1000000000000000000] rfl (zE) ?_; (with_reducible refine (zcm.calls k1 _ _ x0_1 1000000000000000000 t353 t356 _ ?side1 ?side2 A2.out).mono ?_); (case side1 => exact zJ (Kd.zan HO_0.out).2.2); (case side2 => exact (Kd.zan HO_0.out).2.1); rintro e w9 ⟨v354, rfl, ho0, hb⟩; refine ⟨_, rfl, ?_⟩; have n0_ := zA (Kd.za1 (zV HO_0) hb); have n1_ := zA (Kd.zbt (zR HO_3) hb); have n2_ := zA (Kd.za6 (Kd.zaq (ok' := fun k_ => (P0_ k_ ∨ w.heap.size ≤ k_) ∧ some k_ ≠ (u3 : Value).ownBlock) ho0 (fun k_ hk_ => ⟨(.inr (Nat.le_trans (za (zB HB)) hk_)), (Kd.fresh' (Kd.R_lt (zR HO_3)) k_ hk_)⟩)) (za (zB HB))); have n3_ := zA (zab (zB HB) hb); clear HO_0 HO_3 HB; have HO_0 := n0_; have HO_3 := n1_; have HO355 := n2_; have HB := n3_; clear n0_ n1_ n2_ n3_; (try clear hb); (try clear hb2); (try clear hk); (try clear hi); (try clear ho0)) | ((with_reducible refine zad (f := 116) rfl ?_); refine zaz (some 12) rfl rfl Tryz.func116 (by kernel_rfl) rfl #[.int .u64 t356, .int .i64 10] rfl (zE) ?_; (with_reducible refine (zbs.calls t356 10 t357 _ ?side1 A3.out).mono ?_); (case side1 => exact Glob.below HG.out (zB HB)); rintro e w10 ⟨rfl, hb⟩; refine ⟨_, rfl, ?_⟩; have n0_ := zA (Kd.za1 (zV HO_0) hb); have n1_ := zA (Kd.zbt (zR HO_3) hb); have n2_ := zA (Kd.za1 (zV HO355) hb); have n3_ := zA (zab (zB HB) hb); clear HO_0 HO_3 HO355 HB; have HO_0 := n0_; have HO_3 := n1_; have HO355 := n2_; have HB := n3_; clear n0_ n1_ n2_ n3_; (try clear hb); (try clear hb2); (try clear hk); (try clear hi); obtain ⟨Ao11, co11, eo11⟩ := Kd.za9 HO355.out; subst eo11) | ((with_reducible refine zbx (b := .append) (xs := #[.tmp 16, .tmp 18]) rfl ?_); at_builtin; refine Kd.zda Kd.string (w0 := w) w.heap.size rfl (.tmp 16) (.tmp 18) 179 9 (.string ⟨#[]⟩) 16 rfl Tryz.underlying179 info9 rfl (by decide) (by omega) u3 x3_1 t357 [.string t357] (fun k_ => (w.heap.size ≤ k_)) (fun _ => False) rfl rfl ?aP (fun _ hk => hk.elim) ?aF ?aO ?aB ?aS ?aL ?_; (case aP => exact rfl); (case aB => exact (zB HB)); (case aF => exact (fun k_ hk => (Nat.le_trans (za (zB HB)) hk))); (case aO => exact (zR HO_3)); (case aS => exact (za (zB HB))); (case aL => have := LMc5.out; omega); intro v359 w12 ho hb hg hat; rw [← Ny358.out] at ho; have n0_ := zA (Kd.V_afterv (ok := (fun k_ => (P0_ k_ ∨ w.heap.size ≤ k_))) (zV HO_0) hg hat); have n1_ := zA (Kd.V_afterv (ok := (fun k_ => (P0_ k_ ∨ w.heap.size ≤ k_))) (zV HO355) hg hat); have n2_ := zA (hb); have n3_ := zA (ho); clear HO_0 HO355 HB HO_3; have HO_0 := n0_; have HO355 := n1_; have HB := n2_; have HO360 := n3_; clear n0_ n1_ n2_ n3_ ho hb hg hat; obtain ⟨Ao13, co13, eo13⟩ := Kd.zbm HO360.out; subst eo13) | ((with_reducible refine zad (f := 118) rfl ?_); refine zaz (some 30) rfl rfl Tryz.func118 (by kernel_rfl) rfl #[.slice Ao13 y358.length co13] rfl (zE) ?_; (with_reducible refine (zaf.calls k1 (fun k_ => some k_ = (.slice Ao13 y358.length co13 : Value).ownBlock) (.slice Ao13 y358.length co13) y358 t361 w _ ?side1 ?side2 A6.out).mono ?_); (case side1 => repeat (first | (with_reducible first | exact HB.out | apply za7 | apply zbd | apply zbe) | exact HB.out)); (case side2 => exact Kd.zdc rfl HO360.out); rintro e w14 ⟨rfl, hy0, hb, hkp⟩; refine ⟨_, rfl, ?_⟩; have n0_ := zA (Kd.zaq (ok' := fun k_ => (P0_ k_ ∨ w.heap.size ≤ k_) ∧ some k_ ≠ (.slice Ao13 y358.length co13 : Value).ownBlock) (Kd.V_keptB (HO_0.out) hkp (fun k_ hk_ hs_ => (hk_.2) hs_)) (fun k_ hk_ => ⟨hk_.1.1, hk_.1.2⟩)); have n1_ := zA (Kd.zaq (ok' := fun k_ => (P0_ k_ ∨ w.heap.size ≤ k_) ∧ some k_ ≠ (.slice Ao13 y358.length co13 : Value).ownBlock) (Kd.V_keptB (HO355.out) hkp (fun k_ hk_ hs_ => (hk_.2) hs_)) (fun k_ hk_ => ⟨hk_.1.1, hk_.1.2⟩)); have n2_ := zA (Kd.R_reok rfl hy0 (fun k_ e_ => HO360.out.1 k_ e_)); have n3_ := zA (hb); clear HO_0 HO355 HO360 HB; have HO_0 := n0_; have HO355 := n1_; have HO360 := n2_; have HB := n3_; clear n0_ n1_ n2_ n3_; (try clear hb); (try clear hkp); (try clear hy0)) | ((with_reducible refine zad (f := 119) rfl ?_); refine zaz (some 32) rfl rfl Tryz.func119 (by kernel_rfl) rfl #[.slice Ao13 t361.length co13, .string (⟨#[]⟩ : ByteArray)] rfl (by (try simp only [List.map_toArray, List.map_cons, List.map_nil]); first | done | (rw [show t361.length = y358.length from (Kd.zav HO360.out).1.symm] <;> rfl) | rfl | (simp only [List.length_drop, List.length_take]; rfl) | ((simp [Act.eval, wrap64]) <;> omega) | ((simp [Act.eval, wrap64, IntKind.wrap, IntKind.bits, IntKind.signed]) <;> omega)) ?_; (with_reducible refine (strings_Join.calls _ _ t361 (⟨#[]⟩ : ByteArray) t362 _ ?side1 ?side2 A7.out).mono ?_); (case side1 => exact zJ (Kd.zav HO360.out).2.2); (case side2 => rw [show t361.length = y358.length from (Kd.zav HO360.out).1.symm]; exact (Kd.zav HO360.out).2.1); rintro e w15 ⟨rfl, hb⟩; refine ⟨_, rfl, ?_⟩; have n0_ := zA (Kd.za1 (zV HO_0) hb); have n1_ := zA (Kd.za1 (zV HO355) hb); have n2_ := zA (Kd.zbt (zR HO360) hb); have n3_ := zA (zab (zB HB) hb); clear HO_0 HO355 HO360 HB; have HO_0 := n0_; have HO355 := n1_; have HO360 := n2_; have HB := n3_; clear n0_ n1_ n2_ n3_; (try clear hb); (try clear hb2); (try clear hk); (try clear hi)))
     go_ret
     exact ⟨zW, zB HB⟩
    ·
     rw [if_neg c5] at H
     exact absurd H (by simp)
   ·
    rw [if_neg c4] at H
    have c4b0 : ((t353.length : Int) == 0) = false := beq_eq_false_iff_ne.mpr c4
    have c4b1 : ((t353.length : Int) != 0) = true := bne_iff_ne.mpr c4
    have c4b2 : ¬ (t353 = []) := fun h_ => c4 (by rw [h_]; rfl)
    replace H := zO H
    obtain ⟨t363, A160, H⟩ := H
    try dsimp only at H
    have A16 := zA A160
    clear A160
    by_cases c17 : t363.size + t357.size ≤ 9223372036854775807
    ·
     rw [if_pos c17] at H
     have c17b0 := eq_true c17
     have c17b1 : decide (t363.size + t357.size ≤ 9223372036854775807) = true := decide_eq_true c17
     try have c17b2 : (9223372036854775807 < t363.size + t357.size) = False := eq_false (Nat.not_lt.2 c17)
     by_cases c18 : x3_1.length < 8796093022208
     ·
      rw [if_pos c18] at H
      have LMc18 := zA c18
      clear c18
      obtain ⟨y364, hy364⟩ : ∃ y_ : List ByteArray, y_ = (x3_1 ++ [t363 ++ t357]) := ⟨_, rfl⟩
      replace H : (zce.l0 k1 t353 y364) = some r := by first | (rw [hy364]; with_reducible exact H) | (have H2_ := (Option.bind_some _ _).symm.trans H; rw [hy364]; with_reducible exact H2_) | (have H2_ := (Option.bind_some _ _).symm.trans H; with_reducible exact H2_) | with_reducible exact H | (rw [hy364]; exact H) | exact H
      have Ny364 := zA hy364
      clear hy364
      have H' := zA H
      clear H
      obtain ⟨Ao19, co19, eo19⟩ := Kd.za9 HO_0.out
      subst eo19
      go_wp2_with (first | ((with_reducible refine zad (f := 115) rfl ?_); refine zaz (some 8) rfl rfl Tryz.func115 (by kernel_rfl) rfl #[.slice Ao19 x0_1.length co19, .int .u64 1000000000000000000] rfl (zE) ?_; (with_reducible refine (zcm.calls k1 _ _ x0_1 1000000000000000000 t353 t356 _ ?side1 ?side2 A2.out).mono ?_); (case side1 => exact zJ (Kd.zan HO_0.out).2.2); (case side2 => exact (Kd.zan HO_0.out).2.1); rintro e w20 ⟨v354, rfl, ho0, hb⟩; refine ⟨_, rfl, ?_⟩; have n0_ := zA (Kd.za1 (zV HO_0) hb); have n1_ := zA (Kd.zbt (zR HO_3) hb); have n2_ := zA (Kd.za6 (Kd.zaq (ok' := fun k_ => (P0_ k_ ∨ w.heap.size ≤ k_) ∧ some k_ ≠ (u3 : Value).ownBlock) ho0 (fun k_ hk_ => ⟨(.inr (Nat.le_trans (za (zB HB)) hk_)), (Kd.fresh' (Kd.R_lt (zR HO_3)) k_ hk_)⟩)) (za (zB HB))); have n3_ := zA (zab (zB HB) hb); clear HO_0 HO_3 HB; have HO_0 := n0_; have HO_3 := n1_; have HO355 := n2_; have HB := n3_; clear n0_ n1_ n2_ n3_; (try clear hb); (try clear hb2); (try clear hk); (try clear hi); (try clear ho0)) | ((with_reducible refine zad (f := 116) rfl ?_); refine zaz (some 12) rfl rfl Tryz.func116 (by kernel_rfl) rfl #[.int .u64 t356, .int .i64 10] rfl (zE) ?_; (with_reducible refine (zbs.calls t356 10 t357 _ ?side1 A3.out).mono ?_); (case side1 => exact Glob.below HG.out (zB HB)); rintro e w21 ⟨rfl, hb⟩; refine ⟨_, rfl, ?_⟩; have n0_ := zA (Kd.za1 (zV HO_0) hb); have n1_ := zA (Kd.zbt (zR HO_3) hb); have n2_ := zA (Kd.za1 (zV HO355) hb); have n3_ := zA (zab (zB HB) hb); clear HO_0 HO_3 HO355 HB; have HO_0 := n0_; have HO_3 := n1_; have HO355 := n2_; have HB := n3_; clear n0_ n1_ n2_ n3_; (try clear hb); (try clear hb2); (try clear hk); (try clear hi); obtain ⟨Ao22, co22, eo22⟩ := Kd.za9 HO355.out; subst eo22) | ((with_reducible refine zad (f := 117) rfl ?_); refine zaz (some 24) rfl rfl Tryz.func117 (by kernel_rfl) rfl #[.string (⟨#[48]⟩ : ByteArray), .int .i64 (wrap64 (18 - (t357.size : Int)))] rfl (zE) ?_; (with_reducible refine (strings_Repeat.calls (⟨#[48]⟩ : ByteArray) (wrap64 (18 - (t357.size : Int))) t363 _ A16.out).mono ?_); rintro e w23 ⟨rfl, hb⟩; refine ⟨_, rfl, ?_⟩; have n0_ := zA (Kd.za1 (zV HO_0) hb); have n1_ := zA (Kd.zbt (zR HO_3) hb); have n2_ := zA (Kd.za1 (zV HO355) hb); have n3_ := zA (zab (zB HB) hb); clear HO_0 HO_3 HO355 HB; have HO_0 := n0_; have HO_3 := n1_; have HO355 := n2_; have HB := n3_; clear n0_ n1_ n2_ n3_; (try clear hb); (try clear hb2); (try clear hk); (try clear hi)) | ((with_reducible refine zbx (b := .append) (xs := #[.tmp 20, .tmp 27]) rfl ?_); at_builtin; refine Kd.zda Kd.string (w0 := w) w.heap.size rfl (.tmp 20) (.tmp 27) 179 9 (.string ⟨#[]⟩) 16 rfl Tryz.underlying179 info9 rfl (by decide) (by omega) u3 x3_1 (t363 ++ t357) [.string (t363 ++ t357)] (fun k_ => (w.heap.size ≤ k_)) (fun _ => False) rfl rfl ?aP (fun _ hk => hk.elim) ?aF ?aO ?aB ?aS ?aL ?_; (case aP => exact rfl); (case aB => exact (zB HB)); (case aF => exact (fun k_ hk => (Nat.le_trans (za (zB HB)) hk))); (case aO => exact (zR HO_3)); (case aS => exact (za (zB HB))); (case aL => have := LMc18.out; omega); intro v365 w24 ho hb hg hat; rw [← Ny364.out] at ho; have n0_ := zA (Kd.V_afterv (ok := (fun k_ => (P0_ k_ ∨ w.heap.size ≤ k_))) (zV HO_0) hg hat); have n1_ := zA (Kd.V_afterv (ok := (fun k_ => (P0_ k_ ∨ w.heap.size ≤ k_))) (zV HO355) hg hat); have n2_ := zA (hb); have n3_ := zA (ho); clear HO_0 HO355 HB HO_3; have HO_0 := n0_; have HO355 := n1_; have HB := n2_; have HO366 := n3_; clear n0_ n1_ n2_ n3_ ho hb hg hat))
      go_roundg k1
      case measure => have := HK1.out; omega
      case rel => exact ⟨(t353), (y364), H', ⟨by have := HK1.out; omega⟩, ⟨zV HO355⟩, ⟨zR HO366⟩, ⟨zB HB⟩⟩
     ·
      rw [if_neg c18] at H
      exact absurd H (by simp)
    ·
     rw [if_neg c17] at H
     exact absurd H (by simp)
def zay.f (k : Nat) (l0_0 : List Int) (l0_1 : List Int) : Option (ByteArray) := (zcq.f k).bind fun t368 => ((zco.f l0_1 t368).bind fun t371 => (if t371 = 0 then ((zce.f k l0_0).bind fun t372 => (some t372)) else ((zce.f k l0_0).bind fun t373 => (if t373.size + 1 ≤ 9223372036854775807 then ((zce.f k l0_1).bind fun t374 => (if (t373 ++ (⟨#[47]⟩ : ByteArray)).size + t374.size ≤ 9223372036854775807 then (some ((t373 ++ (⟨#[47]⟩ : ByteArray)) ++ t374)) else (none))) else (none)))))
def zay.T3 : Bool × List (List Nat × List Nat) := (true, [([], []), ([0], [0]), ([1], [1]), ([2], [2]), ([], []), ([4], [4]), ([5, 2], [5]), ([3, 6], [3, 6]), ([7, 6, 0, 1, 2, 3, 4, 5, 6, 7], [7])])
def zay.B3 : List Nat := [0, 1, 3, 7, 0, 16, 55, 127, 255]
theorem zay.tab3 : rtab .any (opsOf Tryz.f33 3) = zay.T3 := by kernel_rfl
theorem zay.bits3 : waitsOk zay.T3.2 zay.B3 = true := by kernel_rfl
theorem zay.calls (k : Nat) (A0_0 : Option Addr) (c0_0 : Nat) (l0_0 : List Int) (A0_1 : Option Addr) (c0_1 : Nat) (l0_1 : List Int) (r : ByteArray) (w : World) (hr0_0 : Kd.C (Kd.int .u64) w A0_0 l0_0.length l0_0) (hc0_0 : l0_0.length ≤ c0_0) (hr0_1 : Kd.C (Kd.int .u64) w A0_1 l0_1.length l0_1) (hc0_1 : l0_1.length ≤ c0_1) (hG : Glob w) (h : zay.f k l0_0 l0_1 = some r) :
  Calls Tryz.prog 33 #[.agg #[.slice A0_0 l0_0.length c0_0, .slice A0_1 l0_1.length c0_1]] w fun e w' => e = .returned (.string r) ∧ Below w.heap.size w w' := by
 have hu29 := Tryz.underlying29
 have HR0_0 := zA hr0_0
 have HC0_0 := zA hc0_0
 clear hr0_0 hc0_0
 have HR0_1 := zA hr0_1
 have HC0_1 := zA hc0_1
 clear hr0_1 hc0_1
 have HG := zA hG
 clear hG
 have HB := zA (Below.refl w.heap.size w)
 have H : ((zcq.f k).bind fun t368 => ((zco.f l0_1 t368).bind fun t371 => (if t371 = 0 then ((zce.f k l0_0).bind fun t372 => (some t372)) else ((zce.f k l0_0).bind fun t373 => (if t373.size + 1 ≤ 9223372036854775807 then ((zce.f k l0_1).bind fun t374 => (if (t373 ++ (⟨#[47]⟩ : ByteArray)).size + t374.size ≤ 9223372036854775807 then (some ((t373 ++ (⟨#[47]⟩ : ByteArray)) ++ t374)) else (none))) else (none)))))) = some r := h
 clear h
 replace H := zO H
 obtain ⟨t368, A20, H⟩ := H
 try dsimp only at H
 have A2 := zA A20
 clear A20
 replace H := zO H
 obtain ⟨t371, A30, H⟩ := H
 try dsimp only at H
 have A3 := zA A30
 clear A30
 by_cases c4 : t371 = 0
 ·
  rw [if_pos c4] at H
  have c4b0 : (t371 == 0) = true := beq_iff_eq.mpr c4
  have c4b1 : (t371 != 0) = false := bne_eq_false_iff_eq.mpr c4
  clear c4
  replace H := zO H
  obtain ⟨t372, A50, H⟩ := H
  try dsimp only at H
  have A5 := zA A50
  clear A50
  obtain rfl := Option.some.inj H
  go_enter Tryz.func33, Tryz.ntmps33
  try go_wp2_with (first | ((with_reducible refine za4 (N := 1) rfl ?_); refine zba ?hg (N := 1) ?hd (cs := #[.slice A0_0 l0_0.length c0_0, .slice A0_1 l0_1.length c0_1]) (t := 29) ?hr ?_; (case hd => rfl); (case hg => rfl); (case hr => first | (go_simp; done) | (go_simp; rfl)); intro gb367 hg w6 hbox hb; have n0_ := zA (zab (zB HB) hb); have n1_ := zA (hbox); have n2_ := zA ((by rw [hg]; exact (za (zB HB)) : w.heap.size ≤ gb367)); have n3_ := zA ((by rw [hg]; exact (za (zB HB)) : w.heap.size ≤ gb367)); clear HB; have HB := n0_; have BK367 := n1_; have GW367 := n2_; have GE367 := n3_; clear n0_ n1_ n2_ n3_ hb hbox hg))
  have n0_ := zA (zah BK367.out)
  have n1_ := zA (zbe HB.out)
  clear BK367 HB
  have BK367 := n0_
  have HB := n1_
  clear n0_ n1_
  refine zdi (n := 5) (S := fun w' => w'.cell? ⟨gb367, 0, none⟩ = some (.slice A0_0 l0_0.length c0_0) ∧ w'.cell? ⟨gb367, 1, none⟩ = some (.slice A0_1 l0_1.length c0_1)) (ds := []) #[false, false, false, false, false] (by kernel_rfl) rfl rfl ⟨(zac BK367.out 0).trans rfl, (zac BK367.out 1).trans rfl⟩ (fun hHeld => ?_)
  generalize w6.drew = w7 at BK367 HB hHeld ⊢
  refine pure_ (i := 0) (N := some 3) (v := ?_) (a' := ?_) #[true, false, false, false, false] rfl rfl (by kernel_rfl) (fun _ _ _ h => h) (Or.inl ⟨by rfl, ?_⟩) ?_ ?_
  rotate_left
  ·
   intro w'
   go_simp
   with_reducible rfl
  rotate_left
  ·
   simp only [Act.put, zs1, zs2, zs3, i64_w, i32_w]
   rfl
  refine take_ (i := 1) (N := some 4) (v := ?_) (a' := ?_) #[true, true, false, false, false] rfl rfl (by kernel_rfl) (fun _ _ _ h => h) (Or.inl ⟨by rfl, ?_⟩) hHeld ?_ ?_
  rotate_left
  ·
   rintro w' ⟨s0, s1⟩
   go_simp
   with_reducible rfl
  rotate_left
  ·
   simp only [Act.put, zs1, zs2, zs3, i64_w, i32_w]
   rfl
  refine one_ (i := 2) (N := some 5) #[true, true, true, false, false] rfl rfl (by kernel_rfl) (by decide) (fun K hK => ?_)
  refine goes_ Tryz.func43 (by kernel_rfl) rfl #[] (by rfl) rfl rfl (zE) ?_
  with_reducible refine (zcq.calls k  t368 _ A2.out).mono ?_
  rintro e w8 ⟨v369, rfl, ho0, hb⟩
  refine ⟨_, rfl, ?_⟩
  have n0_ := zA (Kd.za6 (Kd.zaq (ok' := fun k_ => k_ ≠ gb367) ho0 (fun k_ hk_ => (Kd.freshB (g := gb367) (o := .cells #[.slice A0_0 l0_0.length c0_0, .slice A0_1 l0_1.length c0_1] 29 (0, 0)) (zK BK367) k_ hk_))) (za (zB HB)))
  have n1_ := zA (zae (g := gb367) (o := .cells #[.slice A0_0 l0_0.length c0_0, .slice A0_1 l0_1.length c0_1] 29 (0, 0)) (zK BK367) hb)
  have n2_ := zA (zab (zB HB) hb)
  clear BK367 HB
  have HO370 := n0_
  have BK367 := n1_
  have HB := n2_
  clear n0_ n1_ n2_
  (try clear hb)
  (try clear hb2)
  (try clear hk)
  (try clear hi)
  (try clear ho0)
  obtain ⟨Ao9, co9, eo9⟩ := Kd.za9 HO370.out
  (first | subst eo9 | (injection eo9 with f1_ f2_ f3_; have f4_ := f1_.symm; have f5_ := f3_.symm; clear f1_ f2_ f3_; subst f4_; subst f5_))
  refine hK.out _ _ ⟨(zac BK367.out 0).trans rfl, (zac BK367.out 1).trans rfl⟩ (fun hHeld => ?_)
  clear hK K
  refine norm_ (a' := ?_) ?_ ?_
  rotate_left
  ·
   show Act.put _ (some 5) _ = _
   simp only [Act.put, zs1, zs2, zs3, i64_w, i32_w]
   rfl
  refine one_ (i := 3) (N := some 6) #[true, true, true, true, false] rfl rfl (by kernel_rfl) (by decide) (fun K hK => ?_)
  refine goes_ Tryz.func42 (by kernel_rfl) rfl #[.slice A0_1 l0_1.length c0_1, .slice Ao9 t368.length co9] (by rfl) rfl rfl (zE) ?_
  with_reducible refine (zco.calls _ _ l0_1 _ _ t368 t371 _ ?side1 ?side2 ?side3 ?side4 A3.out).mono ?_
  (case side1 => exact zJ (Kd.zax HR0_1.out HB.out))
  (case side2 => exact HC0_1.out)
  (case side3 => exact zJ (Kd.zan HO370.out).2.2)
  (case side4 => exact (Kd.zan HO370.out).2.1)
  rintro e w10 ⟨rfl, hb⟩
  refine ⟨_, rfl, ?_⟩
  have n0_ := zA (Kd.za1 (zV HO370) hb)
  have n1_ := zA (zae (g := gb367) (o := .cells #[.slice A0_0 l0_0.length c0_0, .slice A0_1 l0_1.length c0_1] 29 (0, 0)) (zK BK367) hb)
  have n2_ := zA (zab (zB HB) hb)
  clear HO370 BK367 HB
  have HO370 := n0_
  have BK367 := n1_
  have HB := n2_
  clear n0_ n1_ n2_
  (try clear hb)
  (try clear hb2)
  (try clear hk)
  (try clear hi)
  refine hK.out _ _ ⟨(zac BK367.out 0).trans rfl, (zac BK367.out 1).trans rfl⟩ (fun hHeld => ?_)
  clear hK K
  refine norm_ (a' := ?_) ?_ ?_
  rotate_left
  ·
   show Act.put _ (some 6) _ = _
   simp only [Act.put, zs1, zs2, zs3, i64_w, i32_w]
   rfl
  refine pure_ (i := 4) (N := some 7) (v := ?_) (a' := ?_) #[true, true, true, true, true] rfl rfl (by kernel_rfl) (fun _ _ _ h => h) (Or.inl ⟨by rfl, ?_⟩) ?_ ?_
  rotate_left
  ·
   intro w'
   go_simp
   with_reducible rfl
  rotate_left
  ·
   simp only [Act.put, zs1, zs2, zs3, i64_w, i32_w]
   rfl
  refine done_ (by kernel_rfl) ?_
  have hcz11_0 : w10.cell? ⟨gb367, 0, none⟩ = some (.slice A0_0 l0_0.length c0_0) := (zac BK367.out 0).trans rfl
  have hcz11_1 : w10.cell? ⟨gb367, 1, none⟩ = some (.slice A0_1 l0_1.length c0_1) := (zac BK367.out 1).trans rfl
  have hfz11_0 := zaj BK367.out 0
  have hfz11_1 := zaj BK367.out 1
  try go_wp2_with (first | ((with_reducible refine zad (f := 66) rfl ?_); refine zaz (some 10) rfl rfl Tryz.func66 (by kernel_rfl) rfl #[.slice A0_0 l0_0.length c0_0] rfl (zE) ?_; (with_reducible refine (zce.calls k (fun k_ => k_ < w.heap.size) _ _ l0_0 t372 _ ?side1 ?side2 A5.out).mono ?_); (case side1 => exact Kd.V_mk HC0_0.out (Kd.F_below (Kd.C_F (Kd.heap_int .u64) HR0_0.out) (zB HB))); (case side2 => exact Glob.below HG.out (zB HB)); rintro e w12 ⟨rfl, hb⟩; refine ⟨_, rfl, ?_⟩; have n0_ := zA (Kd.za1 (zV HO370) hb); have n1_ := zA (zae (g := gb367) (o := .cells #[.slice A0_0 l0_0.length c0_0, .slice A0_1 l0_1.length c0_1] 29 (0, 0)) (zK BK367) hb); have n2_ := zA (zab (zB HB) hb); clear HO370 BK367 HB; have HO370 := n0_; have BK367 := n1_; have HB := n2_; clear n0_ n1_ n2_; (try clear hb); (try clear hb2); (try clear hk); (try clear hi)))
  go_ret
  exact ⟨zW, zB HB⟩
 ·
  rw [if_neg c4] at H
  have c4b0 : (t371 == 0) = false := beq_eq_false_iff_ne.mpr c4
  have c4b1 : (t371 != 0) = true := bne_iff_ne.mpr c4
  replace H := zO H
  obtain ⟨t373, A130, H⟩ := H
  try dsimp only at H
  have A13 := zA A130
  clear A130
  by_cases c14 : t373.size + 1 ≤ 9223372036854775807
  ·
   rw [if_pos c14] at H
   have c14b0 := eq_true c14
   have c14b1 : decide (t373.size + 1 ≤ 9223372036854775807) = true := decide_eq_true c14
   try have c14b2 : (9223372036854775807 < t373.size + 1) = False := eq_false (Nat.not_lt.2 c14)
   replace H := zO H
   obtain ⟨t374, A150, H⟩ := H
   try dsimp only at H
   have A15 := zA A150
   clear A150
   by_cases c16 : (t373 ++ (⟨#[47]⟩ : ByteArray)).size + t374.size ≤ 9223372036854775807
   ·
    rw [if_pos c16] at H
    have c16b0 := eq_true c16
    have c16b1 : decide ((t373 ++ (⟨#[47]⟩ : ByteArray)).size + t374.size ≤ 9223372036854775807) = true := decide_eq_true c16
    try have c16b3 : (9223372036854775807 < t373.size + 1 + t374.size) = False := by have h_ := eq_false (Nat.not_lt.2 c16); rw [ByteArray.size_append] at h_; exact h_
    try have c16b2 : (9223372036854775807 < (t373 ++ (⟨#[47]⟩ : ByteArray)).size + t374.size) = False := eq_false (Nat.not_lt.2 c16)
    obtain rfl := Option.some.inj H
    go_enter Tryz.func33, Tryz.ntmps33
    try go_wp2_with (first | ((with_reducible refine za4 (N := 1) rfl ?_); refine zba ?hg (N := 1) ?hd (cs := #[.slice A0_0 l0_0.length c0_0, .slice A0_1 l0_1.length c0_1]) (t := 29) ?hr ?_; (case hd => rfl); (case hg => rfl); (case hr => first | (go_simp; done) | (go_simp; rfl)); intro gb367 hg w17 hbox hb; have n0_ := zA (zab (zB HB) hb); have n1_ := zA (hbox); have n2_ := zA ((by rw [hg]; exact (za (zB HB)) : w.heap.size ≤ gb367)); have n3_ := zA ((by rw [hg]; exact (za (zB HB)) : w.heap.size ≤ gb367)); clear HB; have HB := n0_; have BK367 := n1_; have GW367 := n2_; have GE367 := n3_; clear n0_ n1_ n2_ n3_ hb hbox hg))
    have n0_ := zA (zah BK367.out)
    have n1_ := zA (zbe HB.out)
    clear BK367 HB
    have BK367 := n0_
    have HB := n1_
    clear n0_ n1_
    refine zdi (n := 5) (S := fun w' => w'.cell? ⟨gb367, 0, none⟩ = some (.slice A0_0 l0_0.length c0_0) ∧ w'.cell? ⟨gb367, 1, none⟩ = some (.slice A0_1 l0_1.length c0_1)) (ds := []) #[false, false, false, false, false] (by kernel_rfl) rfl rfl ⟨(zac BK367.out 0).trans rfl, (zac BK367.out 1).trans rfl⟩ (fun hHeld => ?_)
    generalize w17.drew = w18 at BK367 HB hHeld ⊢
    refine pure_ (i := 0) (N := some 3) (v := ?_) (a' := ?_) #[true, false, false, false, false] rfl rfl (by kernel_rfl) (fun _ _ _ h => h) (Or.inl ⟨by rfl, ?_⟩) ?_ ?_
    rotate_left
    ·
     intro w'
     go_simp
     with_reducible rfl
    rotate_left
    ·
     simp only [Act.put, zs1, zs2, zs3, i64_w, i32_w]
     rfl
    refine take_ (i := 1) (N := some 4) (v := ?_) (a' := ?_) #[true, true, false, false, false] rfl rfl (by kernel_rfl) (fun _ _ _ h => h) (Or.inl ⟨by rfl, ?_⟩) hHeld ?_ ?_
    rotate_left
    ·
     rintro w' ⟨s0, s1⟩
     go_simp
     with_reducible rfl
    rotate_left
    ·
     simp only [Act.put, zs1, zs2, zs3, i64_w, i32_w]
     rfl
    refine one_ (i := 2) (N := some 5) #[true, true, true, false, false] rfl rfl (by kernel_rfl) (by decide) (fun K hK => ?_)
    refine goes_ Tryz.func43 (by kernel_rfl) rfl #[] (by rfl) rfl rfl (zE) ?_
    with_reducible refine (zcq.calls k  t368 _ A2.out).mono ?_
    rintro e w19 ⟨v369, rfl, ho0, hb⟩
    refine ⟨_, rfl, ?_⟩
    have n0_ := zA (Kd.za6 (Kd.zaq (ok' := fun k_ => k_ ≠ gb367) ho0 (fun k_ hk_ => (Kd.freshB (g := gb367) (o := .cells #[.slice A0_0 l0_0.length c0_0, .slice A0_1 l0_1.length c0_1] 29 (0, 0)) (zK BK367) k_ hk_))) (za (zB HB)))
    have n1_ := zA (zae (g := gb367) (o := .cells #[.slice A0_0 l0_0.length c0_0, .slice A0_1 l0_1.length c0_1] 29 (0, 0)) (zK BK367) hb)
    have n2_ := zA (zab (zB HB) hb)
    clear BK367 HB
    have HO370 := n0_
    have BK367 := n1_
    have HB := n2_
    clear n0_ n1_ n2_
    (try clear hb)
    (try clear hb2)
    (try clear hk)
    (try clear hi)
    (try clear ho0)
    obtain ⟨Ao20, co20, eo20⟩ := Kd.za9 HO370.out
    (first | subst eo20 | (injection eo20 with f1_ f2_ f3_; have f4_ := f1_.symm; have f5_ := f3_.symm; clear f1_ f2_ f3_; subst f4_; subst f5_))
    refine hK.out _ _ ⟨(zac BK367.out 0).trans rfl, (zac BK367.out 1).trans rfl⟩ (fun hHeld => ?_)
    clear hK K
    refine norm_ (a' := ?_) ?_ ?_
    rotate_left
    ·
     show Act.put _ (some 5) _ = _
     simp only [Act.put, zs1, zs2, zs3, i64_w, i32_w]
     rfl
    refine one_ (i := 3) (N := some 6) #[true, true, true, true, false] rfl rfl (by kernel_rfl) (by decide) (fun K hK => ?_)
    refine goes_ Tryz.func42 (by kernel_rfl) rfl #[.slice A0_1 l0_1.length c0_1, .slice Ao20 t368.length co20] (by rfl) rfl rfl (zE) ?_
    with_reducible refine (zco.calls _ _ l0_1 _ _ t368 t371 _ ?side1 ?side2 ?side3 ?side4 A3.out).mono ?_
    (case side1 => exact zJ (Kd.zax HR0_1.out HB.out))
    (case side2 => exact HC0_1.out)
    (case side3 => exact zJ (Kd.zan HO370.out).2.2)
    (case side4 => exact (Kd.zan HO370.out).2.1)
    rintro e w21 ⟨rfl, hb⟩
    refine ⟨_, rfl, ?_⟩
    have n0_ := zA (Kd.za1 (zV HO370) hb)
    have n1_ := zA (zae (g := gb367) (o := .cells #[.slice A0_0 l0_0.length c0_0, .slice A0_1 l0_1.length c0_1] 29 (0, 0)) (zK BK367) hb)
    have n2_ := zA (zab (zB HB) hb)
    clear HO370 BK367 HB
    have HO370 := n0_
    have BK367 := n1_
    have HB := n2_
    clear n0_ n1_ n2_
    (try clear hb)
    (try clear hb2)
    (try clear hk)
    (try clear hi)
    refine hK.out _ _ ⟨(zac BK367.out 0).trans rfl, (zac BK367.out 1).trans rfl⟩ (fun hHeld => ?_)
    clear hK K
    refine norm_ (a' := ?_) ?_ ?_
    rotate_left
    ·
     show Act.put _ (some 6) _ = _
     simp only [Act.put, zs1, zs2, zs3, i64_w, i32_w]
     rfl
    refine pure_ (i := 4) (N := some 7) (v := ?_) (a' := ?_) #[true, true, true, true, true] rfl rfl (by kernel_rfl) (fun _ _ _ h => h) (Or.inl ⟨by rfl, ?_⟩) ?_ ?_
    rotate_left
    ·
     intro w'
     go_simp
     with_reducible rfl
    rotate_left
    ·
     simp only [Act.put, zs1, zs2, zs3, i64_w, i32_w]
     rfl
    refine done_ (by kernel_rfl) ?_
    try go_wp2
    have n0_ := zA (Kd.zbn HO370.out)
    have n1_ := zA (zah BK367.out)
    have n2_ := zA (zbe HB.out)
    clear HO370 BK367 HB
    have HO370 := n0_
    have BK367 := n1_
    have HB := n2_
    clear n0_ n1_ n2_
    refine zdi (n := 9) (S := fun w' => w'.cell? ⟨gb367, 0, none⟩ = some (.slice A0_0 l0_0.length c0_0) ∧ w'.cell? ⟨gb367, 1, none⟩ = some (.slice A0_1 l0_1.length c0_1)) (ds := []) #[false, false, false, false, false, false, false, false, false] (by kernel_rfl) rfl rfl ⟨(zac BK367.out 0).trans rfl, (zac BK367.out 1).trans rfl⟩ (fun hHeld => ?_); refine zcn zay.tab3 zay.bits3 (fun HT_ HW_ => ?_)
    generalize w21.drew = w22 at HO370 BK367 HB hHeld ⊢
    refine pure_ (i := 0) (N := some 11) (v := ?_) (a' := ?_) #[true, false, false, false, false, false, false, false, false] rfl rfl (zas HT_.out (by kernel_rfl)) (fun _ _ _ h => h) (Or.inl ⟨by rfl, ?_⟩) ?_ ?_
    rotate_left
    ·
     intro w'
     go_simp
     with_reducible rfl
    rotate_left
    ·
     simp only [Act.put, zs1, zs2, zs3, i64_w, i32_w]
     rfl
    refine pure_ (i := 4) (N := some 15) (v := ?_) (a' := ?_) #[true, false, false, false, true, false, false, false, false] rfl rfl (zas HT_.out (by kernel_rfl)) (fun _ _ _ h => h) (Or.inl ⟨by rfl, ?_⟩) ?_ ?_
    rotate_left
    ·
     intro w'
     go_simp
     with_reducible rfl
    rotate_left
    ·
     simp only [Act.put, zs1, zs2, zs3, i64_w, i32_w]
     rfl
    refine take_ (i := 1) (N := some 12) (v := ?_) (a' := ?_) #[true, true, false, false, true, false, false, false, false] rfl rfl (zbp HT_.out HW_.out (by kernel_rfl)) (fun _ _ _ h => h) (Or.inl ⟨by rfl, ?_⟩) hHeld ?_ ?_
    rotate_left
    ·
     rintro w' ⟨s0, s1⟩
     go_simp
     with_reducible rfl
    rotate_left
    ·
     simp only [Act.put, zs1, zs2, zs3, i64_w, i32_w]
     rfl
    refine take_ (i := 5) (N := some 16) (v := ?_) (a' := ?_) #[true, true, false, false, true, true, false, false, false] rfl rfl (zbp HT_.out HW_.out (by kernel_rfl)) (fun _ _ _ h => h) (Or.inl ⟨by rfl, ?_⟩) hHeld ?_ ?_
    rotate_left
    ·
     rintro w' ⟨s0, s1⟩
     go_simp
     with_reducible rfl
    rotate_left
    ·
     simp only [Act.put, zs1, zs2, zs3, i64_w, i32_w]
     rfl
    refine one_ (i := 2) (N := some 13) #[true, true, true, false, true, true, false, false, false] rfl rfl (zb6 HT_.out (by kernel_rfl)) (by decide) (fun K hK => ?_)
    refine goes_ Tryz.func66 (by kernel_rfl) rfl #[.slice A0_0 l0_0.length c0_0] (by rfl) rfl rfl (zE) ?_
    with_reducible refine (zce.calls k (fun k_ => k_ < w.heap.size) _ _ l0_0 t373 _ ?side1 ?side2 A13.out).mono ?_
    (case side1 => exact Kd.V_mk HC0_0.out (Kd.F_below (Kd.C_F (Kd.heap_int .u64) HR0_0.out) (zB HB)))
    (case side2 => exact Glob.below HG.out (zB HB))
    rintro e w23 ⟨rfl, hb⟩
    refine ⟨_, rfl, ?_⟩
    have n0_ := zA (Kd.za1 (zV HO370) hb)
    have n1_ := zA (zae (g := gb367) (o := .cells #[.slice A0_0 l0_0.length c0_0, .slice A0_1 l0_1.length c0_1] 29 (0, 0)) (zK BK367) hb)
    have n2_ := zA (zab (zB HB) hb)
    clear HO370 BK367 HB
    have HO370 := n0_
    have BK367 := n1_
    have HB := n2_
    clear n0_ n1_ n2_
    (try clear hb)
    (try clear hb2)
    (try clear hk)
    (try clear hi)
    refine hK.out _ _ ⟨(zac BK367.out 0).trans rfl, (zac BK367.out 1).trans rfl⟩ (fun hHeld => ?_)
    clear hK K
    refine norm_ (a' := ?_) ?_ ?_
    rotate_left
    ·
     show Act.put _ (some 13) _ = _
     simp only [Act.put, zs1, zs2, zs3, i64_w, i32_w]
     rfl
    refine pure_ (i := 3) (N := some 14) (v := ?_) (a' := ?_) #[true, true, true, true, true, true, false, false, false] rfl rfl (zas HT_.out (by kernel_rfl)) (fun _ _ _ h => h) (Or.inl ⟨by rfl, ?_⟩) ?_ ?_
    rotate_left
    ·
     intro w'
     go_simp
     with_reducible rfl
    rotate_left
    ·
     simp only [Act.put, zs1, zs2, zs3, i64_w, i32_w]
     rfl
    refine one_ (i := 6) (N := some 17) #[true, true, true, true, true, true, true, false, false] rfl rfl (zb6 HT_.out (by kernel_rfl)) (by decide) (fun K hK => ?_)
    refine goes_ Tryz.func66 (by kernel_rfl) rfl #[.slice A0_1 l0_1.length c0_1] (by rfl) rfl rfl (zE) ?_
    with_reducible refine (zce.calls k (fun k_ => k_ < w.heap.size) _ _ l0_1 t374 _ ?side1 ?side2 A15.out).mono ?_
    (case side1 => exact Kd.V_mk HC0_1.out (Kd.F_below (Kd.C_F (Kd.heap_int .u64) HR0_1.out) (zB HB)))
    (case side2 => exact Glob.below HG.out (zB HB))
    rintro e w24 ⟨rfl, hb⟩
    refine ⟨_, rfl, ?_⟩
    have n0_ := zA (Kd.za1 (zV HO370) hb)
    have n1_ := zA (zae (g := gb367) (o := .cells #[.slice A0_0 l0_0.length c0_0, .slice A0_1 l0_1.length c0_1] 29 (0, 0)) (zK BK367) hb)
    have n2_ := zA (zab (zB HB) hb)
    clear HO370 BK367 HB
    have HO370 := n0_
    have BK367 := n1_
    have HB := n2_
    clear n0_ n1_ n2_
    (try clear hb)
    (try clear hb2)
    (try clear hk)
    (try clear hi)
    refine hK.out _ _ ⟨(zac BK367.out 0).trans rfl, (zac BK367.out 1).trans rfl⟩ (fun hHeld => ?_)
    clear hK K
    refine norm_ (a' := ?_) ?_ ?_
    rotate_left
    ·
     show Act.put _ (some 17) _ = _
     simp only [Act.put, zs1, zs2, zs3, i64_w, i32_w]
     rfl
    refine pure_ (i := 7) (N := some 18) (v := ?_) (a' := ?_) #[true, true, true, true, true, true, true, true, false] rfl rfl (zas HT_.out (by kernel_rfl)) (fun _ _ _ h => h) (Or.inl ⟨by rfl, ?_⟩) ?_ ?_
    rotate_left
    ·
     intro w'
     go_simp
     with_reducible rfl
    rotate_left
    ·
     simp only [Act.put, zs1, zs2, zs3, i64_w, i32_w]
     rfl
    refine pure_ (i := 8) (N := some 2) (v := ?_) (a' := ?_) #[true, true, true, true, true, true, true, true, true] rfl rfl (zas HT_.out (by kernel_rfl)) (fun _ _ _ h => h) (Or.inl ⟨by rfl, ?_⟩) ?_ ?_
    rotate_left
    ·
     intro w'
     go_simp
     with_reducible rfl
    rotate_left
    ·
     simp only [Act.put, zs1, zs2, zs3, i64_w, i32_w]
     rfl
    refine done_ (zc7 HT_.out (by kernel_rfl)) ?_
    try go_wp2
    go_ret
    exact ⟨zW, zB HB⟩
   ·
    rw [if_neg c16] at H
    exact absurd H (by simp)
  ·
   rw [if_neg c14] at H
   exact absurd H (by simp)
def zc3.f (k : Nat) (a0 : Int) : Option (List Int × List Int) := (zdb.f k (IntKind.u64.wrap (mx a0 0))).bind fun t161 => ((zcq.f k).bind fun t164 => (some (t161, t164)))
theorem zc3.calls (k : Nat) (a0 : Int) (r1 : List Int) (r2 : List Int) (w : World) (h : zc3.f k a0 = some (r1, r2)) :
  Calls Tryz.prog 18 #[.int .i64 a0] w fun e w' => ∃ v0_ v1_ : Value, e = .returned (.agg #[v0_, v1_]) ∧ Kd.V (Kd.int .u64) 82 w' w.heap.size (fun k_ => (w.heap.size ≤ k_)) v0_ r1 ∧ Kd.V (Kd.int .u64) 82 w' w.heap.size (fun k_ => (w.heap.size ≤ k_)) v1_ r2 ∧ Below w.heap.size w w' := by
 have hu29 := Tryz.underlying29
 have HB := zA (Below.refl w.heap.size w)
 have H : ((zdb.f k (IntKind.u64.wrap (mx a0 0))).bind fun t161 => ((zcq.f k).bind fun t164 => (some (t161, t164)))) = some (r1, r2) := h
 clear h
 obtain ⟨ji2, hji2⟩ : ∃ j_ : Int, (mx a0 0) = j_ := ⟨_, rfl⟩
 replace H : ((zdb.f k (IntKind.u64.wrap (ji2))).bind fun t161 => ((zcq.f k).bind fun t164 => (some (t161, t164)))) = some (r1, r2) := by first | (rw [hji2] at H; exact H) | (simp only [hji2] at H ⊢; exact H)
 (try (have hji2l : 0 ≤ ji2 := by (rw [← hji2]; unfold mx; (repeat' split) <;> omega)))
 (try (have hji2m : 0 ≤ ji2 := by omega))
 have hji2_ : (if a0 < 0 then 0 else a0) = ji2 := hji2
 (try (have hji2n_ := hji2_; simp only [Int.ofNat_lt] at hji2n_))
 replace H := zO H
 obtain ⟨t161, A30, H⟩ := H
 try dsimp only at H
 have A3 := zA A30
 clear A30
 replace H := zO H
 obtain ⟨t164, A40, H⟩ := H
 try dsimp only at H
 have A4 := zA A40
 clear A40
 simp only [Option.some.injEq, Prod.mk.injEq] at H
 obtain ⟨rfl, rfl⟩ := H
 go_enter Tryz.func18, Tryz.ntmps18
 go_wp2_with (first | ((with_reducible refine za4 (N := 2) rfl ?_); refine zba ?hg (N := 2) ?hd (cs := #[.slice none 0 0, .slice none 0 0]) (t := 29) ?hr ?_; (case hd => rfl); (case hg => rfl); (case hr => first | (go_simp; done) | (go_simp; rfl)); intro gb160 hg w5 hbox hb; have n0_ := zA (zab (zB HB) hb); have n1_ := zA (hbox); have n2_ := zA ((by rw [hg]; exact (za (zB HB)) : w.heap.size ≤ gb160)); have n3_ := zA ((by rw [hg]; exact (za (zB HB)) : w.heap.size ≤ gb160)); clear HB; have HB := n0_; have BK160 := n1_; have GW160 := n2_; have GE160 := n3_; clear n0_ n1_ n2_ n3_ hb hbox hg) | ((with_reducible refine zad (f := 35) rfl ?_); refine zaz (some 6) rfl rfl Tryz.func35 (by kernel_rfl) rfl #[.int .u64 (IntKind.u64.wrap (ji2))] rfl (by (try simp only [List.map_toArray, List.map_cons, List.map_nil]); first | done | (simp only [hji2]; rfl) | rfl | (simp only [List.length_drop, List.length_take]; rfl) | ((simp [Act.eval, wrap64]) <;> omega) | ((simp [Act.eval, wrap64, IntKind.wrap, IntKind.bits, IntKind.signed]) <;> omega)) ?_; (with_reducible refine (zdb.calls k (IntKind.u64.wrap (ji2)) t161 _ A3.out).mono ?_); rintro e w6 ⟨v162, rfl, ho0, hb⟩; refine ⟨_, rfl, ?_⟩; have n0_ := zA (Kd.za6 (Kd.zaq (ok' := fun k_ => (w.heap.size ≤ k_) ∧ k_ ≠ gb160) ho0 (fun k_ hk_ => ⟨(Nat.le_trans (za (zB HB)) hk_), (Kd.freshB (g := gb160) (o := .cells #[.slice none 0 0, .slice none 0 0] 29 (0, 0)) (zK BK160) k_ hk_)⟩)) (za (zB HB))); have n1_ := zA (zae (g := gb160) (o := .cells #[.slice none 0 0, .slice none 0 0] 29 (0, 0)) (zK BK160) hb); have n2_ := zA (zab (zB HB) hb); clear BK160 HB; have HO163 := n0_; have BK160 := n1_; have HB := n2_; clear n0_ n1_ n2_; (try clear hb); (try clear hb2); (try clear hk); (try clear hi); (try clear ho0)) | ((with_reducible refine zad (f := 43) rfl ?_); refine zaz (some 7) rfl rfl Tryz.func43 (by kernel_rfl) rfl #[] rfl (zE) ?_; (with_reducible refine (zcq.calls k  t164 _ A4.out).mono ?_); rintro e w7 ⟨v165, rfl, ho0, hb⟩; refine ⟨_, rfl, ?_⟩; have n0_ := zA (Kd.za1 (zV HO163) hb); have n1_ := zA (Kd.za6 (Kd.zaq (ok' := fun k_ => (w.heap.size ≤ k_) ∧ k_ ≠ gb160) ho0 (fun k_ hk_ => ⟨(Nat.le_trans (za (zB HB)) hk_), (Kd.freshB (g := gb160) (o := .cells #[.slice none 0 0, .slice none 0 0] 29 (0, 0)) (zK BK160) k_ hk_)⟩)) (za (zB HB))); have n2_ := zA (zae (g := gb160) (o := .cells #[.slice none 0 0, .slice none 0 0] 29 (0, 0)) (zK BK160) hb); have n3_ := zA (zab (zB HB) hb); clear HO163 BK160 HB; have HO163 := n0_; have HO166 := n1_; have BK160 := n2_; have HB := n3_; clear n0_ n1_ n2_ n3_; (try clear hb); (try clear hb2); (try clear hk); (try clear hi); (try clear ho0); obtain ⟨Ao8, co8, eo8⟩ := Kd.za9 HO166.out; subst eo8; obtain ⟨Ao9, co9, eo9⟩ := Kd.za9 HO163.out; subst eo9; have hcz10_0 : w7.cell? ⟨gb160, 0, none⟩ = some (.slice none 0 0) := (zac BK160.out 0).trans rfl; have hcz10_1 : w7.cell? ⟨gb160, 1, none⟩ = some (.slice none 0 0) := (zac BK160.out 1).trans rfl; have hfz10_0 := zaj BK160.out 0; have hfz10_1 := zaj BK160.out 1))
 refine bodyPost_ret (results_cell_row rfl _ _ gb160 29 #[.slice Ao9 t161.length co9, .slice Ao8 t164.length co8] (0, 0) _ rfl (by (with_reducible repeat (first | refine zak ?_ _ | refine zah ?_ | refine zai ?_ _)); refine zbb (cs := #[.slice Ao9 t161.length co9, .slice none 0 0]) ?_ 1 _ rfl; (with_reducible repeat (first | refine zak ?_ _ | refine zah ?_ | refine zai ?_ _)); refine zbb (cs := #[.slice none 0 0, .slice none 0 0]) ?_ 0 _ rfl; (with_reducible repeat (first | refine zak ?_ _ | refine zah ?_ | refine zai ?_ _)); exact BK160.out) Tryz.underlying29 rfl (by kernel_rfl)) rfl ?_
 exact ⟨_, _, by first | rfl | (simp [zb4, zb3] <;> rfl) | (simp only [← hji2]; first | rfl | (simp [zb4, zb3] <;> rfl)) | (simp [*, zb4, zb3] <;> rfl), by (with_reducible repeat (first | apply Kd.zbi | apply Kd.zbk | apply Kd.zbn)); exact Kd.zaq (Kd.V_far (p := ⟨gb160, 1, none⟩) (Kd.V_far (p := ⟨gb160, 0, none⟩) (Kd.zaq HO163.out (fun k_ hk => (⟨hk, hk.2⟩ : _ ∧ k_ ≠ gb160))) (fun _ hk => hk.2) (.slice Ao9 t161.length co9)) (fun _ hk => hk.2) (.slice Ao8 t164.length co8)) (fun _ hk => hk.1.1), by (with_reducible repeat (first | apply Kd.zbi | apply Kd.zbk | apply Kd.zbn)); exact Kd.zaq (Kd.V_far (p := ⟨gb160, 1, none⟩) (Kd.V_far (p := ⟨gb160, 0, none⟩) (Kd.zaq HO166.out (fun k_ hk => (⟨hk, hk.2⟩ : _ ∧ k_ ≠ gb160))) (fun _ hk => hk.2) (.slice Ao9 t161.length co9)) (fun _ hk => hk.2) (.slice Ao8 t164.length co8)) (fun _ hk => hk.1.1), zB HB⟩
def zat.l0 : Nat → Int → List Int → Option (List Int)
 | 0, _, _ => none
 | k + 1, x0, x3 => if x0 > 0 then (if x3.length < 17592186044416 then (zat.l0 k (wrap64 (Int.tdiv x0 10000)) (x3 ++ [Int.tmod x0 10000])) else (none)) else (some x3)
def zat.f (k : Nat) (a0 : Int) : Option (List Int) := zat.l0 k a0 ([] : List Int)
theorem zat.calls (k : Nat) (a0 : Int) (r : List Int) (w : World) (h : zat.f k a0 = some r) :
  Calls Tryz.prog 37 #[.int .i64 a0] w fun e w' => ∃ v0_ : Value, e = .returned (v0_) ∧ Kd.R (Kd.int .i64) 3 w' w.heap.size (fun _ => True) v0_ r ∧ Below w.heap.size w w' := by
 have HB := zA (Below.refl w.heap.size w)
 have H : (zat.l0 k a0 ([] : List Int)) = some r := h
 clear h
 have H' := zA H
 clear H
 go_enter Tryz.func37, Tryz.ntmps37
 go_wp2
 go_loopg [0, 3] k (fun kq v0 v3 w' => ∃ (x0_1 : Int) (x3_1 : List Int), v0 = .int .i64 x0_1 ∧ Aside0 (zat.l0 kq x0_1 x3_1 = some r) ∧ Aside0 (kq ≤ k) ∧ Aside0 (Kd.R (Kd.int .i64) 3 w' w.heap.size (fun _ => True) v3 x3_1) ∧ Aside0 (Below w.heap.size w w'))
 case atStart => exact ⟨(a0), (([] : List Int)), (zF), H', ⟨Nat.le_refl _⟩, ⟨by first | exact Kd.R_nil _ _ _ _ _ | exact Kd.N_nil _ _ _ _ _ | exact Kd.V_nil _ _ _ _ _ | exact Kd.Q_nil _ _ _ _ _ | exact Kd.S_nil _ _ _ _ _⟩, ⟨zB HB⟩⟩
 case round =>
  clear H'
  obtain ⟨x0_1, x3_1, rfl, HA, HK1, HO_3, HB⟩ := hrel
  cases gk with
  | zero => exact absurd HA.out (by simp [zat.l0])
  | succ k1 =>
   have H := HA.out
   clear HA
   simp only [zat.l0] at H
   by_cases c2 : x0_1 > 0
   ·
    rw [if_pos c2] at H
    have c2b0 : decide (0 < x0_1) = true := decide_eq_true c2
    clear c2
    by_cases c3 : x3_1.length < 17592186044416
    ·
     rw [if_pos c3] at H
     have LMc3 := zA c3
     clear c3
     obtain ⟨y395, hy395⟩ : ∃ y_ : List Int, y_ = (x3_1 ++ [Int.tmod x0_1 10000]) := ⟨_, rfl⟩
     replace H : (zat.l0 k1 (wrap64 (Int.tdiv x0_1 10000)) y395) = some r := by first | (rw [hy395]; with_reducible exact H) | (have H2_ := (Option.bind_some _ _).symm.trans H; rw [hy395]; with_reducible exact H2_) | (have H2_ := (Option.bind_some _ _).symm.trans H; with_reducible exact H2_) | with_reducible exact H | (rw [hy395]; exact H) | exact H
     have Ny395 := zA hy395
     clear hy395
     have H' := zA H
     clear H
     go_wp2_with (first | ((with_reducible refine zbx (b := .append) (xs := #[.tmp 6, .tmp 9]) rfl ?_); at_builtin; refine Kd.zda (Kd.int .i64) (w0 := w) w.heap.size rfl (.tmp 6) (.tmp 9) 30 3 (.int .i64 0) 8 rfl Tryz.underlying30 info3 rfl (by decide) (by omega) u3 x3_1 (Int.tmod x0_1 10000) [.int .i64 (Int.tmod x0_1 10000)] (fun _ => True) (fun _ => False) rfl rfl ?aP (fun _ hk => hk.elim) ?aF ?aO ?aB ?aS ?aL ?_; (case aP => exact rfl); (case aB => exact (zB HB)); (case aF => exact (fun _ _ => trivial)); (case aO => exact (zR HO_3)); (case aS => exact (za (zB HB))); (case aL => have := LMc3.out; omega); intro v396 w4 ho hb hg hat; rw [← Ny395.out] at ho; have n0_ := zA (hb); have n1_ := zA (ho); clear HB HO_3; have HB := n0_; have HO397 := n1_; clear n0_ n1_ ho hb hg hat))
     go_roundg k1
     case measure => have := HK1.out; omega
     case rel => exact ⟨(wrap64 (Int.tdiv x0_1 10000)), (y395), (zF), H', ⟨by have := HK1.out; omega⟩, ⟨zR HO397⟩, ⟨zB HB⟩⟩
    ·
     rw [if_neg c3] at H
     exact absurd H (by simp)
   ·
    rw [if_neg c2] at H
    have c2b0 : decide (0 < x0_1) = false := decide_eq_false c2
    clear c2
    obtain rfl := Option.some.inj H
    go_wp2
    go_ret
    exact ⟨_, zW, zR HO_3, zB HB⟩
def za0.l0 : Nat → List Int → List Int → Int → Option (Int)
 | 0, _, _, _ => none
 | k + 1, x0, x1, x5 => if x5 ≥ 0 then (if 0 ≤ x5 then (if x5 < (x0.length : Int) then (if x5 < (x1.length : Int) then (if (rd x0 x5) < (rd x1 x5) then (some (-1)) else (if (rd x0 x5) > (rd x1 x5) then (some 1) else (za0.l0 k x0 x1 (wrap64 (x5 - 1))))) else (none)) else (none)) else (none)) else (some 0)
def za0.f (k : Nat) (l0 : List Int) (l1 : List Int) : Option (Int) := if (l0.length : Int) = (l1.length : Int) then (za0.l0 k l0 l1 (wrap64 ((l0.length : Int) - 1))) else (if (l0.length : Int) < (l1.length : Int) then (some (-1)) else (some 1))
theorem za0.calls (k : Nat) (A0 : Option Addr) (c0 : Nat) (l0 : List Int) (A1 : Option Addr) (c1 : Nat) (l1 : List Int) (r : Int) (w : World) (hr0 : Kd.C (Kd.int .i64) w A0 l0.length l0) (hc0 : l0.length ≤ c0) (hr1 : Kd.C (Kd.int .i64) w A1 l1.length l1) (hc1 : l1.length ≤ c1) (h : za0.f k l0 l1 = some r) :
  Calls Tryz.prog 88 #[.slice A0 l0.length c0, .slice A1 l1.length c1] w fun e w' => e = .returned (.int .i64 r) ∧ Drawn0 w w' := by
 have HR0 := zA hr0
 have HC0 := zA hc0
 clear hr0 hc0
 have HR1 := zA hr1
 have HC1 := zA hc1
 clear hr1 hc1
 have H : (if (l0.length : Int) = (l1.length : Int) then (za0.l0 k l0 l1 (wrap64 ((l0.length : Int) - 1))) else (if (l0.length : Int) < (l1.length : Int) then (some (-1)) else (some 1))) = some r := h
 clear h
 by_cases c3 : (l0.length : Int) = (l1.length : Int)
 ·
  rw [if_pos c3] at H
  have c3b0 : ((l0.length : Int) == (l1.length : Int)) = true := beq_iff_eq.mpr c3
  have c3b1 : ((l0.length : Int) != (l1.length : Int)) = false := bne_eq_false_iff_eq.mpr c3
  have c3b2 : (l0.length == l1.length) = true := by first | simpa using c3 | (simp at c3 ⊢; omega)
  clear c3
  have H' := zA H
  clear H
  go_enter Tryz.func88, Tryz.ntmps88
  go_wp2
  repeat (go_quiet (fail); try go_wp2)
  go_loopg [5] k (fun kq v5 w' => ∃ (x5_1 : Int), v5 = .int .i64 x5_1 ∧ Aside0 (za0.l0 kq l0 l1 x5_1 = some r) ∧ Aside0 (kq ≤ k) ∧ Drawn0 w w')
  case atStart => exact ⟨(wrap64 ((l0.length : Int) - 1)), (zF), H', ⟨Nat.le_refl _⟩, by repeat (first | exact Drawn0.refl _ | apply Drawn0.step)⟩
  case round =>
   clear H'
   try clear c1
   try clear p2
   try clear c3
   try clear c3b0
   try clear c3b1
   try clear c3b2
   obtain ⟨x5_1, rfl, HA, HK1, ⟨m1, rfl⟩⟩ := hrel
   cases gk with
   | zero => exact absurd HA.out (by simp [za0.l0])
   | succ k1 =>
    have H := HA.out
    clear HA
    simp only [za0.l0] at H
    by_cases c4 : x5_1 ≥ 0
    ·
     rw [if_pos c4] at H
     have c4b0 : decide (0 ≤ x5_1) = true := decide_eq_true c4
     clear c4
     by_cases c5 : 0 ≤ x5_1
     ·
      rw [if_pos c5] at H
      have c5b0 : decide (0 ≤ x5_1) = true := decide_eq_true c5
      clear c5
      by_cases c6 : x5_1 < (l0.length : Int)
      ·
       rw [if_pos c6] at H
       have c6b0 : decide (x5_1 < (l0.length : Int)) = true := decide_eq_true c6
       clear c6
       by_cases c7 : x5_1 < (l1.length : Int)
       ·
        rw [if_pos c7] at H
        have c7b0 : decide (x5_1 < (l1.length : Int)) = true := decide_eq_true c7
        clear c7
        by_cases c8 : (rd l0 x5_1) < (rd l1 x5_1)
        ·
         rw [if_pos c8] at H
         have c8b0 : decide ((rd l0 x5_1) < (rd l1 x5_1)) = true := decide_eq_true c8
         clear c8
         obtain rfl := Option.some.inj H
         have p398 : 0 ≤ (x5_1 : Int) := of_decide_eq_true (by first | (with_reducible assumption) | assumption)
         have q398 : x5_1 < (l0.length : Int) := of_decide_eq_true (by first | (with_reducible assumption) | assumption)
         obtain ⟨ad398, e398, hx398_0⟩ := Kd.at_int HR0.out x5_1 p398 q398
         cases e398
         replace p398 := eq_true p398
         replace q398 := eq_true q398
         have p399 : 0 ≤ (x5_1 : Int) := of_decide_eq_true (by first | (with_reducible assumption) | assumption)
         have q399 : x5_1 < (l1.length : Int) := of_decide_eq_true (by first | (with_reducible assumption) | assumption)
         obtain ⟨ad399, e399, hx399_0⟩ := Kd.at_int HR1.out x5_1 p399 q399
         cases e399
         replace p399 := eq_true p399
         replace q399 := eq_true q399
         go_wp2
         repeat (go_quiet (fail); try go_wp2)
         go_ret
         exact ⟨zF, by repeat (first | exact Drawn0.refl _ | apply Drawn0.step)⟩
        ·
         rw [if_neg c8] at H
         have c8b0 : decide ((rd l0 x5_1) < (rd l1 x5_1)) = false := decide_eq_false c8
         clear c8
         by_cases c9 : (rd l0 x5_1) > (rd l1 x5_1)
         ·
          rw [if_pos c9] at H
          have c9b0 : decide ((rd l1 x5_1) < (rd l0 x5_1)) = true := decide_eq_true c9
          clear c9
          obtain rfl := Option.some.inj H
          have p398 : 0 ≤ (x5_1 : Int) := of_decide_eq_true (by first | (with_reducible assumption) | assumption)
          have q398 : x5_1 < (l0.length : Int) := of_decide_eq_true (by first | (with_reducible assumption) | assumption)
          obtain ⟨ad398, e398, hx398_0⟩ := Kd.at_int HR0.out x5_1 p398 q398
          cases e398
          replace p398 := eq_true p398
          replace q398 := eq_true q398
          have p399 : 0 ≤ (x5_1 : Int) := of_decide_eq_true (by first | (with_reducible assumption) | assumption)
          have q399 : x5_1 < (l1.length : Int) := of_decide_eq_true (by first | (with_reducible assumption) | assumption)
          obtain ⟨ad399, e399, hx399_0⟩ := Kd.at_int HR1.out x5_1 p399 q399
          cases e399
          replace p399 := eq_true p399
          replace q399 := eq_true q399
          have p400 : 0 ≤ (x5_1 : Int) := of_decide_eq_true (by first | (with_reducible assumption) | assumption)
          have q400 : x5_1 < (l0.length : Int) := of_decide_eq_true (by first | (with_reducible assumption) | assumption)
          obtain ⟨ad400, e400, hx400_0⟩ := Kd.at_int HR0.out x5_1 p400 q400
          obtain rfl : ad398 = ad400 := (by injection e400)
          replace p400 := eq_true p400
          replace q400 := eq_true q400
          have p401 : 0 ≤ (x5_1 : Int) := of_decide_eq_true (by first | (with_reducible assumption) | assumption)
          have q401 : x5_1 < (l1.length : Int) := of_decide_eq_true (by first | (with_reducible assumption) | assumption)
          obtain ⟨ad401, e401, hx401_0⟩ := Kd.at_int HR1.out x5_1 p401 q401
          obtain rfl : ad399 = ad401 := (by injection e401)
          replace p401 := eq_true p401
          replace q401 := eq_true q401
          go_wp2
          repeat (go_quiet (fail); try go_wp2)
          go_ret
          exact ⟨zF, by repeat (first | exact Drawn0.refl _ | apply Drawn0.step)⟩
         ·
          rw [if_neg c9] at H
          have c9b0 : decide ((rd l1 x5_1) < (rd l0 x5_1)) = false := decide_eq_false c9
          clear c9
          have H' := zA H
          clear H
          have p398 : 0 ≤ (x5_1 : Int) := of_decide_eq_true (by first | (with_reducible assumption) | assumption)
          have q398 : x5_1 < (l0.length : Int) := of_decide_eq_true (by first | (with_reducible assumption) | assumption)
          obtain ⟨ad398, e398, hx398_0⟩ := Kd.at_int HR0.out x5_1 p398 q398
          cases e398
          replace p398 := eq_true p398
          replace q398 := eq_true q398
          have p399 : 0 ≤ (x5_1 : Int) := of_decide_eq_true (by first | (with_reducible assumption) | assumption)
          have q399 : x5_1 < (l1.length : Int) := of_decide_eq_true (by first | (with_reducible assumption) | assumption)
          obtain ⟨ad399, e399, hx399_0⟩ := Kd.at_int HR1.out x5_1 p399 q399
          cases e399
          replace p399 := eq_true p399
          replace q399 := eq_true q399
          have p400 : 0 ≤ (x5_1 : Int) := of_decide_eq_true (by first | (with_reducible assumption) | assumption)
          have q400 : x5_1 < (l0.length : Int) := of_decide_eq_true (by first | (with_reducible assumption) | assumption)
          obtain ⟨ad400, e400, hx400_0⟩ := Kd.at_int HR0.out x5_1 p400 q400
          obtain rfl : ad398 = ad400 := (by injection e400)
          replace p400 := eq_true p400
          replace q400 := eq_true q400
          have p401 : 0 ≤ (x5_1 : Int) := of_decide_eq_true (by first | (with_reducible assumption) | assumption)
          have q401 : x5_1 < (l1.length : Int) := of_decide_eq_true (by first | (with_reducible assumption) | assumption)
          obtain ⟨ad401, e401, hx401_0⟩ := Kd.at_int HR1.out x5_1 p401 q401
          obtain rfl : ad399 = ad401 := (by injection e401)
          replace p401 := eq_true p401
          replace q401 := eq_true q401
          go_wp2
          repeat (go_quiet (fail); try go_wp2)
          go_roundg k1
          case measure => have := HK1.out; omega
          case rel => exact ⟨(wrap64 (x5_1 - 1)), (zF), H', ⟨by have := HK1.out; omega⟩, by repeat (first | exact Drawn0.refl _ | apply Drawn0.step)⟩
       ·
        rw [if_neg c7] at H
        exact absurd H (by simp)
      ·
       rw [if_neg c6] at H
       exact absurd H (by simp)
     ·
      rw [if_neg c5] at H
      exact absurd H (by simp)
    ·
     rw [if_neg c4] at H
     have c4b0 : decide (0 ≤ x5_1) = false := decide_eq_false c4
     clear c4
     obtain rfl := Option.some.inj H
     go_wp2
     repeat (go_quiet (fail); try go_wp2)
     go_ret
     exact ⟨zF, by repeat (first | exact Drawn0.refl _ | apply Drawn0.step)⟩
 ·
  rw [if_neg c3] at H
  have c3b0 : ((l0.length : Int) == (l1.length : Int)) = false := beq_eq_false_iff_ne.mpr c3
  have c3b1 : ((l0.length : Int) != (l1.length : Int)) = true := bne_iff_ne.mpr c3
  have c3b2 : (l0.length == l1.length) = false := by first | simpa using c3 | (simp at c3 ⊢; omega)
  by_cases c10 : (l0.length : Int) < (l1.length : Int)
  ·
   rw [if_pos c10] at H
   have c10b0 : decide ((l0.length : Int) < (l1.length : Int)) = true := decide_eq_true c10
   have c10b1 : decide (l0.length < l1.length) = true := decide_eq_true (Int.ofNat_lt.mp c10)
   clear c10
   obtain rfl := Option.some.inj H
   go_enter Tryz.func88, Tryz.ntmps88
   go_wp2
   repeat (go_quiet (fail); try go_wp2)
   go_ret
   exact ⟨zF, by repeat (first | exact Drawn0.refl _ | apply Drawn0.step)⟩
  ·
   rw [if_neg c10] at H
   have c10b0 : decide ((l0.length : Int) < (l1.length : Int)) = false := decide_eq_false c10
   have c10b1 : decide (l0.length < l1.length) = false := decide_eq_false (fun h => c10 (Int.ofNat_lt.mpr h))
   clear c10
   obtain rfl := Option.some.inj H
   go_enter Tryz.func88, Tryz.ntmps88
   go_wp2
   repeat (go_quiet (fail); try go_wp2)
   go_ret
   exact ⟨zF, by repeat (first | exact Drawn0.refl _ | apply Drawn0.step)⟩
def zar.l0 : Nat → List Int → Int → Option (List Int)
 | 0, _, _ => none
 | k + 1, x0, x3 => if x3 > 0 then (if 0 ≤ (wrap64 (x3 - 1)) then (if (wrap64 (x3 - 1)) < (x0.length : Int) then (if (rd x0 (wrap64 (x3 - 1))) = 0 then (zar.l0 k x0 (wrap64 (x3 - 1))) else (if 0 ≤ x3 then (if x3 ≤ (x0.length : Int) then (some (x0.take (x3 : Int).toNat)) else (none)) else (none))) else (none)) else (none)) else (if 0 ≤ x3 then (if x3 ≤ (x0.length : Int) then (some (x0.take (x3 : Int).toNat)) else (none)) else (none))
def zar.f (k : Nat) (l0 : List Int) : Option (List Int) := zar.l0 k l0 (l0.length : Int)
theorem zar.calls (k : Nat) (P0_ : Nat → Prop) (u9000_ : Value) (l0 : List Int) (r : List Int) (w0 w : World) (hB : Below w0.heap.size w0 w) (ho0 : Kd.R (Kd.int .i64) 3 w w0.heap.size P0_ u9000_ l0) (h : zar.f k l0 = some r) :
  Calls Tryz.prog 120 #[u9000_] w fun e w' => ∃ v0_ : Value, e = .returned (v0_) ∧ Kd.R (Kd.int .i64) 3 w' w0.heap.size (fun k_ => (P0_ k_ ∨ w.heap.size ≤ k_)) v0_ r ∧ Below w0.heap.size w0 w' ∧ Kept w w' (fun k_ => P0_ k_) := by
 have HO0 := zA (show Kd.R (Kd.int .i64) 3 w w0.heap.size (fun k_ => (P0_ k_ ∨ w.heap.size ≤ k_)) u9000_ l0 from Kd.zbl ho0 (fun k_ hk => (.inl hk)))
 have HK := zA (Kept.refl w (fun k_ => P0_ k_))
 have HW0 := zA hB.size
 have HB := zA hB
 clear hB
 have H : (zar.l0 k l0 (l0.length : Int)) = some r := h
 clear h
 have H' := zA H
 clear H
 obtain ⟨Ao2, co2, eo2⟩ := Kd.zbm HO0.out
 subst eo2
 go_enter Tryz.func120, Tryz.ntmps120
 go_wp2
 go_loopg [3] k (fun kq v3 w' => ∃ (x3_1 : Int), v3 = .int .i64 x3_1 ∧ Aside0 (zar.l0 kq l0 x3_1 = some r) ∧ Aside0 (kq ≤ k) ∧ Aside0 (Kd.R (Kd.int .i64) 3 w' w0.heap.size (fun k_ => (P0_ k_ ∨ w.heap.size ≤ k_)) (.slice Ao2 l0.length co2) l0) ∧ Aside0 (Kept w w' (fun k_ => P0_ k_)) ∧ Aside0 (Below w0.heap.size w0 w'))
 case atStart => exact ⟨((l0.length : Int)), (zF), H', ⟨Nat.le_refl _⟩, ⟨zR HO0⟩, ⟨by repeat (first | (with_reducible first | exact HK.out | apply Kept.alloc | apply Kept.drewN | apply Kept.drew) | exact HK.out)⟩, ⟨zB HB⟩⟩
 case round =>
  clear H'
  try clear c1
  try clear p2
  obtain ⟨x3_1, rfl, HA, HK1, HO_0, HK, HB⟩ := hrel
  cases gk with
  | zero => exact absurd HA.out (by simp [zar.l0])
  | succ k1 =>
   have H := HA.out
   clear HA
   simp only [zar.l0] at H
   by_cases c3 : x3_1 > 0
   ·
    rw [if_pos c3] at H
    have c3b0 : decide (0 < x3_1) = true := decide_eq_true c3
    clear c3
    obtain ⟨ji4, hji4⟩ : ∃ j_ : Int, (wrap64 (x3_1 - 1)) = j_ := ⟨_, rfl⟩
    replace H : (if 0 ≤ (ji4) then (if (ji4) < (l0.length : Int) then (if (rd l0 (ji4)) = 0 then (zar.l0 k1 l0 ji4) else (if 0 ≤ x3_1 then (if x3_1 ≤ (l0.length : Int) then (some (l0.take (x3_1 : Int).toNat)) else (none)) else (none))) else (none)) else (none)) = some r := by first | (rw [hji4] at H; exact H) | (simp only [hji4] at H ⊢; exact H)
    have hji4w : (IntKind.i64.wrap (x3_1 - 1)) = ji4 := (i64_w _).trans hji4
    by_cases c5 : 0 ≤ (ji4)
    ·
     rw [if_pos c5] at H
     have c5b0 : decide (0 ≤ (ji4)) = true := decide_eq_true c5
     clear c5
     by_cases c6 : (ji4) < (l0.length : Int)
     ·
      rw [if_pos c6] at H
      have c6b0 : decide ((ji4) < (l0.length : Int)) = true := decide_eq_true c6
      clear c6
      by_cases c7 : (rd l0 (ji4)) = 0
      ·
       rw [if_pos c7] at H
       have c7b0 : ((rd l0 (ji4)) == 0) = true := beq_iff_eq.mpr c7
       have c7b1 : ((rd l0 (ji4)) != 0) = false := bne_eq_false_iff_eq.mpr c7
       clear c7
       have H' := zA H
       clear H
       have p402 : 0 ≤ ((ji4) : Int) := of_decide_eq_true (by first | (with_reducible assumption) | assumption)
       have q402 : (ji4) < (l0.length : Int) := of_decide_eq_true (by first | (with_reducible assumption) | assumption)
       obtain ⟨ad402, e402, hx402_0⟩ := Kd.at_int (Kd.zav HO_0.out).2.2 (ji4) p402 q402
       cases e402
       replace p402 := eq_true p402
       replace q402 := eq_true q402
       go_wp2
       go_roundg k1
       case measure => have := HK1.out; omega
       case rel => exact ⟨(ji4), (by first | rfl | (simp; done) | (simp only [← hji4] <;> (first | rfl | simp)) | (simp [*]; done)), H', ⟨by have := HK1.out; omega⟩, ⟨zR HO_0⟩, ⟨by repeat (first | (with_reducible first | exact HK.out | apply Kept.alloc | apply Kept.drewN | apply Kept.drew) | exact HK.out)⟩, ⟨zB HB⟩⟩
      ·
       rw [if_neg c7] at H
       have c7b0 : ((rd l0 (ji4)) == 0) = false := beq_eq_false_iff_ne.mpr c7
       have c7b1 : ((rd l0 (ji4)) != 0) = true := bne_iff_ne.mpr c7
       by_cases c8 : 0 ≤ x3_1
       ·
        rw [if_pos c8] at H
        have c8b0 := eq_true c8
        have c8b1 : decide (0 ≤ x3_1) = true := decide_eq_true c8
        clear c8
        by_cases c9 : x3_1 ≤ (l0.length : Int)
        ·
         rw [if_pos c9] at H
         have c9b0 := eq_true c9
         have c9b1 : decide (x3_1 ≤ (l0.length : Int)) = true := decide_eq_true c9
         clear c9
         obtain ⟨y403, hy403⟩ : ∃ y_ : List Int, y_ = (l0.take (x3_1 : Int).toNat) := ⟨_, rfl⟩
         replace H : (some y403) = some r := by first | (rw [hy403]; with_reducible exact H) | (have H2_ := (Option.bind_some _ _).symm.trans H; rw [hy403]; with_reducible exact H2_) | (have H2_ := (Option.bind_some _ _).symm.trans H; with_reducible exact H2_) | with_reducible exact H | (rw [hy403]; exact H) | exact H
         have Ny403 := zA hy403
         clear hy403
         obtain rfl := Option.some.inj H
         have p402 : 0 ≤ ((ji4) : Int) := of_decide_eq_true (by first | (with_reducible assumption) | assumption)
         have q402 : (ji4) < (l0.length : Int) := of_decide_eq_true (by first | (with_reducible assumption) | assumption)
         obtain ⟨ad402, e402, hx402_0⟩ := Kd.at_int (Kd.zav HO_0.out).2.2 (ji4) p402 q402
         cases e402
         replace p402 := eq_true p402
         replace q402 := eq_true q402
         have q10 : (x3_1 : Int) ≤ ((l0.length : Int) : Int) := of_decide_eq_true (by first | (with_reducible assumption) | assumption)
         obtain ⟨i010, hi010, _, hsz10, _⟩ := info_parts info3
         have hcut10 := cut_to (P := Tryz.prog) 30 3 .i64 Tryz.underlying30 hi010 (some ad402) l0.length co2 x3_1 (of_decide_eq_true (by first | (with_reducible assumption) | assumption)) q10 (Kd.zav HO_0.out).2.1
         have hr10 := Kd.R_take (m := (x3_1 : Int).toNat) HO_0.out (by omega)
         have hy10 : y403.length = (x3_1 : Int).toNat := (by rw [Ny403.out, List.length_take]; omega)
         rw [← Ny403.out] at hr10
         rw [← hy10] at hr10 hcut10
         clear hy10 hi010 hsz10 HO_0
         have HO405 := zA hr10
         clear hr10
         replace q10 := eq_true q10
         go_wp2
         go_ret
         exact ⟨_, by first | rfl | (simp [zb4, zb3] <;> rfl) | (simp only [← hji4]; first | rfl | (simp [zb4, zb3] <;> rfl)) | (simp [*, zb4, zb3] <;> rfl), zR HO405, zB HB, by repeat (first | (with_reducible first | exact HK.out | apply Kept.alloc | apply Kept.drewN | apply Kept.drew) | exact HK.out)⟩
        ·
         rw [if_neg c9] at H
         exact absurd H (by simp)
       ·
        rw [if_neg c8] at H
        exact absurd H (by simp)
     ·
      rw [if_neg c6] at H
      exact absurd H (by simp)
    ·
     rw [if_neg c5] at H
     exact absurd H (by simp)
   ·
    rw [if_neg c3] at H
    have c3b0 : decide (0 < x3_1) = false := decide_eq_false c3
    clear c3
    by_cases c11 : 0 ≤ x3_1
    ·
     rw [if_pos c11] at H
     have c11b0 := eq_true c11
     have c11b1 : decide (0 ≤ x3_1) = true := decide_eq_true c11
     clear c11
     by_cases c12 : x3_1 ≤ (l0.length : Int)
     ·
      rw [if_pos c12] at H
      have c12b0 := eq_true c12
      have c12b1 : decide (x3_1 ≤ (l0.length : Int)) = true := decide_eq_true c12
      clear c12
      obtain ⟨y406, hy406⟩ : ∃ y_ : List Int, y_ = (l0.take (x3_1 : Int).toNat) := ⟨_, rfl⟩
      replace H : (some y406) = some r := by first | (rw [hy406]; with_reducible exact H) | (have H2_ := (Option.bind_some _ _).symm.trans H; rw [hy406]; with_reducible exact H2_) | (have H2_ := (Option.bind_some _ _).symm.trans H; with_reducible exact H2_) | with_reducible exact H | (rw [hy406]; exact H) | exact H
      have Ny406 := zA hy406
      clear hy406
      obtain rfl := Option.some.inj H
      have q13 : (x3_1 : Int) ≤ ((l0.length : Int) : Int) := of_decide_eq_true (by first | (with_reducible assumption) | assumption)
      obtain ⟨i013, hi013, _, hsz13, _⟩ := info_parts info3
      have hcut13 := cut_to (P := Tryz.prog) 30 3 .i64 Tryz.underlying30 hi013 Ao2 l0.length co2 x3_1 (of_decide_eq_true (by first | (with_reducible assumption) | assumption)) q13 (Kd.zav HO_0.out).2.1
      have hr13 := Kd.R_take (m := (x3_1 : Int).toNat) HO_0.out (by omega)
      have hy13 : y406.length = (x3_1 : Int).toNat := (by rw [Ny406.out, List.length_take]; omega)
      rw [← Ny406.out] at hr13
      rw [← hy13] at hr13 hcut13
      clear hy13 hi013 hsz13 HO_0
      have HO408 := zA hr13
      clear hr13
      replace q13 := eq_true q13
      go_wp2
      go_ret
      exact ⟨_, zW, zR HO408, zB HB, by repeat (first | (with_reducible first | exact HK.out | apply Kept.alloc | apply Kept.drewN | apply Kept.drew) | exact HK.out)⟩
     ·
      rw [if_neg c12] at H
      exact absurd H (by simp)
    ·
     rw [if_neg c11] at H
     exact absurd H (by simp)
mutual
def zao.l0 : Nat → List Int → List Int → List Int → Int → Int → Option (List Int)
 | 0, _, _, _, _, _ => none
 | k + 1, x0, x1, x5, x17, x18 => if x18 < x17 then (zao.l1 k x0 x1 x5 x18 0 x17 x18 (x1.length : Int) 0) else ((zar.f k x5).bind fun t412 => (some t412))
def zao.l1 : Nat → List Int → List Int → List Int → Int → Int → Int → Int → Int → Int → Option (List Int)
 | 0, _, _, _, _, _, _, _, _, _ => none
 | k + 1, x0, x1, x5, x6, x7, x17, x18, x22, x23 => if x23 < x22 then (if 0 ≤ (wrap64 (x6 + x23)) then (if (wrap64 (x6 + x23)) < (x5.length : Int) then (if 0 ≤ x6 then (if x6 < (x0.length : Int) then (if 0 ≤ x23 then (if x23 < (x1.length : Int) then (zao.l1 k x0 x1 (x5.set ((wrap64 (x6 + x23)) : Int).toNat (Int.tmod (wrap64 ((wrap64 ((rd x5 (wrap64 (x6 + x23))) + (wrap64 ((rd x0 x6) * (rd x1 x23))))) + x7)) 10000)) x6 (wrap64 (Int.tdiv (wrap64 ((wrap64 ((rd x5 (wrap64 (x6 + x23))) + (wrap64 ((rd x0 x6) * (rd x1 x23))))) + x7)) 10000)) x17 x18 x22 (wrap64 (x23 + 1))) else (none)) else (none)) else (none)) else (none)) else (none)) else (none)) else (if 0 ≤ (wrap64 (x6 + (x1.length : Int))) then (if (wrap64 (x6 + (x1.length : Int))) < (x5.length : Int) then (zao.l0 k x0 x1 (x5.set ((wrap64 (x6 + (x1.length : Int))) : Int).toNat (wrap64 ((rd x5 (wrap64 (x6 + (x1.length : Int)))) + x7))) x17 (wrap64 (x18 + 1))) else (none)) else (none))
end
def zao.f (k : Nat) (l0 : List Int) (l1 : List Int) : Option (List Int) := if 0 ≤ (wrap64 ((l0.length : Int) + (l1.length : Int))) then (if (wrap64 ((l0.length : Int) + (l1.length : Int)) : Int).toNat ≤ 35184372088832 then (zao.l0 k l0 l1 (List.replicate (wrap64 ((l0.length : Int) + (l1.length : Int)) : Int).toNat 0) (l0.length : Int) 0) else (none)) else (none)
theorem zao.calls (k : Nat) (A0 : Option Addr) (c0 : Nat) (l0 : List Int) (A1 : Option Addr) (c1 : Nat) (l1 : List Int) (r : List Int) (w : World) (hr0 : Kd.C (Kd.int .i64) w A0 l0.length l0) (hc0 : l0.length ≤ c0) (hr1 : Kd.C (Kd.int .i64) w A1 l1.length l1) (hc1 : l1.length ≤ c1) (h : zao.f k l0 l1 = some r) :
  Calls Tryz.prog 91 #[.slice A0 l0.length c0, .slice A1 l1.length c1] w fun e w' => ∃ v0_ : Value, e = .returned (v0_) ∧ Kd.R (Kd.int .i64) 3 w' w.heap.size (fun _ => True) v0_ r ∧ Below w.heap.size w w' := by
 have HR0 := zA hr0
 have HC0 := zA hc0
 clear hr0 hc0
 have HR1 := zA hr1
 have HC1 := zA hc1
 clear hr1 hc1
 have HB := zA (Below.refl w.heap.size w)
 have H : (if 0 ≤ (wrap64 ((l0.length : Int) + (l1.length : Int))) then (if (wrap64 ((l0.length : Int) + (l1.length : Int)) : Int).toNat ≤ 35184372088832 then (zao.l0 k l0 l1 (List.replicate (wrap64 ((l0.length : Int) + (l1.length : Int)) : Int).toNat 0) (l0.length : Int) 0) else (none)) else (none)) = some r := h
 clear h
 obtain ⟨ji3, hji3⟩ : ∃ j_ : Int, (wrap64 ((l0.length : Int) + (l1.length : Int))) = j_ := ⟨_, rfl⟩
 replace H : (if 0 ≤ (ji3) then (if (ji3 : Int).toNat ≤ 35184372088832 then (zao.l0 k l0 l1 (List.replicate (ji3 : Int).toNat 0) (l0.length : Int) 0) else (none)) else (none)) = some r := by first | (rw [hji3] at H; exact H) | (simp only [hji3] at H ⊢; exact H)
 have hji3w : (IntKind.i64.wrap ((l0.length : Int) + (l1.length : Int))) = ji3 := (i64_w _).trans hji3
 by_cases c4 : 0 ≤ (ji3)
 ·
  rw [if_pos c4] at H
  have c4b0 := eq_true c4
  have c4b1 : decide (0 ≤ (ji3)) = true := decide_eq_true c4
  clear c4
  by_cases c5 : (ji3 : Int).toNat ≤ 35184372088832
  ·
   rw [if_pos c5] at H
   have c5b0 := eq_true c5
   have c5b1 : decide ((ji3 : Int).toNat ≤ 35184372088832) = true := decide_eq_true c5
   clear c5
   obtain ⟨y409, hy409⟩ : ∃ y_ : List Int, y_ = (List.replicate (ji3 : Int).toNat 0) := ⟨_, rfl⟩
   replace H : (zao.l0 k l0 l1 y409 (l0.length : Int) 0) = some r := by first | (rw [hy409]; with_reducible exact H) | (have H2_ := (Option.bind_some _ _).symm.trans H; rw [hy409]; with_reducible exact H2_) | (have H2_ := (Option.bind_some _ _).symm.trans H; with_reducible exact H2_) | with_reducible exact H | (rw [hy409]; exact H) | exact H
   have Ny409 := zA hy409
   clear hy409
   have H' := zA H
   clear H
   go_enter Tryz.func91, Tryz.ntmps91
   go_wp2_with (first | ((with_reducible refine za4 (N := 15) rfl ?_); refine Kd.R_make (Kd.int .i64) _ 3 rfl (N := 15) rfl 30 _ _ rfl ji3 rfl rfl Tryz.underlying30 (.int .i64 0) 8 info3 rfl (by decide) (by omega) 0 (ok := fun _ => True) (okp := fun _ => True) rfl (fun _ hk => hk) trivial (of_decide_eq_true (by first | (with_reducible assumption) | assumption)) (Nat.le_trans (Nat.mul_le_mul_right _ (of_decide_eq_true (by first | (with_reducible assumption) | assumption) : ji3.toNat ≤ 35184372088832)) (by omega)) (Below.refl _ _) (Nat.le_refl _) ?_; intro v410 w6 ho7 hb hg_ hnew_; clear hg_ hnew_; (first | rw [← Ny409.out] at ho7 | (simp only [Int.reduceToNat] at ho7; rw [← Ny409.out] at ho7)); have n0_ := zA (Kd.zbo ho7 (za (zB HB))); have n1_ := zA (zab (zB HB) hb); clear HB; have HO411 := n0_; have HB := n1_; clear n0_ n1_ hb ho7))
   repeat (go_quiet (first | ((with_reducible refine za4 (N := 15) rfl ?_); refine Kd.R_make (Kd.int .i64) _ 3 rfl (N := 15) rfl 30 _ _ rfl ji3 rfl rfl Tryz.underlying30 (.int .i64 0) 8 info3 rfl (by decide) (by omega) 0 (ok := fun _ => True) (okp := fun _ => True) rfl (fun _ hk => hk) trivial (of_decide_eq_true (by first | (with_reducible assumption) | assumption)) (Nat.le_trans (Nat.mul_le_mul_right _ (of_decide_eq_true (by first | (with_reducible assumption) | assumption) : ji3.toNat ≤ 35184372088832)) (by omega)) (Below.refl _ _) (Nat.le_refl _) ?_; intro v410 w6 ho7 hb hg_ hnew_; clear hg_ hnew_; (first | rw [← Ny409.out] at ho7 | (simp only [Int.reduceToNat] at ho7; rw [← Ny409.out] at ho7)); have n0_ := zA (Kd.zbo ho7 (za (zB HB))); have n1_ := zA (zab (zB HB) hb); clear HB; have HO411 := n0_; have HB := n1_; clear n0_ n1_ hb ho7)); try go_wp2_with (first | ((with_reducible refine za4 (N := 15) rfl ?_); refine Kd.R_make (Kd.int .i64) _ 3 rfl (N := 15) rfl 30 _ _ rfl ji3 rfl rfl Tryz.underlying30 (.int .i64 0) 8 info3 rfl (by decide) (by omega) 0 (ok := fun _ => True) (okp := fun _ => True) rfl (fun _ hk => hk) trivial (of_decide_eq_true (by first | (with_reducible assumption) | assumption)) (Nat.le_trans (Nat.mul_le_mul_right _ (of_decide_eq_true (by first | (with_reducible assumption) | assumption) : ji3.toNat ≤ 35184372088832)) (by omega)) (Below.refl _ _) (Nat.le_refl _) ?_; intro v410 w6 ho7 hb hg_ hnew_; clear hg_ hnew_; (first | rw [← Ny409.out] at ho7 | (simp only [Int.reduceToNat] at ho7; rw [← Ny409.out] at ho7)); have n0_ := zA (Kd.zbo ho7 (za (zB HB))); have n1_ := zA (zab (zB HB) hb); clear HB; have HO411 := n0_; have HB := n1_; clear n0_ n1_ hb ho7)))
   go_loopg [18] k (fun kq v18 w' => ∃ (x5_1 : List Int) (x18_1 : Int), v18 = .int .i64 x18_1 ∧ Aside0 (zao.l0 kq l0 l1 x5_1 (l0.length : Int) x18_1 = some r) ∧ Aside0 (kq ≤ k) ∧ Aside0 (Kd.R (Kd.int .i64) 3 w' w.heap.size (fun _ => True) v410 x5_1) ∧ Aside0 (Below w.heap.size w w'))
   case atStart => exact ⟨(y409), (0), (zF), H', ⟨Nat.le_refl _⟩, ⟨zR HO411⟩, ⟨zB HB⟩⟩
   case round =>
    clear H'
    try clear c1
    try clear p2
    try clear c4
    try clear c4b0
    try clear c4b1
    try clear c5
    try clear c5b0
    try clear c5b1
    try clear p6
    obtain ⟨x5_1, x18_1, rfl, HA, HK1, HO_5, HB⟩ := hrel
    cases gk with
    | zero => exact absurd HA.out (by simp [zao.l0])
    | succ k1 =>
     have H := HA.out
     clear HA
     simp only [zao.l0] at H
     by_cases c8 : x18_1 < (l0.length : Int)
     ·
      rw [if_pos c8] at H
      have c8b0 : decide (x18_1 < (l0.length : Int)) = true := decide_eq_true c8
      clear c8
      have H' := zA H
      clear H
      go_wp2
      repeat (go_quiet (fail); try go_wp2)
      go_loopg [7, 23] k1 (fun kq v7 v23 w' => ∃ (x5_2 : List Int) (x7_2 : Int) (x23_2 : Int), v7 = .int .i64 x7_2 ∧ v23 = .int .i64 x23_2 ∧ Aside0 (zao.l1 kq l0 l1 x5_2 x18_1 x7_2 (l0.length : Int) x18_1 (l1.length : Int) x23_2 = some r) ∧ Aside0 (kq ≤ k1) ∧ Aside0 (Kd.R (Kd.int .i64) 3 w' w.heap.size (fun _ => True) v410 x5_2) ∧ Aside0 (Below w.heap.size w w'))
      case atStart => exact ⟨(x5_1), (0), (0), (zF), (zF), H', ⟨Nat.le_refl _⟩, ⟨zR HO_5⟩, ⟨zB HB⟩⟩
      case round =>
       clear H'
       try clear c1
       try clear p2
       try clear c4
       try clear c4b0
       try clear c4b1
       try clear c5
       try clear c5b0
       try clear c5b1
       try clear p6
       try clear c8
       try clear c8b0
       try clear p2
       try clear p6
       obtain ⟨x5_2, x7_2, x23_2, rfl, rfl, HA, HK2, HO_5, HB⟩ := hrel
       cases gk with
       | zero => exact absurd HA.out (by simp [zao.l1])
       | succ k2 =>
        have H := HA.out
        clear HA
        simp only [zao.l1] at H
        by_cases c9 : x23_2 < (l1.length : Int)
        ·
         rw [if_pos c9] at H
         have c9b0 : decide (x23_2 < (l1.length : Int)) = true := decide_eq_true c9
         clear c9
         obtain ⟨ji10, hji10⟩ : ∃ j_ : Int, (wrap64 (x18_1 + x23_2)) = j_ := ⟨_, rfl⟩
         replace H : (if 0 ≤ (ji10) then (if (ji10) < (x5_2.length : Int) then (if 0 ≤ x18_1 then (if x18_1 < (l0.length : Int) then (if 0 ≤ x23_2 then (if x23_2 < (l1.length : Int) then (zao.l1 k2 l0 l1 (x5_2.set ((ji10) : Int).toNat (Int.tmod (wrap64 ((wrap64 ((rd x5_2 (ji10)) + (wrap64 ((rd l0 x18_1) * (rd l1 x23_2))))) + x7_2)) 10000)) x18_1 (wrap64 (Int.tdiv (wrap64 ((wrap64 ((rd x5_2 (ji10)) + (wrap64 ((rd l0 x18_1) * (rd l1 x23_2))))) + x7_2)) 10000)) (l0.length : Int) x18_1 (l1.length : Int) (wrap64 (x23_2 + 1))) else (none)) else (none)) else (none)) else (none)) else (none)) else (none)) = some r := by first | (rw [hji10] at H; exact H) | (simp only [hji10] at H ⊢; exact H)
         have hji10w : (IntKind.i64.wrap (x18_1 + x23_2)) = ji10 := (i64_w _).trans hji10
         by_cases c11 : 0 ≤ (ji10)
         ·
          rw [if_pos c11] at H
          have c11b0 : decide (0 ≤ (ji10)) = true := decide_eq_true c11
          clear c11
          by_cases c12 : (ji10) < (x5_2.length : Int)
          ·
           rw [if_pos c12] at H
           have c12b0 : decide ((ji10) < (x5_2.length : Int)) = true := decide_eq_true c12
           clear c12
           by_cases c13 : 0 ≤ x18_1
           ·
            rw [if_pos c13] at H
            have c13b0 : decide (0 ≤ x18_1) = true := decide_eq_true c13
            clear c13
            by_cases c14 : x18_1 < (l0.length : Int)
            ·
             rw [if_pos c14] at H
             have c14b0 : decide (x18_1 < (l0.length : Int)) = true := decide_eq_true c14
             clear c14
             by_cases c15 : 0 ≤ x23_2
             ·
              rw [if_pos c15] at H
              have c15b0 : decide (0 ≤ x23_2) = true := decide_eq_true c15
              clear c15
              by_cases c16 : x23_2 < (l1.length : Int)
              ·
               rw [if_pos c16] at H
               have c16b0 : decide (x23_2 < (l1.length : Int)) = true := decide_eq_true c16
               clear c16
               obtain ⟨y418, hy418⟩ : ∃ y_ : List Int, y_ = (x5_2.set ((ji10) : Int).toNat (Int.tmod (wrap64 ((wrap64 ((rd x5_2 (ji10)) + (wrap64 ((rd l0 x18_1) * (rd l1 x23_2))))) + x7_2)) 10000)) := ⟨_, rfl⟩
               replace H : (zao.l1 k2 l0 l1 y418 x18_1 (wrap64 (Int.tdiv (wrap64 ((wrap64 ((rd x5_2 (ji10)) + (wrap64 ((rd l0 x18_1) * (rd l1 x23_2))))) + x7_2)) 10000)) (l0.length : Int) x18_1 (l1.length : Int) (wrap64 (x23_2 + 1))) = some r := by first | (rw [hy418]; with_reducible exact H) | (have H2_ := (Option.bind_some _ _).symm.trans H; rw [hy418]; with_reducible exact H2_) | (have H2_ := (Option.bind_some _ _).symm.trans H; with_reducible exact H2_) | with_reducible exact H | (rw [hy418]; exact H) | exact H
               have Ny418 := zA hy418
               clear hy418
               have H' := zA H
               clear H
               obtain ⟨Ao18, co18, eo18⟩ := Kd.zbm HO_5.out
               subst eo18
               have p415 : 0 ≤ ((ji10) : Int) := of_decide_eq_true (by first | (with_reducible assumption) | assumption)
               have q415 : (ji10) < (x5_2.length : Int) := of_decide_eq_true (by first | (with_reducible assumption) | assumption)
               obtain ⟨ad415, e415, hx415_0⟩ := Kd.at_int (Kd.zav HO_5.out).2.2 (ji10) p415 q415
               cases e415
               replace p415 := eq_true p415
               replace q415 := eq_true q415
               have p416 : 0 ≤ (x18_1 : Int) := of_decide_eq_true (by first | (with_reducible assumption) | assumption)
               have q416 : x18_1 < (l0.length : Int) := of_decide_eq_true (by first | (with_reducible assumption) | assumption)
               obtain ⟨ad416, e416, hx416_0⟩ := Kd.at_int HR0.out x18_1 p416 q416
               cases e416
               replace hx416_0 := (HB.out.cell (World.block_lt_of_cell? w _ hx416_0)).trans hx416_0
               replace p416 := eq_true p416
               replace q416 := eq_true q416
               have p417 : 0 ≤ (x23_2 : Int) := of_decide_eq_true (by first | (with_reducible assumption) | assumption)
               have q417 : x23_2 < (l1.length : Int) := of_decide_eq_true (by first | (with_reducible assumption) | assumption)
               obtain ⟨ad417, e417, hx417_0⟩ := Kd.at_int HR1.out x23_2 p417 q417
               cases e417
               replace hx417_0 := (HB.out.cell (World.block_lt_of_cell? w _ hx417_0)).trans hx417_0
               replace p417 := eq_true p417
               replace q417 := eq_true q417
               have p17 : 0 ≤ ((ji10) : Int) := of_decide_eq_true (by first | (with_reducible assumption) | assumption)
               have q17 : ((ji10) : Int) < ((x5_2.length : Int) : Int) := of_decide_eq_true (by first | (with_reducible assumption) | assumption)
               obtain ⟨go17, co17, eo17, gb17, gl17, cl17, HG17⟩ := Kd.R_form HO_5.out (by omega)
               (first | cases eo17 | (injection eo17 with ea_ en_ ec_; (first | subst ea_ | (injection ea_ with ea_; subst ea_)); subst ec_; clear en_))
               have GB17 := zA gb17
               have GG17 := zA HG17
               clear gb17 gl17 HG17
               (first | simp only [add_plain] at hx415_0 | skip)
               obtain ⟨hx17_0, hf17_0⟩ := Kd.zc8 0 HO_5.out ((ji10) : Int) p17 q17
               replace p17 := eq_true p17
               replace q17 := eq_true q17
               have HP19 := Kd.R_putg HO_5.out ((ji10) : Int) (Int.tmod (wrap64 ((wrap64 ((rd x5_2 (ji10)) + (wrap64 ((rd l0 x18_1) * (rd l1 x23_2))))) + x7_2)) 10000)
               go_wp2_with (first | ((with_reducible refine zc9 (t := 3) (p := 50) rfl ?_); (try (rw [drewN_self wr]; generalize hq_ : World.drewN wr _ = wr; have n0_ := zA (Kd.R_at hq_ HO_5.out); have n1_ := zA (below_at hq_ HB.out); clear hq_ HO_5 HB; have HO_5 := n0_; have HB := n1_; clear n0_ n1_; (try (have HP19 := Kd.R_putg HO_5.out ((ji10) : Int) (Int.tmod (wrap64 ((wrap64 ((rd x5_2 (ji10)) + (wrap64 ((rd l0 x18_1) * (rd l1 x23_2))))) + x7_2)) 10000))); (try (obtain ⟨hx17_0, hf17_0⟩ := Kd.zc8 0 HO_5.out ((ji10) : Int) (of_eq_true p17) (of_eq_true q17))))); refine zcz (t := 3) (p := 50) (v := ?vo_w20) (w1 := (wr.setCell ⟨go17, ((ji10) : Int).toNat, none⟩ (.int .i64 (Int.tmod (wrap64 ((wrap64 ((rd x5_2 (ji10)) + (wrap64 ((rd l0 x18_1) * (rd l1 x23_2))))) + x7_2)) 10000)))) ?hg ?ho ?hn ?hr ?_; (case ho => rfl); (case hg => rfl); (case hn => rfl); (case hr => first | (go_simp; done) | (go_simp; rfl)); intro w20 hw; have hg : wr.grownBy w20 (some go17) := (by rw [hw]; exact HP19.2); have hp_ : Kd.R (Kd.int .i64) 3 w20 w.heap.size (fun _ => True) (.slice (some ⟨go17, 0, none⟩) x5_2.length co18) y418 := (by rw [hw, Ny418.out]; exact HP19.1); clear HP19; have n0_ := zA (hp_); have n1_ := zA ((by rw [hw]; exact zdd (HB.out) GB17.out : Below w.heap.size w w20)); clear HO_5 HB; have HO_5 := n0_; have HB := n1_; clear n0_ n1_ hg hw hp_))
               repeat (go_quiet (first | ((with_reducible refine zc9 (t := 3) (p := 50) rfl ?_); (try (rw [drewN_self wr]; generalize hq_ : World.drewN wr _ = wr; have n0_ := zA (Kd.R_at hq_ HO_5.out); have n1_ := zA (below_at hq_ HB.out); clear hq_ HO_5 HB; have HO_5 := n0_; have HB := n1_; clear n0_ n1_; (try (have HP19 := Kd.R_putg HO_5.out ((ji10) : Int) (Int.tmod (wrap64 ((wrap64 ((rd x5_2 (ji10)) + (wrap64 ((rd l0 x18_1) * (rd l1 x23_2))))) + x7_2)) 10000))); (try (obtain ⟨hx17_0, hf17_0⟩ := Kd.zc8 0 HO_5.out ((ji10) : Int) (of_eq_true p17) (of_eq_true q17))))); refine zcz (t := 3) (p := 50) (v := ?vo_w20) (w1 := (wr.setCell ⟨go17, ((ji10) : Int).toNat, none⟩ (.int .i64 (Int.tmod (wrap64 ((wrap64 ((rd x5_2 (ji10)) + (wrap64 ((rd l0 x18_1) * (rd l1 x23_2))))) + x7_2)) 10000)))) ?hg ?ho ?hn ?hr ?_; (case ho => rfl); (case hg => rfl); (case hn => rfl); (case hr => first | (go_simp; done) | (go_simp; rfl)); intro w20 hw; have hg : wr.grownBy w20 (some go17) := (by rw [hw]; exact HP19.2); have hp_ : Kd.R (Kd.int .i64) 3 w20 w.heap.size (fun _ => True) (.slice (some ⟨go17, 0, none⟩) x5_2.length co18) y418 := (by rw [hw, Ny418.out]; exact HP19.1); clear HP19; have n0_ := zA (hp_); have n1_ := zA ((by rw [hw]; exact zdd (HB.out) GB17.out : Below w.heap.size w w20)); clear HO_5 HB; have HO_5 := n0_; have HB := n1_; clear n0_ n1_ hg hw hp_)); try go_wp2_with (first | ((with_reducible refine zc9 (t := 3) (p := 50) rfl ?_); (try (rw [drewN_self wr]; generalize hq_ : World.drewN wr _ = wr; have n0_ := zA (Kd.R_at hq_ HO_5.out); have n1_ := zA (below_at hq_ HB.out); clear hq_ HO_5 HB; have HO_5 := n0_; have HB := n1_; clear n0_ n1_; (try (have HP19 := Kd.R_putg HO_5.out ((ji10) : Int) (Int.tmod (wrap64 ((wrap64 ((rd x5_2 (ji10)) + (wrap64 ((rd l0 x18_1) * (rd l1 x23_2))))) + x7_2)) 10000))); (try (obtain ⟨hx17_0, hf17_0⟩ := Kd.zc8 0 HO_5.out ((ji10) : Int) (of_eq_true p17) (of_eq_true q17))))); refine zcz (t := 3) (p := 50) (v := ?vo_w20) (w1 := (wr.setCell ⟨go17, ((ji10) : Int).toNat, none⟩ (.int .i64 (Int.tmod (wrap64 ((wrap64 ((rd x5_2 (ji10)) + (wrap64 ((rd l0 x18_1) * (rd l1 x23_2))))) + x7_2)) 10000)))) ?hg ?ho ?hn ?hr ?_; (case ho => rfl); (case hg => rfl); (case hn => rfl); (case hr => first | (go_simp; done) | (go_simp; rfl)); intro w20 hw; have hg : wr.grownBy w20 (some go17) := (by rw [hw]; exact HP19.2); have hp_ : Kd.R (Kd.int .i64) 3 w20 w.heap.size (fun _ => True) (.slice (some ⟨go17, 0, none⟩) x5_2.length co18) y418 := (by rw [hw, Ny418.out]; exact HP19.1); clear HP19; have n0_ := zA (hp_); have n1_ := zA ((by rw [hw]; exact zdd (HB.out) GB17.out : Below w.heap.size w w20)); clear HO_5 HB; have HO_5 := n0_; have HB := n1_; clear n0_ n1_ hg hw hp_)))
               go_roundg k2
               case measure => have := HK1.out; have := HK2.out; omega
               case rel => exact ⟨(y418), (wrap64 (Int.tdiv (wrap64 ((wrap64 ((rd x5_2 (ji10)) + (wrap64 ((rd l0 x18_1) * (rd l1 x23_2))))) + x7_2)) 10000)), (wrap64 (x23_2 + 1)), (by first | rfl | (simp; done) | (simp only [← hji10] <;> (first | rfl | simp)) | (simp [*]; done)), (zF), H', ⟨by have := HK1.out; have := HK2.out; omega⟩, ⟨zR HO_5⟩, ⟨zB HB⟩⟩
              ·
               rw [if_neg c16] at H
               exact absurd H (by simp)
             ·
              rw [if_neg c15] at H
              exact absurd H (by simp)
            ·
             rw [if_neg c14] at H
             exact absurd H (by simp)
           ·
            rw [if_neg c13] at H
            exact absurd H (by simp)
          ·
           rw [if_neg c12] at H
           exact absurd H (by simp)
         ·
          rw [if_neg c11] at H
          exact absurd H (by simp)
        ·
         rw [if_neg c9] at H
         have c9b0 : decide (x23_2 < (l1.length : Int)) = false := decide_eq_false c9
         clear c9
         obtain ⟨ji21, hji21⟩ : ∃ j_ : Int, (wrap64 (x18_1 + (l1.length : Int))) = j_ := ⟨_, rfl⟩
         replace H : (if 0 ≤ (ji21) then (if (ji21) < (x5_2.length : Int) then (zao.l0 k2 l0 l1 (x5_2.set ((ji21) : Int).toNat (wrap64 ((rd x5_2 (ji21)) + x7_2))) (l0.length : Int) (wrap64 (x18_1 + 1))) else (none)) else (none)) = some r := by first | (rw [hji21] at H; exact H) | (simp only [hji21] at H ⊢; exact H)
         have hji21w : (IntKind.i64.wrap (x18_1 + (l1.length : Int))) = ji21 := (i64_w _).trans hji21
         by_cases c22 : 0 ≤ (ji21)
         ·
          rw [if_pos c22] at H
          have c22b0 : decide (0 ≤ (ji21)) = true := decide_eq_true c22
          clear c22
          by_cases c23 : (ji21) < (x5_2.length : Int)
          ·
           rw [if_pos c23] at H
           have c23b0 : decide ((ji21) < (x5_2.length : Int)) = true := decide_eq_true c23
           clear c23
           obtain ⟨y420, hy420⟩ : ∃ y_ : List Int, y_ = (x5_2.set ((ji21) : Int).toNat (wrap64 ((rd x5_2 (ji21)) + x7_2))) := ⟨_, rfl⟩
           replace H : (zao.l0 k2 l0 l1 y420 (l0.length : Int) (wrap64 (x18_1 + 1))) = some r := by first | (rw [hy420]; with_reducible exact H) | (have H2_ := (Option.bind_some _ _).symm.trans H; rw [hy420]; with_reducible exact H2_) | (have H2_ := (Option.bind_some _ _).symm.trans H; with_reducible exact H2_) | with_reducible exact H | (rw [hy420]; exact H) | exact H
           have Ny420 := zA hy420
           clear hy420
           have H' := zA H
           clear H
           obtain ⟨Ao25, co25, eo25⟩ := Kd.zbm HO_5.out
           subst eo25
           have p419 : 0 ≤ ((ji21) : Int) := of_decide_eq_true (by first | (with_reducible assumption) | assumption)
           have q419 : (ji21) < (x5_2.length : Int) := of_decide_eq_true (by first | (with_reducible assumption) | assumption)
           obtain ⟨ad419, e419, hx419_0⟩ := Kd.at_int (Kd.zav HO_5.out).2.2 (ji21) p419 q419
           cases e419
           replace p419 := eq_true p419
           replace q419 := eq_true q419
           have p24 : 0 ≤ ((ji21) : Int) := of_decide_eq_true (by first | (with_reducible assumption) | assumption)
           have q24 : ((ji21) : Int) < ((x5_2.length : Int) : Int) := of_decide_eq_true (by first | (with_reducible assumption) | assumption)
           obtain ⟨go24, co24, eo24, gb24, gl24, cl24, HG24⟩ := Kd.R_form HO_5.out (by omega)
           (first | cases eo24 | (injection eo24 with ea_ en_ ec_; (first | subst ea_ | (injection ea_ with ea_; subst ea_)); subst ec_; clear en_))
           have GB24 := zA gb24
           have GG24 := zA HG24
           clear gb24 gl24 HG24
           (first | simp only [add_plain] at hx419_0 | skip)
           obtain ⟨hx24_0, hf24_0⟩ := Kd.zc8 0 HO_5.out ((ji21) : Int) p24 q24
           replace p24 := eq_true p24
           replace q24 := eq_true q24
           have HP26 := Kd.R_putg HO_5.out ((ji21) : Int) (wrap64 ((rd x5_2 (ji21)) + x7_2))
           go_wp2_with (first | ((with_reducible refine zc9 (t := 3) (p := 68) rfl ?_); (try (rw [drewN_self wr]; generalize hq_ : World.drewN wr _ = wr; have n0_ := zA (Kd.R_at hq_ HO_5.out); have n1_ := zA (below_at hq_ HB.out); clear hq_ HO_5 HB; have HO_5 := n0_; have HB := n1_; clear n0_ n1_; (try (have HP26 := Kd.R_putg HO_5.out ((ji21) : Int) (wrap64 ((rd x5_2 (ji21)) + x7_2)))); (try (obtain ⟨hx24_0, hf24_0⟩ := Kd.zc8 0 HO_5.out ((ji21) : Int) (of_eq_true p24) (of_eq_true q24))))); refine zcz (t := 3) (p := 68) (v := ?vo_w27) (w1 := (wr.setCell ⟨go24, ((ji21) : Int).toNat, none⟩ (.int .i64 (wrap64 ((rd x5_2 (ji21)) + x7_2))))) ?hg ?ho ?hn ?hr ?_; (case ho => rfl); (case hg => rfl); (case hn => rfl); (case hr => first | (go_simp; done) | (go_simp; rfl)); intro w27 hw; have hg : wr.grownBy w27 (some go24) := (by rw [hw]; exact HP26.2); have hp_ : Kd.R (Kd.int .i64) 3 w27 w.heap.size (fun _ => True) (.slice (some ⟨go24, 0, none⟩) x5_2.length co25) y420 := (by rw [hw, Ny420.out]; exact HP26.1); clear HP26; have n0_ := zA (hp_); have n1_ := zA ((by rw [hw]; exact zdd (HB.out) GB24.out : Below w.heap.size w w27)); clear HO_5 HB; have HO_5 := n0_; have HB := n1_; clear n0_ n1_ hg hw hp_))
           repeat (go_quiet (first | ((with_reducible refine zc9 (t := 3) (p := 68) rfl ?_); (try (rw [drewN_self wr]; generalize hq_ : World.drewN wr _ = wr; have n0_ := zA (Kd.R_at hq_ HO_5.out); have n1_ := zA (below_at hq_ HB.out); clear hq_ HO_5 HB; have HO_5 := n0_; have HB := n1_; clear n0_ n1_; (try (have HP26 := Kd.R_putg HO_5.out ((ji21) : Int) (wrap64 ((rd x5_2 (ji21)) + x7_2)))); (try (obtain ⟨hx24_0, hf24_0⟩ := Kd.zc8 0 HO_5.out ((ji21) : Int) (of_eq_true p24) (of_eq_true q24))))); refine zcz (t := 3) (p := 68) (v := ?vo_w27) (w1 := (wr.setCell ⟨go24, ((ji21) : Int).toNat, none⟩ (.int .i64 (wrap64 ((rd x5_2 (ji21)) + x7_2))))) ?hg ?ho ?hn ?hr ?_; (case ho => rfl); (case hg => rfl); (case hn => rfl); (case hr => first | (go_simp; done) | (go_simp; rfl)); intro w27 hw; have hg : wr.grownBy w27 (some go24) := (by rw [hw]; exact HP26.2); have hp_ : Kd.R (Kd.int .i64) 3 w27 w.heap.size (fun _ => True) (.slice (some ⟨go24, 0, none⟩) x5_2.length co25) y420 := (by rw [hw, Ny420.out]; exact HP26.1); clear HP26; have n0_ := zA (hp_); have n1_ := zA ((by rw [hw]; exact zdd (HB.out) GB24.out : Below w.heap.size w w27)); clear HO_5 HB; have HO_5 := n0_; have HB := n1_; clear n0_ n1_ hg hw hp_)); try go_wp2_with (first | ((with_reducible refine zc9 (t := 3) (p := 68) rfl ?_); (try (rw [drewN_self wr]; generalize hq_ : World.drewN wr _ = wr; have n0_ := zA (Kd.R_at hq_ HO_5.out); have n1_ := zA (below_at hq_ HB.out); clear hq_ HO_5 HB; have HO_5 := n0_; have HB := n1_; clear n0_ n1_; (try (have HP26 := Kd.R_putg HO_5.out ((ji21) : Int) (wrap64 ((rd x5_2 (ji21)) + x7_2)))); (try (obtain ⟨hx24_0, hf24_0⟩ := Kd.zc8 0 HO_5.out ((ji21) : Int) (of_eq_true p24) (of_eq_true q24))))); refine zcz (t := 3) (p := 68) (v := ?vo_w27) (w1 := (wr.setCell ⟨go24, ((ji21) : Int).toNat, none⟩ (.int .i64 (wrap64 ((rd x5_2 (ji21)) + x7_2))))) ?hg ?ho ?hn ?hr ?_; (case ho => rfl); (case hg => rfl); (case hn => rfl); (case hr => first | (go_simp; done) | (go_simp; rfl)); intro w27 hw; have hg : wr.grownBy w27 (some go24) := (by rw [hw]; exact HP26.2); have hp_ : Kd.R (Kd.int .i64) 3 w27 w.heap.size (fun _ => True) (.slice (some ⟨go24, 0, none⟩) x5_2.length co25) y420 := (by rw [hw, Ny420.out]; exact HP26.1); clear HP26; have n0_ := zA (hp_); have n1_ := zA ((by rw [hw]; exact zdd (HB.out) GB24.out : Below w.heap.size w w27)); clear HO_5 HB; have HO_5 := n0_; have HB := n1_; clear n0_ n1_ hg hw hp_)))
           go_roundg k2
           case measure => have := HK1.out; have := HK2.out; omega
           case rel => exact ⟨(y420), (wrap64 (x18_1 + 1)), (zF), H', ⟨by have := HK1.out; have := HK2.out; omega⟩, ⟨zR HO_5⟩, ⟨zB HB⟩⟩
          ·
           rw [if_neg c23] at H
           exact absurd H (by simp)
         ·
          rw [if_neg c22] at H
          exact absurd H (by simp)
     ·
      rw [if_neg c8] at H
      have c8b0 : decide (x18_1 < (l0.length : Int)) = false := decide_eq_false c8
      clear c8
      replace H := zO H
      obtain ⟨t412, A280, H⟩ := H
      try dsimp only at H
      have A28 := zA A280
      clear A280
      obtain rfl := Option.some.inj H
      obtain ⟨Ao29, co29, eo29⟩ := Kd.zbm HO_5.out
      subst eo29
      go_wp2_with (first | (go_at_call 120; (with_reducible refine (zar.calls k1 (fun k_ => some k_ = (.slice Ao29 x5_1.length co29 : Value).ownBlock) (.slice Ao29 x5_1.length co29) x5_1 t412 w _ ?side1 ?side2 A28.out).mono ?_); (case side1 => repeat (first | (with_reducible first | exact HB.out | apply za7 | apply zbd | apply zbe) | exact HB.out)); (case side2 => exact Kd.zdc rfl HO_5.out); rintro e w30 ⟨v413, rfl, ho0, hb, hkp⟩; have n0_ := zA (Kd.zbl (ok' := fun k_ => True) ho0 (fun k_ hk_ => trivial)); have n1_ := zA (hb); clear HB HO_5; have HO414 := n0_; have HB := n1_; clear n0_ n1_; (try clear hb); (try clear hkp); (try clear ho0)))
      repeat (go_quiet (first | (go_at_call 120; (with_reducible refine (zar.calls k1 (fun k_ => some k_ = (.slice Ao29 x5_1.length co29 : Value).ownBlock) (.slice Ao29 x5_1.length co29) x5_1 t412 w _ ?side1 ?side2 A28.out).mono ?_); (case side1 => repeat (first | (with_reducible first | exact HB.out | apply za7 | apply zbd | apply zbe) | exact HB.out)); (case side2 => exact Kd.zdc rfl HO_5.out); rintro e w30 ⟨v413, rfl, ho0, hb, hkp⟩; have n0_ := zA (Kd.zbl (ok' := fun k_ => True) ho0 (fun k_ hk_ => trivial)); have n1_ := zA (hb); clear HB HO_5; have HO414 := n0_; have HB := n1_; clear n0_ n1_; (try clear hb); (try clear hkp); (try clear ho0))); try go_wp2_with (first | (go_at_call 120; (with_reducible refine (zar.calls k1 (fun k_ => some k_ = (.slice Ao29 x5_1.length co29 : Value).ownBlock) (.slice Ao29 x5_1.length co29) x5_1 t412 w _ ?side1 ?side2 A28.out).mono ?_); (case side1 => repeat (first | (with_reducible first | exact HB.out | apply za7 | apply zbd | apply zbe) | exact HB.out)); (case side2 => exact Kd.zdc rfl HO_5.out); rintro e w30 ⟨v413, rfl, ho0, hb, hkp⟩; have n0_ := zA (Kd.zbl (ok' := fun k_ => True) ho0 (fun k_ hk_ => trivial)); have n1_ := zA (hb); clear HB HO_5; have HO414 := n0_; have HB := n1_; clear n0_ n1_; (try clear hb); (try clear hkp); (try clear ho0))))
      go_ret
      exact ⟨_, by first | rfl | (simp [zb4, zb3] <;> rfl) | (simp only [← hji3]; first | rfl | (simp [zb4, zb3] <;> rfl)) | (simp [*, zb4, zb3] <;> rfl), zR HO414, zB HB⟩
  ·
   rw [if_neg c5] at H
   exact absurd H (by simp)
 ·
  rw [if_neg c4] at H
  exact absurd H (by simp)
def zb5.f (l0 : List Int) (a1 : Int) : Option (Int) := if a1 < (l0.length : Int) then (if 0 ≤ a1 then (some (rd l0 a1)) else (none)) else (some 0)
theorem zb5.calls (A0 : Option Addr) (c0 : Nat) (l0 : List Int) (a1 : Int) (r : Int) (w : World) (hr0 : Kd.C (Kd.int .i64) w A0 l0.length l0) (hc0 : l0.length ≤ c0) (h : zb5.f l0 a1 = some r) :
  Calls Tryz.prog 134 #[.slice A0 l0.length c0, .int .i64 a1] w fun e w' => e = .returned (.int .i64 r) ∧ Drawn0 w w' := by
 have HR0 := zA hr0
 have HC0 := zA hc0
 clear hr0 hc0
 have H : (if a1 < (l0.length : Int) then (if 0 ≤ a1 then (some (rd l0 a1)) else (none)) else (some 0)) = some r := h
 clear h
 by_cases c3 : a1 < (l0.length : Int)
 ·
  rw [if_pos c3] at H
  have c3b0 : decide (a1 < (l0.length : Int)) = true := decide_eq_true c3
  clear c3
  by_cases c4 : 0 ≤ a1
  ·
   rw [if_pos c4] at H
   have c4b0 : decide (0 ≤ a1) = true := decide_eq_true c4
   clear c4
   obtain rfl := Option.some.inj H
   have p421 : 0 ≤ (a1 : Int) := of_decide_eq_true (by first | (with_reducible assumption) | assumption)
   have q421 : a1 < (l0.length : Int) := of_decide_eq_true (by first | (with_reducible assumption) | assumption)
   obtain ⟨ad421, e421, hx421_0⟩ := Kd.at_int HR0.out a1 p421 q421
   cases e421
   replace p421 := eq_true p421
   replace q421 := eq_true q421
   go_enter Tryz.func134, Tryz.ntmps134
   go_wp2
   go_ret
   exact ⟨zF, by repeat (first | exact Drawn0.refl _ | apply Drawn0.step)⟩
  ·
   rw [if_neg c4] at H
   exact absurd H (by simp)
 ·
  rw [if_neg c3] at H
  have c3b0 : decide (a1 < (l0.length : Int)) = false := decide_eq_false c3
  clear c3
  obtain rfl := Option.some.inj H
  go_enter Tryz.func134, Tryz.ntmps134
  go_wp2
  go_ret
  exact ⟨zF, by repeat (first | exact Drawn0.refl _ | apply Drawn0.step)⟩
def za8.l0 : Nat → List Int → List Int → List Int → Int → Int → Int → Option (List Int)
 | 0, _, _, _, _, _, _ => none
 | k + 1, x0, x1, x5, x6, x10, x11 => if x11 < x10 then (if 0 ≤ x11 then (if x11 < (x0.length : Int) then ((zb5.f x1 x11).bind fun t423 => (if (wrap64 ((wrap64 ((rd x0 x11) - t423)) - x6)) < 0 then (if x5.length < 17592186044416 then (za8.l0 k x0 x1 (x5 ++ [wrap64 ((wrap64 ((wrap64 ((rd x0 x11) - t423)) - x6)) + 10000)]) 1 x10 (wrap64 (x11 + 1))) else (none)) else (if x5.length < 17592186044416 then (za8.l0 k x0 x1 (x5 ++ [wrap64 ((wrap64 ((rd x0 x11) - t423)) - x6)]) 0 x10 (wrap64 (x11 + 1))) else (none)))) else (none)) else (none)) else ((zar.f k x5).bind fun t430 => (some t430))
def za8.f (k : Nat) (l0 : List Int) (l1 : List Int) : Option (List Int) := za8.l0 k l0 l1 ([] : List Int) 0 (l0.length : Int) 0
theorem za8.calls (k : Nat) (A0 : Option Addr) (c0 : Nat) (l0 : List Int) (A1 : Option Addr) (c1 : Nat) (l1 : List Int) (r : List Int) (w : World) (hr0 : Kd.C (Kd.int .i64) w A0 l0.length l0) (hc0 : l0.length ≤ c0) (hr1 : Kd.C (Kd.int .i64) w A1 l1.length l1) (hc1 : l1.length ≤ c1) (h : za8.f k l0 l1 = some r) :
  Calls Tryz.prog 92 #[.slice A0 l0.length c0, .slice A1 l1.length c1] w fun e w' => ∃ v0_ : Value, e = .returned (v0_) ∧ Kd.R (Kd.int .i64) 3 w' w.heap.size (fun _ => True) v0_ r ∧ Below w.heap.size w w' := by
 have HR0 := zA hr0
 have HC0 := zA hc0
 clear hr0 hc0
 have HR1 := zA hr1
 have HC1 := zA hc1
 clear hr1 hc1
 have HB := zA (Below.refl w.heap.size w)
 have H : (za8.l0 k l0 l1 ([] : List Int) 0 (l0.length : Int) 0) = some r := h
 clear h
 have H' := zA H
 clear H
 go_enter Tryz.func92, Tryz.ntmps92
 go_wp2
 repeat (go_quiet (fail); try go_wp2)
 go_loopg [5, 6, 11] k (fun kq v5 v6 v11 w' => ∃ (x5_1 : List Int) (x6_1 : Int) (x11_1 : Int), v6 = .int .i64 x6_1 ∧ v11 = .int .i64 x11_1 ∧ Aside0 (za8.l0 kq l0 l1 x5_1 x6_1 (l0.length : Int) x11_1 = some r) ∧ Aside0 (kq ≤ k) ∧ Aside0 (Kd.R (Kd.int .i64) 3 w' w.heap.size (fun _ => True) v5 x5_1) ∧ Aside0 (Below w.heap.size w w'))
 case atStart => exact ⟨(([] : List Int)), (0), (0), (zF), (zF), H', ⟨Nat.le_refl _⟩, ⟨by first | exact Kd.R_nil _ _ _ _ _ | exact Kd.N_nil _ _ _ _ _ | exact Kd.V_nil _ _ _ _ _ | exact Kd.Q_nil _ _ _ _ _ | exact Kd.S_nil _ _ _ _ _⟩, ⟨zB HB⟩⟩
 case round =>
  clear H'
  try clear c1
  try clear p2
  obtain ⟨x5_1, x6_1, x11_1, rfl, rfl, HA, HK1, HO_5, HB⟩ := hrel
  cases gk with
  | zero => exact absurd HA.out (by simp [za8.l0])
  | succ k1 =>
   have H := HA.out
   clear HA
   simp only [za8.l0] at H
   by_cases c3 : x11_1 < (l0.length : Int)
   ·
    rw [if_pos c3] at H
    have c3b0 : decide (x11_1 < (l0.length : Int)) = true := decide_eq_true c3
    clear c3
    by_cases c4 : 0 ≤ x11_1
    ·
     rw [if_pos c4] at H
     have c4b0 : decide (0 ≤ x11_1) = true := decide_eq_true c4
     clear c4
     by_cases c5 : x11_1 < (l0.length : Int)
     ·
      rw [if_pos c5] at H
      have c5b0 : decide (x11_1 < (l0.length : Int)) = true := decide_eq_true c5
      clear c5
      replace H := zO H
      obtain ⟨t423, A60, H⟩ := H
      try dsimp only at H
      have A6 := zA A60
      clear A60
      by_cases c7 : (wrap64 ((wrap64 ((rd l0 x11_1) - t423)) - x6_1)) < 0
      ·
       rw [if_pos c7] at H
       have c7b0 : decide ((wrap64 ((wrap64 ((rd l0 x11_1) - t423)) - x6_1)) < 0) = true := decide_eq_true c7
       clear c7
       by_cases c8 : x5_1.length < 17592186044416
       ·
        rw [if_pos c8] at H
        have LMc8 := zA c8
        clear c8
        obtain ⟨y424, hy424⟩ : ∃ y_ : List Int, y_ = (x5_1 ++ [wrap64 ((wrap64 ((wrap64 ((rd l0 x11_1) - t423)) - x6_1)) + 10000)]) := ⟨_, rfl⟩
        replace H : (za8.l0 k1 l0 l1 y424 1 (l0.length : Int) (wrap64 (x11_1 + 1))) = some r := by first | (rw [hy424]; with_reducible exact H) | (have H2_ := (Option.bind_some _ _).symm.trans H; rw [hy424]; with_reducible exact H2_) | (have H2_ := (Option.bind_some _ _).symm.trans H; with_reducible exact H2_) | with_reducible exact H | (rw [hy424]; exact H) | exact H
        have Ny424 := zA hy424
        clear hy424
        have H' := zA H
        clear H
        have p422 : 0 ≤ (x11_1 : Int) := of_decide_eq_true (by first | (with_reducible assumption) | assumption)
        have q422 : x11_1 < (l0.length : Int) := of_decide_eq_true (by first | (with_reducible assumption) | assumption)
        obtain ⟨ad422, e422, hx422_0⟩ := Kd.at_int HR0.out x11_1 p422 q422
        cases e422
        replace hx422_0 := (HB.out.cell (World.block_lt_of_cell? w _ hx422_0)).trans hx422_0
        replace p422 := eq_true p422
        replace q422 := eq_true q422
        go_wp2_with (first | (go_at_call 134; (with_reducible refine (zb5.calls _ _ l1 x11_1 t423 _ ?side1 ?side2 A6.out).mono ?_); (case side1 => exact zJ (Kd.zax HR1.out HB.out)); (case side2 => exact HC1.out); rintro e w' ⟨rfl, ⟨nd, rfl⟩⟩; (try first | exact ⟨rfl, _, World.drewN_drewN _ _ _⟩ | exact ⟨rfl, _, Eq.trans (World.drewN_drewN _ _ _) (congrArg (World.drewN _) (Nat.add_assoc _ _ _))⟩)) | ((with_reducible refine zbx (b := .append) (xs := #[.tmp 28, .tmp 30]) rfl ?_); at_builtin; refine Kd.zda (Kd.int .i64) (w0 := w) w.heap.size rfl (.tmp 28) (.tmp 30) 30 3 (.int .i64 0) 8 rfl Tryz.underlying30 info3 rfl (by decide) (by omega) u5 x5_1 (wrap64 ((wrap64 ((wrap64 ((rd l0 x11_1) - t423)) - x6_1)) + 10000)) [.int .i64 (wrap64 ((wrap64 ((wrap64 ((rd l0 x11_1) - t423)) - x6_1)) + 10000))] (fun _ => True) (fun _ => False) rfl rfl ?aP (fun _ hk => hk.elim) ?aF ?aO ?aB ?aS ?aL ?_; (case aP => exact rfl); (case aB => exact (zB HB)); (case aF => exact (fun _ _ => trivial)); (case aO => exact (zR HO_5)); (case aS => exact (za (zB HB))); (case aL => have := LMc8.out; omega); intro v425 w9 ho hb hg hat; rw [← Ny424.out] at ho; have n0_ := zA (hb); have n1_ := zA (ho); clear HB HO_5; have HB := n0_; have HO426 := n1_; clear n0_ n1_ ho hb hg hat))
        repeat (go_quiet (first | (go_at_call 134; (with_reducible refine (zb5.calls _ _ l1 x11_1 t423 _ ?side1 ?side2 A6.out).mono ?_); (case side1 => exact zJ (Kd.zax HR1.out HB.out)); (case side2 => exact HC1.out); rintro e w' ⟨rfl, ⟨nd, rfl⟩⟩; (try first | exact ⟨rfl, _, World.drewN_drewN _ _ _⟩ | exact ⟨rfl, _, Eq.trans (World.drewN_drewN _ _ _) (congrArg (World.drewN _) (Nat.add_assoc _ _ _))⟩)) | ((with_reducible refine zbx (b := .append) (xs := #[.tmp 28, .tmp 30]) rfl ?_); at_builtin; refine Kd.zda (Kd.int .i64) (w0 := w) w.heap.size rfl (.tmp 28) (.tmp 30) 30 3 (.int .i64 0) 8 rfl Tryz.underlying30 info3 rfl (by decide) (by omega) u5 x5_1 (wrap64 ((wrap64 ((wrap64 ((rd l0 x11_1) - t423)) - x6_1)) + 10000)) [.int .i64 (wrap64 ((wrap64 ((wrap64 ((rd l0 x11_1) - t423)) - x6_1)) + 10000))] (fun _ => True) (fun _ => False) rfl rfl ?aP (fun _ hk => hk.elim) ?aF ?aO ?aB ?aS ?aL ?_; (case aP => exact rfl); (case aB => exact (zB HB)); (case aF => exact (fun _ _ => trivial)); (case aO => exact (zR HO_5)); (case aS => exact (za (zB HB))); (case aL => have := LMc8.out; omega); intro v425 w9 ho hb hg hat; rw [← Ny424.out] at ho; have n0_ := zA (hb); have n1_ := zA (ho); clear HB HO_5; have HB := n0_; have HO426 := n1_; clear n0_ n1_ ho hb hg hat)); try go_wp2_with (first | (go_at_call 134; (with_reducible refine (zb5.calls _ _ l1 x11_1 t423 _ ?side1 ?side2 A6.out).mono ?_); (case side1 => exact zJ (Kd.zax HR1.out HB.out)); (case side2 => exact HC1.out); rintro e w' ⟨rfl, ⟨nd, rfl⟩⟩; (try first | exact ⟨rfl, _, World.drewN_drewN _ _ _⟩ | exact ⟨rfl, _, Eq.trans (World.drewN_drewN _ _ _) (congrArg (World.drewN _) (Nat.add_assoc _ _ _))⟩)) | ((with_reducible refine zbx (b := .append) (xs := #[.tmp 28, .tmp 30]) rfl ?_); at_builtin; refine Kd.zda (Kd.int .i64) (w0 := w) w.heap.size rfl (.tmp 28) (.tmp 30) 30 3 (.int .i64 0) 8 rfl Tryz.underlying30 info3 rfl (by decide) (by omega) u5 x5_1 (wrap64 ((wrap64 ((wrap64 ((rd l0 x11_1) - t423)) - x6_1)) + 10000)) [.int .i64 (wrap64 ((wrap64 ((wrap64 ((rd l0 x11_1) - t423)) - x6_1)) + 10000))] (fun _ => True) (fun _ => False) rfl rfl ?aP (fun _ hk => hk.elim) ?aF ?aO ?aB ?aS ?aL ?_; (case aP => exact rfl); (case aB => exact (zB HB)); (case aF => exact (fun _ _ => trivial)); (case aO => exact (zR HO_5)); (case aS => exact (za (zB HB))); (case aL => have := LMc8.out; omega); intro v425 w9 ho hb hg hat; rw [← Ny424.out] at ho; have n0_ := zA (hb); have n1_ := zA (ho); clear HB HO_5; have HB := n0_; have HO426 := n1_; clear n0_ n1_ ho hb hg hat)))
        go_roundg k1
        case measure => have := HK1.out; omega
        case rel => exact ⟨(y424), (1), (wrap64 (x11_1 + 1)), (zF), (zF), H', ⟨by have := HK1.out; omega⟩, ⟨zR HO426⟩, ⟨zB HB⟩⟩
       ·
        rw [if_neg c8] at H
        exact absurd H (by simp)
      ·
       rw [if_neg c7] at H
       have c7b0 : decide ((wrap64 ((wrap64 ((rd l0 x11_1) - t423)) - x6_1)) < 0) = false := decide_eq_false c7
       clear c7
       by_cases c10 : x5_1.length < 17592186044416
       ·
        rw [if_pos c10] at H
        have LMc10 := zA c10
        clear c10
        obtain ⟨y427, hy427⟩ : ∃ y_ : List Int, y_ = (x5_1 ++ [wrap64 ((wrap64 ((rd l0 x11_1) - t423)) - x6_1)]) := ⟨_, rfl⟩
        replace H : (za8.l0 k1 l0 l1 y427 0 (l0.length : Int) (wrap64 (x11_1 + 1))) = some r := by first | (rw [hy427]; with_reducible exact H) | (have H2_ := (Option.bind_some _ _).symm.trans H; rw [hy427]; with_reducible exact H2_) | (have H2_ := (Option.bind_some _ _).symm.trans H; with_reducible exact H2_) | with_reducible exact H | (rw [hy427]; exact H) | exact H
        have Ny427 := zA hy427
        clear hy427
        have H' := zA H
        clear H
        have p422 : 0 ≤ (x11_1 : Int) := of_decide_eq_true (by first | (with_reducible assumption) | assumption)
        have q422 : x11_1 < (l0.length : Int) := of_decide_eq_true (by first | (with_reducible assumption) | assumption)
        obtain ⟨ad422, e422, hx422_0⟩ := Kd.at_int HR0.out x11_1 p422 q422
        cases e422
        replace hx422_0 := (HB.out.cell (World.block_lt_of_cell? w _ hx422_0)).trans hx422_0
        replace p422 := eq_true p422
        replace q422 := eq_true q422
        go_wp2_with (first | (go_at_call 134; (with_reducible refine (zb5.calls _ _ l1 x11_1 t423 _ ?side1 ?side2 A6.out).mono ?_); (case side1 => exact zJ (Kd.zax HR1.out HB.out)); (case side2 => exact HC1.out); rintro e w' ⟨rfl, ⟨nd, rfl⟩⟩; (try first | exact ⟨rfl, _, World.drewN_drewN _ _ _⟩ | exact ⟨rfl, _, Eq.trans (World.drewN_drewN _ _ _) (congrArg (World.drewN _) (Nat.add_assoc _ _ _))⟩)) | ((with_reducible refine zbx (b := .append) (xs := #[.tmp 28, .tmp 30]) rfl ?_); at_builtin; refine Kd.zda (Kd.int .i64) (w0 := w) w.heap.size rfl (.tmp 28) (.tmp 30) 30 3 (.int .i64 0) 8 rfl Tryz.underlying30 info3 rfl (by decide) (by omega) u5 x5_1 (wrap64 ((wrap64 ((rd l0 x11_1) - t423)) - x6_1)) [.int .i64 (wrap64 ((wrap64 ((rd l0 x11_1) - t423)) - x6_1))] (fun _ => True) (fun _ => False) rfl rfl ?aP (fun _ hk => hk.elim) ?aF ?aO ?aB ?aS ?aL ?_; (case aP => exact rfl); (case aB => exact (zB HB)); (case aF => exact (fun _ _ => trivial)); (case aO => exact (zR HO_5)); (case aS => exact (za (zB HB))); (case aL => have := LMc10.out; omega); intro v428 w11 ho hb hg hat; rw [← Ny427.out] at ho; have n0_ := zA (hb); have n1_ := zA (ho); clear HB HO_5; have HB := n0_; have HO429 := n1_; clear n0_ n1_ ho hb hg hat))
        repeat (go_quiet (first | (go_at_call 134; (with_reducible refine (zb5.calls _ _ l1 x11_1 t423 _ ?side1 ?side2 A6.out).mono ?_); (case side1 => exact zJ (Kd.zax HR1.out HB.out)); (case side2 => exact HC1.out); rintro e w' ⟨rfl, ⟨nd, rfl⟩⟩; (try first | exact ⟨rfl, _, World.drewN_drewN _ _ _⟩ | exact ⟨rfl, _, Eq.trans (World.drewN_drewN _ _ _) (congrArg (World.drewN _) (Nat.add_assoc _ _ _))⟩)) | ((with_reducible refine zbx (b := .append) (xs := #[.tmp 28, .tmp 30]) rfl ?_); at_builtin; refine Kd.zda (Kd.int .i64) (w0 := w) w.heap.size rfl (.tmp 28) (.tmp 30) 30 3 (.int .i64 0) 8 rfl Tryz.underlying30 info3 rfl (by decide) (by omega) u5 x5_1 (wrap64 ((wrap64 ((rd l0 x11_1) - t423)) - x6_1)) [.int .i64 (wrap64 ((wrap64 ((rd l0 x11_1) - t423)) - x6_1))] (fun _ => True) (fun _ => False) rfl rfl ?aP (fun _ hk => hk.elim) ?aF ?aO ?aB ?aS ?aL ?_; (case aP => exact rfl); (case aB => exact (zB HB)); (case aF => exact (fun _ _ => trivial)); (case aO => exact (zR HO_5)); (case aS => exact (za (zB HB))); (case aL => have := LMc10.out; omega); intro v428 w11 ho hb hg hat; rw [← Ny427.out] at ho; have n0_ := zA (hb); have n1_ := zA (ho); clear HB HO_5; have HB := n0_; have HO429 := n1_; clear n0_ n1_ ho hb hg hat)); try go_wp2_with (first | (go_at_call 134; (with_reducible refine (zb5.calls _ _ l1 x11_1 t423 _ ?side1 ?side2 A6.out).mono ?_); (case side1 => exact zJ (Kd.zax HR1.out HB.out)); (case side2 => exact HC1.out); rintro e w' ⟨rfl, ⟨nd, rfl⟩⟩; (try first | exact ⟨rfl, _, World.drewN_drewN _ _ _⟩ | exact ⟨rfl, _, Eq.trans (World.drewN_drewN _ _ _) (congrArg (World.drewN _) (Nat.add_assoc _ _ _))⟩)) | ((with_reducible refine zbx (b := .append) (xs := #[.tmp 28, .tmp 30]) rfl ?_); at_builtin; refine Kd.zda (Kd.int .i64) (w0 := w) w.heap.size rfl (.tmp 28) (.tmp 30) 30 3 (.int .i64 0) 8 rfl Tryz.underlying30 info3 rfl (by decide) (by omega) u5 x5_1 (wrap64 ((wrap64 ((rd l0 x11_1) - t423)) - x6_1)) [.int .i64 (wrap64 ((wrap64 ((rd l0 x11_1) - t423)) - x6_1))] (fun _ => True) (fun _ => False) rfl rfl ?aP (fun _ hk => hk.elim) ?aF ?aO ?aB ?aS ?aL ?_; (case aP => exact rfl); (case aB => exact (zB HB)); (case aF => exact (fun _ _ => trivial)); (case aO => exact (zR HO_5)); (case aS => exact (za (zB HB))); (case aL => have := LMc10.out; omega); intro v428 w11 ho hb hg hat; rw [← Ny427.out] at ho; have n0_ := zA (hb); have n1_ := zA (ho); clear HB HO_5; have HB := n0_; have HO429 := n1_; clear n0_ n1_ ho hb hg hat)))
        go_roundg k1
        case measure => have := HK1.out; omega
        case rel => exact ⟨(y427), (0), (wrap64 (x11_1 + 1)), (zF), (zF), H', ⟨by have := HK1.out; omega⟩, ⟨zR HO429⟩, ⟨zB HB⟩⟩
       ·
        rw [if_neg c10] at H
        exact absurd H (by simp)
     ·
      rw [if_neg c5] at H
      exact absurd H (by simp)
    ·
     rw [if_neg c4] at H
     exact absurd H (by simp)
   ·
    rw [if_neg c3] at H
    have c3b0 : decide (x11_1 < (l0.length : Int)) = false := decide_eq_false c3
    clear c3
    replace H := zO H
    obtain ⟨t430, A120, H⟩ := H
    try dsimp only at H
    have A12 := zA A120
    clear A120
    obtain rfl := Option.some.inj H
    obtain ⟨Ao13, co13, eo13⟩ := Kd.zbm HO_5.out
    subst eo13
    go_wp2_with (first | (go_at_call 120; (with_reducible refine (zar.calls k1 (fun k_ => some k_ = (.slice Ao13 x5_1.length co13 : Value).ownBlock) (.slice Ao13 x5_1.length co13) x5_1 t430 w _ ?side1 ?side2 A12.out).mono ?_); (case side1 => repeat (first | (with_reducible first | exact HB.out | apply za7 | apply zbd | apply zbe) | exact HB.out)); (case side2 => exact Kd.zdc rfl HO_5.out); rintro e w14 ⟨v431, rfl, ho0, hb, hkp⟩; have n0_ := zA (Kd.zbl (ok' := fun k_ => True) ho0 (fun k_ hk_ => trivial)); have n1_ := zA (hb); clear HB HO_5; have HO432 := n0_; have HB := n1_; clear n0_ n1_; (try clear hb); (try clear hkp); (try clear ho0)))
    repeat (go_quiet (first | (go_at_call 120; (with_reducible refine (zar.calls k1 (fun k_ => some k_ = (.slice Ao13 x5_1.length co13 : Value).ownBlock) (.slice Ao13 x5_1.length co13) x5_1 t430 w _ ?side1 ?side2 A12.out).mono ?_); (case side1 => repeat (first | (with_reducible first | exact HB.out | apply za7 | apply zbd | apply zbe) | exact HB.out)); (case side2 => exact Kd.zdc rfl HO_5.out); rintro e w14 ⟨v431, rfl, ho0, hb, hkp⟩; have n0_ := zA (Kd.zbl (ok' := fun k_ => True) ho0 (fun k_ hk_ => trivial)); have n1_ := zA (hb); clear HB HO_5; have HO432 := n0_; have HB := n1_; clear n0_ n1_; (try clear hb); (try clear hkp); (try clear ho0))); try go_wp2_with (first | (go_at_call 120; (with_reducible refine (zar.calls k1 (fun k_ => some k_ = (.slice Ao13 x5_1.length co13 : Value).ownBlock) (.slice Ao13 x5_1.length co13) x5_1 t430 w _ ?side1 ?side2 A12.out).mono ?_); (case side1 => repeat (first | (with_reducible first | exact HB.out | apply za7 | apply zbd | apply zbe) | exact HB.out)); (case side2 => exact Kd.zdc rfl HO_5.out); rintro e w14 ⟨v431, rfl, ho0, hb, hkp⟩; have n0_ := zA (Kd.zbl (ok' := fun k_ => True) ho0 (fun k_ hk_ => trivial)); have n1_ := zA (hb); clear HB HO_5; have HO432 := n0_; have HB := n1_; clear n0_ n1_; (try clear hb); (try clear hkp); (try clear ho0))))
    go_ret
    exact ⟨_, zW, zR HO432, zB HB⟩
end Go.Proofs.YthiicmanfpmipaaGreatDoor.P
end
