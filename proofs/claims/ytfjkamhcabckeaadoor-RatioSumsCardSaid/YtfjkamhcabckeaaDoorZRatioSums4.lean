-- Written by a program of this session (wip/tools/shake.py) out of its own texts and of the kit's printed ones; not trusted: Lean checks it.
import Derived.Test.YtfjkamhcabckeaaDoorZRatioSums3
set_option maxHeartbeats 8000000
set_option maxRecDepth 100000
set_option linter.unusedVariables false
set_option linter.unusedSimpArgs false
section
namespace Go.Proofs.YtfjkamhcabckeaaDoor.P
open Go.RowKit Go.Proofs.YtfjkamhcabckeaaDoorW.PrintWords Go.Proofs.YtfjkamhcabckeaaDoorW.PrintLast Go.Proofs.YtfjkamhcabckeaaDoorW.PrintMore
attribute [local go_sem] zdo zdl max_two min_two zc9 zdb zdm zdk
def zbq.f (k : Nat)  : Option (Bool) := (zc5.f k 6).bind fun t241 => ((zc5.f k 4).bind fun t244 => ((zcq.f k t241 t244).bind fun bt247 => (if bt247.2.2 = 0 then ((zbl.f k bt247.1 bt247.2.1).bind fun t255 => (if t255.toList = ([51, 47, 50] : List UInt8) then ((zb9.f k bt247.1 bt247.2.1).bind fun t256 => ((zb6.f k t256).bind fun t259 => (some (t259.toList == ([49] : List UInt8))))) else (some false))) else (some false))))
theorem zbq.mono : ∀ k, LeO (zbq.f k ) (zbq.f (k + 1) ) := by
 intro  k
 unfold zbq.f
 repeat' first
   | (with_reducible exact zc5.mono _ _)
   | (with_reducible exact zb6.mono _ _)
   | (with_reducible exact zcq.mono _ _ _)
   | (with_reducible exact zb9.mono _ _ _)
   | (with_reducible exact zbl.mono _ _ _)
   | (with_reducible exact LeO.refl _)
   | (with_reducible exact LeO.none _)
   | (with_reducible refine LeO.ite ?_ ?_)
   | (with_reducible refine LeO.bind ?_ (fun _ => ?_))
   | exact zc5.mono _ _
   | exact zb6.mono _ _
   | exact zcq.mono _ _ _
   | exact zb9.mono _ _ _
   | exact zbl.mono _ _ _
   | exact LeO.none _
   | refine LeO.ite ?_ ?_
   | refine LeO.bind ?_ (fun _ => ?_)
theorem zbq.calls (k : Nat)  (r : Bool) (w : World) (hG : Glob w) (h : zbq.f k  = some r) :
  Calls Tryd.prog 14 #[] w fun e w' => e = .returned (.bool r) ∧ Below w.heap.size w w' := by
 have hu28 := Tryd.underlying28
 have HG := zA hG
 clear hG
 have HB := zA (Below.refl w.heap.size w)
 have H : ((zc5.f k 6).bind fun t241 => ((zc5.f k 4).bind fun t244 => ((zcq.f k t241 t244).bind fun bt247 => (if bt247.2.2 = 0 then ((zbl.f k bt247.1 bt247.2.1).bind fun t255 => (if t255.toList = ([51, 47, 50] : List UInt8) then ((zb9.f k bt247.1 bt247.2.1).bind fun t256 => ((zb6.f k t256).bind fun t259 => (some (t259.toList == ([49] : List UInt8))))) else (some false))) else (some false))))) = some r := h
 clear h
 replace H := zO H
 obtain ⟨t241, A10, H⟩ := H
 try dsimp only at H
 have A1 := zA A10
 clear A10
 replace H := zO H
 obtain ⟨t244, A20, H⟩ := H
 try dsimp only at H
 have A2 := zA A20
 clear A20
 replace H := zO H
 obtain ⟨⟨t247, t250, t253⟩, A30, H⟩ := H
 try dsimp only at H
 have A3 := zA A30
 clear A30
 by_cases c4 : t253 = 0
 ·
  rw [if_pos c4] at H
  have c4b0 : (t253 == 0) = true := beq_iff_eq.mpr c4
  have c4b1 : (t253 != 0) = false := bne_eq_false_iff_eq.mpr c4
  clear c4
  replace H := zO H
  obtain ⟨t255, A50, H⟩ := H
  try dsimp only at H
  have A5 := zA A50
  clear A50
  by_cases c6 : t255.toList = ([51, 47, 50] : List UInt8)
  ·
   rw [if_pos c6] at H
   have c6b0 : (t255.toList == ([51, 47, 50] : List UInt8)) = true := beq_iff_eq.mpr c6
   have c6b1 : (t255.toList != ([51, 47, 50] : List UInt8)) = false := bne_eq_false_iff_eq.mpr c6
   clear c6
   replace H := zO H
   obtain ⟨t256, A70, H⟩ := H
   try dsimp only at H
   have A7 := zA A70
   clear A70
   replace H := zO H
   obtain ⟨t259, A80, H⟩ := H
   try dsimp only at H
   have A8 := zA A80
   clear A80
   obtain rfl := Option.some.inj H
   go_enter Tryd.func14, Tryd.ntmps14
   go_wp2_with (first | ((with_reducible refine zah (f := 36) rfl ?_); refine zba (some 4) rfl rfl Tryd.func36 (by kernel_rfl) rfl #[.int .u64 6] rfl (zE) ?_; (with_reducible refine (zc5.calls k 6 t241 _ A1.out).mono ?_); rintro e w9 ⟨v242, rfl, ho0, hb⟩; refine ⟨_, rfl, ?_⟩; have n0_ := zA (Kd.zbi (Kd.zak (ok' := fun k_ => True) ho0 (fun k_ hk_ => trivial)) (za (zB HB))); have n1_ := zA (zaf (zB HB) hb); clear HB; have HO243 := n0_; have HB := n1_; clear n0_ n1_; (try clear hb); (try clear hb2); (try clear hk); (try clear hi); (try clear ho0)) | ((with_reducible refine zah (f := 36) rfl ?_); refine zba (some 5) rfl rfl Tryd.func36 (by kernel_rfl) rfl #[.int .u64 4] rfl (zE) ?_; (with_reducible refine (zc5.calls k 4 t244 _ A2.out).mono ?_); rintro e w10 ⟨v245, rfl, ho0, hb⟩; refine ⟨_, rfl, ?_⟩; have n0_ := zA (Kd.zao (zV HO243) hb); have n1_ := zA (Kd.zbi (Kd.zak (ok' := fun k_ => True) ho0 (fun k_ hk_ => trivial)) (za (zB HB))); have n2_ := zA (zaf (zB HB) hb); clear HO243 HB; have HO243 := n0_; have HO246 := n1_; have HB := n2_; clear n0_ n1_ n2_; (try clear hb); (try clear hb2); (try clear hk); (try clear hi); (try clear ho0); obtain ⟨Ao11, co11, eo11⟩ := Kd.zbt HO243.out; subst eo11; obtain ⟨Ao12, co12, eo12⟩ := Kd.zbt HO246.out; subst eo12) | ((with_reducible refine zah (f := 24) rfl ?_); refine zba (some 6) rfl rfl Tryd.func24 (by kernel_rfl) rfl #[.slice Ao11 t241.length co11, .slice Ao12 t244.length co12] rfl (zE) ?_; (with_reducible refine (zcq.calls k _ _ t241 _ _ t244 t247 t250 t253 _ ?side1 ?side2 ?side3 ?side4 A3.out).mono ?_); (case side1 => exact zJ (Kd.zas HO243.out).2.2); (case side2 => exact (Kd.zas HO243.out).2.1); (case side3 => exact zJ (Kd.zas HO246.out).2.2); (case side4 => exact (Kd.zas HO246.out).2.1); rintro e w13 ⟨v248, v251, rfl, ho0, ho1, hb⟩; refine ⟨_, rfl, ?_⟩; have n0_ := zA (Kd.zao (zV HO243) hb); have n1_ := zA (Kd.zao (zV HO246) hb); have n2_ := zA (Kd.zbi (Kd.zak (ok' := fun k_ => True) ho0 (fun k_ hk_ => trivial)) (za (zB HB))); have n3_ := zA (Kd.zbi (Kd.zak (ok' := fun k_ => True) ho1 (fun k_ hk_ => trivial)) (za (zB HB))); have n4_ := zA (zaf (zB HB) hb); clear HO243 HO246 HB; have HO243 := n0_; have HO246 := n1_; have HO249 := n2_; have HO252 := n3_; have HB := n4_; clear n0_ n1_ n2_ n3_ n4_; (try clear hb); (try clear hb2); (try clear hk); (try clear hi); (try clear ho0); (try clear ho1)) | ((with_reducible refine zbh (N := 1) rfl ?_); refine zbj ?hg (N := 1) ?hd (cs := #[.slice none 0 0, .slice none 0 0]) (t := 28) ?hr ?_; (case hd => rfl); (case hg => rfl); (case hr => first | (go_simp; done) | (go_simp; rfl)); intro gb254 hg w14 hbox hb; have n0_ := zA (Kd.zao (Kd.zca (zV HO243) gb254 (Nat.le_of_eq hg.symm)) hb); have n1_ := zA (Kd.zao (Kd.zca (zV HO246) gb254 (Nat.le_of_eq hg.symm)) hb); have n2_ := zA (Kd.zao (Kd.zca (zV HO249) gb254 (Nat.le_of_eq hg.symm)) hb); have n3_ := zA (Kd.zao (Kd.zca (zV HO252) gb254 (Nat.le_of_eq hg.symm)) hb); have n4_ := zA (zaf (zB HB) hb); have n5_ := zA (hbox); have n6_ := zA ((by rw [hg]; exact (za (zB HB)) : w.heap.size ≤ gb254)); have n7_ := zA ((by rw [hg]; exact (za (zB HB)) : w.heap.size ≤ gb254)); clear HO243 HO246 HO249 HO252 HB; have HO243 := n0_; have HO246 := n1_; have HO249 := n2_; have HO252 := n3_; have HB := n4_; have BK254 := n5_; have GW254 := n6_; have GE254 := n7_; clear n0_ n1_ n2_ n3_ n4_ n5_ n6_ n7_ hb hbox hg; obtain ⟨Ao15, co15, eo15⟩ := Kd.zbt HO249.out; subst eo15; have hcz16_0 : w14.cell? ⟨gb254, 0, none⟩ = some (.slice none 0 0) := (zad BK254.out 0).trans rfl; have hcz16_1 : w14.cell? ⟨gb254, 1, none⟩ = some (.slice none 0 0) := (zad BK254.out 1).trans rfl; have hfz16_0 := zal BK254.out 0; have hfz16_1 := zal BK254.out 1; obtain ⟨Ao17, co17, eo17⟩ := Kd.zbt HO252.out; subst eo17) | (go_at_call 41; (with_reducible refine (zbl.calls k _ _ t247 _ _ t250 t255 _ ?side1 ?side2 ?side3 ?side4 ?side5 A5.out).mono ?_); (case side1 => refine (Kd.zas (e := 57) (base := w.heap.size) (ok := fun k_ => (True ∧ k_ ≠ gb254)) (n := t247.length) (c := co15) ?_).2.2; exact (by (with_reducible repeat (first | apply Kd.za8 | apply Kd.za9 | apply Kd.zbc)); exact (Kd.zak (Kd.V_far (p := ⟨gb254, 1, none⟩) (Kd.V_far (p := ⟨gb254, 0, none⟩) (Kd.zak HO249.out (fun k_ hk => (⟨hk, hk.2⟩ : _ ∧ k_ ≠ gb254))) (fun _ hk => hk.2) (.slice Ao15 t247.length co15)) (fun _ hk => hk.2) (.slice Ao17 t250.length co17)) (fun _ h_ => h_.1)))); (case side2 => exact (Kd.zas HO249.out).2.1); (case side3 => refine (Kd.zas (e := 57) (base := w.heap.size) (ok := fun k_ => (True ∧ k_ ≠ gb254)) (n := t250.length) (c := co17) ?_).2.2; exact (by (with_reducible repeat (first | apply Kd.za8 | apply Kd.za9 | apply Kd.zbc)); exact (Kd.zak (Kd.V_far (p := ⟨gb254, 1, none⟩) (Kd.V_far (p := ⟨gb254, 0, none⟩) (Kd.zak HO252.out (fun k_ hk => (⟨hk, hk.2⟩ : _ ∧ k_ ≠ gb254))) (fun _ hk => hk.2) (.slice Ao15 t247.length co15)) (fun _ hk => hk.2) (.slice Ao17 t250.length co17)) (fun _ h_ => h_.1)))); (case side4 => exact (Kd.zas HO252.out).2.1); (case side5 => exact Glob.below HG.out (zB HB)); rintro e w18 ⟨rfl, hb⟩; have n0_ := zA (Kd.zao (by (with_reducible repeat (first | apply Kd.za8 | apply Kd.za9 | apply Kd.zbc)); exact (Kd.zak (Kd.V_far (p := ⟨gb254, 1, none⟩) (Kd.V_far (p := ⟨gb254, 0, none⟩) (Kd.zak HO243.out (fun k_ hk => (⟨hk, hk.2⟩ : _ ∧ k_ ≠ gb254))) (fun _ hk => hk.2) (.slice Ao15 t247.length co15)) (fun _ hk => hk.2) (.slice Ao17 t250.length co17)) (fun _ h_ => h_.1))) hb); have n1_ := zA (Kd.zao (by (with_reducible repeat (first | apply Kd.za8 | apply Kd.za9 | apply Kd.zbc)); exact (Kd.zak (Kd.V_far (p := ⟨gb254, 1, none⟩) (Kd.V_far (p := ⟨gb254, 0, none⟩) (Kd.zak HO246.out (fun k_ hk => (⟨hk, hk.2⟩ : _ ∧ k_ ≠ gb254))) (fun _ hk => hk.2) (.slice Ao15 t247.length co15)) (fun _ hk => hk.2) (.slice Ao17 t250.length co17)) (fun _ h_ => h_.1))) hb); have n2_ := zA (Kd.zao (by (with_reducible repeat (first | apply Kd.za8 | apply Kd.za9 | apply Kd.zbc)); exact (Kd.zak (Kd.V_far (p := ⟨gb254, 1, none⟩) (Kd.V_far (p := ⟨gb254, 0, none⟩) (Kd.zak HO249.out (fun k_ hk => (⟨hk, hk.2⟩ : _ ∧ k_ ≠ gb254))) (fun _ hk => hk.2) (.slice Ao15 t247.length co15)) (fun _ hk => hk.2) (.slice Ao17 t250.length co17)) (fun _ h_ => h_.1))) hb); have n3_ := zA (Kd.zao (by (with_reducible repeat (first | apply Kd.za8 | apply Kd.za9 | apply Kd.zbc)); exact (Kd.zak (Kd.V_far (p := ⟨gb254, 1, none⟩) (Kd.V_far (p := ⟨gb254, 0, none⟩) (Kd.zak HO252.out (fun k_ hk => (⟨hk, hk.2⟩ : _ ∧ k_ ≠ gb254))) (fun _ hk => hk.2) (.slice Ao15 t247.length co15)) (fun _ hk => hk.2) (.slice Ao17 t250.length co17)) (fun _ h_ => h_.1))) hb); have n4_ := zA (zaa (g := gb254) (o := .cells #[.slice Ao15 t247.length co15, .slice Ao17 t250.length co17] 28 (0, 0)) (by (with_reducible repeat (first | refine zab ?_ _ | refine zae ?_ | refine zac ?_ _)); refine zbo (cs := #[.slice Ao15 t247.length co15, .slice none 0 0]) ?_ 1 _ rfl; (with_reducible repeat (first | refine zab ?_ _ | refine zae ?_ | refine zac ?_ _)); refine zbo (cs := #[.slice none 0 0, .slice none 0 0]) ?_ 0 _ rfl; (with_reducible repeat (first | refine zab ?_ _ | refine zae ?_ | refine zac ?_ _)); exact BK254.out) hb); have n5_ := zA (zaf (zB HB) hb); clear HO243 HO246 HO249 HO252 BK254 HB; have HO243 := n0_; have HO246 := n1_; have HO249 := n2_; have HO252 := n3_; have BK254 := n4_; have HB := n5_; clear n0_ n1_ n2_ n3_ n4_ n5_; (try clear hb); (try clear hb2); (try clear hk); (try clear hi); have hcz19_0 : w18.cell? ⟨gb254, 0, none⟩ = some (.slice Ao15 t247.length co15) := (zad BK254.out 0).trans rfl; have hcz19_1 : w18.cell? ⟨gb254, 1, none⟩ = some (.slice Ao17 t250.length co17) := (zad BK254.out 1).trans rfl; have hfz19_0 := zal BK254.out 0; have hfz19_1 := zal BK254.out 1) | (go_at_call 27; (with_reducible refine (zb9.calls k _ _ t247 _ _ t250 t256 _ ?side1 ?side2 ?side3 ?side4 A7.out).mono ?_); (case side1 => exact zJ (Kd.zas HO249.out).2.2); (case side2 => exact (Kd.zas HO249.out).2.1); (case side3 => exact zJ (Kd.zas HO252.out).2.2); (case side4 => exact (Kd.zas HO252.out).2.1); rintro e w20 ⟨v257, rfl, ho0, hb⟩; have n0_ := zA (Kd.zao (zV HO243) hb); have n1_ := zA (Kd.zao (zV HO246) hb); have n2_ := zA (Kd.zao (zV HO249) hb); have n3_ := zA (Kd.zao (zV HO252) hb); have n4_ := zA (Kd.zbi (Kd.zak (ok' := fun k_ => k_ ≠ gb254) ho0 (fun k_ hk_ => (Kd.freshB (g := gb254) (o := .cells #[.slice Ao15 t247.length co15, .slice Ao17 t250.length co17] 28 (0, 0)) (zK BK254) k_ hk_))) (za (zB HB))); have n5_ := zA (zaa (g := gb254) (o := .cells #[.slice Ao15 t247.length co15, .slice Ao17 t250.length co17] 28 (0, 0)) (zK BK254) hb); have n6_ := zA (zaf (zB HB) hb); clear HO243 HO246 HO249 HO252 BK254 HB; have HO243 := n0_; have HO246 := n1_; have HO249 := n2_; have HO252 := n3_; have HO258 := n4_; have BK254 := n5_; have HB := n6_; clear n0_ n1_ n2_ n3_ n4_ n5_ n6_; (try clear hb); (try clear hb2); (try clear hk); (try clear hi); (try clear ho0); obtain ⟨Ao21, co21, eo21⟩ := Kd.zbt HO258.out; subst eo21) | (go_at_call 50; (with_reducible refine (zb6.calls k (fun k_ => k_ ≠ gb254) _ _ t256 t259 _ ?side1 ?side2 A8.out).mono ?_); (case side1 => exact HO258.out); (case side2 => exact Glob.below HG.out (zB HB)); rintro e w22 ⟨rfl, hb⟩; have n0_ := zA (Kd.zao (zV HO243) hb); have n1_ := zA (Kd.zao (zV HO246) hb); have n2_ := zA (Kd.zao (zV HO249) hb); have n3_ := zA (Kd.zao (zV HO252) hb); have n4_ := zA (Kd.zao (zV HO258) hb); have n5_ := zA (zaa (g := gb254) (o := .cells #[.slice Ao15 t247.length co15, .slice Ao17 t250.length co17] 28 (0, 0)) (zK BK254) hb); have n6_ := zA (zaf (zB HB) hb); clear HO243 HO246 HO249 HO252 HO258 BK254 HB; have HO243 := n0_; have HO246 := n1_; have HO249 := n2_; have HO252 := n3_; have HO258 := n4_; have BK254 := n5_; have HB := n6_; clear n0_ n1_ n2_ n3_ n4_ n5_ n6_; (try clear hb); (try clear hb2); (try clear hk); (try clear hi)))
   go_ret
   exact ⟨zW, zB HB⟩
  ·
   rw [if_neg c6] at H
   have c6b0 : (t255.toList == ([51, 47, 50] : List UInt8)) = false := beq_eq_false_iff_ne.mpr c6
   have c6b1 : (t255.toList != ([51, 47, 50] : List UInt8)) = true := bne_iff_ne.mpr c6
   obtain rfl := Option.some.inj H
   go_enter Tryd.func14, Tryd.ntmps14
   go_wp2_with (first | ((with_reducible refine zah (f := 36) rfl ?_); refine zba (some 4) rfl rfl Tryd.func36 (by kernel_rfl) rfl #[.int .u64 6] rfl (zE) ?_; (with_reducible refine (zc5.calls k 6 t241 _ A1.out).mono ?_); rintro e w23 ⟨v242, rfl, ho0, hb⟩; refine ⟨_, rfl, ?_⟩; have n0_ := zA (Kd.zbi (Kd.zak (ok' := fun k_ => True) ho0 (fun k_ hk_ => trivial)) (za (zB HB))); have n1_ := zA (zaf (zB HB) hb); clear HB; have HO243 := n0_; have HB := n1_; clear n0_ n1_; (try clear hb); (try clear hb2); (try clear hk); (try clear hi); (try clear ho0)) | ((with_reducible refine zah (f := 36) rfl ?_); refine zba (some 5) rfl rfl Tryd.func36 (by kernel_rfl) rfl #[.int .u64 4] rfl (zE) ?_; (with_reducible refine (zc5.calls k 4 t244 _ A2.out).mono ?_); rintro e w24 ⟨v245, rfl, ho0, hb⟩; refine ⟨_, rfl, ?_⟩; have n0_ := zA (Kd.zao (zV HO243) hb); have n1_ := zA (Kd.zbi (Kd.zak (ok' := fun k_ => True) ho0 (fun k_ hk_ => trivial)) (za (zB HB))); have n2_ := zA (zaf (zB HB) hb); clear HO243 HB; have HO243 := n0_; have HO246 := n1_; have HB := n2_; clear n0_ n1_ n2_; (try clear hb); (try clear hb2); (try clear hk); (try clear hi); (try clear ho0); obtain ⟨Ao25, co25, eo25⟩ := Kd.zbt HO243.out; subst eo25; obtain ⟨Ao26, co26, eo26⟩ := Kd.zbt HO246.out; subst eo26) | ((with_reducible refine zah (f := 24) rfl ?_); refine zba (some 6) rfl rfl Tryd.func24 (by kernel_rfl) rfl #[.slice Ao25 t241.length co25, .slice Ao26 t244.length co26] rfl (zE) ?_; (with_reducible refine (zcq.calls k _ _ t241 _ _ t244 t247 t250 t253 _ ?side1 ?side2 ?side3 ?side4 A3.out).mono ?_); (case side1 => exact zJ (Kd.zas HO243.out).2.2); (case side2 => exact (Kd.zas HO243.out).2.1); (case side3 => exact zJ (Kd.zas HO246.out).2.2); (case side4 => exact (Kd.zas HO246.out).2.1); rintro e w27 ⟨v248, v251, rfl, ho0, ho1, hb⟩; refine ⟨_, rfl, ?_⟩; have n0_ := zA (Kd.zao (zV HO243) hb); have n1_ := zA (Kd.zao (zV HO246) hb); have n2_ := zA (Kd.zbi (Kd.zak (ok' := fun k_ => True) ho0 (fun k_ hk_ => trivial)) (za (zB HB))); have n3_ := zA (Kd.zbi (Kd.zak (ok' := fun k_ => True) ho1 (fun k_ hk_ => trivial)) (za (zB HB))); have n4_ := zA (zaf (zB HB) hb); clear HO243 HO246 HB; have HO243 := n0_; have HO246 := n1_; have HO249 := n2_; have HO252 := n3_; have HB := n4_; clear n0_ n1_ n2_ n3_ n4_; (try clear hb); (try clear hb2); (try clear hk); (try clear hi); (try clear ho0); (try clear ho1)) | ((with_reducible refine zbh (N := 1) rfl ?_); refine zbj ?hg (N := 1) ?hd (cs := #[.slice none 0 0, .slice none 0 0]) (t := 28) ?hr ?_; (case hd => rfl); (case hg => rfl); (case hr => first | (go_simp; done) | (go_simp; rfl)); intro gb254 hg w28 hbox hb; have n0_ := zA (Kd.zao (Kd.zca (zV HO243) gb254 (Nat.le_of_eq hg.symm)) hb); have n1_ := zA (Kd.zao (Kd.zca (zV HO246) gb254 (Nat.le_of_eq hg.symm)) hb); have n2_ := zA (Kd.zao (Kd.zca (zV HO249) gb254 (Nat.le_of_eq hg.symm)) hb); have n3_ := zA (Kd.zao (Kd.zca (zV HO252) gb254 (Nat.le_of_eq hg.symm)) hb); have n4_ := zA (zaf (zB HB) hb); have n5_ := zA (hbox); have n6_ := zA ((by rw [hg]; exact (za (zB HB)) : w.heap.size ≤ gb254)); have n7_ := zA ((by rw [hg]; exact (za (zB HB)) : w.heap.size ≤ gb254)); clear HO243 HO246 HO249 HO252 HB; have HO243 := n0_; have HO246 := n1_; have HO249 := n2_; have HO252 := n3_; have HB := n4_; have BK254 := n5_; have GW254 := n6_; have GE254 := n7_; clear n0_ n1_ n2_ n3_ n4_ n5_ n6_ n7_ hb hbox hg; obtain ⟨Ao29, co29, eo29⟩ := Kd.zbt HO249.out; subst eo29; have hcz30_0 : w28.cell? ⟨gb254, 0, none⟩ = some (.slice none 0 0) := (zad BK254.out 0).trans rfl; have hcz30_1 : w28.cell? ⟨gb254, 1, none⟩ = some (.slice none 0 0) := (zad BK254.out 1).trans rfl; have hfz30_0 := zal BK254.out 0; have hfz30_1 := zal BK254.out 1; obtain ⟨Ao31, co31, eo31⟩ := Kd.zbt HO252.out; subst eo31) | (go_at_call 41; (with_reducible refine (zbl.calls k _ _ t247 _ _ t250 t255 _ ?side1 ?side2 ?side3 ?side4 ?side5 A5.out).mono ?_); (case side1 => refine (Kd.zas (e := 57) (base := w.heap.size) (ok := fun k_ => (True ∧ k_ ≠ gb254)) (n := t247.length) (c := co29) ?_).2.2; exact (by (with_reducible repeat (first | apply Kd.za8 | apply Kd.za9 | apply Kd.zbc)); exact (Kd.zak (Kd.V_far (p := ⟨gb254, 1, none⟩) (Kd.V_far (p := ⟨gb254, 0, none⟩) (Kd.zak HO249.out (fun k_ hk => (⟨hk, hk.2⟩ : _ ∧ k_ ≠ gb254))) (fun _ hk => hk.2) (.slice Ao29 t247.length co29)) (fun _ hk => hk.2) (.slice Ao31 t250.length co31)) (fun _ h_ => h_.1)))); (case side2 => exact (Kd.zas HO249.out).2.1); (case side3 => refine (Kd.zas (e := 57) (base := w.heap.size) (ok := fun k_ => (True ∧ k_ ≠ gb254)) (n := t250.length) (c := co31) ?_).2.2; exact (by (with_reducible repeat (first | apply Kd.za8 | apply Kd.za9 | apply Kd.zbc)); exact (Kd.zak (Kd.V_far (p := ⟨gb254, 1, none⟩) (Kd.V_far (p := ⟨gb254, 0, none⟩) (Kd.zak HO252.out (fun k_ hk => (⟨hk, hk.2⟩ : _ ∧ k_ ≠ gb254))) (fun _ hk => hk.2) (.slice Ao29 t247.length co29)) (fun _ hk => hk.2) (.slice Ao31 t250.length co31)) (fun _ h_ => h_.1)))); (case side4 => exact (Kd.zas HO252.out).2.1); (case side5 => exact Glob.below HG.out (zB HB)); rintro e w32 ⟨rfl, hb⟩; have n0_ := zA (Kd.zao (by (with_reducible repeat (first | apply Kd.za8 | apply Kd.za9 | apply Kd.zbc)); exact (Kd.zak (Kd.V_far (p := ⟨gb254, 1, none⟩) (Kd.V_far (p := ⟨gb254, 0, none⟩) (Kd.zak HO243.out (fun k_ hk => (⟨hk, hk.2⟩ : _ ∧ k_ ≠ gb254))) (fun _ hk => hk.2) (.slice Ao29 t247.length co29)) (fun _ hk => hk.2) (.slice Ao31 t250.length co31)) (fun _ h_ => h_.1))) hb); have n1_ := zA (Kd.zao (by (with_reducible repeat (first | apply Kd.za8 | apply Kd.za9 | apply Kd.zbc)); exact (Kd.zak (Kd.V_far (p := ⟨gb254, 1, none⟩) (Kd.V_far (p := ⟨gb254, 0, none⟩) (Kd.zak HO246.out (fun k_ hk => (⟨hk, hk.2⟩ : _ ∧ k_ ≠ gb254))) (fun _ hk => hk.2) (.slice Ao29 t247.length co29)) (fun _ hk => hk.2) (.slice Ao31 t250.length co31)) (fun _ h_ => h_.1))) hb); have n2_ := zA (Kd.zao (by (with_reducible repeat (first | apply Kd.za8 | apply Kd.za9 | apply Kd.zbc)); exact (Kd.zak (Kd.V_far (p := ⟨gb254, 1, none⟩) (Kd.V_far (p := ⟨gb254, 0, none⟩) (Kd.zak HO249.out (fun k_ hk => (⟨hk, hk.2⟩ : _ ∧ k_ ≠ gb254))) (fun _ hk => hk.2) (.slice Ao29 t247.length co29)) (fun _ hk => hk.2) (.slice Ao31 t250.length co31)) (fun _ h_ => h_.1))) hb); have n3_ := zA (Kd.zao (by (with_reducible repeat (first | apply Kd.za8 | apply Kd.za9 | apply Kd.zbc)); exact (Kd.zak (Kd.V_far (p := ⟨gb254, 1, none⟩) (Kd.V_far (p := ⟨gb254, 0, none⟩) (Kd.zak HO252.out (fun k_ hk => (⟨hk, hk.2⟩ : _ ∧ k_ ≠ gb254))) (fun _ hk => hk.2) (.slice Ao29 t247.length co29)) (fun _ hk => hk.2) (.slice Ao31 t250.length co31)) (fun _ h_ => h_.1))) hb); have n4_ := zA (zaa (g := gb254) (o := .cells #[.slice Ao29 t247.length co29, .slice Ao31 t250.length co31] 28 (0, 0)) (by (with_reducible repeat (first | refine zab ?_ _ | refine zae ?_ | refine zac ?_ _)); refine zbo (cs := #[.slice Ao29 t247.length co29, .slice none 0 0]) ?_ 1 _ rfl; (with_reducible repeat (first | refine zab ?_ _ | refine zae ?_ | refine zac ?_ _)); refine zbo (cs := #[.slice none 0 0, .slice none 0 0]) ?_ 0 _ rfl; (with_reducible repeat (first | refine zab ?_ _ | refine zae ?_ | refine zac ?_ _)); exact BK254.out) hb); have n5_ := zA (zaf (zB HB) hb); clear HO243 HO246 HO249 HO252 BK254 HB; have HO243 := n0_; have HO246 := n1_; have HO249 := n2_; have HO252 := n3_; have BK254 := n4_; have HB := n5_; clear n0_ n1_ n2_ n3_ n4_ n5_; (try clear hb); (try clear hb2); (try clear hk); (try clear hi)))
   go_ret
   exact ⟨zW, zB HB⟩
 ·
  rw [if_neg c4] at H
  have c4b0 : (t253 == 0) = false := beq_eq_false_iff_ne.mpr c4
  have c4b1 : (t253 != 0) = true := bne_iff_ne.mpr c4
  obtain rfl := Option.some.inj H
  go_enter Tryd.func14, Tryd.ntmps14
  go_wp2_with (first | ((with_reducible refine zah (f := 36) rfl ?_); refine zba (some 4) rfl rfl Tryd.func36 (by kernel_rfl) rfl #[.int .u64 6] rfl (zE) ?_; (with_reducible refine (zc5.calls k 6 t241 _ A1.out).mono ?_); rintro e w33 ⟨v242, rfl, ho0, hb⟩; refine ⟨_, rfl, ?_⟩; have n0_ := zA (Kd.zbi (Kd.zak (ok' := fun k_ => True) ho0 (fun k_ hk_ => trivial)) (za (zB HB))); have n1_ := zA (zaf (zB HB) hb); clear HB; have HO243 := n0_; have HB := n1_; clear n0_ n1_; (try clear hb); (try clear hb2); (try clear hk); (try clear hi); (try clear ho0)) | ((with_reducible refine zah (f := 36) rfl ?_); refine zba (some 5) rfl rfl Tryd.func36 (by kernel_rfl) rfl #[.int .u64 4] rfl (zE) ?_; (with_reducible refine (zc5.calls k 4 t244 _ A2.out).mono ?_); rintro e w34 ⟨v245, rfl, ho0, hb⟩; refine ⟨_, rfl, ?_⟩; have n0_ := zA (Kd.zao (zV HO243) hb); have n1_ := zA (Kd.zbi (Kd.zak (ok' := fun k_ => True) ho0 (fun k_ hk_ => trivial)) (za (zB HB))); have n2_ := zA (zaf (zB HB) hb); clear HO243 HB; have HO243 := n0_; have HO246 := n1_; have HB := n2_; clear n0_ n1_ n2_; (try clear hb); (try clear hb2); (try clear hk); (try clear hi); (try clear ho0); obtain ⟨Ao35, co35, eo35⟩ := Kd.zbt HO243.out; subst eo35; obtain ⟨Ao36, co36, eo36⟩ := Kd.zbt HO246.out; subst eo36) | ((with_reducible refine zah (f := 24) rfl ?_); refine zba (some 6) rfl rfl Tryd.func24 (by kernel_rfl) rfl #[.slice Ao35 t241.length co35, .slice Ao36 t244.length co36] rfl (zE) ?_; (with_reducible refine (zcq.calls k _ _ t241 _ _ t244 t247 t250 t253 _ ?side1 ?side2 ?side3 ?side4 A3.out).mono ?_); (case side1 => exact zJ (Kd.zas HO243.out).2.2); (case side2 => exact (Kd.zas HO243.out).2.1); (case side3 => exact zJ (Kd.zas HO246.out).2.2); (case side4 => exact (Kd.zas HO246.out).2.1); rintro e w37 ⟨v248, v251, rfl, ho0, ho1, hb⟩; refine ⟨_, rfl, ?_⟩; have n0_ := zA (Kd.zao (zV HO243) hb); have n1_ := zA (Kd.zao (zV HO246) hb); have n2_ := zA (Kd.zbi (Kd.zak (ok' := fun k_ => True) ho0 (fun k_ hk_ => trivial)) (za (zB HB))); have n3_ := zA (Kd.zbi (Kd.zak (ok' := fun k_ => True) ho1 (fun k_ hk_ => trivial)) (za (zB HB))); have n4_ := zA (zaf (zB HB) hb); clear HO243 HO246 HB; have HO243 := n0_; have HO246 := n1_; have HO249 := n2_; have HO252 := n3_; have HB := n4_; clear n0_ n1_ n2_ n3_ n4_; (try clear hb); (try clear hb2); (try clear hk); (try clear hi); (try clear ho0); (try clear ho1)) | ((with_reducible refine zbh (N := 1) rfl ?_); refine zbj ?hg (N := 1) ?hd (cs := #[.slice none 0 0, .slice none 0 0]) (t := 28) ?hr ?_; (case hd => rfl); (case hg => rfl); (case hr => first | (go_simp; done) | (go_simp; rfl)); intro gb254 hg w38 hbox hb; have n0_ := zA (Kd.zao (Kd.zca (zV HO243) gb254 (Nat.le_of_eq hg.symm)) hb); have n1_ := zA (Kd.zao (Kd.zca (zV HO246) gb254 (Nat.le_of_eq hg.symm)) hb); have n2_ := zA (Kd.zao (Kd.zca (zV HO249) gb254 (Nat.le_of_eq hg.symm)) hb); have n3_ := zA (Kd.zao (Kd.zca (zV HO252) gb254 (Nat.le_of_eq hg.symm)) hb); have n4_ := zA (zaf (zB HB) hb); have n5_ := zA (hbox); have n6_ := zA ((by rw [hg]; exact (za (zB HB)) : w.heap.size ≤ gb254)); have n7_ := zA ((by rw [hg]; exact (za (zB HB)) : w.heap.size ≤ gb254)); clear HO243 HO246 HO249 HO252 HB; have HO243 := n0_; have HO246 := n1_; have HO249 := n2_; have HO252 := n3_; have HB := n4_; have BK254 := n5_; have GW254 := n6_; have GE254 := n7_; clear n0_ n1_ n2_ n3_ n4_ n5_ n6_ n7_ hb hbox hg; obtain ⟨Ao39, co39, eo39⟩ := Kd.zbt HO249.out; subst eo39; have hcz40_0 : w38.cell? ⟨gb254, 0, none⟩ = some (.slice none 0 0) := (zad BK254.out 0).trans rfl; have hcz40_1 : w38.cell? ⟨gb254, 1, none⟩ = some (.slice none 0 0) := (zad BK254.out 1).trans rfl; have hfz40_0 := zal BK254.out 0; have hfz40_1 := zal BK254.out 1; obtain ⟨Ao41, co41, eo41⟩ := Kd.zbt HO252.out; subst eo41))
  go_ret
  exact ⟨zW, zB HB⟩
def zby.f (l0 : List Int) : Option (Bool) := if (l0.length : Int) = 0 then (some true) else (if 0 ≤ (wrap64 ((l0.length : Int) - 1)) then (if (wrap64 ((l0.length : Int) - 1)) < (l0.length : Int) then (some ((rd l0 (wrap64 ((l0.length : Int) - 1))) != 0)) else (none)) else (none))
theorem zby.calls (A0 : Option Addr) (c0 : Nat) (l0 : List Int) (r : Bool) (w : World) (hr0 : Kd.C (Kd.int .u64) w A0 l0.length l0) (hc0 : l0.length ≤ c0) (h : zby.f l0 = some r) :
  Calls Tryd.prog 15 #[.slice A0 l0.length c0] w fun e w' => e = .returned (.bool r) ∧ Drawn0 w w' := by
 have HR0 := zA hr0
 have HC0 := zA hc0
 clear hr0 hc0
 have H : (if (l0.length : Int) = 0 then (some true) else (if 0 ≤ (wrap64 ((l0.length : Int) - 1)) then (if (wrap64 ((l0.length : Int) - 1)) < (l0.length : Int) then (some ((rd l0 (wrap64 ((l0.length : Int) - 1))) != 0)) else (none)) else (none))) = some r := h
 clear h
 by_cases c2 : (l0.length : Int) = 0
 ·
  rw [if_pos c2] at H
  have c2b0 : ((l0.length : Int) == 0) = true := beq_iff_eq.mpr c2
  have c2b1 : ((l0.length : Int) != 0) = false := bne_eq_false_iff_eq.mpr c2
  clear c2
  obtain rfl := Option.some.inj H
  go_enter Tryd.func15, Tryd.ntmps15
  go_wp2
  go_ret
  exact ⟨zF, by repeat (first | exact Drawn0.refl _ | apply Drawn0.step)⟩
 ·
  rw [if_neg c2] at H
  have c2b0 : ((l0.length : Int) == 0) = false := beq_eq_false_iff_ne.mpr c2
  have c2b1 : ((l0.length : Int) != 0) = true := bne_iff_ne.mpr c2
  have c2b2 : ¬ (l0 = []) := fun h_ => c2 (by rw [h_]; rfl)
  obtain ⟨ji3, hji3⟩ : ∃ j_ : Int, (wrap64 ((l0.length : Int) - 1)) = j_ := ⟨_, rfl⟩
  replace H : (if 0 ≤ (ji3) then (if (ji3) < (l0.length : Int) then (some ((rd l0 (ji3)) != 0)) else (none)) else (none)) = some r := by first | (rw [hji3] at H; exact H) | (simp only [hji3] at H ⊢; exact H)
  have hji3w : (IntKind.i64.wrap ((l0.length : Int) - 1)) = ji3 := (i64_w _).trans hji3
  by_cases c4 : 0 ≤ (ji3)
  ·
   rw [if_pos c4] at H
   have c4b0 : decide (0 ≤ (ji3)) = true := decide_eq_true c4
   clear c4
   by_cases c5 : (ji3) < (l0.length : Int)
   ·
    rw [if_pos c5] at H
    have c5b0 : decide ((ji3) < (l0.length : Int)) = true := decide_eq_true c5
    clear c5
    obtain rfl := Option.some.inj H
    have p260 : 0 ≤ ((ji3) : Int) := of_decide_eq_true (by first | (with_reducible assumption) | assumption)
    have q260 : (ji3) < (l0.length : Int) := of_decide_eq_true (by first | (with_reducible assumption) | assumption)
    obtain ⟨ad260, e260, hx260_0⟩ := Kd.at_int HR0.out (ji3) p260 q260
    cases e260
    replace p260 := eq_true p260
    replace q260 := eq_true q260
    go_enter Tryd.func15, Tryd.ntmps15
    go_wp2
    go_ret
    exact ⟨by first | rfl | (simp; done) | (simp only [← hji3] <;> (first | rfl | simp)) | (simp [*]; done), by repeat (first | exact Drawn0.refl _ | apply Drawn0.step)⟩
   ·
    rw [if_neg c5] at H
    exact absurd H (by simp)
  ·
   rw [if_neg c4] at H
   exact absurd H (by simp)
def zc2.f (l0 : List Int) : Option (Bool) := if (l0.length : Int) = 0 then (some true) else (if 0 ≤ (wrap64 ((l0.length : Int) - 1)) then (if (wrap64 ((l0.length : Int) - 1)) < (l0.length : Int) then (some ((rd l0 (wrap64 ((l0.length : Int) - 1))) != 0)) else (none)) else (none))
theorem zc2.calls (A0 : Option Addr) (c0 : Nat) (l0 : List Int) (r : Bool) (w : World) (hr0 : Kd.C (Kd.int .u64) w A0 l0.length l0) (hc0 : l0.length ≤ c0) (h : zc2.f l0 = some r) :
  Calls Tryd.prog 51 #[.slice A0 l0.length c0] w fun e w' => e = .returned (.bool r) ∧ Drawn0 w w' := by
 have HR0 := zA hr0
 have HC0 := zA hc0
 clear hr0 hc0
 have H : (if (l0.length : Int) = 0 then (some true) else (if 0 ≤ (wrap64 ((l0.length : Int) - 1)) then (if (wrap64 ((l0.length : Int) - 1)) < (l0.length : Int) then (some ((rd l0 (wrap64 ((l0.length : Int) - 1))) != 0)) else (none)) else (none))) = some r := h
 clear h
 by_cases c2 : (l0.length : Int) = 0
 ·
  rw [if_pos c2] at H
  have c2b0 : ((l0.length : Int) == 0) = true := beq_iff_eq.mpr c2
  have c2b1 : ((l0.length : Int) != 0) = false := bne_eq_false_iff_eq.mpr c2
  clear c2
  obtain rfl := Option.some.inj H
  go_enter Tryd.func51, Tryd.ntmps51
  go_wp2
  go_ret
  exact ⟨zF, by repeat (first | exact Drawn0.refl _ | apply Drawn0.step)⟩
 ·
  rw [if_neg c2] at H
  have c2b0 : ((l0.length : Int) == 0) = false := beq_eq_false_iff_ne.mpr c2
  have c2b1 : ((l0.length : Int) != 0) = true := bne_iff_ne.mpr c2
  have c2b2 : ¬ (l0 = []) := fun h_ => c2 (by rw [h_]; rfl)
  obtain ⟨ji3, hji3⟩ : ∃ j_ : Int, (wrap64 ((l0.length : Int) - 1)) = j_ := ⟨_, rfl⟩
  replace H : (if 0 ≤ (ji3) then (if (ji3) < (l0.length : Int) then (some ((rd l0 (ji3)) != 0)) else (none)) else (none)) = some r := by first | (rw [hji3] at H; exact H) | (simp only [hji3] at H ⊢; exact H)
  have hji3w : (IntKind.i64.wrap ((l0.length : Int) - 1)) = ji3 := (i64_w _).trans hji3
  by_cases c4 : 0 ≤ (ji3)
  ·
   rw [if_pos c4] at H
   have c4b0 : decide (0 ≤ (ji3)) = true := decide_eq_true c4
   clear c4
   by_cases c5 : (ji3) < (l0.length : Int)
   ·
    rw [if_pos c5] at H
    have c5b0 : decide ((ji3) < (l0.length : Int)) = true := decide_eq_true c5
    clear c5
    obtain rfl := Option.some.inj H
    have p261 : 0 ≤ ((ji3) : Int) := of_decide_eq_true (by first | (with_reducible assumption) | assumption)
    have q261 : (ji3) < (l0.length : Int) := of_decide_eq_true (by first | (with_reducible assumption) | assumption)
    obtain ⟨ad261, e261, hx261_0⟩ := Kd.at_int HR0.out (ji3) p261 q261
    cases e261
    replace p261 := eq_true p261
    replace q261 := eq_true q261
    go_enter Tryd.func51, Tryd.ntmps51
    go_wp2
    go_ret
    exact ⟨by first | rfl | (simp; done) | (simp only [← hji3] <;> (first | rfl | simp)) | (simp [*]; done), by repeat (first | exact Drawn0.refl _ | apply Drawn0.step)⟩
   ·
    rw [if_neg c5] at H
    exact absurd H (by simp)
  ·
   rw [if_neg c4] at H
   exact absurd H (by simp)
def zcy.f (k : Nat) (l0_0 : List Int) (l0_1 : List Int) : Option (Bool) := (zc2.f l0_0).bind fun t263 => (if t263 = true then ((zc2.f l0_1).bind fun t264 => (if t264 = true then (if (l0_1.length : Int) > 0 then ((zcg.f k l0_0 l0_1).bind fun t265 => ((zct.f k).bind fun t268 => ((zcs.f t265 t268).bind fun t271 => (some (t271 == 0))))) else (some false)) else (some false))) else (some false))
theorem zcy.calls (k : Nat) (A0_0 : Option Addr) (c0_0 : Nat) (l0_0 : List Int) (A0_1 : Option Addr) (c0_1 : Nat) (l0_1 : List Int) (r : Bool) (w : World) (hr0_0 : Kd.C (Kd.int .u64) w A0_0 l0_0.length l0_0) (hc0_0 : l0_0.length ≤ c0_0) (hr0_1 : Kd.C (Kd.int .u64) w A0_1 l0_1.length l0_1) (hc0_1 : l0_1.length ≤ c0_1) (h : zcy.f k l0_0 l0_1 = some r) :
  Calls Tryd.prog 16 #[.agg #[.slice A0_0 l0_0.length c0_0, .slice A0_1 l0_1.length c0_1]] w fun e w' => e = .returned (.bool r) ∧ Below w.heap.size w w' := by
 have hu28 := Tryd.underlying28
 have HR0_0 := zA hr0_0
 have HC0_0 := zA hc0_0
 clear hr0_0 hc0_0
 have HR0_1 := zA hr0_1
 have HC0_1 := zA hc0_1
 clear hr0_1 hc0_1
 have HB := zA (Below.refl w.heap.size w)
 have H : ((zc2.f l0_0).bind fun t263 => (if t263 = true then ((zc2.f l0_1).bind fun t264 => (if t264 = true then (if (l0_1.length : Int) > 0 then ((zcg.f k l0_0 l0_1).bind fun t265 => ((zct.f k).bind fun t268 => ((zcs.f t265 t268).bind fun t271 => (some (t271 == 0))))) else (some false)) else (some false))) else (some false))) = some r := h
 clear h
 replace H := zO H
 obtain ⟨t263, A20, H⟩ := H
 try dsimp only at H
 have A2 := zA A20
 clear A20
 by_cases c3 : t263 = true
 ·
  subst c3
  rw [if_pos rfl] at H
  replace H := zO H
  obtain ⟨t264, A40, H⟩ := H
  try dsimp only at H
  have A4 := zA A40
  clear A40
  by_cases c5 : t264 = true
  ·
   subst c5
   rw [if_pos rfl] at H
   by_cases c6 : (l0_1.length : Int) > 0
   ·
    rw [if_pos c6] at H
    have c6b0 : decide (0 < (l0_1.length : Int)) = true := decide_eq_true c6
    have c6b1 : decide (0 < l0_1.length) = true := decide_eq_true (by omega)
    clear c6
    replace H := zO H
    obtain ⟨t265, A70, H⟩ := H
    try dsimp only at H
    have A7 := zA A70
    clear A70
    replace H := zO H
    obtain ⟨t268, A80, H⟩ := H
    try dsimp only at H
    have A8 := zA A80
    clear A80
    replace H := zO H
    obtain ⟨t271, A90, H⟩ := H
    try dsimp only at H
    have A9 := zA A90
    clear A90
    obtain rfl := Option.some.inj H
    go_enter Tryd.func16, Tryd.ntmps16
    go_wp2_with (first | ((with_reducible refine zbh (N := 1) rfl ?_); (try (refine zcp (by rfl) ?_; dsimp only)); refine zbj ?hg (N := 1) ?hd (cs := #[.slice A0_0 l0_0.length c0_0, .slice A0_1 l0_1.length c0_1]) (t := 28) ?hr ?_; (case hd => rfl); (case hg => rfl); (case hr => first | (go_simp; done) | (go_simp; rfl)); intro gb262 hg w10 hbox hb; have n0_ := zA (zaf (zB HB) hb); have n1_ := zA (hbox); have n2_ := zA ((by rw [hg]; exact (za (zB HB)) : w.heap.size ≤ gb262)); have n3_ := zA ((by rw [hg]; exact (za (zB HB)) : w.heap.size ≤ gb262)); clear HB; have HB := n0_; have BK262 := n1_; have GW262 := n2_; have GE262 := n3_; clear n0_ n1_ n2_ n3_ hb hbox hg; have hcz11_0 : w10.cell? ⟨gb262, 0, none⟩ = some (.slice A0_0 l0_0.length c0_0) := (zad BK262.out 0).trans rfl; have hcz11_1 : w10.cell? ⟨gb262, 1, none⟩ = some (.slice A0_1 l0_1.length c0_1) := (zad BK262.out 1).trans rfl; have hfz11_0 := zal BK262.out 0; have hfz11_1 := zal BK262.out 1) | ((with_reducible refine zah (f := 51) rfl ?_); refine zba (some 5) rfl rfl Tryd.func51 (by kernel_rfl) rfl #[.slice A0_0 l0_0.length c0_0] rfl (zE) ?_; (with_reducible refine (zc2.calls _ _ l0_0 true _ ?side1 ?side2 A2.out).mono ?_); (case side1 => exact zJ (Kd.za6 HR0_0.out HB.out)); (case side2 => exact HC0_0.out); rintro e w' ⟨rfl, ⟨nd, rfl⟩⟩; refine ⟨_, rfl, ?_⟩) | (go_at_call 51; (with_reducible refine (zc2.calls _ _ l0_1 true _ ?side1 ?side2 A4.out).mono ?_); (case side1 => exact zJ (Kd.za6 HR0_1.out (zB HB))); (case side2 => exact HC0_1.out); rintro e w' ⟨rfl, ⟨nd, rfl⟩⟩) | (go_at_call 53; (with_reducible refine (zcg.calls k _ _ l0_0 (fun k_ => k_ < w.heap.size) _ _ l0_1 t265 _ ?side1 ?side2 ?side3 A7.out).mono ?_); (case side1 => exact zJ (Kd.za6 HR0_0.out (zB HB))); (case side2 => exact HC0_0.out); (case side3 => exact Kd.V_mk HC0_1.out (Kd.F_below (Kd.C_F (Kd.heap_int .u64) HR0_1.out) (zB HB))); rintro e w12 ⟨v266, rfl, ho0, hb⟩; have n0_ := zA (Kd.zbm (Kd.zav (ok' := fun k_ => True) ho0 (fun _ hk_ => trivial)) (za (zB HB))); have n1_ := zA (zaa (g := gb262) (o := .cells #[.slice A0_0 l0_0.length c0_0, .slice A0_1 l0_1.length c0_1] 28 (0, 0)) (zK BK262) hb); have n2_ := zA (zaf (zB HB) hb); clear BK262 HB; have HO267 := n0_; have BK262 := n1_; have HB := n2_; clear n0_ n1_ n2_; (try clear hb); (try clear hb2); (try clear hk); (try clear hi); (try clear ho0)) | (go_at_call 54; (with_reducible refine (zct.calls k  t268 _ A8.out).mono ?_); rintro e w13 ⟨v269, rfl, ho0, hb⟩; have n0_ := zA (Kd.zax (zR HO267) hb); have n1_ := zA (Kd.zbi (Kd.zak (ok' := fun k_ => some k_ ≠ (v266 : Value).ownBlock ∧ k_ ≠ gb262) ho0 (fun k_ hk_ => ⟨(Kd.fresh' (Kd.R_lt (zR HO267)) k_ hk_), (Kd.freshB (g := gb262) (o := .cells #[.slice A0_0 l0_0.length c0_0, .slice A0_1 l0_1.length c0_1] 28 (0, 0)) (zK BK262) k_ hk_)⟩)) (za (zB HB))); have n2_ := zA (zaa (g := gb262) (o := .cells #[.slice A0_0 l0_0.length c0_0, .slice A0_1 l0_1.length c0_1] 28 (0, 0)) (zK BK262) hb); have n3_ := zA (zaf (zB HB) hb); clear HO267 BK262 HB; have HO267 := n0_; have HO270 := n1_; have BK262 := n2_; have HB := n3_; clear n0_ n1_ n2_ n3_; (try clear hb); (try clear hb2); (try clear hk); (try clear hi); (try clear ho0); obtain ⟨Ao14, co14, eo14⟩ := Kd.zbn HO267.out; subst eo14; obtain ⟨Ao15, co15, eo15⟩ := Kd.zbt HO270.out; subst eo15) | (go_at_call 52; (with_reducible refine (zcs.calls _ _ t265 _ _ t268 t271 _ ?side1 ?side2 ?side3 ?side4 A9.out).mono ?_); (case side1 => exact zJ (Kd.zat HO267.out).2.2); (case side2 => exact (Kd.zat HO267.out).2.1); (case side3 => exact zJ (Kd.zas HO270.out).2.2); (case side4 => exact (Kd.zas HO270.out).2.1); rintro e w16 ⟨rfl, hb⟩; have n0_ := zA (Kd.zax (zR HO267) hb); have n1_ := zA (Kd.zao (zV HO270) hb); have n2_ := zA (zaa (g := gb262) (o := .cells #[.slice A0_0 l0_0.length c0_0, .slice A0_1 l0_1.length c0_1] 28 (0, 0)) (zK BK262) hb); have n3_ := zA (zaf (zB HB) hb); clear HO267 HO270 BK262 HB; have HO267 := n0_; have HO270 := n1_; have BK262 := n2_; have HB := n3_; clear n0_ n1_ n2_ n3_; (try clear hb); (try clear hb2); (try clear hk); (try clear hi)))
    go_ret
    exact ⟨zW, zB HB⟩
   ·
    rw [if_neg c6] at H
    have c6b0 : decide (0 < (l0_1.length : Int)) = false := decide_eq_false c6
    have c6b1 : decide (0 < l0_1.length) = false := decide_eq_false (by omega)
    clear c6
    obtain rfl := Option.some.inj H
    go_enter Tryd.func16, Tryd.ntmps16
    go_wp2_with (first | ((with_reducible refine zbh (N := 1) rfl ?_); (try (refine zcp (by rfl) ?_; dsimp only)); refine zbj ?hg (N := 1) ?hd (cs := #[.slice A0_0 l0_0.length c0_0, .slice A0_1 l0_1.length c0_1]) (t := 28) ?hr ?_; (case hd => rfl); (case hg => rfl); (case hr => first | (go_simp; done) | (go_simp; rfl)); intro gb262 hg w17 hbox hb; have n0_ := zA (zaf (zB HB) hb); have n1_ := zA (hbox); have n2_ := zA ((by rw [hg]; exact (za (zB HB)) : w.heap.size ≤ gb262)); have n3_ := zA ((by rw [hg]; exact (za (zB HB)) : w.heap.size ≤ gb262)); clear HB; have HB := n0_; have BK262 := n1_; have GW262 := n2_; have GE262 := n3_; clear n0_ n1_ n2_ n3_ hb hbox hg; have hcz18_0 : w17.cell? ⟨gb262, 0, none⟩ = some (.slice A0_0 l0_0.length c0_0) := (zad BK262.out 0).trans rfl; have hcz18_1 : w17.cell? ⟨gb262, 1, none⟩ = some (.slice A0_1 l0_1.length c0_1) := (zad BK262.out 1).trans rfl; have hfz18_0 := zal BK262.out 0; have hfz18_1 := zal BK262.out 1) | ((with_reducible refine zah (f := 51) rfl ?_); refine zba (some 5) rfl rfl Tryd.func51 (by kernel_rfl) rfl #[.slice A0_0 l0_0.length c0_0] rfl (zE) ?_; (with_reducible refine (zc2.calls _ _ l0_0 true _ ?side1 ?side2 A2.out).mono ?_); (case side1 => exact zJ (Kd.za6 HR0_0.out HB.out)); (case side2 => exact HC0_0.out); rintro e w' ⟨rfl, ⟨nd, rfl⟩⟩; refine ⟨_, rfl, ?_⟩) | (go_at_call 51; (with_reducible refine (zc2.calls _ _ l0_1 true _ ?side1 ?side2 A4.out).mono ?_); (case side1 => exact zJ (Kd.za6 HR0_1.out (zB HB))); (case side2 => exact HC0_1.out); rintro e w' ⟨rfl, ⟨nd, rfl⟩⟩))
    go_ret
    exact ⟨zW, zB HB⟩
  ·
   replace c5 := Bool.eq_false_iff.mpr c5
   subst c5
   rw [if_neg (show ¬ (false = true) by decide)] at H
   obtain rfl := Option.some.inj H
   go_enter Tryd.func16, Tryd.ntmps16
   go_wp2_with (first | ((with_reducible refine zbh (N := 1) rfl ?_); (try (refine zcp (by rfl) ?_; dsimp only)); refine zbj ?hg (N := 1) ?hd (cs := #[.slice A0_0 l0_0.length c0_0, .slice A0_1 l0_1.length c0_1]) (t := 28) ?hr ?_; (case hd => rfl); (case hg => rfl); (case hr => first | (go_simp; done) | (go_simp; rfl)); intro gb262 hg w19 hbox hb; have n0_ := zA (zaf (zB HB) hb); have n1_ := zA (hbox); have n2_ := zA ((by rw [hg]; exact (za (zB HB)) : w.heap.size ≤ gb262)); have n3_ := zA ((by rw [hg]; exact (za (zB HB)) : w.heap.size ≤ gb262)); clear HB; have HB := n0_; have BK262 := n1_; have GW262 := n2_; have GE262 := n3_; clear n0_ n1_ n2_ n3_ hb hbox hg; have hcz20_0 : w19.cell? ⟨gb262, 0, none⟩ = some (.slice A0_0 l0_0.length c0_0) := (zad BK262.out 0).trans rfl; have hcz20_1 : w19.cell? ⟨gb262, 1, none⟩ = some (.slice A0_1 l0_1.length c0_1) := (zad BK262.out 1).trans rfl; have hfz20_0 := zal BK262.out 0; have hfz20_1 := zal BK262.out 1) | ((with_reducible refine zah (f := 51) rfl ?_); refine zba (some 5) rfl rfl Tryd.func51 (by kernel_rfl) rfl #[.slice A0_0 l0_0.length c0_0] rfl (zE) ?_; (with_reducible refine (zc2.calls _ _ l0_0 true _ ?side1 ?side2 A2.out).mono ?_); (case side1 => exact zJ (Kd.za6 HR0_0.out HB.out)); (case side2 => exact HC0_0.out); rintro e w' ⟨rfl, ⟨nd, rfl⟩⟩; refine ⟨_, rfl, ?_⟩) | (go_at_call 51; (with_reducible refine (zc2.calls _ _ l0_1 false _ ?side1 ?side2 A4.out).mono ?_); (case side1 => exact zJ (Kd.za6 HR0_1.out (zB HB))); (case side2 => exact HC0_1.out); rintro e w' ⟨rfl, ⟨nd, rfl⟩⟩))
   go_ret
   exact ⟨zW, zB HB⟩
 ·
  replace c3 := Bool.eq_false_iff.mpr c3
  subst c3
  rw [if_neg (show ¬ (false = true) by decide)] at H
  obtain rfl := Option.some.inj H
  go_enter Tryd.func16, Tryd.ntmps16
  go_wp2_with (first | ((with_reducible refine zbh (N := 1) rfl ?_); (try (refine zcp (by rfl) ?_; dsimp only)); refine zbj ?hg (N := 1) ?hd (cs := #[.slice A0_0 l0_0.length c0_0, .slice A0_1 l0_1.length c0_1]) (t := 28) ?hr ?_; (case hd => rfl); (case hg => rfl); (case hr => first | (go_simp; done) | (go_simp; rfl)); intro gb262 hg w21 hbox hb; have n0_ := zA (zaf (zB HB) hb); have n1_ := zA (hbox); have n2_ := zA ((by rw [hg]; exact (za (zB HB)) : w.heap.size ≤ gb262)); have n3_ := zA ((by rw [hg]; exact (za (zB HB)) : w.heap.size ≤ gb262)); clear HB; have HB := n0_; have BK262 := n1_; have GW262 := n2_; have GE262 := n3_; clear n0_ n1_ n2_ n3_ hb hbox hg; have hcz22_0 : w21.cell? ⟨gb262, 0, none⟩ = some (.slice A0_0 l0_0.length c0_0) := (zad BK262.out 0).trans rfl; have hcz22_1 : w21.cell? ⟨gb262, 1, none⟩ = some (.slice A0_1 l0_1.length c0_1) := (zad BK262.out 1).trans rfl; have hfz22_0 := zal BK262.out 0; have hfz22_1 := zal BK262.out 1) | ((with_reducible refine zah (f := 51) rfl ?_); refine zba (some 5) rfl rfl Tryd.func51 (by kernel_rfl) rfl #[.slice A0_0 l0_0.length c0_0] rfl (zE) ?_; (with_reducible refine (zc2.calls _ _ l0_0 false _ ?side1 ?side2 A2.out).mono ?_); (case side1 => exact zJ (Kd.za6 HR0_0.out HB.out)); (case side2 => exact HC0_0.out); rintro e w' ⟨rfl, ⟨nd, rfl⟩⟩; refine ⟨_, rfl, ?_⟩))
  go_ret
  exact ⟨zW, zB HB⟩
def zb.l0 : Nat → Int → List Int → Option (List Int)
 | 0, _, _ => none
 | k + 1, x0, x3 => if x0 > 0 then (if x3.length < 17592186044416 then (zb.l0 k (wrap64 (Int.tdiv x0 10000)) (x3 ++ [Int.tmod x0 10000])) else (none)) else (some x3)
def zb.f (k : Nat) (a0 : Int) : Option (List Int) := zb.l0 k a0 ([] : List Int)
theorem zb.calls (k : Nat) (a0 : Int) (r : List Int) (w : World) (h : zb.f k a0 = some r) :
  Calls Tryd.prog 20 #[.int .i64 a0] w fun e w' => ∃ v0_ : Value, e = .returned (v0_) ∧ Kd.R (Kd.int .i64) 3 w' w.heap.size (fun _ => True) v0_ r ∧ Below w.heap.size w w' := by
 have HB := zA (Below.refl w.heap.size w)
 have H : (zb.l0 k a0 ([] : List Int)) = some r := h
 clear h
 have H' := zA H
 clear H
 go_enter Tryd.func20, Tryd.ntmps20
 go_wp2
 go_loopg [0, 3] k (fun kq v0 v3 w' => ∃ (x0_1 : Int) (x3_1 : List Int), v0 = .int .i64 x0_1 ∧ Aside0 (zb.l0 kq x0_1 x3_1 = some r) ∧ Aside0 (kq ≤ k) ∧ Aside0 (Kd.R (Kd.int .i64) 3 w' w.heap.size (fun _ => True) v3 x3_1) ∧ Aside0 (Below w.heap.size w w'))
 case atStart => exact ⟨(a0), (([] : List Int)), (zF), H', ⟨Nat.le_refl _⟩, ⟨by first | exact Kd.R_nil _ _ _ _ _ | exact Kd.N_nil _ _ _ _ _ | exact Kd.V_nil _ _ _ _ _ | exact Kd.Q_nil _ _ _ _ _ | exact Kd.S_nil _ _ _ _ _⟩, ⟨zB HB⟩⟩
 case round =>
  clear H'
  obtain ⟨x0_1, x3_1, rfl, HA, HK1, HO_3, HB⟩ := hrel
  cases gk with
  | zero => exact absurd HA.out (by simp [zb.l0])
  | succ k1 =>
   have H := HA.out
   clear HA
   simp only [zb.l0] at H
   by_cases c2 : x0_1 > 0
   ·
    rw [if_pos c2] at H
    have c2b0 : decide (0 < x0_1) = true := decide_eq_true c2
    clear c2
    by_cases c3 : x3_1.length < 17592186044416
    ·
     rw [if_pos c3] at H
     have LMc3 := zA c3
     clear c3
     obtain ⟨y272, hy272⟩ : ∃ y_ : List Int, y_ = (x3_1 ++ [Int.tmod x0_1 10000]) := ⟨_, rfl⟩
     replace H : (zb.l0 k1 (wrap64 (Int.tdiv x0_1 10000)) y272) = some r := by first | (rw [hy272]; with_reducible exact H) | (have H2_ := (Option.bind_some _ _).symm.trans H; rw [hy272]; with_reducible exact H2_) | (have H2_ := (Option.bind_some _ _).symm.trans H; with_reducible exact H2_) | with_reducible exact H | (rw [hy272]; exact H) | exact H
     have Ny272 := zA hy272
     clear hy272
     have H' := zA H
     clear H
     go_wp2_with (first | ((with_reducible refine zce (b := .append) (xs := #[.tmp 6, .tmp 9]) rfl ?_); at_builtin; refine Kd.zc8 (Kd.int .i64) (w0 := w) w.heap.size rfl (.tmp 6) (.tmp 9) 31 3 (.int .i64 0) 8 rfl Tryd.underlying31 info3 rfl (by decide) (by omega) u3 x3_1 (Int.tmod x0_1 10000) [.int .i64 (Int.tmod x0_1 10000)] (fun _ => True) (fun _ => False) rfl rfl ?aP (fun _ hk => hk.elim) ?aF ?aO ?aB ?aS ?aL ?_; (case aP => exact rfl); (case aB => exact (zB HB)); (case aF => exact (fun _ _ => trivial)); (case aO => exact (zR HO_3)); (case aS => exact (za (zB HB))); (case aL => have := LMc3.out; omega); intro v273 w4 ho hb hg hat; rw [← Ny272.out] at ho; have n0_ := zA (hb); have n1_ := zA (ho); clear HB HO_3; have HB := n0_; have HO274 := n1_; clear n0_ n1_ ho hb hg hat))
     go_roundg k1
     case measure => have := HK1.out; omega
     case rel => exact ⟨(wrap64 (Int.tdiv x0_1 10000)), (y272), (zF), H', ⟨by have := HK1.out; omega⟩, ⟨zR HO274⟩, ⟨zB HB⟩⟩
    ·
     rw [if_neg c3] at H
     exact absurd H (by simp)
   ·
    rw [if_neg c2] at H
    have c2b0 : decide (0 < x0_1) = false := decide_eq_false c2
    clear c2
    obtain rfl := Option.some.inj H
    go_wp2
    go_ret
    exact ⟨_, zW, zR HO_3, zB HB⟩
def zb5.f (l0 : List Int) (a1 : Int) : Option (Int) := if a1 < (l0.length : Int) then (if 0 ≤ a1 then (some (rd l0 a1)) else (none)) else (some 0)
theorem zb5.calls (A0 : Option Addr) (c0 : Nat) (l0 : List Int) (a1 : Int) (r : Int) (w : World) (hr0 : Kd.C (Kd.int .i64) w A0 l0.length l0) (hc0 : l0.length ≤ c0) (h : zb5.f l0 a1 = some r) :
  Calls Tryd.prog 82 #[.slice A0 l0.length c0, .int .i64 a1] w fun e w' => e = .returned (.int .i64 r) ∧ Drawn0 w w' := by
 have HR0 := zA hr0
 have HC0 := zA hc0
 clear hr0 hc0
 have H : (if a1 < (l0.length : Int) then (if 0 ≤ a1 then (some (rd l0 a1)) else (none)) else (some 0)) = some r := h
 clear h
 by_cases c3 : a1 < (l0.length : Int)
 ·
  rw [if_pos c3] at H
  have c3b0 : decide (a1 < (l0.length : Int)) = true := decide_eq_true c3
  clear c3
  by_cases c4 : 0 ≤ a1
  ·
   rw [if_pos c4] at H
   have c4b0 : decide (0 ≤ a1) = true := decide_eq_true c4
   clear c4
   obtain rfl := Option.some.inj H
   have p275 : 0 ≤ (a1 : Int) := of_decide_eq_true (by first | (with_reducible assumption) | assumption)
   have q275 : a1 < (l0.length : Int) := of_decide_eq_true (by first | (with_reducible assumption) | assumption)
   obtain ⟨ad275, e275, hx275_0⟩ := Kd.at_int HR0.out a1 p275 q275
   cases e275
   replace p275 := eq_true p275
   replace q275 := eq_true q275
   go_enter Tryd.func82, Tryd.ntmps82
   go_wp2
   go_ret
   exact ⟨zF, by repeat (first | exact Drawn0.refl _ | apply Drawn0.step)⟩
  ·
   rw [if_neg c4] at H
   exact absurd H (by simp)
 ·
  rw [if_neg c3] at H
  have c3b0 : decide (a1 < (l0.length : Int)) = false := decide_eq_false c3
  clear c3
  obtain rfl := Option.some.inj H
  go_enter Tryd.func82, Tryd.ntmps82
  go_wp2
  go_ret
  exact ⟨zF, by repeat (first | exact Drawn0.refl _ | apply Drawn0.step)⟩
mutual
def za2.l0 : Nat → List Int → List Int → List Int → Int → Int → Option (List Int)
 | 0, _, _, _, _, _ => none
 | k + 1, x0, x1, x5, x6, x7 => if x7 < (x0.length : Int) then (za2.j1 k x0 x1 x5 x6 x7 true) else (if x7 < (x1.length : Int) then (za2.j1 k x0 x1 x5 x6 x7 true) else (za2.j1 k x0 x1 x5 x6 x7 (decide (x6 > 0))))
def za2.j1 : Nat → List Int → List Int → List Int → Int → Int → Bool → Option (List Int)
 | 0, _, _, _, _, _, _ => none
 | k + 1, x0, x1, x5, x6, x7, x22 => if x22 = true then ((zb5.f x0 x7).bind fun t276 => ((zb5.f x1 x7).bind fun t277 => (if x5.length < 17592186044416 then (za2.l0 k x0 x1 (x5 ++ [Int.tmod (wrap64 ((wrap64 (t276 + t277)) + x6)) 10000]) (wrap64 (Int.tdiv (wrap64 ((wrap64 (t276 + t277)) + x6)) 10000)) (wrap64 (x7 + 1))) else (none)))) else (some x5)
end
def za2.f (k : Nat) (l0 : List Int) (l1 : List Int) : Option (List Int) := za2.l0 k l0 l1 ([] : List Int) 0 0
theorem za2.calls (k : Nat) (A0 : Option Addr) (c0 : Nat) (l0 : List Int) (A1 : Option Addr) (c1 : Nat) (l1 : List Int) (r : List Int) (w : World) (hr0 : Kd.C (Kd.int .i64) w A0 l0.length l0) (hc0 : l0.length ≤ c0) (hr1 : Kd.C (Kd.int .i64) w A1 l1.length l1) (hc1 : l1.length ≤ c1) (h : za2.f k l0 l1 = some r) :
  Calls Tryd.prog 55 #[.slice A0 l0.length c0, .slice A1 l1.length c1] w fun e w' => ∃ v0_ : Value, e = .returned (v0_) ∧ Kd.R (Kd.int .i64) 3 w' w.heap.size (fun _ => True) v0_ r ∧ Below w.heap.size w w' := by
 have HR0 := zA hr0
 have HC0 := zA hc0
 clear hr0 hc0
 have HR1 := zA hr1
 have HC1 := zA hc1
 clear hr1 hc1
 have HB := zA (Below.refl w.heap.size w)
 have H : (za2.l0 k l0 l1 ([] : List Int) 0 0) = some r := h
 clear h
 have H' := zA H
 clear H
 go_enter Tryd.func55, Tryd.ntmps55
 go_wp2
 go_loopg [5, 6, 7] k (fun kq v5 v6 v7 w' => ∃ (x5_1 : List Int) (x6_1 : Int) (x7_1 : Int), v6 = .int .i64 x6_1 ∧ v7 = .int .i64 x7_1 ∧ Aside0 (za2.l0 kq l0 l1 x5_1 x6_1 x7_1 = some r) ∧ Aside0 (kq ≤ k) ∧ Aside0 (Kd.R (Kd.int .i64) 3 w' w.heap.size (fun _ => True) v5 x5_1) ∧ Aside0 (Below w.heap.size w w'))
 case atStart => exact ⟨(([] : List Int)), (0), (0), (zF), (zF), H', ⟨Nat.le_refl _⟩, ⟨by first | exact Kd.R_nil _ _ _ _ _ | exact Kd.N_nil _ _ _ _ _ | exact Kd.V_nil _ _ _ _ _ | exact Kd.Q_nil _ _ _ _ _ | exact Kd.S_nil _ _ _ _ _⟩, ⟨zB HB⟩⟩
 case round =>
  clear H'
  try clear c1
  try clear p2
  obtain ⟨x5_1, x6_1, x7_1, rfl, rfl, HA, HK1, HO_5, HB⟩ := hrel
  cases gk with
  | zero => exact absurd HA.out (by simp [za2.l0])
  | succ k1 =>
   have H := HA.out
   clear HA
   simp only [za2.l0] at H
   have HC3 := zA H
   clear H
   go_upto_region 4 with (fail)
   go_cut [22] (fun v22 wc => ∃ (kq : Nat) (x22_2 : Bool), v22 = .bool x22_2 ∧ Aside0 (za2.j1 kq l0 l1 x5_1 x6_1 x7_1 x22_2 = some r) ∧ Aside0 (kq ≤ k1) ∧ Aside0 (Kd.R (Kd.int .i64) 3 wc w.heap.size (fun _ => True) u5 x5_1) ∧ Aside0 (Below w.heap.size w wc))
   case first =>
    have H := HC3.out
    clear HC3
    by_cases c4 : x7_1 < (l0.length : Int)
    ·
     rw [if_pos c4] at H
     have c4b0 : decide (x7_1 < (l0.length : Int)) = true := decide_eq_true c4
     clear c4
     (first | rw [c4b0] | (simp only [i64_w, i32_w]; rw [c4b0]) | skip)
     have H' := zA H
     clear H
     go_wp2
     go_meet
     case rel => exact ⟨_, (true), (zF), H', ⟨by have := HK1.out; first | omega | exact Nat.le_refl _⟩, ⟨zR HO_5⟩, ⟨zB HB⟩⟩
    ·
     rw [if_neg c4] at H
     have c4b0 : decide (x7_1 < (l0.length : Int)) = false := decide_eq_false c4
     clear c4
     (first | rw [c4b0] | (simp only [i64_w, i32_w]; rw [c4b0]) | skip)
     by_cases c5 : x7_1 < (l1.length : Int)
     ·
      rw [if_pos c5] at H
      have c5b0 : decide (x7_1 < (l1.length : Int)) = true := decide_eq_true c5
      clear c5
      have H' := zA H
      clear H
      go_wp2
      go_meet
      case rel => exact ⟨_, (true), (zF), H', ⟨by have := HK1.out; first | omega | exact Nat.le_refl _⟩, ⟨zR HO_5⟩, ⟨zB HB⟩⟩
     ·
      rw [if_neg c5] at H
      have c5b0 : decide (x7_1 < (l1.length : Int)) = false := decide_eq_false c5
      clear c5
      have H' := zA H
      clear H
      go_wp2
      go_meet
      case rel => exact ⟨_, (decide (x6_1 > 0)), (zF), H', ⟨by have := HK1.out; first | omega | exact Nat.le_refl _⟩, ⟨zR HO_5⟩, ⟨zB HB⟩⟩
   case rest =>
    clear HC3
    try clear c1
    try clear p2
    try clear c4
    try clear c4b0
    try clear c5
    try clear c5b0
    try clear p2
    obtain ⟨kq, x22_2, rfl, HA, HJ2, HO_5, HB⟩ := hcut
    cases kq with
    | zero => exact absurd HA.out (by simp [za2.j1])
    | succ kj2 =>
     have H := HA.out
     clear HA
     simp only [za2.j1] at H
     by_cases c6 : x22_2 = true
     ·
      subst c6
      rw [if_pos rfl] at H
      replace H := zO H
      obtain ⟨t276, A70, H⟩ := H
      try dsimp only at H
      have A7 := zA A70
      clear A70
      replace H := zO H
      obtain ⟨t277, A80, H⟩ := H
      try dsimp only at H
      have A8 := zA A80
      clear A80
      by_cases c9 : x5_1.length < 17592186044416
      ·
       rw [if_pos c9] at H
       have LMc9 := zA c9
       clear c9
       obtain ⟨y278, hy278⟩ : ∃ y_ : List Int, y_ = (x5_1 ++ [Int.tmod (wrap64 ((wrap64 (t276 + t277)) + x6_1)) 10000]) := ⟨_, rfl⟩
       replace H : (za2.l0 kj2 l0 l1 y278 (wrap64 (Int.tdiv (wrap64 ((wrap64 (t276 + t277)) + x6_1)) 10000)) (wrap64 (x7_1 + 1))) = some r := by first | (rw [hy278]; with_reducible exact H) | (have H2_ := (Option.bind_some _ _).symm.trans H; rw [hy278]; with_reducible exact H2_) | (have H2_ := (Option.bind_some _ _).symm.trans H; with_reducible exact H2_) | with_reducible exact H | (rw [hy278]; exact H) | exact H
       have Ny278 := zA hy278
       clear hy278
       have H' := zA H
       clear H
       go_wp2_with (first | ((with_reducible refine zah (f := 82) rfl ?_); refine zba (some 27) rfl rfl Tryd.func82 (by kernel_rfl) rfl #[.slice A0 l0.length c0, .int .i64 x7_1] rfl (zE) ?_; (with_reducible refine (zb5.calls _ _ l0 x7_1 t276 _ ?side1 ?side2 A7.out).mono ?_); (case side1 => exact zJ (Kd.za6 HR0.out HB.out)); (case side2 => exact HC0.out); rintro e w' ⟨rfl, ⟨nd, rfl⟩⟩; refine ⟨_, rfl, ?_⟩) | ((with_reducible refine zah (f := 82) rfl ?_); refine zba (some 30) rfl rfl Tryd.func82 (by kernel_rfl) rfl #[.slice A1 l1.length c1, .int .i64 x7_1] rfl (zE) ?_; (with_reducible refine (zb5.calls _ _ l1 x7_1 t277 _ ?side1 ?side2 A8.out).mono ?_); (case side1 => exact zJ (Kd.za6 HR1.out (zB HB))); (case side2 => exact HC1.out); rintro e w' ⟨rfl, ⟨nd, rfl⟩⟩; refine ⟨_, rfl, ?_⟩) | ((with_reducible refine zce (b := .append) (xs := #[.tmp 34, .tmp 37]) rfl ?_); (try (refine zcp (by rfl) ?_; dsimp only)); at_builtin; refine Kd.zc8 (Kd.int .i64) (w0 := w) w.heap.size rfl (.tmp 34) (.tmp 37) 31 3 (.int .i64 0) 8 rfl Tryd.underlying31 info3 rfl (by decide) (by omega) u5 x5_1 (Int.tmod (wrap64 ((wrap64 (t276 + t277)) + x6_1)) 10000) [.int .i64 (Int.tmod (wrap64 ((wrap64 (t276 + t277)) + x6_1)) 10000)] (fun _ => True) (fun _ => False) rfl rfl ?aP (fun _ hk => hk.elim) ?aF ?aO ?aB ?aS ?aL ?_; (case aP => exact rfl); (case aB => exact (zB HB)); (case aF => exact (fun _ _ => trivial)); (case aO => exact (zR HO_5)); (case aS => exact (za (zB HB))); (case aL => have := LMc9.out; omega); intro v279 w10 ho hb hg hat; rw [← Ny278.out] at ho; have n0_ := zA (hb); have n1_ := zA (ho); clear HB HO_5; have HB := n0_; have HO280 := n1_; clear n0_ n1_ ho hb hg hat))
       go_roundg kj2
       case measure => have := HK1.out; have := HJ2.out; omega
       case rel => exact ⟨(y278), (wrap64 (Int.tdiv (wrap64 ((wrap64 (t276 + t277)) + x6_1)) 10000)), (wrap64 (x7_1 + 1)), (zF), (zF), H', ⟨by have := HK1.out; have := HJ2.out; omega⟩, ⟨zR HO280⟩, ⟨zB HB⟩⟩
      ·
       rw [if_neg c9] at H
       exact absurd H (by simp)
     ·
      replace c6 := Bool.eq_false_iff.mpr c6
      subst c6
      rw [if_neg (show ¬ (false = true) by decide)] at H
      obtain rfl := Option.some.inj H
      go_wp2
      go_ret
      exact ⟨_, zW, zR HO_5, zB HB⟩
def zay.l0 : Nat → List Int → Int → Option (List Int)
 | 0, _, _ => none
 | k + 1, x0, x3 => if x3 > 0 then (if 0 ≤ (wrap64 (x3 - 1)) then (if (wrap64 (x3 - 1)) < (x0.length : Int) then (if (rd x0 (wrap64 (x3 - 1))) = 0 then (zay.l0 k x0 (wrap64 (x3 - 1))) else (if 0 ≤ x3 then (if x3 ≤ (x0.length : Int) then (some (x0.take (x3 : Int).toNat)) else (none)) else (none))) else (none)) else (none)) else (if 0 ≤ x3 then (if x3 ≤ (x0.length : Int) then (some (x0.take (x3 : Int).toNat)) else (none)) else (none))
def zay.f (k : Nat) (l0 : List Int) : Option (List Int) := zay.l0 k l0 (l0.length : Int)
theorem zay.calls (k : Nat) (P0_ : Nat → Prop) (u9000_ : Value) (l0 : List Int) (r : List Int) (w0 w : World) (hB : Below w0.heap.size w0 w) (ho0 : Kd.R (Kd.int .i64) 3 w w0.heap.size P0_ u9000_ l0) (h : zay.f k l0 = some r) :
  Calls Tryd.prog 83 #[u9000_] w fun e w' => ∃ v0_ : Value, e = .returned (v0_) ∧ Kd.R (Kd.int .i64) 3 w' w0.heap.size (fun k_ => (P0_ k_ ∨ w.heap.size ≤ k_)) v0_ r ∧ Below w0.heap.size w0 w' ∧ Kept w w' (fun k_ => P0_ k_) := by
 have HO0 := zA (show Kd.R (Kd.int .i64) 3 w w0.heap.size (fun k_ => (P0_ k_ ∨ w.heap.size ≤ k_)) u9000_ l0 from Kd.zav ho0 (fun k_ hk => (.inl hk)))
 have HK := zA (Kept.refl w (fun k_ => P0_ k_))
 have HW0 := zA hB.size
 have HB := zA hB
 clear hB
 have H : (zay.l0 k l0 (l0.length : Int)) = some r := h
 clear h
 have H' := zA H
 clear H
 obtain ⟨Ao2, co2, eo2⟩ := Kd.zbn HO0.out
 subst eo2
 go_enter Tryd.func83, Tryd.ntmps83
 go_wp2
 go_loopg [3] k (fun kq v3 w' => ∃ (x3_1 : Int), v3 = .int .i64 x3_1 ∧ Aside0 (zay.l0 kq l0 x3_1 = some r) ∧ Aside0 (kq ≤ k) ∧ Aside0 (Kd.R (Kd.int .i64) 3 w' w0.heap.size (fun k_ => (P0_ k_ ∨ w.heap.size ≤ k_)) (.slice Ao2 l0.length co2) l0) ∧ Aside0 (Kept w w' (fun k_ => P0_ k_)) ∧ Aside0 (Below w0.heap.size w0 w'))
 case atStart => exact ⟨((l0.length : Int)), (zF), H', ⟨Nat.le_refl _⟩, ⟨zR HO0⟩, ⟨by repeat (first | (with_reducible first | exact HK.out | apply Kept.alloc | apply Kept.drewN | apply Kept.drew) | exact HK.out)⟩, ⟨zB HB⟩⟩
 case round =>
  clear H'
  try clear p2
  obtain ⟨x3_1, rfl, HA, HK1, HO_0, HK, HB⟩ := hrel
  cases gk with
  | zero => exact absurd HA.out (by simp [zay.l0])
  | succ k1 =>
   have H := HA.out
   clear HA
   simp only [zay.l0] at H
   by_cases c3 : x3_1 > 0
   ·
    rw [if_pos c3] at H
    have c3b0 : decide (0 < x3_1) = true := decide_eq_true c3
    clear c3
    obtain ⟨ji4, hji4⟩ : ∃ j_ : Int, (wrap64 (x3_1 - 1)) = j_ := ⟨_, rfl⟩
    replace H : (if 0 ≤ (ji4) then (if (ji4) < (l0.length : Int) then (if (rd l0 (ji4)) = 0 then (zay.l0 k1 l0 ji4) else (if 0 ≤ x3_1 then (if x3_1 ≤ (l0.length : Int) then (some (l0.take (x3_1 : Int).toNat)) else (none)) else (none))) else (none)) else (none)) = some r := by first | (rw [hji4] at H; exact H) | (simp only [hji4] at H ⊢; exact H)
    have hji4w : (IntKind.i64.wrap (x3_1 - 1)) = ji4 := (i64_w _).trans hji4
    by_cases c5 : 0 ≤ (ji4)
    ·
     rw [if_pos c5] at H
     have c5b0 : decide (0 ≤ (ji4)) = true := decide_eq_true c5
     clear c5
     by_cases c6 : (ji4) < (l0.length : Int)
     ·
      rw [if_pos c6] at H
      have c6b0 : decide ((ji4) < (l0.length : Int)) = true := decide_eq_true c6
      clear c6
      by_cases c7 : (rd l0 (ji4)) = 0
      ·
       rw [if_pos c7] at H
       have c7b0 : ((rd l0 (ji4)) == 0) = true := beq_iff_eq.mpr c7
       have c7b1 : ((rd l0 (ji4)) != 0) = false := bne_eq_false_iff_eq.mpr c7
       clear c7
       have H' := zA H
       clear H
       have p281 : 0 ≤ ((ji4) : Int) := of_decide_eq_true (by first | (with_reducible assumption) | assumption)
       have q281 : (ji4) < (l0.length : Int) := of_decide_eq_true (by first | (with_reducible assumption) | assumption)
       obtain ⟨ad281, e281, hx281_0⟩ := Kd.at_int (Kd.zat HO_0.out).2.2 (ji4) p281 q281
       cases e281
       replace p281 := eq_true p281
       replace q281 := eq_true q281
       go_wp2
       go_roundg k1
       case measure => have := HK1.out; omega
       case rel => exact ⟨(ji4), (by first | rfl | (simp; done) | (simp only [← hji4] <;> (first | rfl | simp)) | (simp [*]; done)), H', ⟨by have := HK1.out; omega⟩, ⟨zR HO_0⟩, ⟨by repeat (first | (with_reducible first | exact HK.out | apply Kept.alloc | apply Kept.drewN | apply Kept.drew) | exact HK.out)⟩, ⟨zB HB⟩⟩
      ·
       rw [if_neg c7] at H
       have c7b0 : ((rd l0 (ji4)) == 0) = false := beq_eq_false_iff_ne.mpr c7
       have c7b1 : ((rd l0 (ji4)) != 0) = true := bne_iff_ne.mpr c7
       by_cases c8 : 0 ≤ x3_1
       ·
        rw [if_pos c8] at H
        have c8b0 := eq_true c8
        have c8b1 : decide (0 ≤ x3_1) = true := decide_eq_true c8
        clear c8
        by_cases c9 : x3_1 ≤ (l0.length : Int)
        ·
         rw [if_pos c9] at H
         have c9b0 := eq_true c9
         have c9b1 : decide (x3_1 ≤ (l0.length : Int)) = true := decide_eq_true c9
         clear c9
         obtain ⟨y282, hy282⟩ : ∃ y_ : List Int, y_ = (l0.take (x3_1 : Int).toNat) := ⟨_, rfl⟩
         replace H : (some y282) = some r := by first | (rw [hy282]; with_reducible exact H) | (have H2_ := (Option.bind_some _ _).symm.trans H; rw [hy282]; with_reducible exact H2_) | (have H2_ := (Option.bind_some _ _).symm.trans H; with_reducible exact H2_) | with_reducible exact H | (rw [hy282]; exact H) | exact H
         have Ny282 := zA hy282
         clear hy282
         obtain rfl := Option.some.inj H
         have p281 : 0 ≤ ((ji4) : Int) := of_decide_eq_true (by first | (with_reducible assumption) | assumption)
         have q281 : (ji4) < (l0.length : Int) := of_decide_eq_true (by first | (with_reducible assumption) | assumption)
         obtain ⟨ad281, e281, hx281_0⟩ := Kd.at_int (Kd.zat HO_0.out).2.2 (ji4) p281 q281
         cases e281
         replace p281 := eq_true p281
         replace q281 := eq_true q281
         have q10 : (x3_1 : Int) ≤ ((l0.length : Int) : Int) := of_decide_eq_true (by first | (with_reducible assumption) | assumption)
         obtain ⟨i010, hi010, _, hsz10, _⟩ := info_parts info3
         have hcut10 := cut_to (P := Tryd.prog) 31 3 .i64 Tryd.underlying31 hi010 (some ad281) l0.length co2 x3_1 (of_decide_eq_true (by first | (with_reducible assumption) | assumption)) q10 (Kd.zat HO_0.out).2.1
         have hr10 := Kd.R_take (m := (x3_1 : Int).toNat) HO_0.out (by omega)
         have hy10 : y282.length = (x3_1 : Int).toNat := (by rw [Ny282.out, List.length_take]; omega)
         rw [← Ny282.out] at hr10
         rw [← hy10] at hr10 hcut10
         clear hy10 hi010 hsz10 HO_0
         have HO284 := zA hr10
         clear hr10
         replace q10 := eq_true q10
         go_wp2
         go_ret
         exact ⟨_, by first | rfl | (simp [zcm, zcl] <;> rfl) | (simp only [← hji4]; first | rfl | (simp [zcm, zcl] <;> rfl)) | (simp [*, zcm, zcl] <;> rfl), zR HO284, zB HB, by repeat (first | (with_reducible first | exact HK.out | apply Kept.alloc | apply Kept.drewN | apply Kept.drew) | exact HK.out)⟩
        ·
         rw [if_neg c9] at H
         exact absurd H (by simp)
       ·
        rw [if_neg c8] at H
        exact absurd H (by simp)
     ·
      rw [if_neg c6] at H
      exact absurd H (by simp)
    ·
     rw [if_neg c5] at H
     exact absurd H (by simp)
   ·
    rw [if_neg c3] at H
    have c3b0 : decide (0 < x3_1) = false := decide_eq_false c3
    clear c3
    by_cases c11 : 0 ≤ x3_1
    ·
     rw [if_pos c11] at H
     have c11b0 := eq_true c11
     have c11b1 : decide (0 ≤ x3_1) = true := decide_eq_true c11
     clear c11
     by_cases c12 : x3_1 ≤ (l0.length : Int)
     ·
      rw [if_pos c12] at H
      have c12b0 := eq_true c12
      have c12b1 : decide (x3_1 ≤ (l0.length : Int)) = true := decide_eq_true c12
      clear c12
      obtain ⟨y285, hy285⟩ : ∃ y_ : List Int, y_ = (l0.take (x3_1 : Int).toNat) := ⟨_, rfl⟩
      replace H : (some y285) = some r := by first | (rw [hy285]; with_reducible exact H) | (have H2_ := (Option.bind_some _ _).symm.trans H; rw [hy285]; with_reducible exact H2_) | (have H2_ := (Option.bind_some _ _).symm.trans H; with_reducible exact H2_) | with_reducible exact H | (rw [hy285]; exact H) | exact H
      have Ny285 := zA hy285
      clear hy285
      obtain rfl := Option.some.inj H
      have q13 : (x3_1 : Int) ≤ ((l0.length : Int) : Int) := of_decide_eq_true (by first | (with_reducible assumption) | assumption)
      obtain ⟨i013, hi013, _, hsz13, _⟩ := info_parts info3
      have hcut13 := cut_to (P := Tryd.prog) 31 3 .i64 Tryd.underlying31 hi013 Ao2 l0.length co2 x3_1 (of_decide_eq_true (by first | (with_reducible assumption) | assumption)) q13 (Kd.zat HO_0.out).2.1
      have hr13 := Kd.R_take (m := (x3_1 : Int).toNat) HO_0.out (by omega)
      have hy13 : y285.length = (x3_1 : Int).toNat := (by rw [Ny285.out, List.length_take]; omega)
      rw [← Ny285.out] at hr13
      rw [← hy13] at hr13 hcut13
      clear hy13 hi013 hsz13 HO_0
      have HO287 := zA hr13
      clear hr13
      replace q13 := eq_true q13
      go_wp2
      go_ret
      exact ⟨_, zW, zR HO287, zB HB, by repeat (first | (with_reducible first | exact HK.out | apply Kept.alloc | apply Kept.drewN | apply Kept.drew) | exact HK.out)⟩
     ·
      rw [if_neg c12] at H
      exact absurd H (by simp)
    ·
     rw [if_neg c11] at H
     exact absurd H (by simp)
mutual
def zam.l0 : Nat → List Int → List Int → List Int → Int → Int → Option (List Int)
 | 0, _, _, _, _, _ => none
 | k + 1, x0, x1, x5, x17, x18 => if x18 < x17 then (zam.l1 k x0 x1 x5 x18 0 x17 x18 (x1.length : Int) 0) else ((zay.f k x5).bind fun t291 => (some t291))
def zam.l1 : Nat → List Int → List Int → List Int → Int → Int → Int → Int → Int → Int → Option (List Int)
 | 0, _, _, _, _, _, _, _, _, _ => none
 | k + 1, x0, x1, x5, x6, x7, x17, x18, x22, x23 => if x23 < x22 then (if 0 ≤ (wrap64 (x6 + x23)) then (if (wrap64 (x6 + x23)) < (x5.length : Int) then (if 0 ≤ x6 then (if x6 < (x0.length : Int) then (if 0 ≤ x23 then (if x23 < (x1.length : Int) then (zam.l1 k x0 x1 (x5.set ((wrap64 (x6 + x23)) : Int).toNat (Int.tmod (wrap64 ((wrap64 ((rd x5 (wrap64 (x6 + x23))) + (wrap64 ((rd x0 x6) * (rd x1 x23))))) + x7)) 10000)) x6 (wrap64 (Int.tdiv (wrap64 ((wrap64 ((rd x5 (wrap64 (x6 + x23))) + (wrap64 ((rd x0 x6) * (rd x1 x23))))) + x7)) 10000)) x17 x18 x22 (wrap64 (x23 + 1))) else (none)) else (none)) else (none)) else (none)) else (none)) else (none)) else (if 0 ≤ (wrap64 (x6 + (x1.length : Int))) then (if (wrap64 (x6 + (x1.length : Int))) < (x5.length : Int) then (zam.l0 k x0 x1 (x5.set ((wrap64 (x6 + (x1.length : Int))) : Int).toNat (wrap64 ((rd x5 (wrap64 (x6 + (x1.length : Int)))) + x7))) x17 (wrap64 (x18 + 1))) else (none)) else (none))
end
def zam.f (k : Nat) (l0 : List Int) (l1 : List Int) : Option (List Int) := if 0 ≤ (wrap64 ((l0.length : Int) + (l1.length : Int))) then (if (wrap64 ((l0.length : Int) + (l1.length : Int)) : Int).toNat ≤ 35184372088832 then (zam.l0 k l0 l1 (List.replicate (wrap64 ((l0.length : Int) + (l1.length : Int)) : Int).toNat 0) (l0.length : Int) 0) else (none)) else (none)
theorem zam.calls (k : Nat) (A0 : Option Addr) (c0 : Nat) (l0 : List Int) (A1 : Option Addr) (c1 : Nat) (l1 : List Int) (r : List Int) (w : World) (hr0 : Kd.C (Kd.int .i64) w A0 l0.length l0) (hc0 : l0.length ≤ c0) (hr1 : Kd.C (Kd.int .i64) w A1 l1.length l1) (hc1 : l1.length ≤ c1) (h : zam.f k l0 l1 = some r) :
  Calls Tryd.prog 56 #[.slice A0 l0.length c0, .slice A1 l1.length c1] w fun e w' => ∃ v0_ : Value, e = .returned (v0_) ∧ Kd.R (Kd.int .i64) 3 w' w.heap.size (fun _ => True) v0_ r ∧ Below w.heap.size w w' := by
 have HR0 := zA hr0
 have HC0 := zA hc0
 clear hr0 hc0
 have HR1 := zA hr1
 have HC1 := zA hc1
 clear hr1 hc1
 have HB := zA (Below.refl w.heap.size w)
 have H : (if 0 ≤ (wrap64 ((l0.length : Int) + (l1.length : Int))) then (if (wrap64 ((l0.length : Int) + (l1.length : Int)) : Int).toNat ≤ 35184372088832 then (zam.l0 k l0 l1 (List.replicate (wrap64 ((l0.length : Int) + (l1.length : Int)) : Int).toNat 0) (l0.length : Int) 0) else (none)) else (none)) = some r := h
 clear h
 obtain ⟨ji3, hji3⟩ : ∃ j_ : Int, (wrap64 ((l0.length : Int) + (l1.length : Int))) = j_ := ⟨_, rfl⟩
 replace H : (if 0 ≤ (ji3) then (if (ji3 : Int).toNat ≤ 35184372088832 then (zam.l0 k l0 l1 (List.replicate (ji3 : Int).toNat 0) (l0.length : Int) 0) else (none)) else (none)) = some r := by first | (rw [hji3] at H; exact H) | (simp only [hji3] at H ⊢; exact H)
 have hji3w : (IntKind.i64.wrap ((l0.length : Int) + (l1.length : Int))) = ji3 := (i64_w _).trans hji3
 by_cases c4 : 0 ≤ (ji3)
 ·
  rw [if_pos c4] at H
  have c4b0 := eq_true c4
  have c4b1 : decide (0 ≤ (ji3)) = true := decide_eq_true c4
  clear c4
  by_cases c5 : (ji3 : Int).toNat ≤ 35184372088832
  ·
   rw [if_pos c5] at H
   have c5b0 := eq_true c5
   have c5b1 : decide ((ji3 : Int).toNat ≤ 35184372088832) = true := decide_eq_true c5
   clear c5
   obtain ⟨y288, hy288⟩ : ∃ y_ : List Int, y_ = (List.replicate (ji3 : Int).toNat 0) := ⟨_, rfl⟩
   replace H : (zam.l0 k l0 l1 y288 (l0.length : Int) 0) = some r := by first | (rw [hy288]; with_reducible exact H) | (have H2_ := (Option.bind_some _ _).symm.trans H; rw [hy288]; with_reducible exact H2_) | (have H2_ := (Option.bind_some _ _).symm.trans H; with_reducible exact H2_) | with_reducible exact H | (rw [hy288]; exact H) | exact H
   have Ny288 := zA hy288
   clear hy288
   have H' := zA H
   clear H
   go_enter Tryd.func56, Tryd.ntmps56
   go_wp2_with (first | ((with_reducible refine zbh (N := 15) rfl ?_); refine Kd.R_make (Kd.int .i64) _ 3 rfl (N := 15) rfl 31 _ _ rfl ji3 rfl rfl Tryd.underlying31 (.int .i64 0) 8 info3 rfl (by decide) (by omega) 0 (ok := fun _ => True) (okp := fun _ => True) rfl (fun _ hk => hk) trivial (of_decide_eq_true (by first | (with_reducible assumption) | assumption)) (Nat.le_trans (Nat.mul_le_mul_right _ (of_decide_eq_true (by first | (with_reducible assumption) | assumption) : ji3.toNat ≤ 35184372088832)) (by omega)) (Below.refl _ _) (Nat.le_refl _) ?_; intro v289 w6 ho7 hb hg_ hnew_; clear hg_ hnew_; (first | rw [← Ny288.out] at ho7 | (simp only [Int.reduceToNat] at ho7; rw [← Ny288.out] at ho7)); have n0_ := zA (Kd.zbm ho7 (za (zB HB))); have n1_ := zA (zaf (zB HB) hb); clear HB; have HO290 := n0_; have HB := n1_; clear n0_ n1_ hb ho7))
   repeat (go_quiet (first | ((with_reducible refine zbh (N := 15) rfl ?_); refine Kd.R_make (Kd.int .i64) _ 3 rfl (N := 15) rfl 31 _ _ rfl ji3 rfl rfl Tryd.underlying31 (.int .i64 0) 8 info3 rfl (by decide) (by omega) 0 (ok := fun _ => True) (okp := fun _ => True) rfl (fun _ hk => hk) trivial (of_decide_eq_true (by first | (with_reducible assumption) | assumption)) (Nat.le_trans (Nat.mul_le_mul_right _ (of_decide_eq_true (by first | (with_reducible assumption) | assumption) : ji3.toNat ≤ 35184372088832)) (by omega)) (Below.refl _ _) (Nat.le_refl _) ?_; intro v289 w6 ho7 hb hg_ hnew_; clear hg_ hnew_; (first | rw [← Ny288.out] at ho7 | (simp only [Int.reduceToNat] at ho7; rw [← Ny288.out] at ho7)); have n0_ := zA (Kd.zbm ho7 (za (zB HB))); have n1_ := zA (zaf (zB HB) hb); clear HB; have HO290 := n0_; have HB := n1_; clear n0_ n1_ hb ho7)); try go_wp2_with (first | ((with_reducible refine zbh (N := 15) rfl ?_); refine Kd.R_make (Kd.int .i64) _ 3 rfl (N := 15) rfl 31 _ _ rfl ji3 rfl rfl Tryd.underlying31 (.int .i64 0) 8 info3 rfl (by decide) (by omega) 0 (ok := fun _ => True) (okp := fun _ => True) rfl (fun _ hk => hk) trivial (of_decide_eq_true (by first | (with_reducible assumption) | assumption)) (Nat.le_trans (Nat.mul_le_mul_right _ (of_decide_eq_true (by first | (with_reducible assumption) | assumption) : ji3.toNat ≤ 35184372088832)) (by omega)) (Below.refl _ _) (Nat.le_refl _) ?_; intro v289 w6 ho7 hb hg_ hnew_; clear hg_ hnew_; (first | rw [← Ny288.out] at ho7 | (simp only [Int.reduceToNat] at ho7; rw [← Ny288.out] at ho7)); have n0_ := zA (Kd.zbm ho7 (za (zB HB))); have n1_ := zA (zaf (zB HB) hb); clear HB; have HO290 := n0_; have HB := n1_; clear n0_ n1_ hb ho7)))
   go_loopg [18] k (fun kq v18 w' => ∃ (x5_1 : List Int) (x18_1 : Int), v18 = .int .i64 x18_1 ∧ Aside0 (zam.l0 kq l0 l1 x5_1 (l0.length : Int) x18_1 = some r) ∧ Aside0 (kq ≤ k) ∧ Aside0 (Kd.R (Kd.int .i64) 3 w' w.heap.size (fun _ => True) v289 x5_1) ∧ Aside0 (Below w.heap.size w w'))
   case atStart => exact ⟨(y288), (0), (zF), H', ⟨Nat.le_refl _⟩, ⟨zR HO290⟩, ⟨zB HB⟩⟩
   case round =>
    clear H'
    try clear c1
    try clear p2
    try clear c4
    try clear c4b0
    try clear c4b1
    try clear c5
    try clear c5b0
    try clear c5b1
    try clear p6
    obtain ⟨x5_1, x18_1, rfl, HA, HK1, HO_5, HB⟩ := hrel
    cases gk with
    | zero => exact absurd HA.out (by simp [zam.l0])
    | succ k1 =>
     have H := HA.out
     clear HA
     simp only [zam.l0] at H
     by_cases c8 : x18_1 < (l0.length : Int)
     ·
      rw [if_pos c8] at H
      have c8b0 : decide (x18_1 < (l0.length : Int)) = true := decide_eq_true c8
      clear c8
      have H' := zA H
      clear H
      go_wp2
      repeat (go_quiet (fail); try go_wp2)
      go_loopg [7, 23] k1 (fun kq v7 v23 w' => ∃ (x5_2 : List Int) (x7_2 : Int) (x23_2 : Int), v7 = .int .i64 x7_2 ∧ v23 = .int .i64 x23_2 ∧ Aside0 (zam.l1 kq l0 l1 x5_2 x18_1 x7_2 (l0.length : Int) x18_1 (l1.length : Int) x23_2 = some r) ∧ Aside0 (kq ≤ k1) ∧ Aside0 (Kd.R (Kd.int .i64) 3 w' w.heap.size (fun _ => True) v289 x5_2) ∧ Aside0 (Below w.heap.size w w'))
      case atStart => exact ⟨(x5_1), (0), (0), (zF), (zF), H', ⟨Nat.le_refl _⟩, ⟨zR HO_5⟩, ⟨zB HB⟩⟩
      case round =>
       clear H'
       try clear c1
       try clear p2
       try clear c4
       try clear c4b0
       try clear c4b1
       try clear c5
       try clear c5b0
       try clear c5b1
       try clear p6
       try clear c8
       try clear c8b0
       try clear p2
       try clear p6
       obtain ⟨x5_2, x7_2, x23_2, rfl, rfl, HA, HK2, HO_5, HB⟩ := hrel
       cases gk with
       | zero => exact absurd HA.out (by simp [zam.l1])
       | succ k2 =>
        have H := HA.out
        clear HA
        simp only [zam.l1] at H
        by_cases c9 : x23_2 < (l1.length : Int)
        ·
         rw [if_pos c9] at H
         have c9b0 : decide (x23_2 < (l1.length : Int)) = true := decide_eq_true c9
         clear c9
         obtain ⟨ji10, hji10⟩ : ∃ j_ : Int, (wrap64 (x18_1 + x23_2)) = j_ := ⟨_, rfl⟩
         replace H : (if 0 ≤ (ji10) then (if (ji10) < (x5_2.length : Int) then (if 0 ≤ x18_1 then (if x18_1 < (l0.length : Int) then (if 0 ≤ x23_2 then (if x23_2 < (l1.length : Int) then (zam.l1 k2 l0 l1 (x5_2.set ((ji10) : Int).toNat (Int.tmod (wrap64 ((wrap64 ((rd x5_2 (ji10)) + (wrap64 ((rd l0 x18_1) * (rd l1 x23_2))))) + x7_2)) 10000)) x18_1 (wrap64 (Int.tdiv (wrap64 ((wrap64 ((rd x5_2 (ji10)) + (wrap64 ((rd l0 x18_1) * (rd l1 x23_2))))) + x7_2)) 10000)) (l0.length : Int) x18_1 (l1.length : Int) (wrap64 (x23_2 + 1))) else (none)) else (none)) else (none)) else (none)) else (none)) else (none)) = some r := by first | (rw [hji10] at H; exact H) | (simp only [hji10] at H ⊢; exact H)
         have hji10w : (IntKind.i64.wrap (x18_1 + x23_2)) = ji10 := (i64_w _).trans hji10
         by_cases c11 : 0 ≤ (ji10)
         ·
          rw [if_pos c11] at H
          have c11b0 : decide (0 ≤ (ji10)) = true := decide_eq_true c11
          clear c11
          by_cases c12 : (ji10) < (x5_2.length : Int)
          ·
           rw [if_pos c12] at H
           have c12b0 : decide ((ji10) < (x5_2.length : Int)) = true := decide_eq_true c12
           clear c12
           by_cases c13 : 0 ≤ x18_1
           ·
            rw [if_pos c13] at H
            have c13b0 : decide (0 ≤ x18_1) = true := decide_eq_true c13
            clear c13
            by_cases c14 : x18_1 < (l0.length : Int)
            ·
             rw [if_pos c14] at H
             have c14b0 : decide (x18_1 < (l0.length : Int)) = true := decide_eq_true c14
             clear c14
             by_cases c15 : 0 ≤ x23_2
             ·
              rw [if_pos c15] at H
              have c15b0 : decide (0 ≤ x23_2) = true := decide_eq_true c15
              clear c15
              by_cases c16 : x23_2 < (l1.length : Int)
              ·
               rw [if_pos c16] at H
               have c16b0 : decide (x23_2 < (l1.length : Int)) = true := decide_eq_true c16
               clear c16
               obtain ⟨y297, hy297⟩ : ∃ y_ : List Int, y_ = (x5_2.set ((ji10) : Int).toNat (Int.tmod (wrap64 ((wrap64 ((rd x5_2 (ji10)) + (wrap64 ((rd l0 x18_1) * (rd l1 x23_2))))) + x7_2)) 10000)) := ⟨_, rfl⟩
               replace H : (zam.l1 k2 l0 l1 y297 x18_1 (wrap64 (Int.tdiv (wrap64 ((wrap64 ((rd x5_2 (ji10)) + (wrap64 ((rd l0 x18_1) * (rd l1 x23_2))))) + x7_2)) 10000)) (l0.length : Int) x18_1 (l1.length : Int) (wrap64 (x23_2 + 1))) = some r := by first | (rw [hy297]; with_reducible exact H) | (have H2_ := (Option.bind_some _ _).symm.trans H; rw [hy297]; with_reducible exact H2_) | (have H2_ := (Option.bind_some _ _).symm.trans H; with_reducible exact H2_) | with_reducible exact H | (rw [hy297]; exact H) | exact H
               have Ny297 := zA hy297
               clear hy297
               have H' := zA H
               clear H
               obtain ⟨Ao18, co18, eo18⟩ := Kd.zbn HO_5.out
               subst eo18
               have p294 : 0 ≤ ((ji10) : Int) := of_decide_eq_true (by first | (with_reducible assumption) | assumption)
               have q294 : (ji10) < (x5_2.length : Int) := of_decide_eq_true (by first | (with_reducible assumption) | assumption)
               obtain ⟨ad294, e294, hx294_0⟩ := Kd.at_int (Kd.zat HO_5.out).2.2 (ji10) p294 q294
               cases e294
               replace p294 := eq_true p294
               replace q294 := eq_true q294
               have p295 : 0 ≤ (x18_1 : Int) := of_decide_eq_true (by first | (with_reducible assumption) | assumption)
               have q295 : x18_1 < (l0.length : Int) := of_decide_eq_true (by first | (with_reducible assumption) | assumption)
               obtain ⟨ad295, e295, hx295_0⟩ := Kd.at_int HR0.out x18_1 p295 q295
               cases e295
               replace hx295_0 := (HB.out.cell (World.block_lt_of_cell? w _ hx295_0)).trans hx295_0
               replace p295 := eq_true p295
               replace q295 := eq_true q295
               have p296 : 0 ≤ (x23_2 : Int) := of_decide_eq_true (by first | (with_reducible assumption) | assumption)
               have q296 : x23_2 < (l1.length : Int) := of_decide_eq_true (by first | (with_reducible assumption) | assumption)
               obtain ⟨ad296, e296, hx296_0⟩ := Kd.at_int HR1.out x23_2 p296 q296
               cases e296
               replace hx296_0 := (HB.out.cell (World.block_lt_of_cell? w _ hx296_0)).trans hx296_0
               replace p296 := eq_true p296
               replace q296 := eq_true q296
               have p17 : 0 ≤ ((ji10) : Int) := of_decide_eq_true (by first | (with_reducible assumption) | assumption)
               have q17 : ((ji10) : Int) < ((x5_2.length : Int) : Int) := of_decide_eq_true (by first | (with_reducible assumption) | assumption)
               obtain ⟨go17, co17, eo17, gb17, gl17, cl17, HG17⟩ := Kd.R_form HO_5.out (by omega)
               (first | cases eo17 | (injection eo17 with ea_ en_ ec_; (first | subst ea_ | (injection ea_ with ea_; subst ea_)); subst ec_; clear en_))
               have GB17 := zA gb17
               have GG17 := zA HG17
               clear gb17 gl17 HG17
               (first | simp only [add_plain] at hx294_0 | skip)
               obtain ⟨hx17_0, hf17_0⟩ := Kd.zda 0 HO_5.out ((ji10) : Int) p17 q17
               replace p17 := eq_true p17
               replace q17 := eq_true q17
               have HP19 := Kd.R_putg HO_5.out ((ji10) : Int) (Int.tmod (wrap64 ((wrap64 ((rd x5_2 (ji10)) + (wrap64 ((rd l0 x18_1) * (rd l1 x23_2))))) + x7_2)) 10000)
               go_wp2_with (first | ((with_reducible refine zde (t := 3) (p := 50) rfl ?_); (try (rw [drewN_self wr]; generalize hq_ : World.drewN wr _ = wr; have n0_ := zA (Kd.R_at hq_ HO_5.out); have n1_ := zA (below_at hq_ HB.out); clear hq_ HO_5 HB; have HO_5 := n0_; have HB := n1_; clear n0_ n1_; (try (have HP19 := Kd.R_putg HO_5.out ((ji10) : Int) (Int.tmod (wrap64 ((wrap64 ((rd x5_2 (ji10)) + (wrap64 ((rd l0 x18_1) * (rd l1 x23_2))))) + x7_2)) 10000))); (try (obtain ⟨hx17_0, hf17_0⟩ := Kd.zda 0 HO_5.out ((ji10) : Int) (of_eq_true p17) (of_eq_true q17))))); refine zc1 (t := 3) (p := 50) (v := ?vo_w20) (w1 := (wr.setCell ⟨go17, ((ji10) : Int).toNat, none⟩ (.int .i64 (Int.tmod (wrap64 ((wrap64 ((rd x5_2 (ji10)) + (wrap64 ((rd l0 x18_1) * (rd l1 x23_2))))) + x7_2)) 10000)))) ?hg ?ho ?hn ?hr ?_; (case ho => rfl); (case hg => rfl); (case hn => rfl); (case hr => first | (go_simp; done) | (go_simp; rfl)); intro w20 hw; have hg : wr.grownBy w20 (some go17) := (by rw [hw]; exact HP19.2); have hp_ : Kd.R (Kd.int .i64) 3 w20 w.heap.size (fun _ => True) (.slice (some ⟨go17, 0, none⟩) x5_2.length co18) y297 := (by rw [hw, Ny297.out]; exact HP19.1); clear HP19; have n0_ := zA (hp_); have n1_ := zA ((by rw [hw]; exact zdg (HB.out) GB17.out : Below w.heap.size w w20)); clear HO_5 HB; have HO_5 := n0_; have HB := n1_; clear n0_ n1_ hg hw hp_))
               repeat (go_quiet (first | ((with_reducible refine zde (t := 3) (p := 50) rfl ?_); (try (rw [drewN_self wr]; generalize hq_ : World.drewN wr _ = wr; have n0_ := zA (Kd.R_at hq_ HO_5.out); have n1_ := zA (below_at hq_ HB.out); clear hq_ HO_5 HB; have HO_5 := n0_; have HB := n1_; clear n0_ n1_; (try (have HP19 := Kd.R_putg HO_5.out ((ji10) : Int) (Int.tmod (wrap64 ((wrap64 ((rd x5_2 (ji10)) + (wrap64 ((rd l0 x18_1) * (rd l1 x23_2))))) + x7_2)) 10000))); (try (obtain ⟨hx17_0, hf17_0⟩ := Kd.zda 0 HO_5.out ((ji10) : Int) (of_eq_true p17) (of_eq_true q17))))); refine zc1 (t := 3) (p := 50) (v := ?vo_w20) (w1 := (wr.setCell ⟨go17, ((ji10) : Int).toNat, none⟩ (.int .i64 (Int.tmod (wrap64 ((wrap64 ((rd x5_2 (ji10)) + (wrap64 ((rd l0 x18_1) * (rd l1 x23_2))))) + x7_2)) 10000)))) ?hg ?ho ?hn ?hr ?_; (case ho => rfl); (case hg => rfl); (case hn => rfl); (case hr => first | (go_simp; done) | (go_simp; rfl)); intro w20 hw; have hg : wr.grownBy w20 (some go17) := (by rw [hw]; exact HP19.2); have hp_ : Kd.R (Kd.int .i64) 3 w20 w.heap.size (fun _ => True) (.slice (some ⟨go17, 0, none⟩) x5_2.length co18) y297 := (by rw [hw, Ny297.out]; exact HP19.1); clear HP19; have n0_ := zA (hp_); have n1_ := zA ((by rw [hw]; exact zdg (HB.out) GB17.out : Below w.heap.size w w20)); clear HO_5 HB; have HO_5 := n0_; have HB := n1_; clear n0_ n1_ hg hw hp_)); try go_wp2_with (first | ((with_reducible refine zde (t := 3) (p := 50) rfl ?_); (try (rw [drewN_self wr]; generalize hq_ : World.drewN wr _ = wr; have n0_ := zA (Kd.R_at hq_ HO_5.out); have n1_ := zA (below_at hq_ HB.out); clear hq_ HO_5 HB; have HO_5 := n0_; have HB := n1_; clear n0_ n1_; (try (have HP19 := Kd.R_putg HO_5.out ((ji10) : Int) (Int.tmod (wrap64 ((wrap64 ((rd x5_2 (ji10)) + (wrap64 ((rd l0 x18_1) * (rd l1 x23_2))))) + x7_2)) 10000))); (try (obtain ⟨hx17_0, hf17_0⟩ := Kd.zda 0 HO_5.out ((ji10) : Int) (of_eq_true p17) (of_eq_true q17))))); refine zc1 (t := 3) (p := 50) (v := ?vo_w20) (w1 := (wr.setCell ⟨go17, ((ji10) : Int).toNat, none⟩ (.int .i64 (Int.tmod (wrap64 ((wrap64 ((rd x5_2 (ji10)) + (wrap64 ((rd l0 x18_1) * (rd l1 x23_2))))) + x7_2)) 10000)))) ?hg ?ho ?hn ?hr ?_; (case ho => rfl); (case hg => rfl); (case hn => rfl); (case hr => first | (go_simp; done) | (go_simp; rfl)); intro w20 hw; have hg : wr.grownBy w20 (some go17) := (by rw [hw]; exact HP19.2); have hp_ : Kd.R (Kd.int .i64) 3 w20 w.heap.size (fun _ => True) (.slice (some ⟨go17, 0, none⟩) x5_2.length co18) y297 := (by rw [hw, Ny297.out]; exact HP19.1); clear HP19; have n0_ := zA (hp_); have n1_ := zA ((by rw [hw]; exact zdg (HB.out) GB17.out : Below w.heap.size w w20)); clear HO_5 HB; have HO_5 := n0_; have HB := n1_; clear n0_ n1_ hg hw hp_)))
               go_roundg k2
               case measure => have := HK1.out; have := HK2.out; omega
               case rel => exact ⟨(y297), (wrap64 (Int.tdiv (wrap64 ((wrap64 ((rd x5_2 (ji10)) + (wrap64 ((rd l0 x18_1) * (rd l1 x23_2))))) + x7_2)) 10000)), (wrap64 (x23_2 + 1)), (by first | rfl | (simp; done) | (simp only [← hji10] <;> (first | rfl | simp)) | (simp [*]; done)), (zF), H', ⟨by have := HK1.out; have := HK2.out; omega⟩, ⟨zR HO_5⟩, ⟨zB HB⟩⟩
              ·
               rw [if_neg c16] at H
               exact absurd H (by simp)
             ·
              rw [if_neg c15] at H
              exact absurd H (by simp)
            ·
             rw [if_neg c14] at H
             exact absurd H (by simp)
           ·
            rw [if_neg c13] at H
            exact absurd H (by simp)
          ·
           rw [if_neg c12] at H
           exact absurd H (by simp)
         ·
          rw [if_neg c11] at H
          exact absurd H (by simp)
        ·
         rw [if_neg c9] at H
         have c9b0 : decide (x23_2 < (l1.length : Int)) = false := decide_eq_false c9
         clear c9
         obtain ⟨ji21, hji21⟩ : ∃ j_ : Int, (wrap64 (x18_1 + (l1.length : Int))) = j_ := ⟨_, rfl⟩
         replace H : (if 0 ≤ (ji21) then (if (ji21) < (x5_2.length : Int) then (zam.l0 k2 l0 l1 (x5_2.set ((ji21) : Int).toNat (wrap64 ((rd x5_2 (ji21)) + x7_2))) (l0.length : Int) (wrap64 (x18_1 + 1))) else (none)) else (none)) = some r := by first | (rw [hji21] at H; exact H) | (simp only [hji21] at H ⊢; exact H)
         have hji21w : (IntKind.i64.wrap (x18_1 + (l1.length : Int))) = ji21 := (i64_w _).trans hji21
         by_cases c22 : 0 ≤ (ji21)
         ·
          rw [if_pos c22] at H
          have c22b0 : decide (0 ≤ (ji21)) = true := decide_eq_true c22
          clear c22
          by_cases c23 : (ji21) < (x5_2.length : Int)
          ·
           rw [if_pos c23] at H
           have c23b0 : decide ((ji21) < (x5_2.length : Int)) = true := decide_eq_true c23
           clear c23
           obtain ⟨y299, hy299⟩ : ∃ y_ : List Int, y_ = (x5_2.set ((ji21) : Int).toNat (wrap64 ((rd x5_2 (ji21)) + x7_2))) := ⟨_, rfl⟩
           replace H : (zam.l0 k2 l0 l1 y299 (l0.length : Int) (wrap64 (x18_1 + 1))) = some r := by first | (rw [hy299]; with_reducible exact H) | (have H2_ := (Option.bind_some _ _).symm.trans H; rw [hy299]; with_reducible exact H2_) | (have H2_ := (Option.bind_some _ _).symm.trans H; with_reducible exact H2_) | with_reducible exact H | (rw [hy299]; exact H) | exact H
           have Ny299 := zA hy299
           clear hy299
           have H' := zA H
           clear H
           obtain ⟨Ao25, co25, eo25⟩ := Kd.zbn HO_5.out
           subst eo25
           have p298 : 0 ≤ ((ji21) : Int) := of_decide_eq_true (by first | (with_reducible assumption) | assumption)
           have q298 : (ji21) < (x5_2.length : Int) := of_decide_eq_true (by first | (with_reducible assumption) | assumption)
           obtain ⟨ad298, e298, hx298_0⟩ := Kd.at_int (Kd.zat HO_5.out).2.2 (ji21) p298 q298
           cases e298
           replace p298 := eq_true p298
           replace q298 := eq_true q298
           have p24 : 0 ≤ ((ji21) : Int) := of_decide_eq_true (by first | (with_reducible assumption) | assumption)
           have q24 : ((ji21) : Int) < ((x5_2.length : Int) : Int) := of_decide_eq_true (by first | (with_reducible assumption) | assumption)
           obtain ⟨go24, co24, eo24, gb24, gl24, cl24, HG24⟩ := Kd.R_form HO_5.out (by omega)
           (first | cases eo24 | (injection eo24 with ea_ en_ ec_; (first | subst ea_ | (injection ea_ with ea_; subst ea_)); subst ec_; clear en_))
           have GB24 := zA gb24
           have GG24 := zA HG24
           clear gb24 gl24 HG24
           (first | simp only [add_plain] at hx298_0 | skip)
           obtain ⟨hx24_0, hf24_0⟩ := Kd.zda 0 HO_5.out ((ji21) : Int) p24 q24
           replace p24 := eq_true p24
           replace q24 := eq_true q24
           have HP26 := Kd.R_putg HO_5.out ((ji21) : Int) (wrap64 ((rd x5_2 (ji21)) + x7_2))
           go_wp2_with (first | ((with_reducible refine zde (t := 3) (p := 68) rfl ?_); (try (rw [drewN_self wr]; generalize hq_ : World.drewN wr _ = wr; have n0_ := zA (Kd.R_at hq_ HO_5.out); have n1_ := zA (below_at hq_ HB.out); clear hq_ HO_5 HB; have HO_5 := n0_; have HB := n1_; clear n0_ n1_; (try (have HP26 := Kd.R_putg HO_5.out ((ji21) : Int) (wrap64 ((rd x5_2 (ji21)) + x7_2)))); (try (obtain ⟨hx24_0, hf24_0⟩ := Kd.zda 0 HO_5.out ((ji21) : Int) (of_eq_true p24) (of_eq_true q24))))); refine zc1 (t := 3) (p := 68) (v := ?vo_w27) (w1 := (wr.setCell ⟨go24, ((ji21) : Int).toNat, none⟩ (.int .i64 (wrap64 ((rd x5_2 (ji21)) + x7_2))))) ?hg ?ho ?hn ?hr ?_; (case ho => rfl); (case hg => rfl); (case hn => rfl); (case hr => first | (go_simp; done) | (go_simp; rfl)); intro w27 hw; have hg : wr.grownBy w27 (some go24) := (by rw [hw]; exact HP26.2); have hp_ : Kd.R (Kd.int .i64) 3 w27 w.heap.size (fun _ => True) (.slice (some ⟨go24, 0, none⟩) x5_2.length co25) y299 := (by rw [hw, Ny299.out]; exact HP26.1); clear HP26; have n0_ := zA (hp_); have n1_ := zA ((by rw [hw]; exact zdg (HB.out) GB24.out : Below w.heap.size w w27)); clear HO_5 HB; have HO_5 := n0_; have HB := n1_; clear n0_ n1_ hg hw hp_))
           repeat (go_quiet (first | ((with_reducible refine zde (t := 3) (p := 68) rfl ?_); (try (rw [drewN_self wr]; generalize hq_ : World.drewN wr _ = wr; have n0_ := zA (Kd.R_at hq_ HO_5.out); have n1_ := zA (below_at hq_ HB.out); clear hq_ HO_5 HB; have HO_5 := n0_; have HB := n1_; clear n0_ n1_; (try (have HP26 := Kd.R_putg HO_5.out ((ji21) : Int) (wrap64 ((rd x5_2 (ji21)) + x7_2)))); (try (obtain ⟨hx24_0, hf24_0⟩ := Kd.zda 0 HO_5.out ((ji21) : Int) (of_eq_true p24) (of_eq_true q24))))); refine zc1 (t := 3) (p := 68) (v := ?vo_w27) (w1 := (wr.setCell ⟨go24, ((ji21) : Int).toNat, none⟩ (.int .i64 (wrap64 ((rd x5_2 (ji21)) + x7_2))))) ?hg ?ho ?hn ?hr ?_; (case ho => rfl); (case hg => rfl); (case hn => rfl); (case hr => first | (go_simp; done) | (go_simp; rfl)); intro w27 hw; have hg : wr.grownBy w27 (some go24) := (by rw [hw]; exact HP26.2); have hp_ : Kd.R (Kd.int .i64) 3 w27 w.heap.size (fun _ => True) (.slice (some ⟨go24, 0, none⟩) x5_2.length co25) y299 := (by rw [hw, Ny299.out]; exact HP26.1); clear HP26; have n0_ := zA (hp_); have n1_ := zA ((by rw [hw]; exact zdg (HB.out) GB24.out : Below w.heap.size w w27)); clear HO_5 HB; have HO_5 := n0_; have HB := n1_; clear n0_ n1_ hg hw hp_)); try go_wp2_with (first | ((with_reducible refine zde (t := 3) (p := 68) rfl ?_); (try (rw [drewN_self wr]; generalize hq_ : World.drewN wr _ = wr; have n0_ := zA (Kd.R_at hq_ HO_5.out); have n1_ := zA (below_at hq_ HB.out); clear hq_ HO_5 HB; have HO_5 := n0_; have HB := n1_; clear n0_ n1_; (try (have HP26 := Kd.R_putg HO_5.out ((ji21) : Int) (wrap64 ((rd x5_2 (ji21)) + x7_2)))); (try (obtain ⟨hx24_0, hf24_0⟩ := Kd.zda 0 HO_5.out ((ji21) : Int) (of_eq_true p24) (of_eq_true q24))))); refine zc1 (t := 3) (p := 68) (v := ?vo_w27) (w1 := (wr.setCell ⟨go24, ((ji21) : Int).toNat, none⟩ (.int .i64 (wrap64 ((rd x5_2 (ji21)) + x7_2))))) ?hg ?ho ?hn ?hr ?_; (case ho => rfl); (case hg => rfl); (case hn => rfl); (case hr => first | (go_simp; done) | (go_simp; rfl)); intro w27 hw; have hg : wr.grownBy w27 (some go24) := (by rw [hw]; exact HP26.2); have hp_ : Kd.R (Kd.int .i64) 3 w27 w.heap.size (fun _ => True) (.slice (some ⟨go24, 0, none⟩) x5_2.length co25) y299 := (by rw [hw, Ny299.out]; exact HP26.1); clear HP26; have n0_ := zA (hp_); have n1_ := zA ((by rw [hw]; exact zdg (HB.out) GB24.out : Below w.heap.size w w27)); clear HO_5 HB; have HO_5 := n0_; have HB := n1_; clear n0_ n1_ hg hw hp_)))
           go_roundg k2
           case measure => have := HK1.out; have := HK2.out; omega
           case rel => exact ⟨(y299), (wrap64 (x18_1 + 1)), (zF), H', ⟨by have := HK1.out; have := HK2.out; omega⟩, ⟨zR HO_5⟩, ⟨zB HB⟩⟩
          ·
           rw [if_neg c23] at H
           exact absurd H (by simp)
         ·
          rw [if_neg c22] at H
          exact absurd H (by simp)
     ·
      rw [if_neg c8] at H
      have c8b0 : decide (x18_1 < (l0.length : Int)) = false := decide_eq_false c8
      clear c8
      replace H := zO H
      obtain ⟨t291, A280, H⟩ := H
      try dsimp only at H
      have A28 := zA A280
      clear A280
      obtain rfl := Option.some.inj H
      obtain ⟨Ao29, co29, eo29⟩ := Kd.zbn HO_5.out
      subst eo29
      go_wp2_with (first | (go_at_call 83; (with_reducible refine (zay.calls k1 (fun k_ => some k_ = (.slice Ao29 x5_1.length co29 : Value).ownBlock) (.slice Ao29 x5_1.length co29) x5_1 t291 w _ ?side1 ?side2 A28.out).mono ?_); (case side1 => repeat (first | (with_reducible first | exact HB.out | apply zcc | apply zbz | apply zb0) | exact HB.out)); (case side2 => exact Kd.zdf rfl HO_5.out); rintro e w30 ⟨v292, rfl, ho0, hb, hkp⟩; have n0_ := zA (Kd.zav (ok' := fun k_ => True) ho0 (fun k_ hk_ => trivial)); have n1_ := zA (hb); clear HB HO_5; have HO293 := n0_; have HB := n1_; clear n0_ n1_; (try clear hb); (try clear hkp); (try clear ho0)))
      repeat (go_quiet (first | (go_at_call 83; (with_reducible refine (zay.calls k1 (fun k_ => some k_ = (.slice Ao29 x5_1.length co29 : Value).ownBlock) (.slice Ao29 x5_1.length co29) x5_1 t291 w _ ?side1 ?side2 A28.out).mono ?_); (case side1 => repeat (first | (with_reducible first | exact HB.out | apply zcc | apply zbz | apply zb0) | exact HB.out)); (case side2 => exact Kd.zdf rfl HO_5.out); rintro e w30 ⟨v292, rfl, ho0, hb, hkp⟩; have n0_ := zA (Kd.zav (ok' := fun k_ => True) ho0 (fun k_ hk_ => trivial)); have n1_ := zA (hb); clear HB HO_5; have HO293 := n0_; have HB := n1_; clear n0_ n1_; (try clear hb); (try clear hkp); (try clear ho0))); try go_wp2_with (first | (go_at_call 83; (with_reducible refine (zay.calls k1 (fun k_ => some k_ = (.slice Ao29 x5_1.length co29 : Value).ownBlock) (.slice Ao29 x5_1.length co29) x5_1 t291 w _ ?side1 ?side2 A28.out).mono ?_); (case side1 => repeat (first | (with_reducible first | exact HB.out | apply zcc | apply zbz | apply zb0) | exact HB.out)); (case side2 => exact Kd.zdf rfl HO_5.out); rintro e w30 ⟨v292, rfl, ho0, hb, hkp⟩; have n0_ := zA (Kd.zav (ok' := fun k_ => True) ho0 (fun k_ hk_ => trivial)); have n1_ := zA (hb); clear HB HO_5; have HO293 := n0_; have HB := n1_; clear n0_ n1_; (try clear hb); (try clear hkp); (try clear ho0))))
      go_ret
      exact ⟨_, by first | rfl | (simp [zcm, zcl] <;> rfl) | (simp only [← hji3]; first | rfl | (simp [zcm, zcl] <;> rfl)) | (simp [*, zcm, zcl] <;> rfl), zR HO293, zB HB⟩
  ·
   rw [if_neg c5] at H
   exact absurd H (by simp)
 ·
  rw [if_neg c4] at H
  exact absurd H (by simp)
mutual
def zan.l0 : Nat → List Int → List Int → Int → Option (List Int)
 | 0, _, _, _ => none
 | k + 1, x0, x3, x4 => if x4 ≥ 0 then (zan.l1 k x0 x3 x4 3) else (some x3)
def zan.l1 : Nat → List Int → List Int → Int → Int → Option (List Int)
 | 0, _, _, _, _ => none
 | k + 1, x0, x3, x4, x5 => if x5 ≥ 0 then (if 0 ≤ x4 then (if x4 < (x0.length : Int) then (zan.l2 k x0 x3 x4 x5 (rd x0 x4) x5 0) else (none)) else (none)) else (zan.l0 k x0 x3 (wrap64 (x4 - 1)))
def zan.l2 : Nat → List Int → List Int → Int → Int → Int → Int → Int → Option (List Int)
 | 0, _, _, _, _, _, _, _ => none
 | k + 1, x0, x3, x4, x5, x6, x22, x23 => if x23 < x22 then (zan.l2 k x0 x3 x4 x5 (IntKind.u64.wrap (Int.tdiv x6 65536)) x22 (wrap64 (x23 + 1))) else ((zb.f k 65536).bind fun t301 => ((zam.f k x3 t301).bind fun t304 => ((zb.f k (wrap64 (Int.tmod x6 65536))).bind fun t307 => ((za2.f k t304 t307).bind fun t310 => (zan.l1 k x0 t310 x4 (wrap64 (x5 - 1)))))))
end
def zan.f (k : Nat) (l0 : List Int) : Option (List Int) := zan.l0 k l0 ([] : List Int) (wrap64 ((l0.length : Int) - 1))
theorem zan.calls (k : Nat) (A0 : Option Addr) (c0 : Nat) (l0 : List Int) (r : List Int) (w : World) (hr0 : Kd.C (Kd.int .u64) w A0 l0.length l0) (hc0 : l0.length ≤ c0) (h : zan.f k l0 = some r) :
  Calls Tryd.prog 17 #[.slice A0 l0.length c0] w fun e w' => ∃ v0_ : Value, e = .returned (v0_) ∧ Kd.R (Kd.int .i64) 3 w' w.heap.size (fun _ => True) v0_ r ∧ Below w.heap.size w w' := by
 have HR0 := zA hr0
 have HC0 := zA hc0
 clear hr0 hc0
 have HB := zA (Below.refl w.heap.size w)
 have H : (zan.l0 k l0 ([] : List Int) (wrap64 ((l0.length : Int) - 1))) = some r := h
 clear h
 have H' := zA H
 clear H
 go_enter Tryd.func17, Tryd.ntmps17
 go_wp2
 go_loopg [3, 4] k (fun kq v3 v4 w' => ∃ (x3_1 : List Int) (x4_1 : Int), v4 = .int .i64 x4_1 ∧ Aside0 (zan.l0 kq l0 x3_1 x4_1 = some r) ∧ Aside0 (kq ≤ k) ∧ Aside0 (Kd.R (Kd.int .i64) 3 w' w.heap.size (fun _ => True) v3 x3_1) ∧ Aside0 (Below w.heap.size w w'))
 case atStart => exact ⟨(([] : List Int)), (wrap64 ((l0.length : Int) - 1)), (zF), H', ⟨Nat.le_refl _⟩, ⟨by first | exact Kd.R_nil _ _ _ _ _ | exact Kd.N_nil _ _ _ _ _ | exact Kd.V_nil _ _ _ _ _ | exact Kd.Q_nil _ _ _ _ _ | exact Kd.S_nil _ _ _ _ _⟩, ⟨zB HB⟩⟩
 case round =>
  clear H'
  try clear c1
  obtain ⟨x3_1, x4_1, rfl, HA, HK1, HO_3, HB⟩ := hrel
  cases gk with
  | zero => exact absurd HA.out (by simp [zan.l0])
  | succ k1 =>
   have H := HA.out
   clear HA
   simp only [zan.l0] at H
   by_cases c2 : x4_1 ≥ 0
   ·
    rw [if_pos c2] at H
    have c2b0 : decide (0 ≤ x4_1) = true := decide_eq_true c2
    clear c2
    have H' := zA H
    clear H
    go_wp2
    go_loopg [3, 5] k1 (fun kq v3 v5 w' => ∃ (x3_2 : List Int) (x5_2 : Int), v5 = .int .i64 x5_2 ∧ Aside0 (zan.l1 kq l0 x3_2 x4_1 x5_2 = some r) ∧ Aside0 (kq ≤ k1) ∧ Aside0 (Kd.R (Kd.int .i64) 3 w' w.heap.size (fun _ => True) v3 x3_2) ∧ Aside0 (Below w.heap.size w w'))
    case atStart => exact ⟨(x3_1), (3), (zF), H', ⟨Nat.le_refl _⟩, ⟨zR HO_3⟩, ⟨zB HB⟩⟩
    case round =>
     clear H'
     try clear c1
     try clear c2
     try clear c2b0
     try clear p2
     obtain ⟨x3_2, x5_2, rfl, HA, HK2, HO_3, HB⟩ := hrel
     cases gk with
     | zero => exact absurd HA.out (by simp [zan.l1])
     | succ k2 =>
      have H := HA.out
      clear HA
      simp only [zan.l1] at H
      by_cases c3 : x5_2 ≥ 0
      ·
       rw [if_pos c3] at H
       have c3b0 : decide (0 ≤ x5_2) = true := decide_eq_true c3
       clear c3
       by_cases c4 : 0 ≤ x4_1
       ·
        rw [if_pos c4] at H
        have c4b0 : decide (0 ≤ x4_1) = true := decide_eq_true c4
        clear c4
        by_cases c5 : x4_1 < (l0.length : Int)
        ·
         rw [if_pos c5] at H
         have c5b0 : decide (x4_1 < (l0.length : Int)) = true := decide_eq_true c5
         clear c5
         have H' := zA H
         clear H
         have p300 : 0 ≤ (x4_1 : Int) := of_decide_eq_true (by first | (with_reducible assumption) | assumption)
         have q300 : x4_1 < (l0.length : Int) := of_decide_eq_true (by first | (with_reducible assumption) | assumption)
         obtain ⟨ad300, e300, hx300_0⟩ := Kd.at_int HR0.out x4_1 p300 q300
         cases e300
         replace hx300_0 := (HB.out.cell (World.block_lt_of_cell? w _ hx300_0)).trans hx300_0
         replace p300 := eq_true p300
         replace q300 := eq_true q300
         go_wp2
         go_loopg [6, 23] k2 (fun kq v6 v23 w' => ∃ (x6_3 : Int) (x23_3 : Int), v6 = .int .u64 x6_3 ∧ v23 = .int .i64 x23_3 ∧ Aside0 (zan.l2 kq l0 x3_2 x4_1 x5_2 x6_3 x5_2 x23_3 = some r) ∧ Aside0 (kq ≤ k2) ∧ Aside0 (Kd.R (Kd.int .i64) 3 w' w.heap.size (fun _ => True) u3 x3_2) ∧ Aside0 (Below w.heap.size w w'))
         case atStart => exact ⟨(rd l0 x4_1), (0), (zF), (zF), H', ⟨Nat.le_refl _⟩, ⟨zR HO_3⟩, ⟨zB HB⟩⟩
         case round =>
          clear H'
          try clear c1
          try clear c2
          try clear c2b0
          try clear p2
          try clear c3
          try clear c3b0
          try clear p3
          try clear q3
          try clear hx3
          try clear c4
          try clear c4b0
          try clear c5
          try clear c5b0
          try clear hx300_0
          try clear p2
          try clear p300
          try clear q300
          obtain ⟨x6_3, x23_3, rfl, rfl, HA, HK3, HO_3, HB⟩ := hrel
          cases gk with
          | zero => exact absurd HA.out (by simp [zan.l2])
          | succ k3 =>
           have H := HA.out
           clear HA
           simp only [zan.l2] at H
           by_cases c6 : x23_3 < x5_2
           ·
            rw [if_pos c6] at H
            have c6b0 : decide (x23_3 < x5_2) = true := decide_eq_true c6
            clear c6
            have H' := zA H
            clear H
            go_wp2
            go_roundg k3
            case measure => have := HK1.out; have := HK2.out; have := HK3.out; omega
            case rel => exact ⟨(IntKind.u64.wrap (Int.tdiv x6_3 65536)), (wrap64 (x23_3 + 1)), (zF), (zF), H', ⟨by have := HK1.out; have := HK2.out; have := HK3.out; omega⟩, ⟨zR HO_3⟩, ⟨zB HB⟩⟩
           ·
            rw [if_neg c6] at H
            have c6b0 : decide (x23_3 < x5_2) = false := decide_eq_false c6
            clear c6
            replace H := zO H
            obtain ⟨t301, A70, H⟩ := H
            try dsimp only at H
            have A7 := zA A70
            clear A70
            replace H := zO H
            obtain ⟨t304, A80, H⟩ := H
            try dsimp only at H
            have A8 := zA A80
            clear A80
            replace H := zO H
            obtain ⟨t307, A90, H⟩ := H
            try dsimp only at H
            have A9 := zA A90
            clear A90
            replace H := zO H
            obtain ⟨t310, A100, H⟩ := H
            try dsimp only at H
            have A10 := zA A100
            clear A100
            have H' := zA H
            clear H
            go_wp2_with (first | ((with_reducible refine zah (f := 20) rfl ?_); refine zba (some 29) rfl rfl Tryd.func20 (by kernel_rfl) rfl #[.int .i64 65536] rfl (zE) ?_; (with_reducible refine (zb.calls k3 65536 t301 _ A7.out).mono ?_); rintro e w11 ⟨v302, rfl, ho0, hb⟩; refine ⟨_, rfl, ?_⟩; have n0_ := zA (Kd.zbp (zR HO_3) (Kd.za1 ho0) hb); have n1_ := zA (Kd.zbm (Kd.zbk ho0 (Kd.R_lt (zR HO_3))) (za (zB HB))); have n2_ := zA (zaf (zB HB) hb); clear HO_3 HB; have HO_3 := n0_; have HO303 := n1_; have HB := n2_; clear n0_ n1_ n2_; (try clear hb); (try clear hb2); (try clear hk); (try clear hi); (try clear ho0); obtain ⟨Ao12, co12, eo12⟩ := Kd.zbn HO_3.out; subst eo12; obtain ⟨Ao13, co13, eo13⟩ := Kd.zbn HO303.out; subst eo13) | ((with_reducible refine zah (f := 56) rfl ?_); refine zba (some 30) rfl rfl Tryd.func56 (by kernel_rfl) rfl #[.slice Ao12 x3_2.length co12, .slice Ao13 t301.length co13] rfl (zE) ?_; (with_reducible refine (zam.calls k3 _ _ x3_2 _ _ t301 t304 _ ?side1 ?side2 ?side3 ?side4 A8.out).mono ?_); (case side1 => exact zJ (Kd.zat HO_3.out).2.2); (case side2 => exact (Kd.zat HO_3.out).2.1); (case side3 => exact zJ (Kd.zat HO303.out).2.2); (case side4 => exact (Kd.zat HO303.out).2.1); rintro e w14 ⟨v305, rfl, ho0, hb⟩; refine ⟨_, rfl, ?_⟩; have n0_ := zA (Kd.zbp (zR HO_3) (Kd.za1 ho0) hb); have n1_ := zA (Kd.zbp (zR HO303) (Kd.za1 ho0) hb); have n2_ := zA (Kd.zbm (Kd.zbk (Kd.zbk ho0 (Kd.R_lt (zR HO_3))) (Kd.R_lt (zR HO303))) (za (zB HB))); have n3_ := zA (zaf (zB HB) hb); clear HO_3 HO303 HB; have HO_3 := n0_; have HO303 := n1_; have HO306 := n2_; have HB := n3_; clear n0_ n1_ n2_ n3_; (try clear hb); (try clear hb2); (try clear hk); (try clear hi); (try clear ho0)) | ((with_reducible refine zah (f := 20) rfl ?_); refine zba (some 34) rfl rfl Tryd.func20 (by kernel_rfl) rfl #[.int .i64 (wrap64 (Int.tmod x6_3 65536))] rfl (zE) ?_; (with_reducible refine (zb.calls k3 (wrap64 (Int.tmod x6_3 65536)) t307 _ A9.out).mono ?_); rintro e w15 ⟨v308, rfl, ho0, hb⟩; refine ⟨_, rfl, ?_⟩; have n0_ := zA (Kd.zbp (zR HO_3) (Kd.za1 ho0) hb); have n1_ := zA (Kd.zbp (zR HO303) (Kd.za1 ho0) hb); have n2_ := zA (Kd.zbp (zR HO306) (Kd.za1 ho0) hb); have n3_ := zA (Kd.zbm (Kd.zbk (Kd.zbk (Kd.zbk ho0 (Kd.R_lt (zR HO_3))) (Kd.R_lt (zR HO303))) (Kd.R_lt (zR HO306))) (za (zB HB))); have n4_ := zA (zaf (zB HB) hb); clear HO_3 HO303 HO306 HB; have HO_3 := n0_; have HO303 := n1_; have HO306 := n2_; have HO309 := n3_; have HB := n4_; clear n0_ n1_ n2_ n3_ n4_; (try clear hb); (try clear hb2); (try clear hk); (try clear hi); (try clear ho0); obtain ⟨Ao16, co16, eo16⟩ := Kd.zbn HO306.out; subst eo16; obtain ⟨Ao17, co17, eo17⟩ := Kd.zbn HO309.out; subst eo17) | ((with_reducible refine zah (f := 55) rfl ?_); refine zba (some 35) rfl rfl Tryd.func55 (by kernel_rfl) rfl #[.slice Ao16 t304.length co16, .slice Ao17 t307.length co17] rfl (zE) ?_; (with_reducible refine (za2.calls k3 _ _ t304 _ _ t307 t310 _ ?side1 ?side2 ?side3 ?side4 A10.out).mono ?_); (case side1 => exact zJ (Kd.zat HO306.out).2.2); (case side2 => exact (Kd.zat HO306.out).2.1); (case side3 => exact zJ (Kd.zat HO309.out).2.2); (case side4 => exact (Kd.zat HO309.out).2.1); rintro e w18 ⟨v311, rfl, ho0, hb⟩; refine ⟨_, rfl, ?_⟩; have n0_ := zA (Kd.zbp (zR HO_3) (Kd.za1 ho0) hb); have n1_ := zA (Kd.zbp (zR HO303) (Kd.za1 ho0) hb); have n2_ := zA (Kd.zbp (zR HO306) (Kd.za1 ho0) hb); have n3_ := zA (Kd.zbp (zR HO309) (Kd.za1 ho0) hb); have n4_ := zA (Kd.zbm (Kd.zbk (Kd.zbk (Kd.zbk (Kd.zbk ho0 (Kd.R_lt (zR HO_3))) (Kd.R_lt (zR HO303))) (Kd.R_lt (zR HO306))) (Kd.R_lt (zR HO309))) (za (zB HB))); have n5_ := zA (zaf (zB HB) hb); clear HO_3 HO303 HO306 HO309 HB; have HO_3 := n0_; have HO303 := n1_; have HO306 := n2_; have HO309 := n3_; have HO312 := n4_; have HB := n5_; clear n0_ n1_ n2_ n3_ n4_ n5_; (try clear hb); (try clear hb2); (try clear hk); (try clear hi); (try clear ho0)))
            go_roundg k3
            case measure => have := HK1.out; have := HK2.out; have := HK3.out; omega
            case rel => exact ⟨(t310), (wrap64 (x5_2 - 1)), (zF), H', ⟨by have := HK1.out; have := HK2.out; have := HK3.out; omega⟩, ⟨by (with_reducible repeat (first | apply Kd.za3 | apply Kd.za4 | apply Kd.zbb)); exact Kd.zav HO312.out (fun _ hk => trivial)⟩, ⟨zB HB⟩⟩
        ·
         rw [if_neg c5] at H
         exact absurd H (by simp)
       ·
        rw [if_neg c4] at H
        exact absurd H (by simp)
      ·
       rw [if_neg c3] at H
       have c3b0 : decide (0 ≤ x5_2) = false := decide_eq_false c3
       clear c3
       have H' := zA H
       clear H
       go_wp2
       go_roundg k2
       case measure => have := HK1.out; have := HK2.out; omega
       case rel => exact ⟨(x3_2), (wrap64 (x4_1 - 1)), (zF), H', ⟨by have := HK1.out; have := HK2.out; omega⟩, ⟨zR HO_3⟩, ⟨zB HB⟩⟩
   ·
    rw [if_neg c2] at H
    have c2b0 : decide (0 ≤ x4_1) = false := decide_eq_false c2
    clear c2
    obtain rfl := Option.some.inj H
    go_wp2
    go_ret
    exact ⟨_, zW, zR HO_3, zB HB⟩
def za7.l0 : Nat → List Int → List Int → Int → Option (Int)
 | 0, _, _, _ => none
 | k + 1, x0, x1, x5 => if x5 ≥ 0 then (if 0 ≤ x5 then (if x5 < (x0.length : Int) then (if x5 < (x1.length : Int) then (if (rd x0 x5) < (rd x1 x5) then (some (-1)) else (if (rd x0 x5) > (rd x1 x5) then (some 1) else (za7.l0 k x0 x1 (wrap64 (x5 - 1))))) else (none)) else (none)) else (none)) else (some 0)
def za7.f (k : Nat) (l0 : List Int) (l1 : List Int) : Option (Int) := if (l0.length : Int) = (l1.length : Int) then (za7.l0 k l0 l1 (wrap64 ((l0.length : Int) - 1))) else (if (l0.length : Int) < (l1.length : Int) then (some (-1)) else (some 1))
theorem za7.calls (k : Nat) (A0 : Option Addr) (c0 : Nat) (l0 : List Int) (A1 : Option Addr) (c1 : Nat) (l1 : List Int) (r : Int) (w : World) (hr0 : Kd.C (Kd.int .i64) w A0 l0.length l0) (hc0 : l0.length ≤ c0) (hr1 : Kd.C (Kd.int .i64) w A1 l1.length l1) (hc1 : l1.length ≤ c1) (h : za7.f k l0 l1 = some r) :
  Calls Tryd.prog 18 #[.slice A0 l0.length c0, .slice A1 l1.length c1] w fun e w' => e = .returned (.int .i64 r) ∧ Drawn0 w w' := by
 have HR0 := zA hr0
 have HC0 := zA hc0
 clear hr0 hc0
 have HR1 := zA hr1
 have HC1 := zA hc1
 clear hr1 hc1
 have H : (if (l0.length : Int) = (l1.length : Int) then (za7.l0 k l0 l1 (wrap64 ((l0.length : Int) - 1))) else (if (l0.length : Int) < (l1.length : Int) then (some (-1)) else (some 1))) = some r := h
 clear h
 by_cases c3 : (l0.length : Int) = (l1.length : Int)
 ·
  rw [if_pos c3] at H
  have c3b0 : ((l0.length : Int) == (l1.length : Int)) = true := beq_iff_eq.mpr c3
  have c3b1 : ((l0.length : Int) != (l1.length : Int)) = false := bne_eq_false_iff_eq.mpr c3
  have c3b2 : (l0.length == l1.length) = true := by first | simpa using c3 | (simp at c3 ⊢; omega)
  clear c3
  have H' := zA H
  clear H
  go_enter Tryd.func18, Tryd.ntmps18
  go_wp2
  repeat (go_quiet (fail); try go_wp2)
  go_loopg [5] k (fun kq v5 w' => ∃ (x5_1 : Int), v5 = .int .i64 x5_1 ∧ Aside0 (za7.l0 kq l0 l1 x5_1 = some r) ∧ Aside0 (kq ≤ k) ∧ Drawn0 w w')
  case atStart => exact ⟨(wrap64 ((l0.length : Int) - 1)), (zF), H', ⟨Nat.le_refl _⟩, by repeat (first | exact Drawn0.refl _ | apply Drawn0.step)⟩
  case round =>
   clear H'
   try clear c1
   try clear p2
   try clear c3
   try clear c3b0
   try clear c3b1
   try clear c3b2
   obtain ⟨x5_1, rfl, HA, HK1, ⟨m1, rfl⟩⟩ := hrel
   cases gk with
   | zero => exact absurd HA.out (by simp [za7.l0])
   | succ k1 =>
    have H := HA.out
    clear HA
    simp only [za7.l0] at H
    by_cases c4 : x5_1 ≥ 0
    ·
     rw [if_pos c4] at H
     have c4b0 : decide (0 ≤ x5_1) = true := decide_eq_true c4
     clear c4
     by_cases c5 : 0 ≤ x5_1
     ·
      rw [if_pos c5] at H
      have c5b0 : decide (0 ≤ x5_1) = true := decide_eq_true c5
      clear c5
      by_cases c6 : x5_1 < (l0.length : Int)
      ·
       rw [if_pos c6] at H
       have c6b0 : decide (x5_1 < (l0.length : Int)) = true := decide_eq_true c6
       clear c6
       by_cases c7 : x5_1 < (l1.length : Int)
       ·
        rw [if_pos c7] at H
        have c7b0 : decide (x5_1 < (l1.length : Int)) = true := decide_eq_true c7
        clear c7
        by_cases c8 : (rd l0 x5_1) < (rd l1 x5_1)
        ·
         rw [if_pos c8] at H
         have c8b0 : decide ((rd l0 x5_1) < (rd l1 x5_1)) = true := decide_eq_true c8
         clear c8
         obtain rfl := Option.some.inj H
         have p313 : 0 ≤ (x5_1 : Int) := of_decide_eq_true (by first | (with_reducible assumption) | assumption)
         have q313 : x5_1 < (l0.length : Int) := of_decide_eq_true (by first | (with_reducible assumption) | assumption)
         obtain ⟨ad313, e313, hx313_0⟩ := Kd.at_int HR0.out x5_1 p313 q313
         cases e313
         replace p313 := eq_true p313
         replace q313 := eq_true q313
         have p314 : 0 ≤ (x5_1 : Int) := of_decide_eq_true (by first | (with_reducible assumption) | assumption)
         have q314 : x5_1 < (l1.length : Int) := of_decide_eq_true (by first | (with_reducible assumption) | assumption)
         obtain ⟨ad314, e314, hx314_0⟩ := Kd.at_int HR1.out x5_1 p314 q314
         cases e314
         replace p314 := eq_true p314
         replace q314 := eq_true q314
         go_wp2
         repeat (go_quiet (fail); try go_wp2)
         go_ret
         exact ⟨zF, by repeat (first | exact Drawn0.refl _ | apply Drawn0.step)⟩
        ·
         rw [if_neg c8] at H
         have c8b0 : decide ((rd l0 x5_1) < (rd l1 x5_1)) = false := decide_eq_false c8
         clear c8
         by_cases c9 : (rd l0 x5_1) > (rd l1 x5_1)
         ·
          rw [if_pos c9] at H
          have c9b0 : decide ((rd l1 x5_1) < (rd l0 x5_1)) = true := decide_eq_true c9
          clear c9
          obtain rfl := Option.some.inj H
          have p313 : 0 ≤ (x5_1 : Int) := of_decide_eq_true (by first | (with_reducible assumption) | assumption)
          have q313 : x5_1 < (l0.length : Int) := of_decide_eq_true (by first | (with_reducible assumption) | assumption)
          obtain ⟨ad313, e313, hx313_0⟩ := Kd.at_int HR0.out x5_1 p313 q313
          cases e313
          replace p313 := eq_true p313
          replace q313 := eq_true q313
          have p314 : 0 ≤ (x5_1 : Int) := of_decide_eq_true (by first | (with_reducible assumption) | assumption)
          have q314 : x5_1 < (l1.length : Int) := of_decide_eq_true (by first | (with_reducible assumption) | assumption)
          obtain ⟨ad314, e314, hx314_0⟩ := Kd.at_int HR1.out x5_1 p314 q314
          cases e314
          replace p314 := eq_true p314
          replace q314 := eq_true q314
          have p315 : 0 ≤ (x5_1 : Int) := of_decide_eq_true (by first | (with_reducible assumption) | assumption)
          have q315 : x5_1 < (l0.length : Int) := of_decide_eq_true (by first | (with_reducible assumption) | assumption)
          obtain ⟨ad315, e315, hx315_0⟩ := Kd.at_int HR0.out x5_1 p315 q315
          obtain rfl : ad313 = ad315 := (by injection e315)
          replace p315 := eq_true p315
          replace q315 := eq_true q315
          have p316 : 0 ≤ (x5_1 : Int) := of_decide_eq_true (by first | (with_reducible assumption) | assumption)
          have q316 : x5_1 < (l1.length : Int) := of_decide_eq_true (by first | (with_reducible assumption) | assumption)
          obtain ⟨ad316, e316, hx316_0⟩ := Kd.at_int HR1.out x5_1 p316 q316
          obtain rfl : ad314 = ad316 := (by injection e316)
          replace p316 := eq_true p316
          replace q316 := eq_true q316
          go_wp2
          repeat (go_quiet (fail); try go_wp2)
          go_ret
          exact ⟨zF, by repeat (first | exact Drawn0.refl _ | apply Drawn0.step)⟩
         ·
          rw [if_neg c9] at H
          have c9b0 : decide ((rd l1 x5_1) < (rd l0 x5_1)) = false := decide_eq_false c9
          clear c9
          have H' := zA H
          clear H
          have p313 : 0 ≤ (x5_1 : Int) := of_decide_eq_true (by first | (with_reducible assumption) | assumption)
          have q313 : x5_1 < (l0.length : Int) := of_decide_eq_true (by first | (with_reducible assumption) | assumption)
          obtain ⟨ad313, e313, hx313_0⟩ := Kd.at_int HR0.out x5_1 p313 q313
          cases e313
          replace p313 := eq_true p313
          replace q313 := eq_true q313
          have p314 : 0 ≤ (x5_1 : Int) := of_decide_eq_true (by first | (with_reducible assumption) | assumption)
          have q314 : x5_1 < (l1.length : Int) := of_decide_eq_true (by first | (with_reducible assumption) | assumption)
          obtain ⟨ad314, e314, hx314_0⟩ := Kd.at_int HR1.out x5_1 p314 q314
          cases e314
          replace p314 := eq_true p314
          replace q314 := eq_true q314
          have p315 : 0 ≤ (x5_1 : Int) := of_decide_eq_true (by first | (with_reducible assumption) | assumption)
          have q315 : x5_1 < (l0.length : Int) := of_decide_eq_true (by first | (with_reducible assumption) | assumption)
          obtain ⟨ad315, e315, hx315_0⟩ := Kd.at_int HR0.out x5_1 p315 q315
          obtain rfl : ad313 = ad315 := (by injection e315)
          replace p315 := eq_true p315
          replace q315 := eq_true q315
          have p316 : 0 ≤ (x5_1 : Int) := of_decide_eq_true (by first | (with_reducible assumption) | assumption)
          have q316 : x5_1 < (l1.length : Int) := of_decide_eq_true (by first | (with_reducible assumption) | assumption)
          obtain ⟨ad316, e316, hx316_0⟩ := Kd.at_int HR1.out x5_1 p316 q316
          obtain rfl : ad314 = ad316 := (by injection e316)
          replace p316 := eq_true p316
          replace q316 := eq_true q316
          go_wp2
          repeat (go_quiet (fail); try go_wp2)
          go_roundg k1
          case measure => have := HK1.out; omega
          case rel => exact ⟨(wrap64 (x5_1 - 1)), (zF), H', ⟨by have := HK1.out; omega⟩, by repeat (first | exact Drawn0.refl _ | apply Drawn0.step)⟩
       ·
        rw [if_neg c7] at H
        exact absurd H (by simp)
      ·
       rw [if_neg c6] at H
       exact absurd H (by simp)
     ·
      rw [if_neg c5] at H
      exact absurd H (by simp)
    ·
     rw [if_neg c4] at H
     have c4b0 : decide (0 ≤ x5_1) = false := decide_eq_false c4
     clear c4
     obtain rfl := Option.some.inj H
     go_wp2
     repeat (go_quiet (fail); try go_wp2)
     go_ret
     exact ⟨zF, by repeat (first | exact Drawn0.refl _ | apply Drawn0.step)⟩
 ·
  rw [if_neg c3] at H
  have c3b0 : ((l0.length : Int) == (l1.length : Int)) = false := beq_eq_false_iff_ne.mpr c3
  have c3b1 : ((l0.length : Int) != (l1.length : Int)) = true := bne_iff_ne.mpr c3
  have c3b2 : (l0.length == l1.length) = false := by first | simpa using c3 | (simp at c3 ⊢; omega)
  by_cases c10 : (l0.length : Int) < (l1.length : Int)
  ·
   rw [if_pos c10] at H
   have c10b0 : decide ((l0.length : Int) < (l1.length : Int)) = true := decide_eq_true c10
   have c10b1 : decide (l0.length < l1.length) = true := decide_eq_true (Int.ofNat_lt.mp c10)
   clear c10
   obtain rfl := Option.some.inj H
   go_enter Tryd.func18, Tryd.ntmps18
   go_wp2
   repeat (go_quiet (fail); try go_wp2)
   go_ret
   exact ⟨zF, by repeat (first | exact Drawn0.refl _ | apply Drawn0.step)⟩
  ·
   rw [if_neg c10] at H
   have c10b0 : decide ((l0.length : Int) < (l1.length : Int)) = false := decide_eq_false c10
   have c10b1 : decide (l0.length < l1.length) = false := decide_eq_false (fun h => c10 (Int.ofNat_lt.mpr h))
   clear c10
   obtain rfl := Option.some.inj H
   go_enter Tryd.func18, Tryd.ntmps18
   go_wp2
   repeat (go_quiet (fail); try go_wp2)
   go_ret
   exact ⟨zF, by repeat (first | exact Drawn0.refl _ | apply Drawn0.step)⟩
def zcd.f (k : Nat) (l0 : List Int) (l1 : List Int) : Option (Bool) := (zby.f l0).bind fun t400 => (if t400 = true then ((zan.f k l0).bind fun t401 => ((za7.f k t401 l1).bind fun t404 => (some (t404 == 0)))) else (some false))
theorem zcd.calls (k : Nat) (A0 : Option Addr) (c0 : Nat) (l0 : List Int) (A1 : Option Addr) (c1 : Nat) (l1 : List Int) (r : Bool) (w : World) (hr0 : Kd.C (Kd.int .u64) w A0 l0.length l0) (hc0 : l0.length ≤ c0) (hr1 : Kd.C (Kd.int .i64) w A1 l1.length l1) (hc1 : l1.length ≤ c1) (h : zcd.f k l0 l1 = some r) :
  Calls Tryd.prog 26 #[.slice A0 l0.length c0, .slice A1 l1.length c1] w fun e w' => e = .returned (.bool r) ∧ Below w.heap.size w w' := by
 have HR0 := zA hr0
 have HC0 := zA hc0
 clear hr0 hc0
 have HR1 := zA hr1
 have HC1 := zA hc1
 clear hr1 hc1
 have HB := zA (Below.refl w.heap.size w)
 have H : ((zby.f l0).bind fun t400 => (if t400 = true then ((zan.f k l0).bind fun t401 => ((za7.f k t401 l1).bind fun t404 => (some (t404 == 0)))) else (some false))) = some r := h
 clear h
 replace H := zO H
 obtain ⟨t400, A30, H⟩ := H
 try dsimp only at H
 have A3 := zA A30
 clear A30
 by_cases c4 : t400 = true
 ·
  subst c4
  rw [if_pos rfl] at H
  replace H := zO H
  obtain ⟨t401, A50, H⟩ := H
  try dsimp only at H
  have A5 := zA A50
  clear A50
  replace H := zO H
  obtain ⟨t404, A60, H⟩ := H
  try dsimp only at H
  have A6 := zA A60
  clear A60
  obtain rfl := Option.some.inj H
  go_enter Tryd.func26, Tryd.ntmps26
  go_wp2_with (first | ((with_reducible refine zah (f := 15) rfl ?_); refine zba (some 6) rfl rfl Tryd.func15 (by kernel_rfl) rfl #[.slice A0 l0.length c0] rfl (zE) ?_; (with_reducible refine (zby.calls _ _ l0 true _ ?side1 ?side2 A3.out).mono ?_); (case side1 => repeat (first | exact HR0.out | (with_reducible refine Kd.C_alloc ?_ _) | (with_reducible refine Kd.C_drewN ?_ _) | (with_reducible refine Kd.C_drew ?_))); (case side2 => exact HC0.out); rintro e w' ⟨rfl, ⟨nd, rfl⟩⟩; refine ⟨_, rfl, ?_⟩) | (go_at_call 17; (with_reducible refine (zan.calls k _ _ l0 t401 _ ?side1 ?side2 A5.out).mono ?_); (case side1 => repeat (first | exact HR0.out | (with_reducible refine Kd.C_alloc ?_ _) | (with_reducible refine Kd.C_drewN ?_ _) | (with_reducible refine Kd.C_drew ?_))); (case side2 => exact HC0.out); rintro e w7 ⟨v402, rfl, ho0, hb⟩; have n0_ := zA (Kd.zbm ho0 (za (zB HB))); have n1_ := zA (zaf (zB HB) hb); clear HB; have HO403 := n0_; have HB := n1_; clear n0_ n1_; (try clear hb); (try clear hb2); (try clear hk); (try clear hi); (try clear ho0); obtain ⟨Ao8, co8, eo8⟩ := Kd.zbn HO403.out; subst eo8) | (go_at_call 18; (with_reducible refine (za7.calls k _ _ t401 _ _ l1 t404 _ ?side1 ?side2 ?side3 ?side4 A6.out).mono ?_); (case side1 => exact zJ (Kd.zat HO403.out).2.2); (case side2 => exact (Kd.zat HO403.out).2.1); (case side3 => exact zJ (Kd.za6 HR1.out HB.out)); (case side4 => exact HC1.out); rintro e w' ⟨rfl, ⟨nd, rfl⟩⟩))
  go_ret
  exact ⟨zW, zB HB⟩
 ·
  replace c4 := Bool.eq_false_iff.mpr c4
  subst c4
  rw [if_neg (show ¬ (false = true) by decide)] at H
  obtain rfl := Option.some.inj H
  go_enter Tryd.func26, Tryd.ntmps26
  go_wp2_with (first | ((with_reducible refine zah (f := 15) rfl ?_); refine zba (some 6) rfl rfl Tryd.func15 (by kernel_rfl) rfl #[.slice A0 l0.length c0] rfl (zE) ?_; (with_reducible refine (zby.calls _ _ l0 false _ ?side1 ?side2 A3.out).mono ?_); (case side1 => repeat (first | exact HR0.out | (with_reducible refine Kd.C_alloc ?_ _) | (with_reducible refine Kd.C_drewN ?_ _) | (with_reducible refine Kd.C_drew ?_))); (case side2 => exact HC0.out); rintro e w' ⟨rfl, ⟨nd, rfl⟩⟩; refine ⟨_, rfl, ?_⟩))
  go_ret
  exact ⟨zW, zB HB⟩
def zcr.f (k : Nat) (l0_0 : List Int) (l0_1 : List Int) (l1_0 : List Int) (l1_1 : List Int) : Option (Bool) := (zcd.f k l0_0 l1_0).bind fun t407 => (if t407 = true then ((zcd.f k l0_1 l1_1).bind fun t408 => (some t408)) else (some false))
theorem zcr.calls (k : Nat) (A0_0 : Option Addr) (c0_0 : Nat) (l0_0 : List Int) (A0_1 : Option Addr) (c0_1 : Nat) (l0_1 : List Int) (A1_0 : Option Addr) (c1_0 : Nat) (l1_0 : List Int) (A1_1 : Option Addr) (c1_1 : Nat) (l1_1 : List Int) (r : Bool) (w : World) (hr0_0 : Kd.C (Kd.int .u64) w A0_0 l0_0.length l0_0) (hc0_0 : l0_0.length ≤ c0_0) (hr0_1 : Kd.C (Kd.int .u64) w A0_1 l0_1.length l0_1) (hc0_1 : l0_1.length ≤ c0_1) (hr1_0 : Kd.C (Kd.int .i64) w A1_0 l1_0.length l1_0) (hc1_0 : l1_0.length ≤ c1_0) (hr1_1 : Kd.C (Kd.int .i64) w A1_1 l1_1.length l1_1) (hc1_1 : l1_1.length ≤ c1_1) (h : zcr.f k l0_0 l0_1 l1_0 l1_1 = some r) :
  Calls Tryd.prog 21 #[.agg #[.slice A0_0 l0_0.length c0_0, .slice A0_1 l0_1.length c0_1], .agg #[.slice A1_0 l1_0.length c1_0, .slice A1_1 l1_1.length c1_1]] w fun e w' => e = .returned (.bool r) ∧ Below w.heap.size w w' := by
 have hu28 := Tryd.underlying28
 have hu40 := Tryd.underlying40
 have HR0_0 := zA hr0_0
 have HC0_0 := zA hc0_0
 clear hr0_0 hc0_0
 have HR0_1 := zA hr0_1
 have HC0_1 := zA hc0_1
 clear hr0_1 hc0_1
 have HR1_0 := zA hr1_0
 have HC1_0 := zA hc1_0
 clear hr1_0 hc1_0
 have HR1_1 := zA hr1_1
 have HC1_1 := zA hc1_1
 clear hr1_1 hc1_1
 have HB := zA (Below.refl w.heap.size w)
 have H : ((zcd.f k l0_0 l1_0).bind fun t407 => (if t407 = true then ((zcd.f k l0_1 l1_1).bind fun t408 => (some t408)) else (some false))) = some r := h
 clear h
 replace H := zO H
 obtain ⟨t407, A30, H⟩ := H
 try dsimp only at H
 have A3 := zA A30
 clear A30
 by_cases c4 : t407 = true
 ·
  subst c4
  rw [if_pos rfl] at H
  replace H := zO H
  obtain ⟨t408, A50, H⟩ := H
  try dsimp only at H
  have A5 := zA A50
  clear A50
  obtain rfl := Option.some.inj H
  go_enter Tryd.func21, Tryd.ntmps21
  go_wp2_with (first | ((with_reducible refine zbh (N := 2) rfl ?_); refine zbj ?hg (N := 2) ?hd (cs := #[.slice A0_0 l0_0.length c0_0, .slice A0_1 l0_1.length c0_1]) (t := 28) ?hr ?_; (case hd => rfl); (case hg => rfl); (case hr => first | (go_simp; done) | (go_simp; rfl)); intro gb405 hg w6 hbox hb; have n0_ := zA (zaf (zB HB) hb); have n1_ := zA (hbox); have n2_ := zA ((by rw [hg]; exact (za (zB HB)) : w.heap.size ≤ gb405)); have n3_ := zA ((by rw [hg]; exact (za (zB HB)) : w.heap.size ≤ gb405)); clear HB; have HB := n0_; have BK405 := n1_; have GW405 := n2_; have GE405 := n3_; clear n0_ n1_ n2_ n3_ hb hbox hg) | ((with_reducible refine zbh (N := 3) rfl ?_); refine zbj ?hg (N := 3) ?hd (cs := #[.slice A1_0 l1_0.length c1_0, .slice A1_1 l1_1.length c1_1]) (t := 40) ?hr ?_; (case hd => rfl); (case hg => rfl); (case hr => first | (go_simp; done) | (go_simp; rfl)); intro gb406 hg w7 hbox hb; have n0_ := zA (zaa (g := gb405) (o := .cells #[.slice A0_0 l0_0.length c0_0, .slice A0_1 l0_1.length c0_1] 28 (0, 0)) (zK BK405) hb); have n1_ := zA (zaf (zB HB) hb); have n2_ := zA (hbox); have n3_ := zA ((by rw [hg]; exact (za (zB HB)) : w.heap.size ≤ gb406)); have n4_ := zA ((by rw [hg]; exact (za (zB HB)) : w.heap.size ≤ gb406)); have n5_ := zA ((by rw [hg]; exact Nat.ne_of_lt (za5 (g := gb405) (o := .cells #[.slice A0_0 l0_0.length c0_0, .slice A0_1 l0_1.length c0_1] 28 (0, 0)) (zK BK405)) : gb405 ≠ gb406)); have n6_ := zA ((by rw [hg]; exact Nat.ne_of_gt (za5 (g := gb405) (o := .cells #[.slice A0_0 l0_0.length c0_0, .slice A0_1 l0_1.length c0_1] 28 (0, 0)) (zK BK405)) : gb406 ≠ gb405)); clear BK405 HB; have BK405 := n0_; have HB := n1_; have BK406 := n2_; have GW406 := n3_; have GE406 := n4_; have NB405_406 := n5_; have NB406_405 := n6_; clear n0_ n1_ n2_ n3_ n4_ n5_ n6_ hb hbox hg; have hnb8 := NB405_406.out; have hnc8 := NB406_405.out; have hcz9_0 : w7.cell? ⟨gb405, 0, none⟩ = some (.slice A0_0 l0_0.length c0_0) := (zad BK405.out 0).trans rfl; have hcz9_1 : w7.cell? ⟨gb405, 1, none⟩ = some (.slice A0_1 l0_1.length c0_1) := (zad BK405.out 1).trans rfl; have hfz9_0 := zal BK405.out 0; have hfz9_1 := zal BK405.out 1; have hcz10_0 : w7.cell? ⟨gb406, 0, none⟩ = some (.slice A1_0 l1_0.length c1_0) := (zad BK406.out 0).trans rfl; have hcz10_1 : w7.cell? ⟨gb406, 1, none⟩ = some (.slice A1_1 l1_1.length c1_1) := (zad BK406.out 1).trans rfl; have hfz10_0 := zal BK406.out 0; have hfz10_1 := zal BK406.out 1) | ((with_reducible refine zah (f := 26) rfl ?_); refine zba (some 9) rfl rfl Tryd.func26 (by kernel_rfl) rfl #[.slice A0_0 l0_0.length c0_0, .slice A1_0 l1_0.length c1_0] rfl (zE) ?_; (with_reducible refine (zcd.calls k _ _ l0_0 _ _ l1_0 true _ ?side1 ?side2 ?side3 ?side4 A3.out).mono ?_); (case side1 => exact zJ (Kd.za6 HR0_0.out HB.out)); (case side2 => exact HC0_0.out); (case side3 => exact zJ (Kd.za6 HR1_0.out HB.out)); (case side4 => exact HC1_0.out); rintro e w11 ⟨rfl, hb⟩; refine ⟨_, rfl, ?_⟩; have n0_ := zA (zaa (g := gb405) (o := .cells #[.slice A0_0 l0_0.length c0_0, .slice A0_1 l0_1.length c0_1] 28 (0, 0)) (zK BK405) hb); have n1_ := zA (zaa (g := gb406) (o := .cells #[.slice A1_0 l1_0.length c1_0, .slice A1_1 l1_1.length c1_1] 40 (0, 0)) (zK BK406) hb); have n2_ := zA (zaf (zB HB) hb); clear BK405 BK406 HB; have BK405 := n0_; have BK406 := n1_; have HB := n2_; clear n0_ n1_ n2_; (try clear hb); (try clear hb2); (try clear hk); (try clear hi); have hcz12_0 : w11.cell? ⟨gb405, 0, none⟩ = some (.slice A0_0 l0_0.length c0_0) := (zad BK405.out 0).trans rfl; have hcz12_1 : w11.cell? ⟨gb405, 1, none⟩ = some (.slice A0_1 l0_1.length c0_1) := (zad BK405.out 1).trans rfl; have hfz12_0 := zal BK405.out 0; have hfz12_1 := zal BK405.out 1; have hcz13_0 : w11.cell? ⟨gb406, 0, none⟩ = some (.slice A1_0 l1_0.length c1_0) := (zad BK406.out 0).trans rfl; have hcz13_1 : w11.cell? ⟨gb406, 1, none⟩ = some (.slice A1_1 l1_1.length c1_1) := (zad BK406.out 1).trans rfl; have hfz13_0 := zal BK406.out 0; have hfz13_1 := zal BK406.out 1) | (go_at_call 26; (with_reducible refine (zcd.calls k _ _ l0_1 _ _ l1_1 t408 _ ?side1 ?side2 ?side3 ?side4 A5.out).mono ?_); (case side1 => exact zJ (Kd.za6 HR0_1.out HB.out)); (case side2 => exact HC0_1.out); (case side3 => exact zJ (Kd.za6 HR1_1.out HB.out)); (case side4 => exact HC1_1.out); rintro e w14 ⟨rfl, hb⟩; have n0_ := zA (zaa (g := gb405) (o := .cells #[.slice A0_0 l0_0.length c0_0, .slice A0_1 l0_1.length c0_1] 28 (0, 0)) (zK BK405) hb); have n1_ := zA (zaa (g := gb406) (o := .cells #[.slice A1_0 l1_0.length c1_0, .slice A1_1 l1_1.length c1_1] 40 (0, 0)) (zK BK406) hb); have n2_ := zA (zaf (zB HB) hb); clear BK405 BK406 HB; have BK405 := n0_; have BK406 := n1_; have HB := n2_; clear n0_ n1_ n2_; (try clear hb); (try clear hb2); (try clear hk); (try clear hi)))
  go_ret
  exact ⟨zW, zB HB⟩
 ·
  replace c4 := Bool.eq_false_iff.mpr c4
  subst c4
  rw [if_neg (show ¬ (false = true) by decide)] at H
  obtain rfl := Option.some.inj H
  go_enter Tryd.func21, Tryd.ntmps21
  go_wp2_with (first | ((with_reducible refine zbh (N := 2) rfl ?_); refine zbj ?hg (N := 2) ?hd (cs := #[.slice A0_0 l0_0.length c0_0, .slice A0_1 l0_1.length c0_1]) (t := 28) ?hr ?_; (case hd => rfl); (case hg => rfl); (case hr => first | (go_simp; done) | (go_simp; rfl)); intro gb405 hg w15 hbox hb; have n0_ := zA (zaf (zB HB) hb); have n1_ := zA (hbox); have n2_ := zA ((by rw [hg]; exact (za (zB HB)) : w.heap.size ≤ gb405)); have n3_ := zA ((by rw [hg]; exact (za (zB HB)) : w.heap.size ≤ gb405)); clear HB; have HB := n0_; have BK405 := n1_; have GW405 := n2_; have GE405 := n3_; clear n0_ n1_ n2_ n3_ hb hbox hg) | ((with_reducible refine zbh (N := 3) rfl ?_); refine zbj ?hg (N := 3) ?hd (cs := #[.slice A1_0 l1_0.length c1_0, .slice A1_1 l1_1.length c1_1]) (t := 40) ?hr ?_; (case hd => rfl); (case hg => rfl); (case hr => first | (go_simp; done) | (go_simp; rfl)); intro gb406 hg w16 hbox hb; have n0_ := zA (zaa (g := gb405) (o := .cells #[.slice A0_0 l0_0.length c0_0, .slice A0_1 l0_1.length c0_1] 28 (0, 0)) (zK BK405) hb); have n1_ := zA (zaf (zB HB) hb); have n2_ := zA (hbox); have n3_ := zA ((by rw [hg]; exact (za (zB HB)) : w.heap.size ≤ gb406)); have n4_ := zA ((by rw [hg]; exact (za (zB HB)) : w.heap.size ≤ gb406)); have n5_ := zA ((by rw [hg]; exact Nat.ne_of_lt (za5 (g := gb405) (o := .cells #[.slice A0_0 l0_0.length c0_0, .slice A0_1 l0_1.length c0_1] 28 (0, 0)) (zK BK405)) : gb405 ≠ gb406)); have n6_ := zA ((by rw [hg]; exact Nat.ne_of_gt (za5 (g := gb405) (o := .cells #[.slice A0_0 l0_0.length c0_0, .slice A0_1 l0_1.length c0_1] 28 (0, 0)) (zK BK405)) : gb406 ≠ gb405)); clear BK405 HB; have BK405 := n0_; have HB := n1_; have BK406 := n2_; have GW406 := n3_; have GE406 := n4_; have NB405_406 := n5_; have NB406_405 := n6_; clear n0_ n1_ n2_ n3_ n4_ n5_ n6_ hb hbox hg; have hnb17 := NB405_406.out; have hnc17 := NB406_405.out; have hcz18_0 : w16.cell? ⟨gb405, 0, none⟩ = some (.slice A0_0 l0_0.length c0_0) := (zad BK405.out 0).trans rfl; have hcz18_1 : w16.cell? ⟨gb405, 1, none⟩ = some (.slice A0_1 l0_1.length c0_1) := (zad BK405.out 1).trans rfl; have hfz18_0 := zal BK405.out 0; have hfz18_1 := zal BK405.out 1; have hcz19_0 : w16.cell? ⟨gb406, 0, none⟩ = some (.slice A1_0 l1_0.length c1_0) := (zad BK406.out 0).trans rfl; have hcz19_1 : w16.cell? ⟨gb406, 1, none⟩ = some (.slice A1_1 l1_1.length c1_1) := (zad BK406.out 1).trans rfl; have hfz19_0 := zal BK406.out 0; have hfz19_1 := zal BK406.out 1) | ((with_reducible refine zah (f := 26) rfl ?_); refine zba (some 9) rfl rfl Tryd.func26 (by kernel_rfl) rfl #[.slice A0_0 l0_0.length c0_0, .slice A1_0 l1_0.length c1_0] rfl (zE) ?_; (with_reducible refine (zcd.calls k _ _ l0_0 _ _ l1_0 false _ ?side1 ?side2 ?side3 ?side4 A3.out).mono ?_); (case side1 => exact zJ (Kd.za6 HR0_0.out HB.out)); (case side2 => exact HC0_0.out); (case side3 => exact zJ (Kd.za6 HR1_0.out HB.out)); (case side4 => exact HC1_0.out); rintro e w20 ⟨rfl, hb⟩; refine ⟨_, rfl, ?_⟩; have n0_ := zA (zaa (g := gb405) (o := .cells #[.slice A0_0 l0_0.length c0_0, .slice A0_1 l0_1.length c0_1] 28 (0, 0)) (zK BK405) hb); have n1_ := zA (zaa (g := gb406) (o := .cells #[.slice A1_0 l1_0.length c1_0, .slice A1_1 l1_1.length c1_1] 40 (0, 0)) (zK BK406) hb); have n2_ := zA (zaf (zB HB) hb); clear BK405 BK406 HB; have BK405 := n0_; have BK406 := n1_; have HB := n2_; clear n0_ n1_ n2_; (try clear hb); (try clear hb2); (try clear hk); (try clear hi)))
  go_ret
  exact ⟨zW, zB HB⟩
end Go.Proofs.YtfjkamhcabckeaaDoor.P
end
