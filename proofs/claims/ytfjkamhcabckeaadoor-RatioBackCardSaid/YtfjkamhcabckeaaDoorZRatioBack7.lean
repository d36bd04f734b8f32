-- Written by a program of this session (wip/tools/shake.py) out of its own texts and of the kit's printed ones; not trusted: Lean checks it.
import Derived.Test.YtfjkamhcabckeaaDoorZRatioBack6
set_option maxHeartbeats 8000000
set_option maxRecDepth 100000
set_option linter.unusedVariables false
set_option linter.unusedSimpArgs false
section
namespace Go.Proofs.YtfjkamhcabckeaaDoor.P
open Go.RowKit Go.Proofs.YtfjkamhcabckeaaDoorW.PrintWords Go.Proofs.YtfjkamhcabckeaaDoorW.PrintLast Go.Proofs.YtfjkamhcabckeaaDoorW.PrintMore
attribute [local go_sem] zc7 zc8 max_two min_two zct zcu zc6 zc9
def za8.f (k : Nat) (l0_0 : List Int) (l0_1 : List Int) : Option (ByteArray) := (zcg.f k).bind fun t234 => ((zcj.f l0_1 t234).bind fun t237 => (if t237 = 0 then ((zbq.f k l0_0).bind fun t238 => (some t238)) else ((zbq.f k l0_0).bind fun t239 => (if t239.size + 1 ≤ 9223372036854775807 then ((zbq.f k l0_1).bind fun t240 => (if (t239 ++ (⟨#[47]⟩ : ByteArray)).size + t240.size ≤ 9223372036854775807 then (some ((t239 ++ (⟨#[47]⟩ : ByteArray)) ++ t240)) else (none))) else (none)))))
theorem za8.mono : ∀ a0 a1 k, LeO (za8.f k a0 a1) (za8.f (k + 1) a0 a1) := by
 intro a0 a1 k
 unfold za8.f
 repeat' first
   | (with_reducible exact zbq.mono _ _)
   | (with_reducible exact zcg.mono _)
   | (with_reducible exact LeO.refl _)
   | (with_reducible exact LeO.none _)
   | (with_reducible refine LeO.ite ?_ ?_)
   | (with_reducible refine LeO.bind ?_ (fun _ => ?_))
   | exact zbq.mono _ _
   | exact zcg.mono _
   | exact LeO.none _
   | refine LeO.ite ?_ ?_
   | refine LeO.bind ?_ (fun _ => ?_)
def za8.T3 : Bool × List (List Nat × List Nat) := (true, [([], []), ([0], [0]), ([1], [1]), ([2], [2]), ([], []), ([4], [4]), ([5, 2], [5]), ([3, 6], [3, 6]), ([7, 6, 0, 1, 2, 3, 4, 5, 6, 7], [7])])
def za8.B3 : List Nat := [0, 1, 3, 7, 0, 16, 55, 127, 255]
theorem za8.tab3 : rtab .any (opsOf Tryd.f41 3) = za8.T3 := by kernel_rfl
theorem za8.bits3 : waitsOk za8.T3.2 za8.B3 = true := by kernel_rfl
theorem za8.calls (k : Nat) (A0_0 : Option Addr) (c0_0 : Nat) (l0_0 : List Int) (A0_1 : Option Addr) (c0_1 : Nat) (l0_1 : List Int) (r : ByteArray) (w : World) (hr0_0 : Kd.C (Kd.int .u64) w A0_0 l0_0.length l0_0) (hc0_0 : l0_0.length ≤ c0_0) (hr0_1 : Kd.C (Kd.int .u64) w A0_1 l0_1.length l0_1) (hc0_1 : l0_1.length ≤ c0_1) (hG : Glob w) (h : za8.f k l0_0 l0_1 = some r) :
  Calls Tryd.prog 41 #[.agg #[.slice A0_0 l0_0.length c0_0, .slice A0_1 l0_1.length c0_1]] w fun e w' => e = .returned (.string r) ∧ Below w.heap.size w w' := by
 have hu28 := Tryd.underlying28
 have HR0_0 := zA hr0_0
 have HC0_0 := zA hc0_0
 clear hr0_0 hc0_0
 have HR0_1 := zA hr0_1
 have HC0_1 := zA hc0_1
 clear hr0_1 hc0_1
 have HG := zA hG
 clear hG
 have HB := zA (Below.refl w.heap.size w)
 have H : ((zcg.f k).bind fun t234 => ((zcj.f l0_1 t234).bind fun t237 => (if t237 = 0 then ((zbq.f k l0_0).bind fun t238 => (some t238)) else ((zbq.f k l0_0).bind fun t239 => (if t239.size + 1 ≤ 9223372036854775807 then ((zbq.f k l0_1).bind fun t240 => (if (t239 ++ (⟨#[47]⟩ : ByteArray)).size + t240.size ≤ 9223372036854775807 then (some ((t239 ++ (⟨#[47]⟩ : ByteArray)) ++ t240)) else (none))) else (none)))))) = some r := h
 clear h
 replace H := zO H
 obtain ⟨t234, A20, H⟩ := H
 try dsimp only at H
 have A2 := zA A20
 clear A20
 replace H := zO H
 obtain ⟨t237, A30, H⟩ := H
 try dsimp only at H
 have A3 := zA A30
 clear A30
 by_cases c4 : t237 = 0
 ·
  rw [if_pos c4] at H
  have c4b0 : (t237 == 0) = true := beq_iff_eq.mpr c4
  have c4b1 : (t237 != 0) = false := bne_eq_false_iff_eq.mpr c4
  clear c4
  replace H := zO H
  obtain ⟨t238, A50, H⟩ := H
  try dsimp only at H
  have A5 := zA A50
  clear A50
  obtain rfl := Option.some.inj H
  go_enter Tryd.func41, Tryd.ntmps41
  try go_wp2_with (first | ((with_reducible refine zbe (N := 1) rfl ?_); refine zbk ?hg (N := 1) ?hd (cs := #[.slice A0_0 l0_0.length c0_0, .slice A0_1 l0_1.length c0_1]) (t := 28) ?hr ?_; (case hd => rfl); (case hg => rfl); (case hr => first | (go_simp; done) | (go_simp; rfl)); intro gb233 hg w6 hbox hb; have n0_ := zA (zaa (zB HB) hb); have n1_ := zA (hbox); have n2_ := zA ((by rw [hg]; exact (za (zB HB)) : w.heap.size ≤ gb233)); have n3_ := zA ((by rw [hg]; exact (za (zB HB)) : w.heap.size ≤ gb233)); clear HB; have HB := n0_; have BK233 := n1_; have GW233 := n2_; have GE233 := n3_; clear n0_ n1_ n2_ n3_ hb hbox hg))
  have n0_ := zA (zat BK233.out)
  have n1_ := zA (zbu HB.out)
  clear BK233 HB
  have BK233 := n0_
  have HB := n1_
  clear n0_ n1_
  refine start_ (n := 5) (S := fun w' => w'.cell? ⟨gb233, 0, none⟩ = some (.slice A0_0 l0_0.length c0_0) ∧ w'.cell? ⟨gb233, 1, none⟩ = some (.slice A0_1 l0_1.length c0_1)) (ds := []) #[false, false, false, false, false] (by kernel_rfl) rfl rfl ⟨(zab BK233.out 0).trans rfl, (zab BK233.out 1).trans rfl⟩ (fun hHeld => ?_)
  generalize w6.drew = w7 at BK233 HB hHeld ⊢
  refine pure_ (i := 0) (N := some 3) (v := ?_) (a' := ?_) #[true, false, false, false, false] rfl rfl (by kernel_rfl) (fun _ _ _ h => h) (Or.inl ⟨by rfl, ?_⟩) ?_ ?_
  rotate_left
  ·
   intro w'
   go_simp
   with_reducible rfl
  rotate_left
  ·
   simp only [Act.put, zs1, zs2, zs3, i64_w, i32_w]
   rfl
  refine take_ (i := 1) (N := some 4) (v := ?_) (a' := ?_) #[true, true, false, false, false] rfl rfl (by kernel_rfl) (fun _ _ _ h => h) (Or.inl ⟨by rfl, ?_⟩) hHeld ?_ ?_
  rotate_left
  ·
   rintro w' ⟨s0, s1⟩
   go_simp
   with_reducible rfl
  rotate_left
  ·
   simp only [Act.put, zs1, zs2, zs3, i64_w, i32_w]
   rfl
  refine one_ (i := 2) (N := some 5) #[true, true, true, false, false] rfl rfl (by kernel_rfl) (by decide) (fun K hK => ?_)
  refine goes_ Tryd.func54 (by kernel_rfl) rfl #[] (by rfl) rfl rfl (zE) ?_
  with_reducible refine (zcg.calls k  t234 _ A2.out).mono ?_
  rintro e w8 ⟨v235, rfl, ho0, hb⟩
  refine ⟨_, rfl, ?_⟩
  have n0_ := zA (Kd.za6 (Kd.zan (ok' := fun k_ => k_ ≠ gb233) ho0 (fun k_ hk_ => (Kd.freshB (g := gb233) (o := .cells #[.slice A0_0 l0_0.length c0_0, .slice A0_1 l0_1.length c0_1] 28 (0, 0)) (zK BK233) k_ hk_))) (za (zB HB)))
  have n1_ := zA (zac (g := gb233) (o := .cells #[.slice A0_0 l0_0.length c0_0, .slice A0_1 l0_1.length c0_1] 28 (0, 0)) (zK BK233) hb)
  have n2_ := zA (zaa (zB HB) hb)
  clear BK233 HB
  have HO236 := n0_
  have BK233 := n1_
  have HB := n2_
  clear n0_ n1_ n2_
  (try clear hb)
  (try clear hb2)
  (try clear hk)
  (try clear hi)
  (try clear ho0)
  obtain ⟨Ao9, co9, eo9⟩ := Kd.za7 HO236.out
  (first | subst eo9 | (injection eo9 with f1_ f2_ f3_; have f4_ := f1_.symm; have f5_ := f3_.symm; clear f1_ f2_ f3_; subst f4_; subst f5_))
  refine hK.out _ _ ⟨(zab BK233.out 0).trans rfl, (zab BK233.out 1).trans rfl⟩ (fun hHeld => ?_)
  clear hK K
  refine norm_ (a' := ?_) ?_ ?_
  rotate_left
  ·
   show Act.put _ (some 5) _ = _
   simp only [Act.put, zs1, zs2, zs3, i64_w, i32_w]
   rfl
  refine one_ (i := 3) (N := some 6) #[true, true, true, true, false] rfl rfl (by kernel_rfl) (by decide) (fun K hK => ?_)
  refine goes_ Tryd.func52 (by kernel_rfl) rfl #[.slice A0_1 l0_1.length c0_1, .slice Ao9 t234.length co9] (by rfl) rfl rfl (zE) ?_
  with_reducible refine (zcj.calls _ _ l0_1 _ _ t234 t237 _ ?side1 ?side2 ?side3 ?side4 A3.out).mono ?_
  (case side1 => exact zJ (Kd.za3 HR0_1.out HB.out))
  (case side2 => exact HC0_1.out)
  (case side3 => exact zJ (Kd.zaq HO236.out).2.2)
  (case side4 => exact (Kd.zaq HO236.out).2.1)
  rintro e w10 ⟨rfl, hb⟩
  refine ⟨_, rfl, ?_⟩
  have n0_ := zA (Kd.zaw (zV HO236) hb)
  have n1_ := zA (zac (g := gb233) (o := .cells #[.slice A0_0 l0_0.length c0_0, .slice A0_1 l0_1.length c0_1] 28 (0, 0)) (zK BK233) hb)
  have n2_ := zA (zaa (zB HB) hb)
  clear HO236 BK233 HB
  have HO236 := n0_
  have BK233 := n1_
  have HB := n2_
  clear n0_ n1_ n2_
  (try clear hb)
  (try clear hb2)
  (try clear hk)
  (try clear hi)
  refine hK.out _ _ ⟨(zab BK233.out 0).trans rfl, (zab BK233.out 1).trans rfl⟩ (fun hHeld => ?_)
  clear hK K
  refine norm_ (a' := ?_) ?_ ?_
  rotate_left
  ·
   show Act.put _ (some 6) _ = _
   simp only [Act.put, zs1, zs2, zs3, i64_w, i32_w]
   rfl
  refine pure_ (i := 4) (N := some 7) (v := ?_) (a' := ?_) #[true, true, true, true, true] rfl rfl (by kernel_rfl) (fun _ _ _ h => h) (Or.inl ⟨by rfl, ?_⟩) ?_ ?_
  rotate_left
  ·
   intro w'
   go_simp
   with_reducible rfl
  rotate_left
  ·
   simp only [Act.put, zs1, zs2, zs3, i64_w, i32_w]
   rfl
  refine done_ (by kernel_rfl) ?_
  have hcz11_0 : w10.cell? ⟨gb233, 0, none⟩ = some (.slice A0_0 l0_0.length c0_0) := (zab BK233.out 0).trans rfl
  have hcz11_1 : w10.cell? ⟨gb233, 1, none⟩ = some (.slice A0_1 l0_1.length c0_1) := (zab BK233.out 1).trans rfl
  have hfz11_0 := zal BK233.out 0
  have hfz11_1 := zal BK233.out 1
  try go_wp2_with (first | ((with_reducible refine zae (f := 50) rfl ?_); refine za5 (some 10) rfl rfl Tryd.func50 (by kernel_rfl) rfl #[.slice A0_0 l0_0.length c0_0] rfl (zE) ?_; (with_reducible refine (zbq.calls k (fun k_ => k_ < w.heap.size) _ _ l0_0 t238 _ ?side1 ?side2 A5.out).mono ?_); (case side1 => exact Kd.V_mk HC0_0.out (Kd.F_below (Kd.C_F (Kd.heap_int .u64) HR0_0.out) (zB HB))); (case side2 => exact Glob.below HG.out (zB HB)); rintro e w12 ⟨rfl, hb⟩; refine ⟨_, rfl, ?_⟩; have n0_ := zA (Kd.zaw (zV HO236) hb); have n1_ := zA (zac (g := gb233) (o := .cells #[.slice A0_0 l0_0.length c0_0, .slice A0_1 l0_1.length c0_1] 28 (0, 0)) (zK BK233) hb); have n2_ := zA (zaa (zB HB) hb); clear HO236 BK233 HB; have HO236 := n0_; have BK233 := n1_; have HB := n2_; clear n0_ n1_ n2_; (try clear hb); (try clear hb2); (try clear hk); (try clear hi)))
  go_ret
  exact ⟨zW, zB HB⟩
 ·
  rw [if_neg c4] at H
  have c4b0 : (t237 == 0) = false := beq_eq_false_iff_ne.mpr c4
  have c4b1 : (t237 != 0) = true := bne_iff_ne.mpr c4
  replace H := zO H
  obtain ⟨t239, A130, H⟩ := H
  try dsimp only at H
  have A13 := zA A130
  clear A130
  by_cases c14 : t239.size + 1 ≤ 9223372036854775807
  ·
   rw [if_pos c14] at H
   have c14b0 := eq_true c14
   have c14b1 : decide (t239.size + 1 ≤ 9223372036854775807) = true := decide_eq_true c14
   try have c14b2 : (9223372036854775807 < t239.size + 1) = False := eq_false (Nat.not_lt.2 c14)
   replace H := zO H
   obtain ⟨t240, A150, H⟩ := H
   try dsimp only at H
   have A15 := zA A150
   clear A150
   by_cases c16 : (t239 ++ (⟨#[47]⟩ : ByteArray)).size + t240.size ≤ 9223372036854775807
   ·
    rw [if_pos c16] at H
    have c16b0 := eq_true c16
    have c16b1 : decide ((t239 ++ (⟨#[47]⟩ : ByteArray)).size + t240.size ≤ 9223372036854775807) = true := decide_eq_true c16
    try have c16b3 : (9223372036854775807 < t239.size + 1 + t240.size) = False := by have h_ := eq_false (Nat.not_lt.2 c16); rw [ByteArray.size_append] at h_; exact h_
    try have c16b2 : (9223372036854775807 < (t239 ++ (⟨#[47]⟩ : ByteArray)).size + t240.size) = False := eq_false (Nat.not_lt.2 c16)
    obtain rfl := Option.some.inj H
    go_enter Tryd.func41, Tryd.ntmps41
    try go_wp2_with (first | ((with_reducible refine zbe (N := 1) rfl ?_); refine zbk ?hg (N := 1) ?hd (cs := #[.slice A0_0 l0_0.length c0_0, .slice A0_1 l0_1.length c0_1]) (t := 28) ?hr ?_; (case hd => rfl); (case hg => rfl); (case hr => first | (go_simp; done) | (go_simp; rfl)); intro gb233 hg w17 hbox hb; have n0_ := zA (zaa (zB HB) hb); have n1_ := zA (hbox); have n2_ := zA ((by rw [hg]; exact (za (zB HB)) : w.heap.size ≤ gb233)); have n3_ := zA ((by rw [hg]; exact (za (zB HB)) : w.heap.size ≤ gb233)); clear HB; have HB := n0_; have BK233 := n1_; have GW233 := n2_; have GE233 := n3_; clear n0_ n1_ n2_ n3_ hb hbox hg))
    have n0_ := zA (zat BK233.out)
    have n1_ := zA (zbu HB.out)
    clear BK233 HB
    have BK233 := n0_
    have HB := n1_
    clear n0_ n1_
    refine start_ (n := 5) (S := fun w' => w'.cell? ⟨gb233, 0, none⟩ = some (.slice A0_0 l0_0.length c0_0) ∧ w'.cell? ⟨gb233, 1, none⟩ = some (.slice A0_1 l0_1.length c0_1)) (ds := []) #[false, false, false, false, false] (by kernel_rfl) rfl rfl ⟨(zab BK233.out 0).trans rfl, (zab BK233.out 1).trans rfl⟩ (fun hHeld => ?_)
    generalize w17.drew = w18 at BK233 HB hHeld ⊢
    refine pure_ (i := 0) (N := some 3) (v := ?_) (a' := ?_) #[true, false, false, false, false] rfl rfl (by kernel_rfl) (fun _ _ _ h => h) (Or.inl ⟨by rfl, ?_⟩) ?_ ?_
    rotate_left
    ·
     intro w'
     go_simp
     with_reducible rfl
    rotate_left
    ·
     simp only [Act.put, zs1, zs2, zs3, i64_w, i32_w]
     rfl
    refine take_ (i := 1) (N := some 4) (v := ?_) (a' := ?_) #[true, true, false, false, false] rfl rfl (by kernel_rfl) (fun _ _ _ h => h) (Or.inl ⟨by rfl, ?_⟩) hHeld ?_ ?_
    rotate_left
    ·
     rintro w' ⟨s0, s1⟩
     go_simp
     with_reducible rfl
    rotate_left
    ·
     simp only [Act.put, zs1, zs2, zs3, i64_w, i32_w]
     rfl
    refine one_ (i := 2) (N := some 5) #[true, true, true, false, false] rfl rfl (by kernel_rfl) (by decide) (fun K hK => ?_)
    refine goes_ Tryd.func54 (by kernel_rfl) rfl #[] (by rfl) rfl rfl (zE) ?_
    with_reducible refine (zcg.calls k  t234 _ A2.out).mono ?_
    rintro e w19 ⟨v235, rfl, ho0, hb⟩
    refine ⟨_, rfl, ?_⟩
    have n0_ := zA (Kd.za6 (Kd.zan (ok' := fun k_ => k_ ≠ gb233) ho0 (fun k_ hk_ => (Kd.freshB (g := gb233) (o := .cells #[.slice A0_0 l0_0.length c0_0, .slice A0_1 l0_1.length c0_1] 28 (0, 0)) (zK BK233) k_ hk_))) (za (zB HB)))
    have n1_ := zA (zac (g := gb233) (o := .cells #[.slice A0_0 l0_0.length c0_0, .slice A0_1 l0_1.length c0_1] 28 (0, 0)) (zK BK233) hb)
    have n2_ := zA (zaa (zB HB) hb)
    clear BK233 HB
    have HO236 := n0_
    have BK233 := n1_
    have HB := n2_
    clear n0_ n1_ n2_
    (try clear hb)
    (try clear hb2)
    (try clear hk)
    (try clear hi)
    (try clear ho0)
    obtain ⟨Ao20, co20, eo20⟩ := Kd.za7 HO236.out
    (first | subst eo20 | (injection eo20 with f1_ f2_ f3_; have f4_ := f1_.symm; have f5_ := f3_.symm; clear f1_ f2_ f3_; subst f4_; subst f5_))
    refine hK.out _ _ ⟨(zab BK233.out 0).trans rfl, (zab BK233.out 1).trans rfl⟩ (fun hHeld => ?_)
    clear hK K
    refine norm_ (a' := ?_) ?_ ?_
    rotate_left
    ·
     show Act.put _ (some 5) _ = _
     simp only [Act.put, zs1, zs2, zs3, i64_w, i32_w]
     rfl
    refine one_ (i := 3) (N := some 6) #[true, true, true, true, false] rfl rfl (by kernel_rfl) (by decide) (fun K hK => ?_)
    refine goes_ Tryd.func52 (by kernel_rfl) rfl #[.slice A0_1 l0_1.length c0_1, .slice Ao20 t234.length co20] (by rfl) rfl rfl (zE) ?_
    with_reducible refine (zcj.calls _ _ l0_1 _ _ t234 t237 _ ?side1 ?side2 ?side3 ?side4 A3.out).mono ?_
    (case side1 => exact zJ (Kd.za3 HR0_1.out HB.out))
    (case side2 => exact HC0_1.out)
    (case side3 => exact zJ (Kd.zaq HO236.out).2.2)
    (case side4 => exact (Kd.zaq HO236.out).2.1)
    rintro e w21 ⟨rfl, hb⟩
    refine ⟨_, rfl, ?_⟩
    have n0_ := zA (Kd.zaw (zV HO236) hb)
    have n1_ := zA (zac (g := gb233) (o := .cells #[.slice A0_0 l0_0.length c0_0, .slice A0_1 l0_1.length c0_1] 28 (0, 0)) (zK BK233) hb)
    have n2_ := zA (zaa (zB HB) hb)
    clear HO236 BK233 HB
    have HO236 := n0_
    have BK233 := n1_
    have HB := n2_
    clear n0_ n1_ n2_
    (try clear hb)
    (try clear hb2)
    (try clear hk)
    (try clear hi)
    refine hK.out _ _ ⟨(zab BK233.out 0).trans rfl, (zab BK233.out 1).trans rfl⟩ (fun hHeld => ?_)
    clear hK K
    refine norm_ (a' := ?_) ?_ ?_
    rotate_left
    ·
     show Act.put _ (some 6) _ = _
     simp only [Act.put, zs1, zs2, zs3, i64_w, i32_w]
     rfl
    refine pure_ (i := 4) (N := some 7) (v := ?_) (a' := ?_) #[true, true, true, true, true] rfl rfl (by kernel_rfl) (fun _ _ _ h => h) (Or.inl ⟨by rfl, ?_⟩) ?_ ?_
    rotate_left
    ·
     intro w'
     go_simp
     with_reducible rfl
    rotate_left
    ·
     simp only [Act.put, zs1, zs2, zs3, i64_w, i32_w]
     rfl
    refine done_ (by kernel_rfl) ?_
    try go_wp2
    have n0_ := zA (Kd.zb3 HO236.out)
    have n1_ := zA (zat BK233.out)
    have n2_ := zA (zbu HB.out)
    clear HO236 BK233 HB
    have HO236 := n0_
    have BK233 := n1_
    have HB := n2_
    clear n0_ n1_ n2_
    refine start_ (n := 9) (S := fun w' => w'.cell? ⟨gb233, 0, none⟩ = some (.slice A0_0 l0_0.length c0_0) ∧ w'.cell? ⟨gb233, 1, none⟩ = some (.slice A0_1 l0_1.length c0_1)) (ds := []) #[false, false, false, false, false, false, false, false, false] (by kernel_rfl) rfl rfl ⟨(zab BK233.out 0).trans rfl, (zab BK233.out 1).trans rfl⟩ (fun hHeld => ?_); refine zcq za8.tab3 za8.bits3 (fun HT_ HW_ => ?_)
    generalize w21.drew = w22 at HO236 BK233 HB hHeld ⊢
    refine pure_ (i := 0) (N := some 11) (v := ?_) (a' := ?_) #[true, false, false, false, false, false, false, false, false] rfl rfl (za0 HT_.out (by kernel_rfl)) (fun _ _ _ h => h) (Or.inl ⟨by rfl, ?_⟩) ?_ ?_
    rotate_left
    ·
     intro w'
     go_simp
     with_reducible rfl
    rotate_left
    ·
     simp only [Act.put, zs1, zs2, zs3, i64_w, i32_w]
     rfl
    refine pure_ (i := 4) (N := some 15) (v := ?_) (a' := ?_) #[true, false, false, false, true, false, false, false, false] rfl rfl (za0 HT_.out (by kernel_rfl)) (fun _ _ _ h => h) (Or.inl ⟨by rfl, ?_⟩) ?_ ?_
    rotate_left
    ·
     intro w'
     go_simp
     with_reducible rfl
    rotate_left
    ·
     simp only [Act.put, zs1, zs2, zs3, i64_w, i32_w]
     rfl
    refine take_ (i := 1) (N := some 12) (v := ?_) (a' := ?_) #[true, true, false, false, true, false, false, false, false] rfl rfl (zbm HT_.out HW_.out (by kernel_rfl)) (fun _ _ _ h => h) (Or.inl ⟨by rfl, ?_⟩) hHeld ?_ ?_
    rotate_left
    ·
     rintro w' ⟨s0, s1⟩
     go_simp
     with_reducible rfl
    rotate_left
    ·
     simp only [Act.put, zs1, zs2, zs3, i64_w, i32_w]
     rfl
    refine take_ (i := 5) (N := some 16) (v := ?_) (a' := ?_) #[true, true, false, false, true, true, false, false, false] rfl rfl (zbm HT_.out HW_.out (by kernel_rfl)) (fun _ _ _ h => h) (Or.inl ⟨by rfl, ?_⟩) hHeld ?_ ?_
    rotate_left
    ·
     rintro w' ⟨s0, s1⟩
     go_simp
     with_reducible rfl
    rotate_left
    ·
     simp only [Act.put, zs1, zs2, zs3, i64_w, i32_w]
     rfl
    refine one_ (i := 2) (N := some 13) #[true, true, true, false, true, true, false, false, false] rfl rfl (zb4 HT_.out (by kernel_rfl)) (by decide) (fun K hK => ?_)
    refine goes_ Tryd.func50 (by kernel_rfl) rfl #[.slice A0_0 l0_0.length c0_0] (by rfl) rfl rfl (zE) ?_
    with_reducible refine (zbq.calls k (fun k_ => k_ < w.heap.size) _ _ l0_0 t239 _ ?side1 ?side2 A13.out).mono ?_
    (case side1 => exact Kd.V_mk HC0_0.out (Kd.F_below (Kd.C_F (Kd.heap_int .u64) HR0_0.out) (zB HB)))
    (case side2 => exact Glob.below HG.out (zB HB))
    rintro e w23 ⟨rfl, hb⟩
    refine ⟨_, rfl, ?_⟩
    have n0_ := zA (Kd.zaw (zV HO236) hb)
    have n1_ := zA (zac (g := gb233) (o := .cells #[.slice A0_0 l0_0.length c0_0, .slice A0_1 l0_1.length c0_1] 28 (0, 0)) (zK BK233) hb)
    have n2_ := zA (zaa (zB HB) hb)
    clear HO236 BK233 HB
    have HO236 := n0_
    have BK233 := n1_
    have HB := n2_
    clear n0_ n1_ n2_
    (try clear hb)
    (try clear hb2)
    (try clear hk)
    (try clear hi)
    refine hK.out _ _ ⟨(zab BK233.out 0).trans rfl, (zab BK233.out 1).trans rfl⟩ (fun hHeld => ?_)
    clear hK K
    refine norm_ (a' := ?_) ?_ ?_
    rotate_left
    ·
     show Act.put _ (some 13) _ = _
     simp only [Act.put, zs1, zs2, zs3, i64_w, i32_w]
     rfl
    refine pure_ (i := 3) (N := some 14) (v := ?_) (a' := ?_) #[true, true, true, true, true, true, false, false, false] rfl rfl (za0 HT_.out (by kernel_rfl)) (fun _ _ _ h => h) (Or.inl ⟨by rfl, ?_⟩) ?_ ?_
    rotate_left
    ·
     intro w'
     go_simp
     with_reducible rfl
    rotate_left
    ·
     simp only [Act.put, zs1, zs2, zs3, i64_w, i32_w]
     rfl
    refine one_ (i := 6) (N := some 17) #[true, true, true, true, true, true, true, false, false] rfl rfl (zb4 HT_.out (by kernel_rfl)) (by decide) (fun K hK => ?_)
    refine goes_ Tryd.func50 (by kernel_rfl) rfl #[.slice A0_1 l0_1.length c0_1] (by rfl) rfl rfl (zE) ?_
    with_reducible refine (zbq.calls k (fun k_ => k_ < w.heap.size) _ _ l0_1 t240 _ ?side1 ?side2 A15.out).mono ?_
    (case side1 => exact Kd.V_mk HC0_1.out (Kd.F_below (Kd.C_F (Kd.heap_int .u64) HR0_1.out) (zB HB)))
    (case side2 => exact Glob.below HG.out (zB HB))
    rintro e w24 ⟨rfl, hb⟩
    refine ⟨_, rfl, ?_⟩
    have n0_ := zA (Kd.zaw (zV HO236) hb)
    have n1_ := zA (zac (g := gb233) (o := .cells #[.slice A0_0 l0_0.length c0_0, .slice A0_1 l0_1.length c0_1] 28 (0, 0)) (zK BK233) hb)
    have n2_ := zA (zaa (zB HB) hb)
    clear HO236 BK233 HB
    have HO236 := n0_
    have BK233 := n1_
    have HB := n2_
    clear n0_ n1_ n2_
    (try clear hb)
    (try clear hb2)
    (try clear hk)
    (try clear hi)
    refine hK.out _ _ ⟨(zab BK233.out 0).trans rfl, (zab BK233.out 1).trans rfl⟩ (fun hHeld => ?_)
    clear hK K
    refine norm_ (a' := ?_) ?_ ?_
    rotate_left
    ·
     show Act.put _ (some 17) _ = _
     simp only [Act.put, zs1, zs2, zs3, i64_w, i32_w]
     rfl
    refine pure_ (i := 7) (N := some 18) (v := ?_) (a' := ?_) #[true, true, true, true, true, true, true, true, false] rfl rfl (za0 HT_.out (by kernel_rfl)) (fun _ _ _ h => h) (Or.inl ⟨by rfl, ?_⟩) ?_ ?_
    rotate_left
    ·
     intro w'
     go_simp
     with_reducible rfl
    rotate_left
    ·
     simp only [Act.put, zs1, zs2, zs3, i64_w, i32_w]
     rfl
    refine pure_ (i := 8) (N := some 2) (v := ?_) (a' := ?_) #[true, true, true, true, true, true, true, true, true] rfl rfl (za0 HT_.out (by kernel_rfl)) (fun _ _ _ h => h) (Or.inl ⟨by rfl, ?_⟩) ?_ ?_
    rotate_left
    ·
     intro w'
     go_simp
     with_reducible rfl
    rotate_left
    ·
     simp only [Act.put, zs1, zs2, zs3, i64_w, i32_w]
     rfl
    refine done_ (done_of HT_.out (by kernel_rfl)) ?_
    try go_wp2
    go_ret
    exact ⟨zW, zB HB⟩
   ·
    rw [if_neg c16] at H
    exact absurd H (by simp)
  ·
   rw [if_neg c14] at H
   exact absurd H (by simp)
def zbt.f (k : Nat)  : Option (Bool) := (zck.f k 6).bind fun t241 => ((zck.f k 4).bind fun t244 => ((zb8.f k t241 t244).bind fun bt247 => (if bt247.2.2 = 0 then ((za8.f k bt247.1 bt247.2.1).bind fun t255 => (if t255.toList = ([51, 47, 50] : List UInt8) then ((zbo.f k bt247.1 bt247.2.1).bind fun t256 => ((zbq.f k t256).bind fun t259 => (some (t259.toList == ([49] : List UInt8))))) else (some false))) else (some false))))
theorem zbt.mono : ∀ k, LeO (zbt.f k ) (zbt.f (k + 1) ) := by
 intro  k
 unfold zbt.f
 repeat' first
   | (with_reducible exact zck.mono _ _)
   | (with_reducible exact zbq.mono _ _)
   | (with_reducible exact zb8.mono _ _ _)
   | (with_reducible exact zbo.mono _ _ _)
   | (with_reducible exact za8.mono _ _ _)
   | (with_reducible exact LeO.refl _)
   | (with_reducible exact LeO.none _)
   | (with_reducible refine LeO.ite ?_ ?_)
   | (with_reducible refine LeO.bind ?_ (fun _ => ?_))
   | exact zck.mono _ _
   | exact zbq.mono _ _
   | exact zb8.mono _ _ _
   | exact zbo.mono _ _ _
   | exact za8.mono _ _ _
   | exact LeO.none _
   | refine LeO.ite ?_ ?_
   | refine LeO.bind ?_ (fun _ => ?_)
theorem zbt.calls (k : Nat)  (r : Bool) (w : World) (hG : Glob w) (h : zbt.f k  = some r) :
  Calls Tryd.prog 14 #[] w fun e w' => e = .returned (.bool r) ∧ Below w.heap.size w w' := by
 have hu28 := Tryd.underlying28
 have HG := zA hG
 clear hG
 have HB := zA (Below.refl w.heap.size w)
 have H : ((zck.f k 6).bind fun t241 => ((zck.f k 4).bind fun t244 => ((zb8.f k t241 t244).bind fun bt247 => (if bt247.2.2 = 0 then ((za8.f k bt247.1 bt247.2.1).bind fun t255 => (if t255.toList = ([51, 47, 50] : List UInt8) then ((zbo.f k bt247.1 bt247.2.1).bind fun t256 => ((zbq.f k t256).bind fun t259 => (some (t259.toList == ([49] : List UInt8))))) else (some false))) else (some false))))) = some r := h
 clear h
 replace H := zO H
 obtain ⟨t241, A10, H⟩ := H
 try dsimp only at H
 have A1 := zA A10
 clear A10
 replace H := zO H
 obtain ⟨t244, A20, H⟩ := H
 try dsimp only at H
 have A2 := zA A20
 clear A20
 replace H := zO H
 obtain ⟨⟨t247, t250, t253⟩, A30, H⟩ := H
 try dsimp only at H
 have A3 := zA A30
 clear A30
 by_cases c4 : t253 = 0
 ·
  rw [if_pos c4] at H
  have c4b0 : (t253 == 0) = true := beq_iff_eq.mpr c4
  have c4b1 : (t253 != 0) = false := bne_eq_false_iff_eq.mpr c4
  clear c4
  replace H := zO H
  obtain ⟨t255, A50, H⟩ := H
  try dsimp only at H
  have A5 := zA A50
  clear A50
  by_cases c6 : t255.toList = ([51, 47, 50] : List UInt8)
  ·
   rw [if_pos c6] at H
   have c6b0 : (t255.toList == ([51, 47, 50] : List UInt8)) = true := beq_iff_eq.mpr c6
   have c6b1 : (t255.toList != ([51, 47, 50] : List UInt8)) = false := bne_eq_false_iff_eq.mpr c6
   clear c6
   replace H := zO H
   obtain ⟨t256, A70, H⟩ := H
   try dsimp only at H
   have A7 := zA A70
   clear A70
   replace H := zO H
   obtain ⟨t259, A80, H⟩ := H
   try dsimp only at H
   have A8 := zA A80
   clear A80
   obtain rfl := Option.some.inj H
   go_enter Tryd.func14, Tryd.ntmps14
   go_wp2_with (first | ((with_reducible refine zae (f := 36) rfl ?_); refine za5 (some 4) rfl rfl Tryd.func36 (by kernel_rfl) rfl #[.int .u64 6] rfl (zE) ?_; (with_reducible refine (zck.calls k 6 t241 _ A1.out).mono ?_); rintro e w9 ⟨v242, rfl, ho0, hb⟩; refine ⟨_, rfl, ?_⟩; have n0_ := zA (Kd.za6 (Kd.zan (ok' := fun k_ => True) ho0 (fun k_ hk_ => trivial)) (za (zB HB))); have n1_ := zA (zaa (zB HB) hb); clear HB; have HO243 := n0_; have HB := n1_; clear n0_ n1_; (try clear hb); (try clear hb2); (try clear hk); (try clear hi); (try clear ho0)) | ((with_reducible refine zae (f := 36) rfl ?_); refine za5 (some 5) rfl rfl Tryd.func36 (by kernel_rfl) rfl #[.int .u64 4] rfl (zE) ?_; (with_reducible refine (zck.calls k 4 t244 _ A2.out).mono ?_); rintro e w10 ⟨v245, rfl, ho0, hb⟩; refine ⟨_, rfl, ?_⟩; have n0_ := zA (Kd.zaw (zV HO243) hb); have n1_ := zA (Kd.za6 (Kd.zan (ok' := fun k_ => True) ho0 (fun k_ hk_ => trivial)) (za (zB HB))); have n2_ := zA (zaa (zB HB) hb); clear HO243 HB; have HO243 := n0_; have HO246 := n1_; have HB := n2_; clear n0_ n1_ n2_; (try clear hb); (try clear hb2); (try clear hk); (try clear hi); (try clear ho0); obtain ⟨Ao11, co11, eo11⟩ := Kd.za7 HO243.out; subst eo11; obtain ⟨Ao12, co12, eo12⟩ := Kd.za7 HO246.out; subst eo12) | ((with_reducible refine zae (f := 24) rfl ?_); refine za5 (some 6) rfl rfl Tryd.func24 (by kernel_rfl) rfl #[.slice Ao11 t241.length co11, .slice Ao12 t244.length co12] rfl (zE) ?_; (with_reducible refine (zb8.calls k _ _ t241 _ _ t244 t247 t250 t253 _ ?side1 ?side2 ?side3 ?side4 A3.out).mono ?_); (case side1 => exact zJ (Kd.zaq HO243.out).2.2); (case side2 => exact (Kd.zaq HO243.out).2.1); (case side3 => exact zJ (Kd.zaq HO246.out).2.2); (case side4 => exact (Kd.zaq HO246.out).2.1); rintro e w13 ⟨v248, v251, rfl, ho0, ho1, hb⟩; refine ⟨_, rfl, ?_⟩; have n0_ := zA (Kd.zaw (zV HO243) hb); have n1_ := zA (Kd.zaw (zV HO246) hb); have n2_ := zA (Kd.za6 (Kd.zan (ok' := fun k_ => True) ho0 (fun k_ hk_ => trivial)) (za (zB HB))); have n3_ := zA (Kd.za6 (Kd.zan (ok' := fun k_ => True) ho1 (fun k_ hk_ => trivial)) (za (zB HB))); have n4_ := zA (zaa (zB HB) hb); clear HO243 HO246 HB; have HO243 := n0_; have HO246 := n1_; have HO249 := n2_; have HO252 := n3_; have HB := n4_; clear n0_ n1_ n2_ n3_ n4_; (try clear hb); (try clear hb2); (try clear hk); (try clear hi); (try clear ho0); (try clear ho1)) | ((with_reducible refine zbe (N := 1) rfl ?_); refine zbk ?hg (N := 1) ?hd (cs := #[.slice none 0 0, .slice none 0 0]) (t := 28) ?hr ?_; (case hd => rfl); (case hg => rfl); (case hr => first | (go_simp; done) | (go_simp; rfl)); intro gb254 hg w14 hbox hb; have n0_ := zA (Kd.zaw (Kd.zcy (zV HO243) gb254 (Nat.le_of_eq hg.symm)) hb); have n1_ := zA (Kd.zaw (Kd.zcy (zV HO246) gb254 (Nat.le_of_eq hg.symm)) hb); have n2_ := zA (Kd.zaw (Kd.zcy (zV HO249) gb254 (Nat.le_of_eq hg.symm)) hb); have n3_ := zA (Kd.zaw (Kd.zcy (zV HO252) gb254 (Nat.le_of_eq hg.symm)) hb); have n4_ := zA (zaa (zB HB) hb); have n5_ := zA (hbox); have n6_ := zA ((by rw [hg]; exact (za (zB HB)) : w.heap.size ≤ gb254)); have n7_ := zA ((by rw [hg]; exact (za (zB HB)) : w.heap.size ≤ gb254)); clear HO243 HO246 HO249 HO252 HB; have HO243 := n0_; have HO246 := n1_; have HO249 := n2_; have HO252 := n3_; have HB := n4_; have BK254 := n5_; have GW254 := n6_; have GE254 := n7_; clear n0_ n1_ n2_ n3_ n4_ n5_ n6_ n7_ hb hbox hg; obtain ⟨Ao15, co15, eo15⟩ := Kd.za7 HO249.out; subst eo15; have hcz16_0 : w14.cell? ⟨gb254, 0, none⟩ = some (.slice none 0 0) := (zab BK254.out 0).trans rfl; have hcz16_1 : w14.cell? ⟨gb254, 1, none⟩ = some (.slice none 0 0) := (zab BK254.out 1).trans rfl; have hfz16_0 := zal BK254.out 0; have hfz16_1 := zal BK254.out 1; obtain ⟨Ao17, co17, eo17⟩ := Kd.za7 HO252.out; subst eo17) | (go_at_call 41; (with_reducible refine (za8.calls k _ _ t247 _ _ t250 t255 _ ?side1 ?side2 ?side3 ?side4 ?side5 A5.out).mono ?_); (case side1 => refine (Kd.zaq (e := 57) (base := w.heap.size) (ok := fun k_ => (True ∧ k_ ≠ gb254)) (n := t247.length) (c := co15) ?_).2.2; exact (by (with_reducible repeat (first | apply Kd.zbv | apply Kd.zbw | apply Kd.zb3)); exact (Kd.zan (Kd.V_far (p := ⟨gb254, 1, none⟩) (Kd.V_far (p := ⟨gb254, 0, none⟩) (Kd.zan HO249.out (fun k_ hk => (⟨hk, hk.2⟩ : _ ∧ k_ ≠ gb254))) (fun _ hk => hk.2) (.slice Ao15 t247.length co15)) (fun _ hk => hk.2) (.slice Ao17 t250.length co17)) (fun _ h_ => h_.1)))); (case side2 => exact (Kd.zaq HO249.out).2.1); (case side3 => refine (Kd.zaq (e := 57) (base := w.heap.size) (ok := fun k_ => (True ∧ k_ ≠ gb254)) (n := t250.length) (c := co17) ?_).2.2; exact (by (with_reducible repeat (first | apply Kd.zbv | apply Kd.zbw | apply Kd.zb3)); exact (Kd.zan (Kd.V_far (p := ⟨gb254, 1, none⟩) (Kd.V_far (p := ⟨gb254, 0, none⟩) (Kd.zan HO252.out (fun k_ hk => (⟨hk, hk.2⟩ : _ ∧ k_ ≠ gb254))) (fun _ hk => hk.2) (.slice Ao15 t247.length co15)) (fun _ hk => hk.2) (.slice Ao17 t250.length co17)) (fun _ h_ => h_.1)))); (case side4 => exact (Kd.zaq HO252.out).2.1); (case side5 => exact Glob.below HG.out (zB HB)); rintro e w18 ⟨rfl, hb⟩; have n0_ := zA (Kd.zaw (by (with_reducible repeat (first | apply Kd.zbv | apply Kd.zbw | apply Kd.zb3)); exact (Kd.zan (Kd.V_far (p := ⟨gb254, 1, none⟩) (Kd.V_far (p := ⟨gb254, 0, none⟩) (Kd.zan HO243.out (fun k_ hk => (⟨hk, hk.2⟩ : _ ∧ k_ ≠ gb254))) (fun _ hk => hk.2) (.slice Ao15 t247.length co15)) (fun _ hk => hk.2) (.slice Ao17 t250.length co17)) (fun _ h_ => h_.1))) hb); have n1_ := zA (Kd.zaw (by (with_reducible repeat (first | apply Kd.zbv | apply Kd.zbw | apply Kd.zb3)); exact (Kd.zan (Kd.V_far (p := ⟨gb254, 1, none⟩) (Kd.V_far (p := ⟨gb254, 0, none⟩) (Kd.zan HO246.out (fun k_ hk => (⟨hk, hk.2⟩ : _ ∧ k_ ≠ gb254))) (fun _ hk => hk.2) (.slice Ao15 t247.length co15)) (fun _ hk => hk.2) (.slice Ao17 t250.length co17)) (fun _ h_ => h_.1))) hb); have n2_ := zA (Kd.zaw (by (with_reducible repeat (first | apply Kd.zbv | apply Kd.zbw | apply Kd.zb3)); exact (Kd.zan (Kd.V_far (p := ⟨gb254, 1, none⟩) (Kd.V_far (p := ⟨gb254, 0, none⟩) (Kd.zan HO249.out (fun k_ hk => (⟨hk, hk.2⟩ : _ ∧ k_ ≠ gb254))) (fun _ hk => hk.2) (.slice Ao15 t247.length co15)) (fun _ hk => hk.2) (.slice Ao17 t250.length co17)) (fun _ h_ => h_.1))) hb); have n3_ := zA (Kd.zaw (by (with_reducible repeat (first | apply Kd.zbv | apply Kd.zbw | apply Kd.zb3)); exact (Kd.zan (Kd.V_far (p := ⟨gb254, 1, none⟩) (Kd.V_far (p := ⟨gb254, 0, none⟩) (Kd.zan HO252.out (fun k_ hk => (⟨hk, hk.2⟩ : _ ∧ k_ ≠ gb254))) (fun _ hk => hk.2) (.slice Ao15 t247.length co15)) (fun _ hk => hk.2) (.slice Ao17 t250.length co17)) (fun _ h_ => h_.1))) hb); have n4_ := zA (zac (g := gb254) (o := .cells #[.slice Ao15 t247.length co15, .slice Ao17 t250.length co17] 28 (0, 0)) (by (with_reducible repeat (first | refine zau ?_ _ | refine zat ?_ | refine zar ?_ _)); refine zb1 (cs := #[.slice Ao15 t247.length co15, .slice none 0 0]) ?_ 1 _ rfl; (with_reducible repeat (first | refine zau ?_ _ | refine zat ?_ | refine zar ?_ _)); refine zb1 (cs := #[.slice none 0 0, .slice none 0 0]) ?_ 0 _ rfl; (with_reducible repeat (first | refine zau ?_ _ | refine zat ?_ | refine zar ?_ _)); exact BK254.out) hb); have n5_ := zA (zaa (zB HB) hb); clear HO243 HO246 HO249 HO252 BK254 HB; have HO243 := n0_; have HO246 := n1_; have HO249 := n2_; have HO252 := n3_; have BK254 := n4_; have HB := n5_; clear n0_ n1_ n2_ n3_ n4_ n5_; (try clear hb); (try clear hb2); (try clear hk); (try clear hi); have hcz19_0 : w18.cell? ⟨gb254, 0, none⟩ = some (.slice Ao15 t247.length co15) := (zab BK254.out 0).trans rfl; have hcz19_1 : w18.cell? ⟨gb254, 1, none⟩ = some (.slice Ao17 t250.length co17) := (zab BK254.out 1).trans rfl; have hfz19_0 := zal BK254.out 0; have hfz19_1 := zal BK254.out 1) | (go_at_call 27; (with_reducible refine (zbo.calls k _ _ t247 _ _ t250 t256 _ ?side1 ?side2 ?side3 ?side4 A7.out).mono ?_); (case side1 => exact zJ (Kd.zaq HO249.out).2.2); (case side2 => exact (Kd.zaq HO249.out).2.1); (case side3 => exact zJ (Kd.zaq HO252.out).2.2); (case side4 => exact (Kd.zaq HO252.out).2.1); rintro e w20 ⟨v257, rfl, ho0, hb⟩; have n0_ := zA (Kd.zaw (zV HO243) hb); have n1_ := zA (Kd.zaw (zV HO246) hb); have n2_ := zA (Kd.zaw (zV HO249) hb); have n3_ := zA (Kd.zaw (zV HO252) hb); have n4_ := zA (Kd.za6 (Kd.zan (ok' := fun k_ => k_ ≠ gb254) ho0 (fun k_ hk_ => (Kd.freshB (g := gb254) (o := .cells #[.slice Ao15 t247.length co15, .slice Ao17 t250.length co17] 28 (0, 0)) (zK BK254) k_ hk_))) (za (zB HB))); have n5_ := zA (zac (g := gb254) (o := .cells #[.slice Ao15 t247.length co15, .slice Ao17 t250.length co17] 28 (0, 0)) (zK BK254) hb); have n6_ := zA (zaa (zB HB) hb); clear HO243 HO246 HO249 HO252 BK254 HB; have HO243 := n0_; have HO246 := n1_; have HO249 := n2_; have HO252 := n3_; have HO258 := n4_; have BK254 := n5_; have HB := n6_; clear n0_ n1_ n2_ n3_ n4_ n5_ n6_; (try clear hb); (try clear hb2); (try clear hk); (try clear hi); (try clear ho0); obtain ⟨Ao21, co21, eo21⟩ := Kd.za7 HO258.out; subst eo21) | (go_at_call 50; (with_reducible refine (zbq.calls k (fun k_ => k_ ≠ gb254) _ _ t256 t259 _ ?side1 ?side2 A8.out).mono ?_); (case side1 => exact HO258.out); (case side2 => exact Glob.below HG.out (zB HB)); rintro e w22 ⟨rfl, hb⟩; have n0_ := zA (Kd.zaw (zV HO243) hb); have n1_ := zA (Kd.zaw (zV HO246) hb); have n2_ := zA (Kd.zaw (zV HO249) hb); have n3_ := zA (Kd.zaw (zV HO252) hb); have n4_ := zA (Kd.zaw (zV HO258) hb); have n5_ := zA (zac (g := gb254) (o := .cells #[.slice Ao15 t247.length co15, .slice Ao17 t250.length co17] 28 (0, 0)) (zK BK254) hb); have n6_ := zA (zaa (zB HB) hb); clear HO243 HO246 HO249 HO252 HO258 BK254 HB; have HO243 := n0_; have HO246 := n1_; have HO249 := n2_; have HO252 := n3_; have HO258 := n4_; have BK254 := n5_; have HB := n6_; clear n0_ n1_ n2_ n3_ n4_ n5_ n6_; (try clear hb); (try clear hb2); (try clear hk); (try clear hi)))
   go_ret
   exact ⟨zW, zB HB⟩
  ·
   rw [if_neg c6] at H
   have c6b0 : (t255.toList == ([51, 47, 50] : List UInt8)) = false := beq_eq_false_iff_ne.mpr c6
   have c6b1 : (t255.toList != ([51, 47, 50] : List UInt8)) = true := bne_iff_ne.mpr c6
   obtain rfl := Option.some.inj H
   go_enter Tryd.func14, Tryd.ntmps14
   go_wp2_with (first | ((with_reducible refine zae (f := 36) rfl ?_); refine za5 (some 4) rfl rfl Tryd.func36 (by kernel_rfl) rfl #[.int .u64 6] rfl (zE) ?_; (with_reducible refine (zck.calls k 6 t241 _ A1.out).mono ?_); rintro e w23 ⟨v242, rfl, ho0, hb⟩; refine ⟨_, rfl, ?_⟩; have n0_ := zA (Kd.za6 (Kd.zan (ok' := fun k_ => True) ho0 (fun k_ hk_ => trivial)) (za (zB HB))); have n1_ := zA (zaa (zB HB) hb); clear HB; have HO243 := n0_; have HB := n1_; clear n0_ n1_; (try clear hb); (try clear hb2); (try clear hk); (try clear hi); (try clear ho0)) | ((with_reducible refine zae (f := 36) rfl ?_); refine za5 (some 5) rfl rfl Tryd.func36 (by kernel_rfl) rfl #[.int .u64 4] rfl (zE) ?_; (with_reducible refine (zck.calls k 4 t244 _ A2.out).mono ?_); rintro e w24 ⟨v245, rfl, ho0, hb⟩; refine ⟨_, rfl, ?_⟩; have n0_ := zA (Kd.zaw (zV HO243) hb); have n1_ := zA (Kd.za6 (Kd.zan (ok' := fun k_ => True) ho0 (fun k_ hk_ => trivial)) (za (zB HB))); have n2_ := zA (zaa (zB HB) hb); clear HO243 HB; have HO243 := n0_; have HO246 := n1_; have HB := n2_; clear n0_ n1_ n2_; (try clear hb); (try clear hb2); (try clear hk); (try clear hi); (try clear ho0); obtain ⟨Ao25, co25, eo25⟩ := Kd.za7 HO243.out; subst eo25; obtain ⟨Ao26, co26, eo26⟩ := Kd.za7 HO246.out; subst eo26) | ((with_reducible refine zae (f := 24) rfl ?_); refine za5 (some 6) rfl rfl Tryd.func24 (by kernel_rfl) rfl #[.slice Ao25 t241.length co25, .slice Ao26 t244.length co26] rfl (zE) ?_; (with_reducible refine (zb8.calls k _ _ t241 _ _ t244 t247 t250 t253 _ ?side1 ?side2 ?side3 ?side4 A3.out).mono ?_); (case side1 => exact zJ (Kd.zaq HO243.out).2.2); (case side2 => exact (Kd.zaq HO243.out).2.1); (case side3 => exact zJ (Kd.zaq HO246.out).2.2); (case side4 => exact (Kd.zaq HO246.out).2.1); rintro e w27 ⟨v248, v251, rfl, ho0, ho1, hb⟩; refine ⟨_, rfl, ?_⟩; have n0_ := zA (Kd.zaw (zV HO243) hb); have n1_ := zA (Kd.zaw (zV HO246) hb); have n2_ := zA (Kd.za6 (Kd.zan (ok' := fun k_ => True) ho0 (fun k_ hk_ => trivial)) (za (zB HB))); have n3_ := zA (Kd.za6 (Kd.zan (ok' := fun k_ => True) ho1 (fun k_ hk_ => trivial)) (za (zB HB))); have n4_ := zA (zaa (zB HB) hb); clear HO243 HO246 HB; have HO243 := n0_; have HO246 := n1_; have HO249 := n2_; have HO252 := n3_; have HB := n4_; clear n0_ n1_ n2_ n3_ n4_; (try clear hb); (try clear hb2); (try clear hk); (try clear hi); (try clear ho0); (try clear ho1)) | ((with_reducible refine zbe (N := 1) rfl ?_); refine zbk ?hg (N := 1) ?hd (cs := #[.slice none 0 0, .slice none 0 0]) (t := 28) ?hr ?_; (case hd => rfl); (case hg => rfl); (case hr => first | (go_simp; done) | (go_simp; rfl)); intro gb254 hg w28 hbox hb; have n0_ := zA (Kd.zaw (Kd.zcy (zV HO243) gb254 (Nat.le_of_eq hg.symm)) hb); have n1_ := zA (Kd.zaw (Kd.zcy (zV HO246) gb254 (Nat.le_of_eq hg.symm)) hb); have n2_ := zA (Kd.zaw (Kd.zcy (zV HO249) gb254 (Nat.le_of_eq hg.symm)) hb); have n3_ := zA (Kd.zaw (Kd.zcy (zV HO252) gb254 (Nat.le_of_eq hg.symm)) hb); have n4_ := zA (zaa (zB HB) hb); have n5_ := zA (hbox); have n6_ := zA ((by rw [hg]; exact (za (zB HB)) : w.heap.size ≤ gb254)); have n7_ := zA ((by rw [hg]; exact (za (zB HB)) : w.heap.size ≤ gb254)); clear HO243 HO246 HO249 HO252 HB; have HO243 := n0_; have HO246 := n1_; have HO249 := n2_; have HO252 := n3_; have HB := n4_; have BK254 := n5_; have GW254 := n6_; have GE254 := n7_; clear n0_ n1_ n2_ n3_ n4_ n5_ n6_ n7_ hb hbox hg; obtain ⟨Ao29, co29, eo29⟩ := Kd.za7 HO249.out; subst eo29; have hcz30_0 : w28.cell? ⟨gb254, 0, none⟩ = some (.slice none 0 0) := (zab BK254.out 0).trans rfl; have hcz30_1 : w28.cell? ⟨gb254, 1, none⟩ = some (.slice none 0 0) := (zab BK254.out 1).trans rfl; have hfz30_0 := zal BK254.out 0; have hfz30_1 := zal BK254.out 1; obtain ⟨Ao31, co31, eo31⟩ := Kd.za7 HO252.out; subst eo31) | (go_at_call 41; (with_reducible refine (za8.calls k _ _ t247 _ _ t250 t255 _ ?side1 ?side2 ?side3 ?side4 ?side5 A5.out).mono ?_); (case side1 => refine (Kd.zaq (e := 57) (base := w.heap.size) (ok := fun k_ => (True ∧ k_ ≠ gb254)) (n := t247.length) (c := co29) ?_).2.2; exact (by (with_reducible repeat (first | apply Kd.zbv | apply Kd.zbw | apply Kd.zb3)); exact (Kd.zan (Kd.V_far (p := ⟨gb254, 1, none⟩) (Kd.V_far (p := ⟨gb254, 0, none⟩) (Kd.zan HO249.out (fun k_ hk => (⟨hk, hk.2⟩ : _ ∧ k_ ≠ gb254))) (fun _ hk => hk.2) (.slice Ao29 t247.length co29)) (fun _ hk => hk.2) (.slice Ao31 t250.length co31)) (fun _ h_ => h_.1)))); (case side2 => exact (Kd.zaq HO249.out).2.1); (case side3 => refine (Kd.zaq (e := 57) (base := w.heap.size) (ok := fun k_ => (True ∧ k_ ≠ gb254)) (n := t250.length) (c := co31) ?_).2.2; exact (by (with_reducible repeat (first | apply Kd.zbv | apply Kd.zbw | apply Kd.zb3)); exact (Kd.zan (Kd.V_far (p := ⟨gb254, 1, none⟩) (Kd.V_far (p := ⟨gb254, 0, none⟩) (Kd.zan HO252.out (fun k_ hk => (⟨hk, hk.2⟩ : _ ∧ k_ ≠ gb254))) (fun _ hk => hk.2) (.slice Ao29 t247.length co29)) (fun _ hk => hk.2) (.slice Ao31 t250.length co31)) (fun _ h_ => h_.1)))); (case side4 => exact (Kd.zaq HO252.out).2.1); (case side5 => exact Glob.below HG.out (zB HB)); rintro e w32 ⟨rfl, hb⟩; have n0_ := zA (Kd.zaw (by (with_reducible repeat (first | apply Kd.zbv | apply Kd.zbw | apply Kd.zb3)); exact (Kd.zan (Kd.V_far (p := ⟨gb254, 1, none⟩) (Kd.V_far (p := ⟨gb254, 0, none⟩) (Kd.zan HO243.out (fun k_ hk => (⟨hk, hk.2⟩ : _ ∧ k_ ≠ gb254))) (fun _ hk => hk.2) (.slice Ao29 t247.length co29)) (fun _ hk => hk.2) (.slice Ao31 t250.length co31)) (fun _ h_ => h_.1))) hb); have n1_ := zA (Kd.zaw (by (with_reducible repeat (first | apply Kd.zbv | apply Kd.zbw | apply Kd.zb3)); exact (Kd.zan (Kd.V_far (p := ⟨gb254, 1, none⟩) (Kd.V_far (p := ⟨gb254, 0, none⟩) (Kd.zan HO246.out (fun k_ hk => (⟨hk, hk.2⟩ : _ ∧ k_ ≠ gb254))) (fun _ hk => hk.2) (.slice Ao29 t247.length co29)) (fun _ hk => hk.2) (.slice Ao31 t250.length co31)) (fun _ h_ => h_.1))) hb); have n2_ := zA (Kd.zaw (by (with_reducible repeat (first | apply Kd.zbv | apply Kd.zbw | apply Kd.zb3)); exact (Kd.zan (Kd.V_far (p := ⟨gb254, 1, none⟩) (Kd.V_far (p := ⟨gb254, 0, none⟩) (Kd.zan HO249.out (fun k_ hk => (⟨hk, hk.2⟩ : _ ∧ k_ ≠ gb254))) (fun _ hk => hk.2) (.slice Ao29 t247.length co29)) (fun _ hk => hk.2) (.slice Ao31 t250.length co31)) (fun _ h_ => h_.1))) hb); have n3_ := zA (Kd.zaw (by (with_reducible repeat (first | apply Kd.zbv | apply Kd.zbw | apply Kd.zb3)); exact (Kd.zan (Kd.V_far (p := ⟨gb254, 1, none⟩) (Kd.V_far (p := ⟨gb254, 0, none⟩) (Kd.zan HO252.out (fun k_ hk => (⟨hk, hk.2⟩ : _ ∧ k_ ≠ gb254))) (fun _ hk => hk.2) (.slice Ao29 t247.length co29)) (fun _ hk => hk.2) (.slice Ao31 t250.length co31)) (fun _ h_ => h_.1))) hb); have n4_ := zA (zac (g := gb254) (o := .cells #[.slice Ao29 t247.length co29, .slice Ao31 t250.length co31] 28 (0, 0)) (by (with_reducible repeat (first | refine zau ?_ _ | refine zat ?_ | refine zar ?_ _)); refine zb1 (cs := #[.slice Ao29 t247.length co29, .slice none 0 0]) ?_ 1 _ rfl; (with_reducible repeat (first | refine zau ?_ _ | refine zat ?_ | refine zar ?_ _)); refine zb1 (cs := #[.slice none 0 0, .slice none 0 0]) ?_ 0 _ rfl; (with_reducible repeat (first | refine zau ?_ _ | refine zat ?_ | refine zar ?_ _)); exact BK254.out) hb); have n5_ := zA (zaa (zB HB) hb); clear HO243 HO246 HO249 HO252 BK254 HB; have HO243 := n0_; have HO246 := n1_; have HO249 := n2_; have HO252 := n3_; have BK254 := n4_; have HB := n5_; clear n0_ n1_ n2_ n3_ n4_ n5_; (try clear hb); (try clear hb2); (try clear hk); (try clear hi)))
   go_ret
   exact ⟨zW, zB HB⟩
 ·
  rw [if_neg c4] at H
  have c4b0 : (t253 == 0) = false := beq_eq_false_iff_ne.mpr c4
  have c4b1 : (t253 != 0) = true := bne_iff_ne.mpr c4
  obtain rfl := Option.some.inj H
  go_enter Tryd.func14, Tryd.ntmps14
  go_wp2_with (first | ((with_reducible refine zae (f := 36) rfl ?_); refine za5 (some 4) rfl rfl Tryd.func36 (by kernel_rfl) rfl #[.int .u64 6] rfl (zE) ?_; (with_reducible refine (zck.calls k 6 t241 _ A1.out).mono ?_); rintro e w33 ⟨v242, rfl, ho0, hb⟩; refine ⟨_, rfl, ?_⟩; have n0_ := zA (Kd.za6 (Kd.zan (ok' := fun k_ => True) ho0 (fun k_ hk_ => trivial)) (za (zB HB))); have n1_ := zA (zaa (zB HB) hb); clear HB; have HO243 := n0_; have HB := n1_; clear n0_ n1_; (try clear hb); (try clear hb2); (try clear hk); (try clear hi); (try clear ho0)) | ((with_reducible refine zae (f := 36) rfl ?_); refine za5 (some 5) rfl rfl Tryd.func36 (by kernel_rfl) rfl #[.int .u64 4] rfl (zE) ?_; (with_reducible refine (zck.calls k 4 t244 _ A2.out).mono ?_); rintro e w34 ⟨v245, rfl, ho0, hb⟩; refine ⟨_, rfl, ?_⟩; have n0_ := zA (Kd.zaw (zV HO243) hb); have n1_ := zA (Kd.za6 (Kd.zan (ok' := fun k_ => True) ho0 (fun k_ hk_ => trivial)) (za (zB HB))); have n2_ := zA (zaa (zB HB) hb); clear HO243 HB; have HO243 := n0_; have HO246 := n1_; have HB := n2_; clear n0_ n1_ n2_; (try clear hb); (try clear hb2); (try clear hk); (try clear hi); (try clear ho0); obtain ⟨Ao35, co35, eo35⟩ := Kd.za7 HO243.out; subst eo35; obtain ⟨Ao36, co36, eo36⟩ := Kd.za7 HO246.out; subst eo36) | ((with_reducible refine zae (f := 24) rfl ?_); refine za5 (some 6) rfl rfl Tryd.func24 (by kernel_rfl) rfl #[.slice Ao35 t241.length co35, .slice Ao36 t244.length co36] rfl (zE) ?_; (with_reducible refine (zb8.calls k _ _ t241 _ _ t244 t247 t250 t253 _ ?side1 ?side2 ?side3 ?side4 A3.out).mono ?_); (case side1 => exact zJ (Kd.zaq HO243.out).2.2); (case side2 => exact (Kd.zaq HO243.out).2.1); (case side3 => exact zJ (Kd.zaq HO246.out).2.2); (case side4 => exact (Kd.zaq HO246.out).2.1); rintro e w37 ⟨v248, v251, rfl, ho0, ho1, hb⟩; refine ⟨_, rfl, ?_⟩; have n0_ := zA (Kd.zaw (zV HO243) hb); have n1_ := zA (Kd.zaw (zV HO246) hb); have n2_ := zA (Kd.za6 (Kd.zan (ok' := fun k_ => True) ho0 (fun k_ hk_ => trivial)) (za (zB HB))); have n3_ := zA (Kd.za6 (Kd.zan (ok' := fun k_ => True) ho1 (fun k_ hk_ => trivial)) (za (zB HB))); have n4_ := zA (zaa (zB HB) hb); clear HO243 HO246 HB; have HO243 := n0_; have HO246 := n1_; have HO249 := n2_; have HO252 := n3_; have HB := n4_; clear n0_ n1_ n2_ n3_ n4_; (try clear hb); (try clear hb2); (try clear hk); (try clear hi); (try clear ho0); (try clear ho1)) | ((with_reducible refine zbe (N := 1) rfl ?_); refine zbk ?hg (N := 1) ?hd (cs := #[.slice none 0 0, .slice none 0 0]) (t := 28) ?hr ?_; (case hd => rfl); (case hg => rfl); (case hr => first | (go_simp; done) | (go_simp; rfl)); intro gb254 hg w38 hbox hb; have n0_ := zA (Kd.zaw (Kd.zcy (zV HO243) gb254 (Nat.le_of_eq hg.symm)) hb); have n1_ := zA (Kd.zaw (Kd.zcy (zV HO246) gb254 (Nat.le_of_eq hg.symm)) hb); have n2_ := zA (Kd.zaw (Kd.zcy (zV HO249) gb254 (Nat.le_of_eq hg.symm)) hb); have n3_ := zA (Kd.zaw (Kd.zcy (zV HO252) gb254 (Nat.le_of_eq hg.symm)) hb); have n4_ := zA (zaa (zB HB) hb); have n5_ := zA (hbox); have n6_ := zA ((by rw [hg]; exact (za (zB HB)) : w.heap.size ≤ gb254)); have n7_ := zA ((by rw [hg]; exact (za (zB HB)) : w.heap.size ≤ gb254)); clear HO243 HO246 HO249 HO252 HB; have HO243 := n0_; have HO246 := n1_; have HO249 := n2_; have HO252 := n3_; have HB := n4_; have BK254 := n5_; have GW254 := n6_; have GE254 := n7_; clear n0_ n1_ n2_ n3_ n4_ n5_ n6_ n7_ hb hbox hg; obtain ⟨Ao39, co39, eo39⟩ := Kd.za7 HO249.out; subst eo39; have hcz40_0 : w38.cell? ⟨gb254, 0, none⟩ = some (.slice none 0 0) := (zab BK254.out 0).trans rfl; have hcz40_1 : w38.cell? ⟨gb254, 1, none⟩ = some (.slice none 0 0) := (zab BK254.out 1).trans rfl; have hfz40_0 := zal BK254.out 0; have hfz40_1 := zal BK254.out 1; obtain ⟨Ao41, co41, eo41⟩ := Kd.za7 HO252.out; subst eo41))
  go_ret
  exact ⟨zW, zB HB⟩
def Ev {α : Type} (F : Nat → Option α) (r : α) : Prop := ∃ K, ∀ k, K ≤ k → F k = some r
theorem Ev.const {α : Type} (r : α) : Ev (fun _ => some r) r := ⟨0, fun _ _ => rfl⟩
theorem Ev.of {α : Type} {F : Nat → Option α} {r : α} (h : ∀ k, F k = some r) : Ev F r := ⟨0, fun k _ => h k⟩
theorem Ev.congr {α : Type} {F G : Nat → Option α} {r : α} (h : ∀ k, F k = G k) (hg : Ev G r) : Ev F r := by
 obtain ⟨K, hK⟩ := hg
 exact ⟨K, fun k hk => (h k).trans (hK k hk)⟩
theorem Ev.step {α : Type} {F G : Nat → Option α} {r : α} (h : ∀ k, F (k + 1) = G k) (hg : Ev G r) : Ev F r := by
 obtain ⟨K, hK⟩ := hg
 refine ⟨K + 1, fun k hk => ?_⟩
 obtain ⟨m, rfl⟩ : ∃ m, k = m + 1 := ⟨k - 1, by omega⟩
 exact (h m).trans (hK m (by omega))
theorem Ev.bind {α β : Type} {F : Nat → Option α} {G : Nat → α → Option β} {x : α} {r : β} (hf : Ev F x) (hg : Ev (fun k => G k x) r) : Ev (fun k => (F k).bind (G k)) r := by
 obtain ⟨K, hK⟩ := hf
 obtain ⟨L, hL⟩ := hg
 refine ⟨K + L, fun k hk => ?_⟩
 show (F k).bind (G k) = some r
 rw [hK k (by omega)]
 exact hL k (by omega)
theorem Ev.get {α : Type} {F : Nat → Option α} {r : α} (h : Ev F r) : ∃ k, F k = some r := by
 obtain ⟨K, hK⟩ := h
 exact ⟨K, hK K (Nat.le_refl _)⟩
theorem w64s {x : Int} (h0 : -9223372036854775808 ≤ x) (h1 : x < 9223372036854775808) : wrap64 x = x := by unfold wrap64; omega
def val (B : Nat) : List Int → Nat
 | [] => 0
 | x :: xs => x.toNat + B * val B xs
def Dig (B : Nat) (l : List Int) : Prop := ∀ x ∈ l, 0 ≤ x ∧ x < (B : Int)
def strip : List Int → List Int
 | [] => []
 | x :: xs => if strip xs = [] then (if x = 0 then [] else [x]) else x :: strip xs
def dig (B n : Nat) : List Int := if h : n = 0 ∨ B ≤ 1 then [] else ((n % B : Nat) : Int) :: dig B (n / B)
termination_by n
decreasing_by exact Nat.div_lt_self (by omega) (by omega)
theorem zch (B : Nat) : dig B 0 = [] := by rw [dig]; simp
theorem dig_pos {B n : Nat} (hB : 1 < B) (hn : n ≠ 0) : dig B n = ((n % B : Nat) : Int) :: dig B (n / B) := by
 rw [dig, dif_neg (by omega)]
theorem dig_ne {B n : Nat} (hB : 1 < B) (hn : n ≠ 0) : dig B n ≠ [] := by rw [dig_pos hB hn]; simp
theorem zcm {B : Nat} (hB : 1 < B) (n : Nat) : val B (dig B n) = n := by
 induction n using Nat.strongRecOn with
 | ind n ih =>
  by_cases hn : n = 0
  ·
   subst hn
   rw [zch]
   rfl
  ·
   rw [dig_pos hB hn, val, ih (n / B) (Nat.div_lt_self (by omega) hB)]
   have := Nat.mod_add_div n B
   omega
theorem zcl {B : Nat} (hB : 1 < B) (n : Nat) : Dig B (dig B n) := by
 induction n using Nat.strongRecOn with
 | ind n ih =>
  by_cases hn : n = 0
  ·
   subst hn
   rw [zch]
   intro x hx
   cases hx
  ·
   rw [dig_pos hB hn]
   intro x hx
   rcases List.mem_cons.1 hx with rfl | hx
   ·
    have := Nat.mod_lt n (show 0 < B by omega)
    omega
   ·
    exact ih (n / B) (Nat.div_lt_self (by omega) hB) x hx
theorem Dig.cons {B : Nat} {x : Int} {l : List Int} (h : Dig B (x :: l)) : (0 ≤ x ∧ x < (B : Int)) ∧ Dig B l := ⟨h x (by simp), fun y hy => h y (by simp [hy])⟩
theorem Dig.mk {B : Nat} {x : Int} {l : List Int} (h0 : 0 ≤ x) (h1 : x < (B : Int)) (h : Dig B l) : Dig B (x :: l) := by
 intro y hy
 rcases List.mem_cons.1 hy with rfl | hy
 ·
  exact ⟨h0, h1⟩
 ·
  exact h y hy
theorem Dig.nil (B : Nat) : Dig B [] := by intro x hx; cases hx
theorem Dig.app {B : Nat} {a b : List Int} (ha : Dig B a) (hb : Dig B b) : Dig B (a ++ b) := by
 intro x hx
 rcases List.mem_append.1 hx with h | h
 ·
  exact ha x h
 ·
  exact hb x h
theorem strip_dig {B : Nat} (hB : 1 < B) : ∀ (l : List Int), Dig B l → strip l = dig B (val B l)
 | [], _ => by rw [val, zch]; rfl
 | x :: xs, h => by
  obtain ⟨⟨h0, h1⟩, h2⟩ := h.cons
  have ih := strip_dig hB xs h2
  have hm : ∀ v, (x.toNat + B * v) % B = x.toNat := fun v => by
   rw [Nat.add_mul_mod_self_left, Nat.mod_eq_of_lt (by omega)]
  have hd : ∀ v, (x.toNat + B * v) / B = v := fun v => by
   rw [Nat.add_mul_div_left _ _ (by omega), Nat.div_eq_of_lt (by omega), Nat.zero_add]
  rw [strip, val, ih]
  by_cases hv : val B xs = 0
  ·
   rw [hv, zch, if_pos rfl]
   by_cases hx : x = 0
   ·
    subst hx
    simp [zch]
   ·
    rw [if_neg hx, dig_pos hB (by omega), hm, hd, zch]
    congr 1
    omega
  ·
   rw [if_neg (dig_ne hB hv)]
   have hne : x.toNat + B * val B xs ≠ 0 := by
    have := Nat.mul_pos (show 0 < B by omega) (Nat.pos_of_ne_zero hv)
    omega
   rw [dig_pos hB hne, hm, hd]
   congr 1
   omega
theorem strip_snoc0 : ∀ (l : List Int), strip (l ++ [0]) = strip l
 | [] => by simp [strip]
 | x :: xs => by
  rw [List.cons_append, strip, strip, strip_snoc0 xs]
theorem strip_snoc : ∀ (l : List Int) (x : Int), x ≠ 0 → strip (l ++ [x]) = l ++ [x]
 | [], x, h => by simp [strip, h]
 | y :: ys, x, h => by
  rw [List.cons_append, strip, strip_snoc ys x h, if_neg (by simp)]
def Good (l : List Int) : Prop := l = [] ∨ l.getD (l.length - 1) 0 ≠ 0
theorem good_dig {B : Nat} (hB : 1 < B) {l : List Int} (h : Dig B l) (hg : Good l) : l = dig B (val B l) := by
 rw [← strip_dig hB l h]
 rcases List.eq_nil_or_concat l with rfl | ⟨ys, y, rfl⟩
 ·
  rfl
 ·
  rcases hg with hg | hg
  ·
   simp at hg
  ·
   rw [List.concat_eq_append] at hg ⊢
   rw [strip_snoc _ _ (by simpa using hg)]
theorem dig_last {B : Nat} (hB : 1 < B) (n : Nat) : Good (dig B n) := by
 induction n using Nat.strongRecOn with
 | ind n ih =>
  by_cases hn : n = 0
  ·
   subst hn
   exact .inl (zch B)
  ·
   right
   rw [dig_pos hB hn]
   have ih := ih (n / B) (Nat.div_lt_self (by omega) hB)
   by_cases hd : n / B = 0
   ·
    rw [hd, zch]
    have h1 := Nat.div_add_mod n B
    rw [hd] at h1
    simp
    omega
   ·
    have hne := dig_ne hB hd
    rcases ih with ih | ih
    ·
     exact absurd ih hne
    ·
     have hl : 0 < (dig B (n / B)).length := List.length_pos_iff.2 hne
     simp only [List.length_cons, Nat.add_sub_cancel]
     rw [show (dig B (n / B)).length = (dig B (n / B)).length - 1 + 1 by omega, List.getD_cons_succ]
     exact ih
theorem dig_length {B : Nat} (hB : 1 < B) : ∀ (m n : Nat), n < B ^ m → (dig B n).length ≤ m
 | 0, n, h => by
  have : n = 0 := by simpa using h
  subst this
  rw [zch]
  exact Nat.le_refl _
 | m + 1, n, h => by
  by_cases hn : n = 0
  ·
   subst hn
   rw [zch]
   exact Nat.zero_le _
  ·
   rw [dig_pos hB hn, List.length_cons]
   have : n / B < B ^ m := by
    rw [Nat.div_lt_iff_lt_mul (by omega)]
    rwa [Nat.pow_succ] at h
   have := dig_length hB m _ this
   omega
theorem val_lt {B : Nat} : ∀ (l : List Int), Dig B l → val B l < B ^ l.length
 | [], _ => by simp [val]
 | x :: xs, h => by
  obtain ⟨⟨h0, h1⟩, h2⟩ := h.cons
  have ih := val_lt xs h2
  rw [val, List.length_cons, Nat.pow_succ]
  have : B * (val B xs + 1) ≤ B * B ^ xs.length := Nat.mul_le_mul_left _ ih
  rw [Nat.mul_add] at this
  rw [Nat.mul_comm (B ^ xs.length)]
  omega
def V (B : Nat) (l : List Int) (i : Nat) : Nat := val B (l.drop i)
theorem zda (B : Nat) (l : List Int) : V B l 0 = val B l := rfl
theorem V_end (B : Nat) {l : List Int} {i : Nat} (h : l.length ≤ i) : V B l i = 0 := by
 unfold V
 rw [List.drop_eq_nil_of_le h]
 rfl
theorem zc1 (B : Nat) (l : List Int) (i : Nat) : V B l i = (l.getD i 0).toNat + B * V B l (i + 1) := by
 by_cases h : i < l.length
 ·
  unfold V
  rw [List.drop_eq_getElem_cons h, val, List.getD_eq_getElem?_getD, List.getElem?_eq_getElem h]
  rfl
 ·
  rw [V_end B (by omega), V_end B (by omega), List.getD_eq_getElem?_getD, List.getElem?_eq_none (by omega)]
  rfl
theorem Dig.get {B : Nat} (hB : 0 < B) {l : List Int} (h : Dig B l) (i : Nat) : 0 ≤ l.getD i 0 ∧ l.getD i 0 < (B : Int) := by
 by_cases hi : i < l.length
 ·
  rw [List.getD_eq_getElem?_getD, List.getElem?_eq_getElem hi]
  exact h _ (List.getElem_mem hi)
 ·
  rw [List.getD_eq_getElem?_getD, List.getElem?_eq_none (by omega)]
  simp
  omega
theorem V_pos {B : Nat} (hB : 1 < B) {l : List Int} (h : Dig B l) (hg : Good l) (i : Nat) (hi : i < l.length) : 0 < V B l i := by
 rcases hg with rfl | hg
 ·
  simp at hi
 ·
  obtain ⟨m, hm⟩ : ∃ m, l.length - 1 = i + m := ⟨l.length - 1 - i, by omega⟩
  rw [hm] at hg
  have key : ∀ m i, l.getD (i + m) 0 ≠ 0 → 0 < V B l i := by
   intro m
   induction m with
   | zero =>
    intro i h0
    rw [zc1]
    have := (h.get (show 0 < B by omega) i).1
    rw [Nat.add_zero] at h0
    omega
   | succ m ih =>
    intro i h0
    rw [zc1]
    have := ih (i + 1) (by rw [show i + 1 + m = i + (m + 1) by omega]; exact h0)
    have := Nat.mul_pos (show 0 < B by omega) this
    omega
  exact key m i hg
theorem rd_nat (l : List Int) (i : Nat) : rd l (i : Int) = l.getD i 0 := by
 unfold rd
 simp
theorem val_append (B : Nat) : ∀ (a b : List Int), val B (a ++ b) = val B a + B ^ a.length * val B b
 | [], b => by simp [val]
 | x :: xs, b => by
  rw [List.cons_append, val, val, val_append B xs b, List.length_cons, Nat.pow_succ, Nat.mul_add, ← Nat.mul_assoc, Nat.mul_comm B (B ^ xs.length)]
  omega
theorem zci (B : Nat) : ∀ n, val B (List.replicate n 0) = 0
 | 0 => rfl
 | n + 1 => by rw [List.replicate_succ, val, zci B n]; simp
theorem Dig.rep {B : Nat} (hB : 0 < B) (n : Nat) : Dig B (List.replicate n 0) := by
 intro x hx
 obtain ⟨_, rfl⟩ := List.mem_replicate.1 hx
 omega
theorem wadd (i j : Nat) (h : i + j < 4611686018427387904) : wrap64 ((i : Int) + (j : Int)) = ((i + j : Nat) : Int) := by rw [w64s (by omega) (by omega)]; omega
theorem wadd1 (i : Nat) (h : i < 4611686018427387904) : wrap64 ((i : Int) + 1) = ((i + 1 : Nat) : Int) := by rw [w64s (by omega) (by omega)]; omega
theorem wsub1 (i : Nat) (h : i < 4611686018427387904) (h0 : 0 < i) : wrap64 ((i : Int) - 1) = ((i - 1 : Nat) : Int) := by rw [w64s (by omega) (by omega)]; omega
theorem wid (i : Nat) (h : i < 4611686018427387904) : wrap64 (i : Int) = (i : Int) := w64s (by omega) (by omega)
def sgn (x y : Nat) : Int := if x = y then 0 else if x < y then -1 else 1
theorem take_snoc (l : List Int) (n : Nat) (h : n < l.length) : l.take (n + 1) = l.take n ++ [l.getD n 0] := by
 rw [List.take_succ_eq_append_getElem h, List.getD_eq_getElem?_getD, List.getElem?_eq_getElem h]
 rfl
theorem V_lt {B : Nat} (hB : 0 < B) {a b : List Int} (ha : Dig B a) (hb : Dig B b) : ∀ i : Nat, V B a i < V B b i → val B a < val B b
 | 0, h => h
 | i + 1, h => by
  refine V_lt hB ha hb i ?_
  rw [zc1 B a i, zc1 B b i]
  have h1 := (ha.get hB i)
  have h2 : B * (V B a (i + 1) + 1) ≤ B * V B b (i + 1) := Nat.mul_le_mul_left _ h
  rw [Nat.mul_add] at h2
  omega
theorem len_lt {B : Nat} (hB : 1 < B) {a b : List Int} (ha : Dig B a) (hb : Dig B b) (hg : Good b) (h : a.length < b.length) : val B a < val B b := by
 refine V_lt (by omega) ha hb (b.length - 1) ?_
 rw [V_end B (show a.length ≤ b.length - 1 by omega)]
 exact V_pos hB hb hg _ (by omega)
theorem pos3 {p q c : Nat} (h : 0 < p ∨ 0 < q ∨ 0 < c) : p + q + c ≠ 0 := by omega
theorem val_set (B : Nat) : ∀ (l : List Int) (j : Nat) (v : Int), j < l.length → val B (l.set j v) + B ^ j * (l.getD j 0).toNat = val B l + B ^ j * v.toNat
 | [], j, v, h => by simp at h
 | x :: xs, 0, v, h => by
  simp [val]
  omega
 | x :: xs, j + 1, v, h => by
  have ih := val_set B xs j v (by simpa using h)
  rw [List.set_cons_succ, val, val, List.getD_cons_succ, Nat.pow_succ, Nat.mul_comm (B ^ j) B, Nat.mul_assoc, Nat.mul_assoc]
  have : B * (val B (xs.set j v) + B ^ j * (xs.getD j 0).toNat) = B * (val B xs + B ^ j * v.toNat) := by rw [ih]
  rw [Nat.mul_add, Nat.mul_add] at this
  omega
theorem dig_set {B : Nat} {l : List Int} (h : Dig B l) (j : Nat) {v : Int} (h0 : 0 ≤ v) (h1 : v < (B : Int)) : Dig B (l.set j v) := by
 intro x hx
 rcases List.mem_or_eq_of_mem_set hx with h2 | rfl
 ·
  exact h x h2
 ·
  exact ⟨h0, h1⟩
theorem getD_set_ne {l : List Int} {i j : Nat} {v : Int} (h : i ≠ j) : (l.set i v).getD j 0 = l.getD j 0 := by
 rw [List.getD_eq_getElem?_getD, List.getD_eq_getElem?_getD, List.getElem?_set_ne h]
theorem mul_val (X B o x y c vo vs V V' q r : Nat) (hs : vs + X * o = vo + X * r) (hV : V = y + B * V') (hd : o + x * y + c = B * q + r) : vs + X * B * q + X * B * (x * V') = vo + X * c + X * (x * V) := by
 have h1 : X * (o + x * y + c) = X * (B * q + r) := by rw [hd]
 rw [hV]
 simp only [Nat.mul_add] at h1 ⊢
 have e1 : X * B * q = X * (B * q) := Nat.mul_assoc _ _ _
 have e2 : X * B * (x * V') = X * (x * (B * V')) := by rw [Nat.mul_assoc, Nat.mul_left_comm B x V']
 rw [e1, e2]
 omega
theorem V_bound {B : Nat} (hB : 0 < B) {l : List Int} (h : Dig B l) (i : Nat) : V B l i < B ^ l.length := by
 have h1 : Dig B (l.drop i) := fun x hx => h x (List.mem_of_mem_drop hx)
 have h2 := val_lt _ h1
 refine Nat.lt_of_lt_of_le h2 (Nat.pow_le_pow_right hB ?_)
 rw [List.length_drop]
 omega
theorem Ev.mono {α : Type} {F : Nat → Option α} (h : ∀ k, LeO (F k) (F (k + 1))) {K : Nat} {r : α} (hK : F K = some r) : Ev F r := by
 refine ⟨K, fun k hk => ?_⟩
 obtain ⟨m, rfl⟩ : ∃ m, k = K + m := ⟨k - K, by omega⟩
 clear hk
 induction m with
 | zero => exact hK
 | succ m ih => exact h (K + m) r ih
theorem sgn_add (p q c : Nat) : sgn (p + c) (q + c) = sgn p q := by
 unfold sgn
 by_cases h1 : p = q
 ·
  rw [if_pos h1, if_pos (by omega)]
 ·
  rw [if_neg h1, if_neg (by omega)]
  by_cases h2 : p < q
  ·
   rw [if_pos h2, if_pos (by omega)]
  ·
   rw [if_neg h2, if_neg (by omega)]
theorem sgn_lt {p q : Nat} (h : p < q) : sgn p q = -1 := by rw [sgn, if_neg (by omega), if_pos h]
theorem sgn_gt {p q : Nat} (h : q < p) : sgn p q = 1 := by rw [sgn, if_neg (by omega), if_neg (by omega)]
theorem top_lt {B p q x y X : Nat} (hp : p < X) (h : x < y) : p + X * x < q + X * y := by
 have : X * (x + 1) ≤ X * y := Nat.mul_le_mul_left _ h
 rw [Nat.mul_add] at this
 omega
theorem revCmp_val {B : Nat} : ∀ (n : Nat) (a b : List Int), a.length = n → b.length = n → Dig B a → Dig B b → revCmp a.reverse b.reverse = sgn (val B a) (val B b)
 | 0, a, b, ha, hb, _, _ => by
  obtain rfl := List.length_eq_zero_iff.1 ha
  obtain rfl := List.length_eq_zero_iff.1 hb
  simp [revCmp, sgn, val]
 | n + 1, a, b, ha, hb, da, db => by
  rcases List.eq_nil_or_concat a with rfl | ⟨a', x, rfl⟩
  ·
   simp at ha
  rcases List.eq_nil_or_concat b with rfl | ⟨b', y, rfl⟩
  ·
   simp at hb
  rw [List.concat_eq_append] at ha hb da db ⊢
  rw [List.concat_eq_append]
  have ha' : a'.length = n := by simpa using ha
  have hb' : b'.length = n := by simpa using hb
  have da' : Dig B a' := fun z hz => da z (by simp [hz])
  have db' : Dig B b' := fun z hz => db z (by simp [hz])
  have hx := da x (by simp)
  have hy := db y (by simp)
  have va := val_lt a' da'
  have vb := val_lt b' db'
  rw [ha'] at va
  rw [hb'] at vb
  rw [List.reverse_append, List.reverse_append, val_append, val_append, ha', hb']
  simp only [List.reverse_cons, List.reverse_nil, List.nil_append, List.cons_append, val, Nat.mul_zero, Nat.add_zero]
  rw [revCmp]
  by_cases h1 : x = y
  ·
   rw [if_pos h1, revCmp_val n a' b' ha' hb' da' db', h1, sgn_add]
  ·
   rw [if_neg h1]
   by_cases h2 : x < y
   ·
    rw [if_pos h2, sgn_lt (top_lt (B := B) va (by omega))]
   ·
    rw [if_neg h2, sgn_gt (top_lt (B := B) vb (by omega))]
theorem add_val (X B vo s q x y c va vb : Nat) (h : x + y + c = B * q + s) : vo + X * (x + B * va + (y + B * vb) + c) = vo + X * s + X * B * (va + vb + q) := by
 have h1 : X * (x + y + c) = X * (B * q + s) := by rw [h]
 have e1 : X * B * (va + vb + q) = X * (B * va) + X * (B * vb) + X * (B * q) := by
  rw [Nat.mul_assoc, Nat.mul_add, Nat.mul_add, Nat.mul_add, Nat.mul_add]
 rw [e1]
 simp only [Nat.mul_add] at h1 ⊢
 omega
theorem less_val (X W d y bo x bo' vo T va vb : Nat) (h : vo + X * (x + W * va) = T + X * (y + W * vb + bo)) (hd : d + y + bo = x + W * bo') : vo + X * d + X * W * va = T + X * W * (vb + bo') := by
 have h1 : X * (d + y + bo) = X * (x + W * bo') := by rw [hd]
 have e1 : X * W * va = X * (W * va) := Nat.mul_assoc _ _ _
 have e2 : X * W * (vb + bo') = X * (W * vb) + X * (W * bo') := by rw [Nat.mul_assoc, Nat.mul_add, Nat.mul_add]
 rw [e1, e2]
 simp only [Nat.mul_add] at h h1
 omega
theorem dig_mono {B : Nat} (hB : 1 < B) {x y : Nat} (h : x ≤ y) : (dig B x).length ≤ (dig B y).length := by
 have h1 := val_lt _ (zcl hB y)
 rw [zcm hB] at h1
 exact dig_length hB _ x (Nat.lt_of_le_of_lt h h1)
theorem Ev.pos {α : Type} {c : Prop} [Decidable c] {F G : Nat → Option α} {r : α} (hc : c) (h : Ev F r) : Ev (fun k => if c then F k else G k) r := Ev.congr (fun k => if_pos hc) h
theorem Ev.neg {α : Type} {c : Prop} [Decidable c] {F G : Nat → Option α} {r : α} (hc : ¬ c) (h : Ev G r) : Ev (fun k => if c then F k else G k) r := Ev.congr (fun k => if_neg hc) h
theorem Ev.plain {α β : Type} {x : Option α} {y : α} {G : Nat → α → Option β} {r : β} (hx : x = some y) (h : Ev (fun k => G k y) r) : Ev (fun k => x.bind (G k)) r := by subst hx; exact h
theorem W_add {x y m : Nat} (hx : x < 18446744073709551616 ^ m) (hy : y < 18446744073709551616 ^ m) : x + y < 18446744073709551616 ^ (m + 1) := by
 rw [Nat.pow_succ]
 omega
theorem W_mul {x y m n : Nat} (hx : x < 18446744073709551616 ^ m) (hy : y < 18446744073709551616 ^ n) : x * y < 18446744073709551616 ^ (m + n) := by
 rw [Nat.pow_add]
 exact Nat.mul_lt_mul'' hx hy
theorem W_le {x m n : Nat} (hx : x < 18446744073709551616 ^ m) (h : m ≤ n) : x < 18446744073709551616 ^ n := Nat.lt_of_lt_of_le hx (Nat.pow_le_pow_right (by decide) h)
theorem lit_u64 {x : Int} (h : (Lit.int .u64 x).wf = true) : 0 ≤ x ∧ x < 18446744073709551616 := by
 have h1 : IntKind.u64.min ≤ x ∧ x ≤ IntKind.u64.max := by simpa [Lit.wf] using h
 have h2 : IntKind.u64.min = 0 := by decide
 have h3 : IntKind.u64.max = 18446744073709551615 := by decide
 omega
theorem dig_lit {l : List Int} (h : ∀ x ∈ l, (Lit.int .u64 x).wf = true) : Dig 18446744073709551616 l := fun x hx => lit_u64 (h x hx)
def goodB (l : List Int) : Bool := if l.length = 0 then true else l.getD (l.length - 1) 0 != 0
theorem rGood (l : List Int) (hl : l.length < 1000000000) : zby.f l = some (goodB l) := by
 unfold zby.f goodB
 by_cases h : l.length = 0
 ·
  rw [if_pos (by omega), if_pos h]
 ·
  rw [if_neg (by omega), if_neg h, wsub1 l.length (by omega) (by omega), if_pos (by omega), if_pos (by omega), rd_nat]
theorem goodB_iff (l : List Int) : goodB l = true ↔ Good l := by
 unfold goodB Good
 by_cases h : l.length = 0
 ·
  rw [if_pos h]
  simp [List.length_eq_zero_iff.1 h]
 ·
  rw [if_neg h]
  have : l ≠ [] := fun e => h (by rw [e]; rfl)
  simp [this]
theorem ntrim_l0 : ∀ (n : Nat) (l : List Int), l.length = n → n < 1000000000 → Ev (fun k => zaz.l0 k l) (strip l) := by
 intro n
 induction n with
 | zero =>
  intro l hl _
  obtain rfl := List.length_eq_zero_iff.1 hl
  refine Ev.step (G := fun _ => some []) (fun k => ?_) (Ev.const _)
  rw [zaz.l0, if_neg (by simp)]
 | succ n ih =>
  intro l hl hn
  have e1 := Lib.hid (wsub1 l.length (by omega) (by omega))
  by_cases hz : l.getD n 0 = 0
  ·
   refine Ev.step (G := fun k => zaz.l0 k (l.take n)) (fun k => ?_) ?_
   ·
    rw [zaz.l0, if_pos (by omega), e1.out, hl, Nat.add_sub_cancel, if_pos (by omega), if_pos (by omega), rd_nat, if_pos hz, if_pos (by omega), Int.toNat_natCast]
   ·
    have e : strip l = strip (l.take n) := by
     have h2 := take_snoc l n (by omega)
     rw [hz, ← hl, List.take_length] at h2
     have h3 := strip_snoc0 (l.take n)
     rw [← h2] at h3
     exact h3
    rw [e]
    exact ih (l.take n) (by rw [List.length_take]; omega) (by omega)
  ·
   refine Ev.step (G := fun _ => some l) (fun k => ?_) ?_
   ·
    rw [zaz.l0, if_pos (by omega), e1.out, hl, Nat.add_sub_cancel, if_pos (by omega), if_pos (by omega), rd_nat, if_neg hz]
   ·
    have h2 := take_snoc l n (by omega)
    rw [← hl, List.take_length] at h2
    have e : strip l = l := by
     have h3 := strip_snoc (l.take n) _ hz
     rw [← h2] at h3
     exact h3
    rw [e]
    exact Ev.const _
theorem ntrim (l : List Int) (hl : l.length < 1000000000) (h : Dig 18446744073709551616 l) : Ev (fun k => zaz.f k l) (dig 18446744073709551616 (val 18446744073709551616 l)) := by
 rw [← strip_dig (by decide) l h]
 exact ntrim_l0 l.length l rfl hl
theorem nOf (n : Nat) (h : n < 18446744073709551616) : Ev (fun k => zck.f k (n : Int)) (dig 18446744073709551616 n) := by
 have h1 := ntrim [(n : Int)] (by simp) (Dig.mk (by omega) (by omega) (Dig.nil _))
 rw [show val 18446744073709551616 [(n : Int)] = n by simp [val]] at h1
 exact Ev.bind h1 (Ev.const _)
theorem nAt (l : List Int) (i : Nat) : zcx.f l (i : Int) = some (l.getD i 0) := by
 unfold zcx.f
 by_cases h : i < l.length
 ·
  rw [if_neg (by omega), if_pos (by omega), if_pos (by omega), rd_nat]
 ·
  rw [if_pos (by omega), List.getD_eq_getElem?_getD, List.getElem?_eq_none (by omega)]
  rfl
theorem nCmp' (a b : List Int) (ha : Dig 18446744073709551616 a) (hb : Dig 18446744073709551616 b) (ga : Good a) (gb : Good b) : natCmp a b = sgn (val 18446744073709551616 a) (val 18446744073709551616 b) := by
 unfold natCmp
 by_cases h : a.length = b.length
 ·
  rw [if_pos h, revCmp_val a.length a b rfl h.symm ha hb]
 ·
  rw [if_neg h]
  by_cases h2 : a.length < b.length
  ·
   rw [if_pos h2, sgn_lt (len_lt (by decide) ha hb gb h2)]
  ·
   rw [if_neg h2, sgn_gt (len_lt (by decide) hb ha ga (by omega))]
theorem nCmp (x y : Nat) : zcj.f (dig 18446744073709551616 x) (dig 18446744073709551616 y) = some (sgn x y) := by
 unfold zcj.f
 rw [nCmp' _ _ (zcl (by decide) x) (zcl (by decide) y) (dig_last (by decide) x) (dig_last (by decide) y), zcm (by decide), zcm (by decide)]
theorem add64 (x y c : Nat) (hc : c ≤ 1) : bits_Add64.f (x : Int) (y : Int) (c : Int) = some ((((x + y + c) % 18446744073709551616 : Nat) : Int), (((x + y + c) / 18446744073709551616 : Nat) : Int)) := by
 unfold bits_Add64.f
 rw [if_pos (by omega)]
 simp only [Int.toNat_natCast]
theorem sub64 (x y c : Nat) (hc : c ≤ 1) : bits_Sub64.f (x : Int) (y : Int) (c : Int) = some ((((x + 18446744073709551616 - y - c) % 18446744073709551616 : Nat) : Int), (((if x < y + c then 1 else 0 : Nat)) : Int)) := by
 unfold bits_Sub64.f
 rw [if_pos (by omega)]
 simp only [Int.toNat_natCast]
theorem nAdd_l0 (a b : List Int) (ha : Dig 18446744073709551616 a) (hb : Dig 18446744073709551616 b) (M : Nat) (hM : M < 1000000) (hs : a.length ≤ M) (hs' : b.length ≤ M) : ∀ (m i c : Nat) (out : List Int), i + m = M → c ≤ 1 → out.length = i → Dig 18446744073709551616 out →
  Ev (fun k => zcs.l0 k a b out (c : Int) (M : Int) (i : Int)) (dig 18446744073709551616 (val 18446744073709551616 out + 18446744073709551616 ^ i * (V 18446744073709551616 a i + V 18446744073709551616 b i + c))) := by
 intro m
 induction m with
 | zero =>
  intro i c out hi hc ho hd
  refine Ev.step (G := fun k => (zaz.f k (out ++ [(c : Int)])).bind fun t324 => some t324) (fun k => ?_) ?_
  ·
   rw [zcs.l0, if_neg (by omega), if_pos (by omega)]
  ·
   have h := ntrim (out ++ [(c : Int)]) (by rw [List.length_append, List.length_singleton]; omega) (hd.app (Dig.mk (by omega) (by omega) (Dig.nil _)))
   rw [val_append, ho] at h
   rw [V_end _ (show a.length ≤ i by omega), V_end _ (show b.length ≤ i by omega), Nat.zero_add]
   simp only [val, Int.toNat_natCast, Nat.mul_zero, Nat.add_zero] at h
   exact Ev.bind h (Ev.const _)
 | succ m ih =>
  intro i c out hi hc ho hd
  have ha1 := ha.get (show 0 < 18446744073709551616 by decide) i
  have hb1 := hb.get (show 0 < 18446744073709551616 by decide) i
  have hva := zc1 18446744073709551616 a i
  have hvb := zc1 18446744073709551616 b i
  obtain ⟨x, hx⟩ := Int.eq_ofNat_of_zero_le ha1.1
  obtain ⟨y, hy⟩ := Int.eq_ofNat_of_zero_le hb1.1
  rw [hx] at hva ha1
  rw [hy] at hvb hb1
  rw [Int.toNat_natCast] at hva hvb
  have hq : (x + y + c) / 18446744073709551616 ≤ 1 := by omega
  have ih2 := ih (i + 1) ((x + y + c) / 18446744073709551616) (out ++ [(((x + y + c) % 18446744073709551616 : Nat) : Int)]) (by omega) hq (by rw [List.length_append, ho]; rfl) (hd.app (Dig.mk (by omega) (by omega) (Dig.nil _)))
  rw [val_append, ho, Nat.pow_succ] at ih2
  simp only [val, Int.toNat_natCast, Nat.mul_zero, Nat.add_zero] at ih2
  have ev := add_val (18446744073709551616 ^ i) 18446744073709551616 (val 18446744073709551616 out) ((x + y + c) % 18446744073709551616) ((x + y + c) / 18446744073709551616) x y c (V 18446744073709551616 a (i + 1)) (V 18446744073709551616 b (i + 1)) (by omega)
  rw [← hva, ← hvb] at ev
  rw [ev]
  have WA := Lib.hid (wadd1 i (by omega))
  have H2 := Lib.hid ih2
  clear ih2 ev hva hvb
  refine Ev.step (fun k => ?_) H2.out
  rw [zcs.l0, if_pos (by omega), nAt, nAt, hx, hy, Option.bind_some, Option.bind_some, add64 x y c hc, Option.bind_some, if_pos (by omega), WA.out]
def Le (n m : Nat) : Prop := (dig 18446744073709551616 n).length ≤ m
theorem nAdd (x y : Nat) (hx : Le x 100000) (hy : Le y 100000) : Ev (fun k => zcs.f k (dig 18446744073709551616 x) (dig 18446744073709551616 y)) (dig 18446744073709551616 (x + y)) := by
 unfold Le at hx hy
 have dx := zcl (B := 18446744073709551616) (by decide) x
 have dy := zcl (B := 18446744073709551616) (by decide) y
 have vx := zcm (B := 18446744073709551616) (by decide) x
 have vy := zcm (B := 18446744073709551616) (by decide) y
 generalize dig 18446744073709551616 x = a at *
 generalize dig 18446744073709551616 y = b at *
 have h := nAdd_l0 a b dx dy (max a.length b.length) (by omega) (by omega) (by omega) (max a.length b.length) 0 0 [] (by omega) (by omega) rfl (Dig.nil _)
 rw [zda, zda, vx, vy] at h
 simp only [val, Nat.pow_zero, Nat.one_mul, Nat.zero_add, Nat.add_zero] at h
 refine Ev.congr (fun k => ?_) h
 have e : mx (a.length : Int) (b.length : Int) = ((max a.length b.length : Nat) : Int) := by
  unfold mx
  split <;> omega
 rw [zcs.f, e]
 rfl
theorem sub_digit (x y bo va vb : Nat) (hx : x < 18446744073709551616) (hy : y < 18446744073709551616) (hbo : bo ≤ 1) (h : y + 18446744073709551616 * vb + bo ≤ x + 18446744073709551616 * va) :
  (x + 18446744073709551616 - y - bo) % 18446744073709551616 + y + bo = x + 18446744073709551616 * (if x < y + bo then 1 else 0) ∧ vb + (if x < y + bo then 1 else 0) ≤ va ∧ (if x < y + bo then 1 else 0) ≤ 1 := by
 split <;> refine ⟨?_, ?_, ?_⟩ <;> omega
theorem nLess_l0 (a b : List Int) (ha : Dig 18446744073709551616 a) (hb : Dig 18446744073709551616 b) (hs : a.length < 1000000) (hs' : b.length ≤ a.length) (T : Nat) : ∀ (m i bo : Nat) (out : List Int), i + m = a.length → bo ≤ 1 → out.length = a.length → Dig 18446744073709551616 out → (∀ p, i ≤ p → out.getD p 0 = 0) →
  V 18446744073709551616 b i + bo ≤ V 18446744073709551616 a i → val 18446744073709551616 out + 18446744073709551616 ^ i * V 18446744073709551616 a i = T + 18446744073709551616 ^ i * (V 18446744073709551616 b i + bo) →
  Ev (fun k => zbb.l0 k a b out (bo : Int) (a.length : Int) (i : Int)) (dig 18446744073709551616 T) := by
 intro m
 induction m with
 | zero =>
  intro i bo out hi hbo ho hd hz hle hT
  refine Ev.step (G := fun k => (zaz.f k out).bind fun t307 => some t307) (fun k => ?_) ?_
  ·
   rw [zbb.l0, if_neg (by omega)]
  ·
   have h := ntrim out (by omega) hd
   rw [V_end _ (show a.length ≤ i by omega)] at hT hle
   have h0 : V 18446744073709551616 b i + bo = 0 := by omega
   rw [h0, Nat.mul_zero, Nat.add_zero, Nat.add_zero] at hT
   rw [hT] at h
   exact Ev.bind h (Ev.const _)
 | succ m ih =>
  intro i bo out hi hbo ho hd hz hle hT
  have ha1 := ha.get (show 0 < 18446744073709551616 by decide) i
  have hb1 := hb.get (show 0 < 18446744073709551616 by decide) i
  have hva := zc1 18446744073709551616 a i
  have hvb := zc1 18446744073709551616 b i
  obtain ⟨x, hx⟩ := Int.eq_ofNat_of_zero_le ha1.1
  obtain ⟨y, hy⟩ := Int.eq_ofNat_of_zero_le hb1.1
  rw [hx] at hva ha1
  rw [hy] at hvb hb1
  rw [Int.toNat_natCast] at hva hvb
  rw [hva, hvb] at hle hT
  obtain ⟨d1, d2, d3⟩ := sub_digit x y bo _ _ (by omega) (by omega) hbo hle
  have hset := val_set 18446744073709551616 out i (((x + 18446744073709551616 - y - bo) % 18446744073709551616 : Nat) : Int) (by omega)
  rw [hz i (Nat.le_refl _), Int.toNat_natCast, Int.toNat_zero, Nat.mul_zero, Nat.add_zero] at hset
  have hv := less_val _ _ _ _ _ _ _ _ _ _ _ hT d1
  rw [← hset, ← Nat.pow_succ] at hv
  have ih2 := ih (i + 1) (if x < y + bo then 1 else 0) (out.set i (((x + 18446744073709551616 - y - bo) % 18446744073709551616 : Nat) : Int)) (by omega) d3 (by rw [List.length_set]; exact ho) (dig_set hd _ (by omega) (by omega)) (fun p hp => by rw [getD_set_ne (by omega)]; exact hz p (by omega)) d2 hv
  have WA := Lib.hid (wadd1 i (by omega))
  have H2 := Lib.hid ih2
  clear ih2 hv hset d1 d2 d3 hT hle hva hvb
  refine Ev.step (fun k => ?_) H2.out
  rw [zbb.l0, if_pos (by omega), if_pos (by omega), if_pos (by omega), nAt, Option.bind_some, rd_nat, hx, hy, sub64 x y bo hbo, Option.bind_some, if_pos (by omega), WA.out, Int.toNat_natCast]
theorem nLess (x y : Nat) (hx : Le x 100000) (hy : y ≤ x) : Ev (fun k => zbb.f k (dig 18446744073709551616 x) (dig 18446744073709551616 y)) (dig 18446744073709551616 (x - y)) := by
 have hl := dig_mono (B := 18446744073709551616) (by decide) hy
 unfold Le at hx
 have dx := zcl (B := 18446744073709551616) (by decide) x
 have dy := zcl (B := 18446744073709551616) (by decide) y
 have vx := zcm (B := 18446744073709551616) (by decide) x
 have vy := zcm (B := 18446744073709551616) (by decide) y
 generalize dig 18446744073709551616 x = a at *
 generalize dig 18446744073709551616 y = b at *
 have h := nLess_l0 a b dx dy (by omega) hl (x - y) a.length 0 0 (List.replicate a.length 0) (by omega) (by omega) (by simp) (Dig.rep (by decide) _) (fun p _ => by
  rw [List.getD_eq_getElem?_getD, List.getElem?_replicate]
  split <;> rfl) (by rw [zda, zda, vx, vy]; omega) (by rw [zda, zda, vx, vy, zci]; simp; omega)
 refine Ev.congr (fun k => ?_) h
 rw [zbb.f, if_pos (by omega), Int.toNat_natCast, if_pos (by omega)]
 rfl
theorem nSub (x y : Nat) (hx : Le x 100000) (hy : y ≤ x) : Ev (fun k => nat_Sub.f k (dig 18446744073709551616 x) (dig 18446744073709551616 y)) (dig 18446744073709551616 (x - y), 0) := by
 have hc : ¬ sgn x y < 0 := by
  unfold sgn
  split
  ·
   omega
  ·
   rw [if_neg (by omega)]
   omega
 refine Ev.congr (G := fun k => (zbb.f k (dig 18446744073709551616 x) (dig 18446744073709551616 y)).bind fun t311 => some (t311, 0)) (fun k => ?_) (Ev.bind (nLess x y hx hy) (Ev.const _))
 rw [nat_Sub.f, nCmp, Option.bind_some, if_neg hc]
theorem Le_lt {x m : Nat} (hx : x < 18446744073709551616 ^ m) (h : m ≤ 100000) : Le x 100000 := Nat.le_trans (dig_length (by decide) m x hx) h
theorem mul64_parts (x1 x0 y1 y0 : Nat) (h1 : x1 < 4294967296) (h2 : x0 < 4294967296) (h3 : y1 < 4294967296) (h4 : y0 < 4294967296) :
  x1 * y1 ≤ 18446744065119617025 ∧ x1 * y0 ≤ 18446744065119617025 ∧ x0 * y1 ≤ 18446744065119617025 ∧ x0 * y0 ≤ 18446744065119617025 ∧
  (4294967296 * x1 + x0) * (4294967296 * y1 + y0) = 18446744073709551616 * (x1 * y1) + 4294967296 * (x1 * y0) + 4294967296 * (x0 * y1) + x0 * y0 := by
 refine ⟨Nat.mul_le_mul (show x1 ≤ 4294967295 by omega) (show y1 ≤ 4294967295 by omega), Nat.mul_le_mul (show x1 ≤ 4294967295 by omega) (show y0 ≤ 4294967295 by omega), Nat.mul_le_mul (show x0 ≤ 4294967295 by omega) (show y1 ≤ 4294967295 by omega), Nat.mul_le_mul (show x0 ≤ 4294967295 by omega) (show y0 ≤ 4294967295 by omega), ?_⟩
 rw [Nat.add_mul, Nat.mul_add, Nat.mul_add]
 have e1 : 4294967296 * x1 * (4294967296 * y1) = 18446744073709551616 * (x1 * y1) := by
  rw [Nat.mul_mul_mul_comm]
 have e2 : 4294967296 * x1 * y0 = 4294967296 * (x1 * y0) := Nat.mul_assoc _ _ _
 have e3 : x0 * (4294967296 * y1) = 4294967296 * (x0 * y1) := Nat.mul_left_comm _ _ _
 rw [e1, e2, e3]
 omega
theorem mul64_hi (x y P a b c d : Nat) (hP : P = 18446744073709551616 * a + 4294967296 * b + 4294967296 * c + d) (ha : a ≤ 18446744065119617025) (hb : b ≤ 18446744065119617025) (hc : c ≤ 18446744065119617025) (hd : d ≤ 18446744065119617025) :
  a + (b + d / 4294967296) / 4294967296 + ((b + d / 4294967296) % 4294967296 + c) / 4294967296 = P / 18446744073709551616 := by
 omega
theorem mul64 (x y : Nat) (hx : x < 18446744073709551616) (hy : y < 18446744073709551616) : bits_Mul64.f (x : Int) (y : Int) = some (((x * y / 18446744073709551616 : Nat) : Int), ((x * y % 18446744073709551616 : Nat) : Int)) := by
 unfold bits_Mul64.f
 rw [and32 (by omega) (by omega), and32 (by omega) (by omega)]
 obtain ⟨b1, b2, b3, b4, e⟩ := mul64_parts (x / 4294967296) (x % 4294967296) (y / 4294967296) (y % 4294967296) (by omega) (by omega) (by omega) (by omega)
 rw [show 4294967296 * (x / 4294967296) + x % 4294967296 = x by omega, show 4294967296 * (y / 4294967296) + y % 4294967296 = y by omega] at e
 have c1 : (x : Int) / 4294967296 = ((x / 4294967296 : Nat) : Int) := by omega
 have c2 : (y : Int) / 4294967296 = ((y / 4294967296 : Nat) : Int) := by omega
 have c3 : (x : Int) % 4294967296 = ((x % 4294967296 : Nat) : Int) := by omega
 have c4 : (y : Int) % 4294967296 = ((y % 4294967296 : Nat) : Int) := by omega
 rw [c1, c2, c3, c4]
 have cm : ∀ p q : Nat, (p : Int) * (q : Int) = ((p * q : Nat) : Int) := fun p q => by simp
 rw [cm, cm, cm, cm, cm]
 have hh := mul64_hi x y _ _ _ _ _ e b1 b2 b3 b4
 generalize x / 4294967296 * (y / 4294967296) = a at *
 generalize x / 4294967296 * (y % 4294967296) = b at *
 generalize x % 4294967296 * (y / 4294967296) = c at *
 generalize x % 4294967296 * (y % 4294967296) = d at *
 generalize x * y = P at *
 clear c1 c2 c3 c4 cm
 have e1 : IntKind.u64.wrap (d : Int) = (d : Int) := u64s (by omega) (by omega)
 have e2 : IntKind.u64.wrap (b : Int) = (b : Int) := u64s (by omega) (by omega)
 have e3 : IntKind.u64.wrap (c : Int) = (c : Int) := u64s (by omega) (by omega)
 have e4 : IntKind.u64.wrap (a : Int) = (a : Int) := u64s (by omega) (by omega)
 have e5 : IntKind.u64.wrap ((b : Int) + (d : Int) / 4294967296) = ((b + d / 4294967296 : Nat) : Int) := by rw [u64s (by omega) (by omega)]; omega
 rw [e1, e2, e3, e4, e5]
 clear e1 e2 e3 e4 e5
 generalize ht : b + d / 4294967296 = t at *
 rw [and32 (by omega) (by omega)]
 have e6 : IntKind.u64.wrap ((t : Int) % 4294967296 + (c : Int)) = ((t % 4294967296 + c : Nat) : Int) := by rw [u64s (by omega) (by omega)]; omega
 rw [e6]
 clear e6
 have e7 : IntKind.u64.wrap ((a : Int) + (t : Int) / 4294967296) = ((a + t / 4294967296 : Nat) : Int) := by rw [u64s (by omega) (by omega)]; omega
 rw [e7]
 clear e7
 have e8 : IntKind.u64.wrap (((a + t / 4294967296 : Nat) : Int) + ((t % 4294967296 + c : Nat) : Int) / 4294967296) = ((a + t / 4294967296 + (t % 4294967296 + c) / 4294967296 : Nat) : Int) := by rw [u64s (by omega) (by omega)]; omega
 rw [e8, hh]
 clear e8
 have e9 : IntKind.u64.wrap (P : Int) = ((P % 18446744073709551616 : Nat) : Int) := by rw [u64w]; omega
 rw [e9]
theorem mul_step (x y o c : Nat) (hx : x < 18446744073709551616) (hy : y < 18446744073709551616) (ho : o < 18446744073709551616) (hc : c < 18446744073709551616) :
  ∃ s q c1 c2 : Nat, s < 18446744073709551616 ∧ q < 18446744073709551616 ∧ o + x * y + c = 18446744073709551616 * q + s ∧
   (x * y % 18446744073709551616 + o + 0) / 18446744073709551616 = c1 ∧ ((x * y % 18446744073709551616 + o + 0) % 18446744073709551616 + c + 0) / 18446744073709551616 = c2 ∧ ((x * y % 18446744073709551616 + o + 0) % 18446744073709551616 + c + 0) % 18446744073709551616 = s ∧
   IntKind.u64.wrap (IntKind.u64.wrap (((x * y / 18446744073709551616 : Nat) : Int) + (c1 : Int)) + (c2 : Int)) = (q : Int) := by
 have hb : x * y ≤ 18446744073709551615 * 18446744073709551615 := Nat.mul_le_mul (by omega) (by omega)
 generalize x * y = P at *
 refine ⟨_, (o + P + c) / 18446744073709551616, _, _, ?_, ?_, ?_, rfl, rfl, rfl, ?_⟩
 ·
  omega
 ·
  omega
 ·
  omega
 ·
  rw [u64s (x := ((P / 18446744073709551616 : Nat) : Int) + (((P % 18446744073709551616 + o + 0) / 18446744073709551616 : Nat) : Int)) (by omega) (by omega), u64s (by omega) (by omega)]
  omega
theorem nMul_l1 (b : List Int) (hb : Dig 18446744073709551616 b) (x la : Nat) (a : List Int) (hla : a.length = la) (hs : la < 1000000) (hs' : b.length < 1000000) (hx : x < 18446744073709551616) (i : Nat) (hi : i < la) : ∀ (m j c : Nat) (out : List Int), j + m = b.length → c < 18446744073709551616 → Dig 18446744073709551616 out → out.length = la + b.length →
  ∃ (out' : List Int) (c' : Nat), Dig 18446744073709551616 out' ∧ out'.length = la + b.length ∧ c' < 18446744073709551616 ∧ (∀ p, i + b.length ≤ p → out'.getD p 0 = out.getD p 0) ∧
   val 18446744073709551616 out' + 18446744073709551616 ^ (i + b.length) * c' = val 18446744073709551616 out + 18446744073709551616 ^ (i + j) * c + 18446744073709551616 ^ (i + j) * (x * V 18446744073709551616 b j) ∧
   ∀ r, Ev (fun k => zbg.l1 k b out' (i : Int) (x : Int) (c' : Int) a (la : Int) (i : Int) b (b.length : Int) (b.length : Int)) r → Ev (fun k => zbg.l1 k b out (i : Int) (x : Int) (c : Int) a (la : Int) (i : Int) b (b.length : Int) (j : Int)) r := by
 intro m
 induction m with
 | zero =>
  intro j c out hj hc hd hl
  obtain rfl : j = b.length := by omega
  refine ⟨out, c, hd, hl, hc, fun _ _ => rfl, ?_, fun r h => h⟩
  rw [V_end _ (Nat.le_refl _)]
  simp
 | succ m ih =>
  intro j c out hj hc hd hl
  have hy := hb.get (show 0 < 18446744073709551616 by decide) j
  have ho := hd.get (show 0 < 18446744073709551616 by decide) (i + j)
  have hv := zc1 18446744073709551616 b j
  obtain ⟨y, hy'⟩ := Int.eq_ofNat_of_zero_le hy.1
  obtain ⟨o, ho'⟩ := Int.eq_ofNat_of_zero_le ho.1
  rw [hy'] at hy hv
  rw [ho'] at ho
  rw [Int.toNat_natCast] at hv
  obtain ⟨s, q, c1, c2, s1, s2, s3, s4, s5, s6, s7⟩ := mul_step x y o c hx (by omega) (by omega) hc
  have S7 := Lib.hid s7
  have S4 := Lib.hid s4
  have S5 := Lib.hid s5
  have S6 := Lib.hid s6
  clear s4 s5 s6 s7
  have hset := val_set 18446744073709551616 out (i + j) (s : Int) (by omega)
  rw [ho', Int.toNat_natCast, Int.toNat_natCast] at hset
  obtain ⟨out', c', h1, h2, h3, h4, h5, h6⟩ := ih (j + 1) q (out.set (i + j) (s : Int)) (by omega) s2 (dig_set hd _ (by omega) (by omega)) (by rw [List.length_set]; exact hl)
  have hmv := mul_val (18446744073709551616 ^ (i + j)) 18446744073709551616 o x y c _ _ _ _ _ _ hset hv s3
  have HMV := Lib.hid hmv
  have H5 := Lib.hid h5
  clear hmv h5 hset hv s3
  have EJ := Lib.hid (wadd i j (by omega))
  have EK := Lib.hid (wadd1 j (by omega))
  refine ⟨out', c', h1, h2, h3, fun p hp => ?_, ?_, fun r hr => ?_⟩
  ·
   rw [h4 p hp, getD_set_ne (by omega)]
  ·
   rw [H5.out, show i + (j + 1) = i + j + 1 by omega, Nat.pow_succ]
   exact HMV.out
  ·
   refine Ev.step (fun k => ?_) (h6 r hr)
   have a1 := add64 (x * y % 18446744073709551616) o 0 (by omega)
   have a2 := add64 ((x * y % 18446744073709551616 + o + 0) % 18446744073709551616) c 0 (by omega)
   rw [S4.out] at a1
   rw [S5.out, S6.out] at a2
   have A1 := Lib.hid a1
   have A2 := Lib.hid a2
   clear a1 a2
   rw [zbg.l1, if_pos (by omega), if_pos (by omega), if_pos (by omega), rd_nat, hy', mul64 x y hx (by omega), Option.bind_some, EJ.out, if_pos (by omega), if_pos (by omega), rd_nat, ho']
   rw [show (0 : Int) = ((0 : Nat) : Int) from rfl, A1.out, Option.bind_some, A2.out, Option.bind_some, S7.out, EK.out, Int.toNat_natCast]
theorem nMul_l0 (a b : List Int) (ha : Dig 18446744073709551616 a) (hb : Dig 18446744073709551616 b) (hs : a.length < 1000000) (hs' : b.length < 1000000) : ∀ (m i : Nat) (out : List Int), i + m = a.length → Dig 18446744073709551616 out → out.length = a.length + b.length → (∀ p, i + b.length ≤ p → out.getD p 0 = 0) →
  Ev (fun k => zbg.l0 k b out a (a.length : Int) (i : Int)) (dig 18446744073709551616 (val 18446744073709551616 out + 18446744073709551616 ^ i * (V 18446744073709551616 a i * val 18446744073709551616 b))) := by
 intro m
 induction m with
 | zero =>
  intro i out hi hd hl hz
  refine Ev.step (G := fun k => (zaz.f k out).bind fun t190 => some t190) (fun k => ?_) ?_
  ·
   rw [zbg.l0, if_neg (by omega)]
  ·
   rw [V_end _ (by omega), Nat.zero_mul, Nat.mul_zero, Nat.add_zero]
   exact Ev.bind (ntrim out (by omega) hd) (Ev.const _)
 | succ m ih =>
  intro i out hi hd hl hz
  have hg := ha.get (show 0 < 18446744073709551616 by decide) i
  obtain ⟨x, hx⟩ := Int.eq_ofNat_of_zero_le hg.1
  rw [hx] at hg
  obtain ⟨out', c', h1, h2, h3, h4, h5, h6⟩ := nMul_l1 b hb x a.length a rfl hs hs' (by omega) i (by omega) b.length 0 0 out (by omega) (by omega) hd hl
  have hz' := (h4 (i + b.length) (Nat.le_refl _)).trans (hz _ (Nat.le_refl _))
  have hset := val_set 18446744073709551616 out' (i + b.length) (c' : Int) (by omega)
  rw [hz', Int.toNat_natCast] at hset
  have ih2 := ih (i + 1) (out'.set (i + b.length) (c' : Int)) (by omega) (dig_set h1 _ (by omega) (by omega)) (by rw [List.length_set]; exact h2) (fun p hp => by
   rw [getD_set_ne (by omega), h4 p (by omega), hz p (by omega)])
  have EI := Lib.hid (wadd i b.length (by omega))
  have EI1 := Lib.hid (wadd1 i (by omega))
  have hva := zc1 18446744073709551616 a i
  rw [hx, Int.toNat_natCast] at hva
  have hval : val 18446744073709551616 out + 18446744073709551616 ^ i * (V 18446744073709551616 a i * val 18446744073709551616 b) = val 18446744073709551616 (out'.set (i + b.length) (c' : Int)) + 18446744073709551616 ^ (i + 1) * (V 18446744073709551616 a (i + 1) * val 18446744073709551616 b) := by
   rw [hva, Nat.add_mul, Nat.mul_add, Nat.pow_succ, Nat.mul_assoc 18446744073709551616, ← Nat.mul_assoc (18446744073709551616 ^ i) 18446744073709551616]
   rw [zda, Nat.add_zero, Nat.mul_zero, Nat.add_zero] at h5
   simp only [Int.toNat_zero, Nat.mul_zero, Nat.add_zero] at hset
   omega
  rw [hval]
  refine Ev.step (G := fun k => zbg.l1 k b out (i : Int) (x : Int) 0 a (a.length : Int) (i : Int) b (b.length : Int) 0) (fun k => ?_) (h6 _ ?_)
  ·
   rw [zbg.l0, if_pos (by omega), if_pos (by omega), if_pos (by omega), rd_nat, hx]
  ·
   refine Ev.step (fun k => ?_) ih2
   rw [zbg.l1, if_neg (by omega), EI.out, if_pos (by omega), if_pos (by omega), EI1.out, Int.toNat_natCast]
theorem nMul (x y : Nat) (hx : Le x 100000) (hy : Le y 100000) : Ev (fun k => zbg.f k (dig 18446744073709551616 x) (dig 18446744073709551616 y)) (dig 18446744073709551616 (x * y)) := by
 unfold Le at hx hy
 have dx := zcl (B := 18446744073709551616) (by decide) x
 have dy := zcl (B := 18446744073709551616) (by decide) y
 have vx := zcm (B := 18446744073709551616) (by decide) x
 have vy := zcm (B := 18446744073709551616) (by decide) y
 generalize dig 18446744073709551616 x = a at *
 generalize dig 18446744073709551616 y = b at *
 have h := nMul_l0 a b dx dy (by omega) (by omega) a.length 0 (List.replicate (a.length + b.length) 0) (by omega) (Dig.rep (by omega) _) (by simp) (fun p _ => by
  rw [List.getD_eq_getElem?_getD, List.getElem?_replicate]
  split <;> rfl)
 rw [zda, zci, vx, vy, Nat.pow_zero, Nat.one_mul, Nat.zero_add] at h
 refine Ev.congr (fun k => ?_) h
 rw [zbg.f, wadd a.length b.length (by omega), if_pos (by omega), Int.toNat_natCast, if_pos (by omega)]
 rfl
theorem nLong (x : Nat) (hx : Le x 100000) : ∃ L : Nat, zcf.f (dig 18446744073709551616 x) = some (L : Int) ∧ L ≤ 64 * (dig 18446744073709551616 x).length ∧ x < 2 ^ L ∧ (x ≠ 0 → 1 ≤ L ∧ 2 ^ (L - 1) ≤ x) := by
 unfold Le at hx
 by_cases h0 : x = 0
 ·
  subst h0
  refine ⟨0, ?_, by omega, by decide, fun h => absurd rfl h⟩
  rw [zch]
  rfl
 ·
  have hne := dig_ne (B := 18446744073709551616) (by decide) h0
  have hd := zcl (B := 18446744073709551616) (by decide) x
  have hv := zcm (B := 18446744073709551616) (by decide) x
  have hg := dig_last (B := 18446744073709551616) (by decide) x
  generalize dig 18446744073709551616 x = l at *
  rcases List.eq_nil_or_concat l with rfl | ⟨ys, y, rfl⟩
  ·
   exact absurd rfl hne
  rw [List.concat_eq_append] at *
  have hy := hd y (by simp)
  have hys : Dig 18446744073709551616 ys := fun z hz => hd z (by simp [hz])
  have hlt := val_lt ys hys
  obtain ⟨t, rfl⟩ := Int.eq_ofNat_of_zero_le hy.1
  have ht : t ≠ 0 := by
   rcases hg with hg | hg
   ·
    simp at hg
   ·
    intro e
    subst e
    simp at hg
  have ht2 : t < 18446744073709551616 := by omega
  obtain ⟨b1, b2, b3⟩ := Lib.bitLenAux_bounds 64 t (by omega) (by omega)
  have b4 := Lib.bitLen_le t 64 (by omega) (by omega)
  have hb : Lib.bitLen t = Lib.bitLenAux 64 t := rfl
  rw [← hb] at b1 b2 b3
  generalize hbl : Lib.bitLen t = bl at *
  have hlen : (ys ++ [(t : Int)]).length = ys.length + 1 := by simp
  rw [val_append] at hv
  simp only [val, Int.toNat_natCast, Nat.mul_zero, Nat.add_zero] at hv
  have hW : (18446744073709551616 : Nat) ^ ys.length = 2 ^ (64 * ys.length) := by rw [Nat.pow_mul]
  rw [hW] at hv hlt
  refine ⟨64 * ys.length + bl, ?_, by rw [hlen]; omega, ?_, fun _ => ⟨by omega, ?_⟩⟩
  ·
   unfold zcf.f
   rw [hlen] at hx ⊢
   rw [if_neg (by omega), wsub1 (ys.length + 1) (by omega) (by omega), if_pos (by omega), if_pos (by omega), rd_nat, Nat.add_sub_cancel]
   have e : (ys ++ [(t : Int)]).getD ys.length 0 = (t : Int) := by simp
   rw [e]
   unfold bits_Len64.f
   rw [if_pos (by omega), if_pos (by omega), Int.toNat_natCast, hbl]
   show some (wrap64 (wrap64 (64 * (ys.length : Int)) + (bl : Int))) = _
   rw [w64s (x := 64 * (ys.length : Int)) (by omega) (by omega), w64s (by omega) (by omega)]
   congr 1
  ·
   rw [Nat.pow_add, ← hv]
   have : 2 ^ (64 * ys.length) * (t + 1) ≤ 2 ^ (64 * ys.length) * 2 ^ bl := Nat.mul_le_mul_left _ b3
   rw [Nat.mul_add] at this
   omega
  ·
   rw [show 64 * ys.length + bl - 1 = 64 * ys.length + (bl - 1) by omega, Nat.pow_add, ← hv]
   have : 2 ^ (64 * ys.length) * 2 ^ (bl - 1) ≤ 2 ^ (64 * ys.length) * t := Nat.mul_le_mul_left _ b2
   omega
theorem shift_digit (x c r : Nat) (hr : r < 64) (hx : x < 18446744073709551616) (hc : c < 2 ^ r) :
  ∃ d c' : Nat, d < 18446744073709551616 ∧ c' < 2 ^ r ∧ 2 ^ r * x + c = 18446744073709551616 * c' + d ∧ Go.bits .or .u64 (shl .u64 (x : Int) (r : Int)) (c : Int) = (d : Int) ∧ shr .u64 (x : Int) (wrap64 (64 - (r : Int))) = (c' : Int) := by
 have hp : 0 < 2 ^ r := Nat.two_pow_pos r
 have hq : 0 < 2 ^ (64 - r) := Nat.two_pow_pos _
 have hpq : 2 ^ r * 2 ^ (64 - r) = 18446744073709551616 := by
  rw [← Nat.pow_add, show r + (64 - r) = 64 by omega]
 have hm := Nat.mod_add_div x (2 ^ (64 - r))
 have hml := Nat.mod_lt x hq
 have h1 : 2 ^ r * (x % 2 ^ (64 - r)) + 2 ^ r ≤ 18446744073709551616 := by
  rw [← hpq, ← Nat.mul_succ]
  exact Nat.mul_le_mul_left _ hml
 have h2 : 2 ^ r * x = 18446744073709551616 * (x / 2 ^ (64 - r)) + 2 ^ r * (x % 2 ^ (64 - r)) := by
  rw [← hpq, Nat.mul_assoc, ← Nat.mul_add, Nat.add_comm, hm]
 have h3 : x / 2 ^ (64 - r) < 2 ^ r := by
  rw [Nat.div_lt_iff_lt_mul hq, hpq]
  exact hx
 have hsl : shl .u64 (x : Int) (r : Int) = ((2 ^ r * (x % 2 ^ (64 - r)) : Nat) : Int) := by
  unfold shl
  rw [show min ((r : Int)).toNat IntKind.u64.bits = r by simp [IntKind.bits] <;> omega, u64w]
  have e : (x : Int) * 2 ^ r = ((2 ^ r * x : Nat) : Int) := by rw [Int.natCast_mul, Int.mul_comm]; simp
  rw [e, h2]
  omega
 refine ⟨2 ^ r * (x % 2 ^ (64 - r)) + c, x / 2 ^ (64 - r), by omega, h3, by omega, ?_, ?_⟩
 ·
  rw [hsl]
  exact orAdd hc (by omega)
 ·
  have ew : wrap64 (64 - (r : Int)) = ((64 - r : Nat) : Int) := by rw [w64s (by omega) (by omega)]; omega
  rw [ew]
  unfold shr
  rw [Int.toNat_natCast, show min (64 - r) IntKind.u64.bits = 64 - r by simp [IntKind.bits] <;> omega]
  simp
theorem shift_val (X W r2 x c c' d va' : Nat) (T vo : Nat) (h : vo + X * c + X * (r2 * (x + W * va')) = T) (hd : r2 * x + c = W * c' + d) : vo + X * d + X * W * c' + X * W * (r2 * va') = T := by
 have h1 : X * (r2 * x + c) = X * (W * c' + d) := by rw [hd]
 have e1 : X * W * c' = X * (W * c') := Nat.mul_assoc _ _ _
 have e2 : X * W * (r2 * va') = X * (r2 * (W * va')) := by rw [Nat.mul_assoc, Nat.mul_left_comm W]
 rw [e1, e2]
 simp only [Nat.mul_add] at h h1
 omega
theorem nShifted_l0 (a : List Int) (ha : Dig 18446744073709551616 a) (hs : a.length < 1000000) (n r q T : Nat) (hn : n < 100000000) (hr : r = n % 64) (hq : q < 100000000) : ∀ (m i c : Nat) (out : List Int), i + m = a.length → c < 2 ^ r → Dig 18446744073709551616 out → out.length = q + i →
  val 18446744073709551616 out + 18446744073709551616 ^ (q + i) * c + 18446744073709551616 ^ (q + i) * (2 ^ r * V 18446744073709551616 a i) = T →
  Ev (fun k => zao.l0 k (n : Int) out (c : Int) a (a.length : Int) (i : Int)) (dig 18446744073709551616 T) := by
 have hr64 : r < 64 := by omega
 have hp64 : 2 ^ r < 18446744073709551616 := by
  have : 2 ^ r < 2 ^ 64 := Nat.pow_lt_pow_right (by decide) hr64
  omega
 have et : Int.tmod (n : Int) 64 = (r : Int) := by
  rw [Int.tmod_eq_emod_of_nonneg (by omega)]
  omega
 have ET := Lib.hid et
 clear et
 intro m
 induction m with
 | zero =>
  intro i c out hi hc hd hl hT
  refine Ev.step (G := fun k => (zaz.f k (out ++ [(c : Int)])).bind fun t479 => some t479) (fun k => ?_) ?_
  ·
   rw [zao.l0, if_neg (by omega), if_pos (by omega)]
  ·
   have h := ntrim (out ++ [(c : Int)]) (by rw [List.length_append, List.length_singleton]; omega) (hd.app (Dig.mk (by omega) (by omega) (Dig.nil _)))
   rw [val_append, hl] at h
   simp only [val, Int.toNat_natCast, Nat.mul_zero, Nat.add_zero] at h
   rw [V_end _ (show a.length ≤ i by omega), Nat.mul_zero, Nat.mul_zero, Nat.add_zero] at hT
   rw [hT] at h
   exact Ev.bind h (Ev.const _)
 | succ m ih =>
  intro i c out hi hc hd hl hT
  have hg := ha.get (show 0 < 18446744073709551616 by decide) i
  obtain ⟨x, hx⟩ := Int.eq_ofNat_of_zero_le hg.1
  rw [hx] at hg
  have hva := zc1 18446744073709551616 a i
  rw [hx, Int.toNat_natCast] at hva
  rw [hva] at hT
  obtain ⟨d, c', h1, h2, h3, h4, h5⟩ := shift_digit x c r hr64 (by omega) hc
  have hv := shift_val _ _ _ _ _ _ _ _ _ _ hT h3
  have hval : val 18446744073709551616 (out ++ [(d : Int)]) = val 18446744073709551616 out + 18446744073709551616 ^ (q + i) * d := by
   rw [val_append, hl]
   simp [val]
  rw [← hval, ← Nat.pow_succ] at hv
  have H4 := Lib.hid h4
  have H5 := Lib.hid h5
  clear h4 h5 h3 hT hva hval
  have ih2 := ih (i + 1) c' (out ++ [(d : Int)]) (by omega) h2 (hd.app (Dig.mk (by omega) (by omega) (Dig.nil _))) (by rw [List.length_append, hl]; rfl) hv
  have H2 := Lib.hid ih2
  have WA := Lib.hid (wadd1 i (by omega))
  have ew := Lib.hid (show (0 : Int) ≤ wrap64 (64 - (r : Int)) by rw [w64s (by omega) (by omega)]; omega)
  clear ih2 hv
  refine Ev.step (fun k => ?_) H2.out
  rw [zao.l0, if_pos (by omega), if_pos (by omega), if_pos (by omega), ET.out, if_pos (by omega), if_pos (by omega), if_pos ew.out, rd_nat, hx, H4.out, H5.out, WA.out]
theorem nShifted (x n : Nat) (hx : Le x 100000) (hn : n < 10000000) : Ev (fun k => zao.f k (dig 18446744073709551616 x) (n : Int)) (dig 18446744073709551616 (x * 2 ^ n)) := by
 unfold Le at hx
 have dx := zcl (B := 18446744073709551616) (by decide) x
 have vx := zcm (B := 18446744073709551616) (by decide) x
 generalize dig 18446744073709551616 x = a at *
 have hW : 18446744073709551616 ^ (n / 64) * (2 ^ (n % 64) * x) = x * 2 ^ n := by
  have e : (18446744073709551616 : Nat) ^ (n / 64) = 2 ^ (64 * (n / 64)) := by rw [Nat.pow_mul]
  rw [e, ← Nat.mul_assoc, ← Nat.pow_add, show 64 * (n / 64) + n % 64 = n by omega, Nat.mul_comm]
 have h := nShifted_l0 a dx (by omega) n (n % 64) (n / 64) (x * 2 ^ n) (by omega) rfl (by omega) a.length 0 0 (List.replicate (n / 64) 0) (by omega) (Nat.two_pow_pos _) (Dig.rep (by decide) _) (by simp) (by
  rw [zci, zda, vx, Nat.mul_zero, Nat.add_zero, Nat.zero_add]
  exact hW)
 refine Ev.congr (fun k => ?_) h
 have e1 : wrap64 (Int.tdiv (n : Int) 64) = ((n / 64 : Nat) : Int) := by
  rw [Int.tdiv_eq_ediv_of_nonneg (by omega), w64s (by omega) (by omega)]
  omega
 rw [zao.f, e1, wadd (n / 64) a.length (by omega), wadd1 (n / 64 + a.length) (by omega)]
 clear e1
 rw [if_pos (by omega), if_pos (by omega), Int.toNat_natCast, Int.toNat_natCast, if_pos (by omega)]
 rfl
def Free (l : List Int) (m : Nat) : Prop := ∀ p, ∃ z : Nat, l.getD p 0 = ((2 ^ (min 64 (m - 64 * p)) * z : Nat) : Int)
theorem Free.zero (n m : Nat) : Free (List.replicate n 0) m := fun p => ⟨0, by
 rw [List.getD_eq_getElem?_getD, List.getElem?_replicate]
 split <;> simp⟩
theorem Free.less {l : List Int} {m m' : Nat} (h : Free l m) (hm : m' ≤ m) : Free l m' := fun p => by
 obtain ⟨z, hz⟩ := h p
 refine ⟨2 ^ (min 64 (m - 64 * p) - min 64 (m' - 64 * p)) * z, ?_⟩
 rw [hz, ← Nat.mul_assoc, ← Nat.pow_add]
 congr 3
 omega
theorem set_bit (l : List Int) (hd : Dig 18446744073709551616 l) (n : Nat) (h : Free l (n + 1)) (hn : n / 64 < l.length) :
  ∃ o : Nat, Go.bits .or .u64 (l.getD (n / 64) 0) (shl .u64 1 ((n % 64 : Nat) : Int)) = (o : Int) ∧ o < 18446744073709551616 ∧ Free (l.set (n / 64) (o : Int)) n ∧ val 18446744073709551616 (l.set (n / 64) (o : Int)) = val 18446744073709551616 l + 2 ^ n := by
 obtain ⟨z, hz⟩ := h (n / 64)
 have hr : n % 64 < 64 := Nat.mod_lt _ (by decide)
 rw [show min 64 (n + 1 - 64 * (n / 64)) = n % 64 + 1 by omega] at hz
 have hg := hd.get (show 0 < 18446744073709551616 by decide) (n / 64)
 rw [hz] at hg
 have hp : 0 < 2 ^ (n % 64) := Nat.two_pow_pos _
 have hp2 : 2 ^ (n % 64 + 1) = 2 * 2 ^ (n % 64) := by rw [Nat.pow_succ, Nat.mul_comm]
 have hp64 : 2 ^ (n % 64 + 1) ≤ 18446744073709551616 := by
  have : 2 ^ (n % 64 + 1) ≤ 2 ^ 64 := Nat.pow_le_pow_right (by decide) hr
  omega
 have hsl : shl .u64 1 ((n % 64 : Nat) : Int) = ((2 ^ (n % 64) : Nat) : Int) := by
  unfold shl
  rw [Int.toNat_natCast, show min (n % 64) IntKind.u64.bits = n % 64 by simp [IntKind.bits] <;> omega, Int.one_mul]
  have e : (2 : Int) ^ (n % 64) = ((2 ^ (n % 64) : Nat) : Int) := by simp
  rw [e, u64s (by omega) (by omega)]
 have hlt : 2 ^ (n % 64 + 1) * z + 2 ^ (n % 64) < 18446744073709551616 := by
  have h64 : 2 ^ (n % 64 + 1) * 2 ^ (63 - n % 64) = 18446744073709551616 := by
   rw [← Nat.pow_add, show n % 64 + 1 + (63 - n % 64) = 64 by omega]
  have h1 : 2 ^ (n % 64 + 1) * z < 2 ^ (n % 64 + 1) * 2 ^ (63 - n % 64) := by rw [h64]; omega
  have h2 : z < 2 ^ (63 - n % 64) := Nat.lt_of_mul_lt_mul_left h1
  have h3 : 2 ^ (n % 64 + 1) * (z + 1) ≤ 18446744073709551616 := by rw [← h64]; exact Nat.mul_le_mul_left _ h2
  rw [Nat.mul_add] at h3
  omega
 refine ⟨2 ^ (n % 64 + 1) * z + 2 ^ (n % 64), ?_, hlt, fun p => ?_, ?_⟩
 ·
  rw [hz, hsl]
  exact orAdd (by omega) hlt
 ·
  by_cases hp1 : p = n / 64
  ·
   subst hp1
   refine ⟨2 * z + 1, ?_⟩
   rw [List.getD_eq_getElem?_getD, List.getElem?_set_self hn, show min 64 (n - 64 * (n / 64)) = n % 64 by omega]
   show (((2 ^ (n % 64 + 1) * z + 2 ^ (n % 64) : Nat)) : Int) = _
   congr 1
   rw [hp2, Nat.mul_add, Nat.mul_one, ← Nat.mul_assoc, Nat.mul_comm (2 ^ (n % 64)) 2]
  ·
   rw [getD_set_ne (Ne.symm hp1)]
   exact h.less (by omega) p
 ·
  have hs := val_set 18446744073709551616 l (n / 64) ((2 ^ (n % 64 + 1) * z + 2 ^ (n % 64) : Nat) : Int) hn
  rw [hz, Int.toNat_natCast, Int.toNat_natCast, Nat.mul_add] at hs
  have hW : 18446744073709551616 ^ (n / 64) * 2 ^ (n % 64) = 2 ^ n := by
   have e : (18446744073709551616 : Nat) ^ (n / 64) = 2 ^ (64 * (n / 64)) := by rw [Nat.pow_mul]
   rw [e, ← Nat.pow_add, show 64 * (n / 64) + n % 64 = n by omega]
  omega
theorem nDiv_l0 (x y : Nat) (hy : 0 < y) (hx : Le x 100000) (hyl : Le y 100000) : ∀ (m : Nat) (l : Nat) (out : List Int), m < 10000000 → l ≤ x → l < y * 2 ^ m → out.length = (dig 18446744073709551616 x).length → m ≤ 64 * out.length → Dig 18446744073709551616 out → Free out m → val 18446744073709551616 out * y + l = x →
  Ev (fun k => zas.l0 k (dig 18446744073709551616 y) (dig 18446744073709551616 l) out ((m : Int) - 1)) (dig 18446744073709551616 (x / y), dig 18446744073709551616 (x % y), 0) := by
 intro m
 induction m with
 | zero =>
  intro l out _ hlx hl ho _ hd hf hv
  refine Ev.step (G := fun k => (zaz.f k out).bind fun t490 => some (t490, dig 18446744073709551616 l, 0)) (fun k => ?_) ?_
  ·
   rw [zas.l0, if_neg (by omega)]
  ·
   have h := ntrim out (by unfold Le at hx; omega) hd
   rw [Nat.pow_zero, Nat.mul_one] at hl
   have e1 : x / y = val 18446744073709551616 out := by
    rw [← hv, Nat.add_comm, Nat.add_mul_div_right _ _ hy, Nat.div_eq_of_lt hl, Nat.zero_add]
   have e2 : x % y = l := by
    rw [← hv, Nat.add_comm, Nat.add_mul_mod_self_right, Nat.mod_eq_of_lt hl]
   rw [e1, e2]
   exact Ev.bind h (Ev.const _)
 | succ n ih =>
  intro l out hm hlx hl ho hn hd hf hv
  have hll : Le l 100000 := Nat.le_trans (dig_mono (by decide) hlx) hx
  have sh := nShifted y n hyl (by omega)
  have e0 : ((n + 1 : Nat) : Int) - 1 = (n : Int) := by omega
  rw [e0]
  have e1 : wrap64 (Int.tdiv (n : Int) 64) = ((n / 64 : Nat) : Int) := by
   rw [Int.tdiv_eq_ediv_of_nonneg (by omega), w64s (by omega) (by omega)]
   omega
  have e2 : Int.tmod (n : Int) 64 = ((n % 64 : Nat) : Int) := by
   rw [Int.tmod_eq_emod_of_nonneg (by omega)]
   omega
  have E1 := Lib.hid e1
  have E2 := Lib.hid e2
  have E3 := Lib.hid (show wrap64 ((n : Int) - 1) = (n : Int) - 1 from w64s (by omega) (by omega))
  clear e1 e2
  refine Ev.step (G := fun k => (zao.f k (dig 18446744073709551616 y) (n : Int)).bind fun t493 => (zcj.f (dig 18446744073709551616 l) t493).bind fun t496 => if t496 ≥ 0 then ((zbb.f k (dig 18446744073709551616 l) t493).bind fun t497 => if 0 ≤ (wrap64 (Int.tdiv (n : Int) 64)) then (if (wrap64 (Int.tdiv (n : Int) 64)) < (out.length : Int) then (if 0 ≤ (Int.tmod (n : Int) 64) then (zas.l0 k (dig 18446744073709551616 y) t497 (out.set ((wrap64 (Int.tdiv (n : Int) 64)) : Int).toNat (Go.bits .or .u64 (rd out (wrap64 (Int.tdiv (n : Int) 64))) (shl .u64 1 (Int.tmod (n : Int) 64)))) (wrap64 ((n : Int) - 1))) else none) else none) else none) else zas.l0 k (dig 18446744073709551616 y) (dig 18446744073709551616 l) out (wrap64 ((n : Int) - 1))) (fun k => ?_) (Ev.bind sh (Ev.plain (nCmp l (y * 2 ^ n)) ?_))
  ·
   rw [zas.l0, if_pos (by omega)]
  ·
   by_cases hge : y * 2 ^ n ≤ l
   ·
    have hs : sgn l (y * 2 ^ n) ≥ 0 := by
     unfold sgn
     split
     ·
      omega
     ·
      rw [if_neg (by omega)]
      omega
    obtain ⟨o, o1, o2, o3, o4⟩ := set_bit out hd n hf (by omega)
    have O1 := Lib.hid o1
    have hv2 : val 18446744073709551616 (out.set (n / 64) (o : Int)) * y + (l - y * 2 ^ n) = x := by
     rw [o4, Nat.add_mul, Nat.mul_comm (2 ^ n) y]
     omega
    have hl2 : l - y * 2 ^ n < y * 2 ^ n := by
     rw [Nat.pow_succ, ← Nat.mul_assoc] at hl
     omega
    have ih2 := ih (l - y * 2 ^ n) (out.set (n / 64) (o : Int)) (by omega) (by omega) hl2 (by rw [List.length_set]; exact ho) (by rw [List.length_set]; omega) (dig_set hd _ (by omega) (by omega)) o3 hv2
    refine Ev.pos hs (Ev.bind (nLess l (y * 2 ^ n) hll hge) ?_)
    refine Ev.congr (fun k => ?_) ih2
    rw [E1.out, E2.out, E3.out, if_pos (by omega), if_pos (by omega), if_pos (by omega), Int.toNat_natCast, rd_nat, O1.out]
   ·
    have hs : ¬ sgn l (y * 2 ^ n) ≥ 0 := by
     rw [sgn_lt (by omega)]
     omega
    refine Ev.neg hs (Ev.congr (fun k => ?_) (ih l out (by omega) hlx (by omega) ho (by omega) hd (hf.less (by omega)) hv))
    rw [E3.out]
theorem nDivMod (x y : Nat) (hy : 0 < y) (hx : Le x 100000) (hyl : Le y 100000) : Ev (fun k => zas.f k (dig 18446744073709551616 x) (dig 18446744073709551616 y)) (dig 18446744073709551616 (x / y), dig 18446744073709551616 (x % y), 0) := by
 obtain ⟨L, l1, l2, l3, l4⟩ := nLong x hx
 obtain ⟨M, m1, m2, m3, m4⟩ := nLong y hyl
 obtain ⟨m5, m6⟩ := m4 (by omega)
 have hyne := dig_ne (B := 18446744073709551616) (by decide) (show y ≠ 0 by omega)
 have hyl0 : 0 < (dig 18446744073709551616 y).length := List.length_pos_iff.2 hyne
 have hxl := hx
 have hyl' := hyl
 unfold Le at hxl hyl'
 have hb : x < y * 2 ^ (L - M + 1) := by
  have h1 : 2 ^ L ≤ 2 ^ (M - 1) * 2 ^ (L - M + 1) := by
   rw [← Nat.pow_add]
   exact Nat.pow_le_pow_right (by decide) (by omega)
  exact Nat.lt_of_lt_of_le l3 (Nat.le_trans h1 (Nat.mul_le_mul_right _ m6))
 have hclone : zb.f (dig 18446744073709551616 x) = some (dig 18446744073709551616 x) := by
  unfold zb.f
  rw [if_pos (by omega)]
 refine Ev.congr (G := fun k => zas.l0 k (dig 18446744073709551616 y) (dig 18446744073709551616 x) (List.replicate (dig 18446744073709551616 x).length 0) ((L : Int) - (M : Int))) (fun k => ?_) ?_
 ·
  rw [zas.f, if_neg (by omega), hclone, Option.bind_some, if_pos (by omega), Int.toNat_natCast, if_pos (by omega), l1, Option.bind_some, m1, Option.bind_some, w64s (by omega) (by omega)]
 ·
  by_cases hLM : M ≤ L
  ·
   have h := nDiv_l0 x y hy hx hyl (L - M + 1) x (List.replicate (dig 18446744073709551616 x).length 0) (by omega) (Nat.le_refl _) hb (by simp) (by rw [List.length_replicate]; omega) (Dig.rep (by decide) _) (Free.zero _ _) (by rw [zci]; omega)
   rw [show ((L - M + 1 : Nat) : Int) - 1 = (L : Int) - (M : Int) by omega] at h
   exact h
  ·
   have hxy : x < y := by
    have : 2 ^ L ≤ 2 ^ (M - 1) := Nat.pow_le_pow_right (by decide) (by omega)
    omega
   have h := nDiv_l0 x y hy hx hyl 0 x (List.replicate (dig 18446744073709551616 x).length 0) (by omega) (Nat.le_refl _) (by omega) (by simp) (by omega) (Dig.rep (by decide) _) (Free.zero _ _) (by rw [zci]; omega)
   obtain ⟨K, hK⟩ := h
   have ht := ntrim (List.replicate (dig 18446744073709551616 x).length 0) (by rw [List.length_replicate]; omega) (Dig.rep (by decide) _)
   rw [zci] at ht
   refine Ev.step (G := fun k => (zaz.f k (List.replicate (dig 18446744073709551616 x).length 0)).bind fun t490 => some (t490, dig 18446744073709551616 x, 0)) (fun k => ?_) ?_
   ·
    rw [zas.l0, if_neg (by omega)]
   ·
    rw [Nat.div_eq_of_lt hxy, Nat.mod_eq_of_lt hxy]
    exact Ev.bind ht (Ev.const _)
theorem nGcd_l0 : ∀ (y x : Nat), Le x 100000 → Le y 100000 → Ev (fun k => zcc.l0 k (dig 18446744073709551616 x) (dig 18446744073709551616 y)) (dig 18446744073709551616 (Nat.gcd x y)) := by
 intro y
 induction y using Nat.strongRecOn with
 | ind y ih =>
  intro x hx hyl
  by_cases hy : y = 0
  ·
   subst hy
   refine Ev.step (G := fun _ => some (dig 18446744073709551616 x)) (fun k => ?_) ?_
   ·
    rw [zch, zcc.l0, if_neg (by simp)]
   ·
    rw [Nat.gcd_zero_right]
    exact Ev.const _
  ·
   have hpos : 0 < y := by omega
   have hne := dig_ne (B := 18446744073709551616) (by decide) hy
   have hl0 : 0 < (dig 18446744073709551616 y).length := List.length_pos_iff.2 hne
   have hmod := Nat.mod_lt x hpos
   have ih2 := ih (x % y) hmod y hyl (Nat.le_trans (dig_mono (by decide) (Nat.le_of_lt hmod)) hyl)
   have hg : Nat.gcd x y = Nat.gcd y (x % y) := by rw [Nat.gcd_comm x y, Nat.gcd_rec y x, Nat.gcd_comm]
   have hclone : zb.f (dig 18446744073709551616 y) = some (dig 18446744073709551616 y) := by
    unfold zb.f
    have := hyl
    unfold Le at this
    rw [if_pos (by omega)]
   refine Ev.step (G := fun k => (zas.f k (dig 18446744073709551616 x) (dig 18446744073709551616 y)).bind fun bt505 => (zb.f (dig 18446744073709551616 y)).bind fun t512 => zcc.l0 k t512 bt505.2.1) (fun k => ?_) (Ev.bind (nDivMod x y hpos hx hyl) (Ev.plain hclone ?_))
   ·
    rw [zcc.l0, if_pos (by omega)]
   ·
    rw [hg]
    exact ih2
theorem nGcd (x y : Nat) (hx : Le x 100000) (hy : Le y 100000) : Ev (fun k => zcc.f k (dig 18446744073709551616 x) (dig 18446744073709551616 y)) (dig 18446744073709551616 (Nat.gcd x y)) := by
 have hclone : zb.f (dig 18446744073709551616 x) = some (dig 18446744073709551616 x) := by
  unfold zb.f
  have := hx
  unfold Le at this
  rw [if_pos (by omega)]
 exact Ev.plain hclone (nGcd_l0 y x hx hy)
theorem rtrim_l0 (l : List Int) (hl : l.length < 1000000000) : ∀ n : Nat, n ≤ l.length → Ev (fun k => zam.l0 k l (n : Int)) (strip (l.take n))
 | 0, h => by
  refine Ev.step (G := fun _ => some []) (fun k => ?_) (Ev.const _)
  rw [zam.l0, if_neg (by omega), if_pos (by omega), if_pos (by omega)]
  rfl
 | n + 1, h => by
  have e : wrap64 (((n + 1 : Nat) : Int) - 1) = n := by rw [w64s (by omega) (by omega)]; omega
  by_cases hz : l.getD n 0 = 0
  ·
   refine Ev.step (G := fun k => zam.l0 k l (n : Int)) (fun k => ?_) ?_
   ·
    rw [zam.l0, if_pos (by omega), e, if_pos (by omega), if_pos (by omega), rd_nat, if_pos hz]
   ·
    rw [take_snoc l n (by omega), hz, strip_snoc0]
    exact rtrim_l0 l hl n (by omega)
  ·
   refine Ev.step (G := fun _ => some (l.take (n + 1))) (fun k => ?_) ?_
   ·
    rw [zam.l0, if_pos (by omega), e, if_pos (by omega), if_pos (by omega), rd_nat, if_neg hz, if_pos (by omega), if_pos (by omega)]
    rfl
   ·
    have hs : strip (l.take (n + 1)) = l.take (n + 1) := by rw [take_snoc l n (by omega), strip_snoc _ _ hz]
    rw [hs]
    exact Ev.const _
theorem rtrim (l : List Int) (hl : l.length < 1000000000) : Ev (fun k => zam.f k l) (strip l) := by
 have := rtrim_l0 l hl l.length (Nat.le_refl _)
 rw [List.take_length] at this
 exact this
theorem rtrim_dig (l : List Int) (hl : l.length < 1000000000) (h : Dig 10000 l) : Ev (fun k => zam.f k l) (dig 10000 (val 10000 l)) := by
 rw [← strip_dig (by omega) l h]
 exact rtrim l hl
theorem rOf_l0 : ∀ (m n : Nat) (out : List Int), n < 10000 ^ m → n < 9223372036854775808 → out.length + m < 1000000000 → Ev (fun k => zax.l0 k (n : Int) out) (out ++ dig 10000 n)
 | 0, n, out, h, h2, hl => by
  have : n = 0 := by simpa using h
  subst this
  refine Ev.step (G := fun _ => some out) (fun k => ?_) ?_
  ·
   rw [zax.l0, if_neg (by omega)]
  ·
   rw [zch, List.append_nil]
   exact Ev.const _
 | m + 1, n, out, h, h2, hl => by
  by_cases hn : n = 0
  ·
   subst hn
   refine Ev.step (G := fun _ => some out) (fun k => ?_) ?_
   ·
    rw [zax.l0, if_neg (by omega)]
   ·
    rw [zch, List.append_nil]
    exact Ev.const _
  ·
   have e1 : wrap64 (Int.tdiv (n : Int) 10000) = ((n / 10000 : Nat) : Int) := by
    rw [Int.tdiv_eq_ediv_of_nonneg (by omega), w64s (by omega) (by omega)]
    omega
   have e2 : Int.tmod (n : Int) 10000 = ((n % 10000 : Nat) : Int) := by
    rw [Int.tmod_eq_emod_of_nonneg (by omega)]
    omega
   refine Ev.step (G := fun k => zax.l0 k ((n / 10000 : Nat) : Int) (out ++ [((n % 10000 : Nat) : Int)])) (fun k => ?_) ?_
   ·
    rw [zax.l0, if_pos (by omega), if_pos (by omega), e1, e2]
   ·
    have ih := rOf_l0 m (n / 10000) (out ++ [((n % 10000 : Nat) : Int)]) (by rw [Nat.pow_succ] at h; omega) (by omega) (by rw [List.length_append, List.length_singleton]; omega)
    rw [dig_pos (by omega) hn]
    rw [List.append_assoc] at ih
    exact ih
theorem rOf (n : Nat) (h : n < 9223372036854775808) : Ev (fun k => zax.f k (n : Int)) (dig 10000 n) := by
 have := rOf_l0 5 n [] (by omega) h (by simp)
 exact this
theorem rat (l : List Int) (i : Nat) : zbp.f l (i : Int) = some (l.getD i 0) := by
 unfold zbp.f
 by_cases h : i < l.length
 ·
  rw [if_pos (by omega), if_pos (by omega), rd_nat]
 ·
  rw [if_neg (by omega), List.getD_eq_getElem?_getD, List.getElem?_eq_none (by omega)]
  rfl
theorem rCmp_l0 (a b : List Int) (ha : Dig 10000 a) (hb : Dig 10000 b) (hl : a.length = b.length) (hs : a.length < 1000000000) : ∀ i : Nat, i ≤ a.length → V 10000 a i = V 10000 b i → Ev (fun k => za4.l0 k a b ((i : Int) - 1)) (sgn (val 10000 a) (val 10000 b))
 | 0, hi, hv => by
  refine Ev.step (G := fun _ => some 0) (fun k => ?_) ?_
  ·
   rw [za4.l0, if_neg (by omega)]
  ·
   rw [zda, zda] at hv
   rw [sgn, if_pos hv]
   exact Ev.const _
 | i + 1, hi, hv => by
  have e0 : ((i + 1 : Nat) : Int) - 1 = (i : Int) := by omega
  have ha1 := ha.get (show 0 < 10000 by omega) i
  have hb1 := hb.get (show 0 < 10000 by omega) i
  have hva := zc1 10000 a i
  have hvb := zc1 10000 b i
  rw [e0]
  rcases Int.lt_trichotomy (a.getD i 0) (b.getD i 0) with h | h | h
  ·
   have hlt : val 10000 a < val 10000 b := V_lt (by omega) ha hb i (by omega)
   refine Ev.step (G := fun _ => some (-1)) (fun k => ?_) ?_
   ·
    rw [za4.l0, if_pos (by omega), if_pos (by omega), if_pos (by omega), if_pos (by omega), rd_nat, rd_nat, if_pos h]
   ·
    rw [sgn, if_neg (by omega), if_pos hlt]
    exact Ev.const _
  ·
   refine Ev.step (G := fun k => za4.l0 k a b ((i : Int) - 1)) (fun k => ?_) (rCmp_l0 a b ha hb hl hs i (by omega) (by omega))
   rw [za4.l0, if_pos (by omega), if_pos (by omega), if_pos (by omega), if_pos (by omega), rd_nat, rd_nat, if_neg (by omega), if_neg (by omega), w64s (by omega) (by omega)]
  ·
   have hlt : val 10000 b < val 10000 a := V_lt (by omega) hb ha i (by omega)
   refine Ev.step (G := fun _ => some 1) (fun k => ?_) ?_
   ·
    rw [za4.l0, if_pos (by omega), if_pos (by omega), if_pos (by omega), if_pos (by omega), rd_nat, rd_nat, if_neg (by omega), if_pos h]
   ·
    rw [sgn, if_neg (by omega), if_neg (by omega)]
    exact Ev.const _
theorem rCmp' (a b : List Int) (ha : Dig 10000 a) (hb : Dig 10000 b) (ga : Good a) (gb : Good b) (hs : a.length < 1000000000) (hs' : b.length < 1000000000) : Ev (fun k => za4.f k a b) (sgn (val 10000 a) (val 10000 b)) := by
 by_cases hl : a.length = b.length
 ·
  refine Ev.congr (fun k => ?_) (rCmp_l0 a b ha hb hl hs a.length (Nat.le_refl _) (by rw [V_end _ (Nat.le_refl _), V_end _ (by omega)]))
  rw [za4.f, if_pos (by omega), w64s (by omega) (by omega)]
 ·
  by_cases h2 : a.length < b.length
  ·
   have hlt := len_lt (by omega) ha hb gb h2
   refine Ev.congr (G := fun _ => some (-1)) (fun k => ?_) ?_
   ·
    rw [za4.f, if_neg (by omega), if_pos (by omega)]
   ·
    rw [sgn, if_neg (by omega), if_pos hlt]
    exact Ev.const _
  ·
   have hlt := len_lt (by omega) hb ha ga (by omega)
   refine Ev.congr (G := fun _ => some 1) (fun k => ?_) ?_
   ·
    rw [za4.f, if_neg (by omega), if_neg (by omega)]
   ·
    rw [sgn, if_neg (by omega), if_neg (by omega)]
    exact Ev.const _
def Lo (n : Nat) : Prop := (dig 10000 n).length ≤ 100000
theorem rCmp (x y : Nat) (hx : Lo x) (hy : Lo y) : Ev (fun k => za4.f k (dig 10000 x) (dig 10000 y)) (sgn x y) := by
 have := rCmp' (dig 10000 x) (dig 10000 y) (zcl (by omega) x) (zcl (by omega) y) (dig_last (by omega) x) (dig_last (by omega) y) (by unfold Lo at hx; omega) (by unfold Lo at hy; omega)
 rwa [zcm (by omega), zcm (by omega)] at this
theorem add_digit (x y c va vb : Nat) (hne : x + 10000 * va + (y + 10000 * vb) + c ≠ 0) : dig 10000 (x + 10000 * va + (y + 10000 * vb) + c) = (((x + y + c) % 10000 : Nat) : Int) :: dig 10000 (va + vb + (x + y + c) / 10000) := by
 have e : x + 10000 * va + (y + 10000 * vb) + c = (x + y + c) + 10000 * (va + vb) := by omega
 rw [dig_pos (by omega) hne, e, Nat.add_mul_mod_self_left, Nat.add_mul_div_left _ _ (by omega), Nat.add_comm ((x + y + c) / 10000)]
theorem add_wraps (x y c : Nat) (hx : x < 10000) (hy : y < 10000) (hc : c ≤ 1) : wrap64 (wrap64 ((x : Int) + y) + c) = ((x + y + c : Nat) : Int) ∧ Int.tmod ((x + y + c : Nat) : Int) 10000 = (((x + y + c) % 10000 : Nat) : Int) ∧ wrap64 (Int.tdiv ((x + y + c : Nat) : Int) 10000) = (((x + y + c) / 10000 : Nat) : Int) ∧ (x + y + c) / 10000 ≤ 1 := by
 refine ⟨?_, ?_, ?_, by omega⟩
 ·
  rw [w64s (x := (x : Int) + y) (by omega) (by omega), w64s (by omega) (by omega)]
  omega
 ·
  rw [Int.tmod_eq_emod_of_nonneg (by omega)]
  omega
 ·
  rw [Int.tdiv_eq_ediv_of_nonneg (by omega), w64s (by omega) (by omega)]
  omega
theorem rAdd_end (a b : List Int) (i c : Nat) (out : List Int) (h1 : ¬ i < a.length) (h2 : ¬ i < b.length) (h3 : ¬ 0 < c) :
  Ev (fun k => zav.l0 k a b out (c : Int) (i : Int)) (out ++ dig 10000 (V 10000 a i + V 10000 b i + c)) := by
 refine Ev.step (G := fun k => zav.j1 k a b out (c : Int) (i : Int) false) (fun k => ?_) ?_
 ·
  rw [zav.l0, if_neg (by omega), if_neg (by omega), decide_eq_false (by omega)]
 ·
  refine Ev.step (G := fun _ => some out) (fun k => ?_) ?_
  ·
   rw [zav.j1, if_neg (by simp)]
  ·
   rw [V_end _ (by omega), V_end _ (by omega), show c = 0 by omega, zch, List.append_nil]
   exact Ev.const _
theorem rAdd_l0 (a b : List Int) (ha : Dig 10000 a) (hb : Dig 10000 b) (ga : Good a) (gb : Good b) (hs : a.length < 1000000) (hs' : b.length < 1000000) : ∀ (m i c : Nat) (out : List Int), a.length + 1 ≤ i + m → b.length + 1 ≤ i + m → (i ≤ a.length ∨ i ≤ b.length ∨ c = 0) → c ≤ 1 → i ≤ 1000001 → out.length = i →
  Ev (fun k => zav.l0 k a b out (c : Int) (i : Int)) (out ++ dig 10000 (V 10000 a i + V 10000 b i + c)) := by
 intro m
 induction m with
 | zero =>
  intro i c out hm hm2 hm3 hc hi ho
  exact rAdd_end a b i c out (by omega) (by omega) (by omega)
 | succ m ih =>
  intro i c out hm hm2 hm3 hc hi ho
  by_cases hgo : i < a.length ∨ i < b.length ∨ 0 < c
  ·
   have hi2 : i ≤ 1000000 := by
    clear ih
    rcases hgo with h | h | h <;> rcases hm3 with g | g | g <;> omega
   have ha1 := ha.get (show 0 < 10000 by omega) i
   have hb1 := hb.get (show 0 < 10000 by omega) i
   have hva := zc1 10000 a i
   have hvb := zc1 10000 b i
   obtain ⟨x, hx⟩ := Int.eq_ofNat_of_zero_le ha1.1
   obtain ⟨y, hy⟩ := Int.eq_ofNat_of_zero_le hb1.1
   rw [hx] at hva ha1
   rw [hy] at hvb hb1
   rw [Int.toNat_natCast] at hva hvb
   have hxe : a.length ≤ i → x = 0 := fun h => by
    rw [List.getD_eq_getElem?_getD, List.getElem?_eq_none h] at hx
    exact (Int.ofNat_inj.1 hx).symm
   have hye : b.length ≤ i → y = 0 := fun h => by
    rw [List.getD_eq_getElem?_getD, List.getElem?_eq_none h] at hy
    exact (Int.ofNat_inj.1 hy).symm
   obtain ⟨e1, e2, e3, e5⟩ := add_wraps x y c (by omega) (by omega) hc
   have e4 : wrap64 ((i : Int) + 1) = ((i + 1 : Nat) : Int) := by rw [w64s (by omega) (by omega)]; omega
   have hpos : V 10000 a i + V 10000 b i + c ≠ 0 := pos3 (hgo.imp (V_pos (by decide) ha ga i) (Or.imp (V_pos (by decide) hb gb i) id))
   have ed := add_digit x y c (V 10000 a (i + 1)) (V 10000 b (i + 1)) (by rw [← hva, ← hvb]; exact hpos)
   rw [← hva, ← hvb] at ed
   clear hva hvb hpos
   have E := Lib.hid ed
   have E1 := Lib.hid e1
   have E2 := Lib.hid e2
   have E3 := Lib.hid e3
   have E4 := Lib.hid e4
   clear ed e1 e2 e3 e4
   have h3 : i + 1 ≤ a.length ∨ i + 1 ≤ b.length ∨ (x + y + c) / 10000 = 0 := by
    by_cases h1 : i + 1 ≤ a.length
    ·
     exact .inl h1
    ·
     by_cases h2 : i + 1 ≤ b.length
     ·
      exact .inr (.inl h2)
     ·
      right; right
      rw [hxe (Nat.le_of_lt_succ (Nat.lt_of_not_le h1)), hye (Nat.le_of_lt_succ (Nat.lt_of_not_le h2))]
      clear hxe hye hgo hm3
      omega
   clear hxe hye hm3
   have hgo := Lib.hid hgo
   refine Ev.step (G := fun k => zav.j1 k a b out (c : Int) (i : Int) true) (fun k => ?_) ?_
   ·
    rw [zav.l0]
    by_cases h1 : i < a.length
    ·
     rw [if_pos (by omega)]
    ·
     rw [if_neg (by omega)]
     by_cases h2 : i < b.length
     ·
      rw [if_pos (by omega)]
     ·
      rw [if_neg (by omega), decide_eq_true (by rcases hgo.out with h | h | h <;> omega)]
   ·
    refine Ev.step (G := fun k => zav.l0 k a b (out ++ [(((x + y + c) % 10000 : Nat) : Int)]) (((x + y + c) / 10000 : Nat) : Int) ((i + 1 : Nat) : Int)) (fun k => ?_) ?_
    ·
     rw [zav.j1, if_pos rfl, rat, rat, hx, hy]
     simp only [Option.bind_some]
     rw [if_pos (by omega), E1.out, E2.out, E3.out, E4.out]
    ·
     have ih2 := ih (i + 1) ((x + y + c) / 10000) (out ++ [(((x + y + c) % 10000 : Nat) : Int)]) (by omega) (by omega) h3 e5 (by omega) (by rw [List.length_append, ho]; rfl)
     rw [List.append_assoc] at ih2
     rw [E.out]
     exact ih2
  ·
   exact rAdd_end a b i c out (by omega) (by omega) (by omega)
theorem rAdd (x y : Nat) (hx : Lo x) (hy : Lo y) : Ev (fun k => zav.f k (dig 10000 x) (dig 10000 y)) (dig 10000 (x + y)) := by
 unfold Lo at hx hy
 have := rAdd_l0 (dig 10000 x) (dig 10000 y) (zcl (by omega) x) (zcl (by omega) y) (dig_last (by omega) x) (dig_last (by omega) y) (by omega) (by omega) 1000000 0 0 [] (by omega) (by omega) (by omega) (by omega) (by omega) rfl
 rw [zda, zda, zcm (by omega), zcm (by omega)] at this
 exact this
theorem mul_digit (o x y c : Nat) (ho : o < 10000) (hx : x < 10000) (hy : y < 10000) (hc : c < 10000) : x * y ≤ 99980001 ∧ wrap64 (wrap64 ((o : Int) + wrap64 ((x : Int) * (y : Int))) + (c : Int)) = ((o + x * y + c : Nat) : Int) ∧ Int.tmod ((o + x * y + c : Nat) : Int) 10000 = (((o + x * y + c) % 10000 : Nat) : Int) ∧ wrap64 (Int.tdiv ((o + x * y + c : Nat) : Int) 10000) = (((o + x * y + c) / 10000 : Nat) : Int) ∧ (o + x * y + c) / 10000 < 10000 := by
 have h : x * y ≤ 9999 * 9999 := Nat.mul_le_mul (by omega) (by omega)
 have e : (x : Int) * (y : Int) = ((x * y : Nat) : Int) := by simp
 rw [e]
 refine ⟨by omega, ?_, ?_, ?_, by omega⟩
 ·
  rw [w64s (x := ((x * y : Nat) : Int)) (by omega) (by omega), w64s (x := (o : Int) + ((x * y : Nat) : Int)) (by omega) (by omega), w64s (by omega) (by omega)]
  omega
 ·
  rw [Int.tmod_eq_emod_of_nonneg (by omega)]
  omega
 ·
  rw [Int.tdiv_eq_ediv_of_nonneg (by omega), w64s (by omega) (by omega)]
  omega
theorem rMul_l1 (a b : List Int) (ha : Dig 10000 a) (hb : Dig 10000 b) (hs : a.length < 1000000) (hs' : b.length < 1000000) (i : Nat) (hi : i < a.length) : ∀ (m j c : Nat) (out : List Int), j + m = b.length → c < 10000 → Dig 10000 out → out.length = a.length + b.length →
  ∃ (out' : List Int) (c' : Nat), Dig 10000 out' ∧ out'.length = a.length + b.length ∧ c' < 10000 ∧ (∀ p, i + b.length ≤ p → out'.getD p 0 = out.getD p 0) ∧
   val 10000 out' + 10000 ^ (i + b.length) * c' = val 10000 out + 10000 ^ (i + j) * c + 10000 ^ (i + j) * ((a.getD i 0).toNat * V 10000 b j) ∧
   ∀ r, Ev (fun k => zaj.l1 k a b out' (i : Int) (c' : Int) (a.length : Int) (i : Int) (b.length : Int) (b.length : Int)) r → Ev (fun k => zaj.l1 k a b out (i : Int) (c : Int) (a.length : Int) (i : Int) (b.length : Int) (j : Int)) r := by
 intro m
 induction m with
 | zero =>
  intro j c out hj hc hd hl
  obtain rfl : j = b.length := by omega
  refine ⟨out, c, hd, hl, hc, fun _ _ => rfl, ?_, fun r h => h⟩
  rw [V_end _ (Nat.le_refl _)]
  simp
 | succ m ih =>
  intro j c out hj hc hd hl
  have hx := ha.get (show 0 < 10000 by decide) i
  have hy := hb.get (show 0 < 10000 by decide) j
  have ho := hd.get (show 0 < 10000 by decide) (i + j)
  have hv := zc1 10000 b j
  obtain ⟨x, hx'⟩ := Int.eq_ofNat_of_zero_le hx.1
  obtain ⟨y, hy'⟩ := Int.eq_ofNat_of_zero_le hy.1
  obtain ⟨o, ho'⟩ := Int.eq_ofNat_of_zero_le ho.1
  rw [hx'] at hx ⊢
  rw [hy'] at hy hv
  rw [ho'] at ho
  rw [Int.toNat_natCast] at hv ⊢
  obtain ⟨b1, e1, e2, e3, e5⟩ := mul_digit o x y c (by omega) (by omega) (by omega) hc
  have E1 := Lib.hid e1
  have E2 := Lib.hid e2
  have E3 := Lib.hid e3
  clear e1 e2 e3
  have hset := val_set 10000 out (i + j) (((o + x * y + c) % 10000 : Nat) : Int) (by omega)
  rw [ho', Int.toNat_natCast, Int.toNat_natCast] at hset
  obtain ⟨out', c', h1, h2, h3, h4, h5, h6⟩ := ih (j + 1) ((o + x * y + c) / 10000) (out.set (i + j) (((o + x * y + c) % 10000 : Nat) : Int)) (by omega) e5 (dig_set hd _ (by omega) (by omega)) (by rw [List.length_set]; exact hl)
  have EJ := Lib.hid (wadd i j (by omega))
  have EK := Lib.hid (wadd1 j (by omega))
  refine ⟨out', c', h1, h2, h3, fun p hp => ?_, ?_, fun r hr => ?_⟩
  ·
   rw [h4 p hp, getD_set_ne (by omega)]
  ·
   rw [h5, hx', Int.toNat_natCast, show i + (j + 1) = i + j + 1 by omega, Nat.pow_succ]
   exact mul_val _ _ o x y c _ _ _ _ _ _ hset hv (by omega)
  ·
   refine Ev.step (fun k => ?_) (h6 r hr)
   rw [zaj.l1, if_pos (by omega), EJ.out, if_pos (by omega), if_pos (by omega), if_pos (by omega), if_pos (by omega), if_pos (by omega), if_pos (by omega), rd_nat, rd_nat, rd_nat, hx', hy', ho', E1.out, E2.out, E3.out, EK.out, Int.toNat_natCast]
theorem rMul_l0 (a b : List Int) (ha : Dig 10000 a) (hb : Dig 10000 b) (hs : a.length < 1000000) (hs' : b.length < 1000000) : ∀ (m i : Nat) (out : List Int), i + m = a.length → Dig 10000 out → out.length = a.length + b.length → (∀ p, i + b.length ≤ p → out.getD p 0 = 0) →
  Ev (fun k => zaj.l0 k a b out (a.length : Int) (i : Int)) (dig 10000 (val 10000 out + 10000 ^ i * (V 10000 a i * val 10000 b))) := by
 intro m
 induction m with
 | zero =>
  intro i out hi hd hl hz
  refine Ev.step (G := fun k => (zam.f k out).bind fun t190 => some t190) (fun k => ?_) ?_
  ·
   rw [zaj.l0, if_neg (by omega)]
  ·
   rw [V_end _ (by omega), Nat.zero_mul, Nat.mul_zero, Nat.add_zero]
   exact Ev.bind (rtrim_dig out (by omega) hd) (Ev.const _)
 | succ m ih =>
  intro i out hi hd hl hz
  obtain ⟨out', c', h1, h2, h3, h4, h5, h6⟩ := rMul_l1 a b ha hb hs hs' i (by omega) b.length 0 0 out (by omega) (by omega) hd hl
  have hz' := (h4 (i + b.length) (Nat.le_refl _)).trans (hz _ (Nat.le_refl _))
  have hset := val_set 10000 out' (i + b.length) (c' : Int) (by omega)
  rw [hz', Int.toNat_natCast] at hset
  have EI := Lib.hid (wadd i b.length (by omega))
  have EI1 := Lib.hid (wadd1 i (by omega))
  have EC := Lib.hid (show wrap64 (0 + (c' : Int)) = (c' : Int) by rw [Int.zero_add]; exact wid c' (by omega))
  have ih2 := ih (i + 1) (out'.set (i + b.length) (c' : Int)) (by omega) (dig_set h1 _ (by omega) (by omega)) (by rw [List.length_set]; exact h2) (fun p hp => by
   rw [getD_set_ne (by omega), h4 p (by omega), hz p (by omega)])
  have hva := zc1 10000 a i
  have hval : val 10000 out + 10000 ^ i * (V 10000 a i * val 10000 b) = val 10000 (out'.set (i + b.length) (c' : Int)) + 10000 ^ (i + 1) * (V 10000 a (i + 1) * val 10000 b) := by
   rw [hva, Nat.add_mul, Nat.mul_add, Nat.pow_succ, Nat.mul_assoc 10000, ← Nat.mul_assoc (10000 ^ i) 10000]
   rw [zda, Nat.add_zero, Nat.mul_zero, Nat.add_zero] at h5
   simp only [Int.toNat_zero, Nat.mul_zero, Nat.add_zero] at hset
   omega
  rw [hval]
  refine Ev.step (G := fun k => zaj.l1 k a b out (i : Int) 0 (a.length : Int) (i : Int) (b.length : Int) 0) (fun k => ?_) (h6 _ ?_)
  ·
   rw [zaj.l0, if_pos (by omega)]
  ·
   refine Ev.step (fun k => ?_) ih2
   rw [zaj.l1, if_neg (by omega), EI.out, if_pos (by omega), if_pos (by omega), rd_nat, hz', EC.out, EI1.out, Int.toNat_natCast]
theorem rMul (x y : Nat) (hx : Lo x) (hy : Lo y) : Ev (fun k => zaj.f k (dig 10000 x) (dig 10000 y)) (dig 10000 (x * y)) := by
 unfold Lo at hx hy
 have dx := zcl (B := 10000) (by omega) x
 have dy := zcl (B := 10000) (by omega) y
 have vx := zcm (B := 10000) (by omega) x
 have vy := zcm (B := 10000) (by omega) y
 generalize dig 10000 x = a at *
 generalize dig 10000 y = b at *
 have h := rMul_l0 a b dx dy (by omega) (by omega) a.length 0 (List.replicate (a.length + b.length) 0) (by omega) (Dig.rep (by omega) _) (by simp) (fun p _ => by
  rw [List.getD_eq_getElem?_getD, List.getElem?_replicate]
  split <;> rfl)
 rw [zda, zci, vx, vy, Nat.pow_zero, Nat.one_mul, Nat.zero_add] at h
 refine Ev.congr (fun k => ?_) h
 rw [zaj.f, wadd a.length b.length (by omega)]
 rw [if_pos (by omega), Int.toNat_natCast, if_pos (by omega)]
 rfl
theorem Lo_lt {n m : Nat} (h : n < 18446744073709551616 ^ m) (hm : m ≤ 20000) : Lo n := by
 have h2 : 18446744073709551616 ^ m ≤ (10000 ^ 5) ^ m := Nat.pow_le_pow_left (by decide) m
 rw [← Nat.pow_mul] at h2
 have := dig_length (B := 10000) (by decide) (5 * m) n (Nat.lt_of_lt_of_le h h2)
 unfold Lo
 omega
theorem limb_wraps (p : Nat) (hp : p < 18446744073709551616) : IntKind.u64.wrap (Int.tdiv (p : Int) 65536) = ((p / 65536 : Nat) : Int) ∧ wrap64 (Int.tmod (p : Int) 65536) = ((p % 65536 : Nat) : Int) := by
 constructor
 ·
  rw [Int.tdiv_eq_ediv_of_nonneg (by omega), u64s (by omega) (by omega)]
  omega
 ·
  rw [Int.tmod_eq_emod_of_nonneg (by omega), w64s (by omega) (by omega)]
  omega
theorem rLimbs_l2 (l : List Int) (i : Int) (kk : Nat) (hk : kk ≤ 3) (n : Nat) (r : List Int) (h0 : Lo n) : ∀ (m p j : Nat), j + m = kk → p < 18446744073709551616 → Lo (n * 65536) → Ev (fun k => zaf.l1 k l (dig 10000 (n * 65536 + (p / 65536 ^ m) % 65536)) i (wrap64 ((kk : Int) - 1))) r →
  Ev (fun k => zaf.l2 k l (dig 10000 n) i (kk : Int) (p : Int) (kk : Int) (j : Int)) r := by
 intro m
 induction m with
 | zero =>
  intro p j hj hp h1 h
  obtain ⟨w1, w2⟩ := limb_wraps p hp
  have W2 := Lib.hid w2
  clear w1 w2
  have hs : Lo (p % 65536) := Lo_lt (m := 1) (by omega) (by omega)
  have h65 : Ev (fun k => zax.f k 65536) (dig 10000 65536) := rOf 65536 (by omega)
  refine Ev.step (G := fun k => (zax.f k 65536).bind fun t209 => (zaj.f k (dig 10000 n) t209).bind fun t212 => (zax.f k ((p % 65536 : Nat) : Int)).bind fun t215 => (zav.f k t212 t215).bind fun t218 => zaf.l1 k l t218 i (wrap64 ((kk : Int) - 1))) (fun k => ?_) ?_
  ·
   rw [zaf.l2, if_neg (by omega), W2.out]
  ·
   refine Ev.bind h65 (Ev.bind (rMul n 65536 h0 (Lo_lt (m := 1) (by omega) (by omega))) (Ev.bind (rOf (p % 65536) (by omega)) (Ev.bind (rAdd (n * 65536) (p % 65536) h1 hs) ?_)))
   rw [Nat.pow_zero, Nat.div_one] at h
   exact h
 | succ m ih =>
  intro p j hj hp h1 h
  obtain ⟨w1, w2⟩ := limb_wraps p hp
  have W1 := Lib.hid w1
  clear w1 w2
  have WA := Lib.hid (wadd1 j (by omega))
  refine Ev.step (fun k => ?_) (ih (p / 65536) (j + 1) (by omega) (by omega) h1 (by rw [show p / 65536 / 65536 ^ m = p / 65536 ^ (m + 1) by rw [Nat.div_div_eq_div_mul, Nat.pow_succ, Nat.mul_comm]]; exact h))
  rw [zaf.l2, if_pos (by omega), W1.out, WA.out]
theorem rLimbs_l1 (l : List Int) (i x : Nat) (hi : i < l.length) (hx : l.getD i 0 = (x : Int)) (hx1 : x < 18446744073709551616) (kk : Nat) (hk : kk ≤ 3) (n n' : Nat) (hn : n' = n * 65536 + (x / 65536 ^ kk) % 65536) (h0 : Lo n) (h1 : Lo (n * 65536)) (r : List Int)
  (h : Ev (fun k => zaf.l1 k l (dig 10000 n') (i : Int) (wrap64 ((kk : Int) - 1))) r) : Ev (fun k => zaf.l1 k l (dig 10000 n) (i : Int) (kk : Int)) r := by
 subst hn
 refine Ev.step (fun k => ?_) (rLimbs_l2 l (i : Int) kk hk n r h0 kk x 0 (by omega) hx1 h1 h)
 rw [zaf.l1, if_pos (by omega), if_pos (by omega), if_pos (by omega), rd_nat, hx]
 rfl
theorem rLimbs_l0 (l : List Int) (hd : Dig 18446744073709551616 l) (hl : l.length ≤ 10000) : ∀ i : Nat, i ≤ l.length → Ev (fun k => zaf.l0 k l (dig 10000 (V 18446744073709551616 l i)) ((i : Int) - 1)) (dig 10000 (val 18446744073709551616 l)) := by
 intro i
 induction i with
 | zero =>
  intro _
  refine Ev.step (G := fun _ => some (dig 10000 (V 18446744073709551616 l 0))) (fun k => ?_) (Ev.const _)
  rw [zaf.l0, if_neg (by omega)]
 | succ i ih =>
  intro hi
  have hg := hd.get (show 0 < 18446744073709551616 by decide) i
  obtain ⟨x, hx⟩ := Int.eq_ofNat_of_zero_le hg.1
  rw [hx] at hg
  have hx1 : x < 18446744073709551616 := by omega
  have hv := zc1 18446744073709551616 l i
  rw [hx, Int.toNat_natCast] at hv
  have hb := V_bound (show 0 < 18446744073709551616 by decide) hd i
  have hlo : ∀ m, m ≤ V 18446744073709551616 l i → Lo m := fun m hm => Lo_lt (Nat.lt_of_le_of_lt hm hb) (by omega)
  clear hb
  generalize V 18446744073709551616 l i = v at *
  generalize V 18446744073709551616 l (i + 1) = n at *
  have e0 : ((i + 1 : Nat) : Int) - 1 = (i : Int) := by omega
  rw [e0]
  have ih2 := ih (by omega)
  refine Ev.step (G := fun k => zaf.l1 k l (dig 10000 n) (i : Int) 3) (fun k => ?_) ?_
  ·
   rw [zaf.l0, if_pos (by omega)]
  ·
   refine rLimbs_l1 l i x (by omega) hx hx1 3 (by omega) n (n * 65536 + x / 281474976710656) (by omega) (hlo _ (by omega)) (hlo _ (by omega)) _ ?_
   rw [show wrap64 ((3 : Nat) - 1) = ((2 : Nat) : Int) from w64s (by omega) (by omega)]
   refine rLimbs_l1 l i x (by omega) hx hx1 2 (by omega) _ (n * 4294967296 + x / 4294967296) (by omega) (hlo _ (by omega)) (hlo _ (by omega)) _ ?_
   rw [show wrap64 ((2 : Nat) - 1) = ((1 : Nat) : Int) from w64s (by omega) (by omega)]
   refine rLimbs_l1 l i x (by omega) hx hx1 1 (by omega) _ (n * 281474976710656 + x / 65536) (by omega) (hlo _ (by omega)) (hlo _ (by omega)) _ ?_
   rw [show wrap64 ((1 : Nat) - 1) = ((0 : Nat) : Int) from w64s (by omega) (by omega)]
   refine rLimbs_l1 l i x (by omega) hx hx1 0 (by omega) _ v (by omega) (hlo _ (by omega)) (hlo _ (by omega)) _ ?_
   refine Ev.step (fun k => ?_) ih2
   rw [show wrap64 ((0 : Nat) - 1) = -1 from w64s (by omega) (by omega), zaf.l1, if_neg (by omega), w64s (by omega) (by omega)]
theorem rLimbs (l : List Int) (hd : Dig 18446744073709551616 l) (hl : l.length ≤ 10000) : Ev (fun k => zaf.f k l) (dig 10000 (val 18446744073709551616 l)) := by
 have h := rLimbs_l0 l hd hl l.length (Nat.le_refl _)
 rw [V_end _ (Nat.le_refl _), zch] at h
 refine Ev.congr (fun k => ?_) h
 rw [zaf.f, w64s (by omega) (by omega)]
theorem rsub_digit (x y bo va vb : Nat) (hx : x < 10000) (hy : y < 10000) (hbo : bo ≤ 1) (h : y + 10000 * vb + bo ≤ x + 10000 * va) :
  ∃ d bo' : Nat, d < 10000 ∧ bo' ≤ 1 ∧ d + y + bo = x + 10000 * bo' ∧ vb + bo' ≤ va ∧
   ((wrap64 (wrap64 ((x : Int) - (y : Int)) - (bo : Int)) < 0 ∧ bo' = 1 ∧ wrap64 (wrap64 (wrap64 ((x : Int) - (y : Int)) - (bo : Int)) + 10000) = (d : Int)) ∨ (¬ wrap64 (wrap64 ((x : Int) - (y : Int)) - (bo : Int)) < 0 ∧ bo' = 0 ∧ wrap64 (wrap64 ((x : Int) - (y : Int)) - (bo : Int)) = (d : Int))) := by
 rw [w64s (x := (x : Int) - (y : Int)) (by omega) (by omega), w64s (x := (x : Int) - (y : Int) - (bo : Int)) (by omega) (by omega)]
 by_cases hlt : x < y + bo
 ·
  refine ⟨x + 10000 - y - bo, 1, by omega, by omega, by omega, by omega, .inl ⟨by omega, rfl, ?_⟩⟩
  rw [w64s (by omega) (by omega)]
  omega
 ·
  exact ⟨x - y - bo, 0, by omega, by omega, by omega, by omega, .inr ⟨by omega, rfl, by omega⟩⟩
theorem rSub_l0 (a b : List Int) (ha : Dig 10000 a) (hb : Dig 10000 b) (hs : a.length < 1000000) (hs' : b.length ≤ a.length) (T : Nat) : ∀ (m i bo : Nat) (out : List Int), i + m = a.length → bo ≤ 1 → out.length = i → Dig 10000 out →
  V 10000 b i + bo ≤ V 10000 a i → val 10000 out + 10000 ^ i * V 10000 a i = T + 10000 ^ i * (V 10000 b i + bo) →
  Ev (fun k => za9.l0 k a b out (bo : Int) (a.length : Int) (i : Int)) (dig 10000 T) := by
 intro m
 induction m with
 | zero =>
  intro i bo out hi hbo ho hd hle hT
  refine Ev.step (G := fun k => (zam.f k out).bind fun t335 => some t335) (fun k => ?_) ?_
  ·
   rw [za9.l0, if_neg (by omega)]
  ·
   have h := rtrim_dig out (by omega) hd
   rw [V_end _ (show a.length ≤ i by omega)] at hT hle
   have h0 : V 10000 b i + bo = 0 := by omega
   rw [h0, Nat.mul_zero, Nat.add_zero, Nat.add_zero] at hT
   rw [hT] at h
   exact Ev.bind h (Ev.const _)
 | succ m ih =>
  intro i bo out hi hbo ho hd hle hT
  have ha1 := ha.get (show 0 < 10000 by decide) i
  have hb1 := hb.get (show 0 < 10000 by decide) i
  have hva := zc1 10000 a i
  have hvb := zc1 10000 b i
  obtain ⟨x, hx⟩ := Int.eq_ofNat_of_zero_le ha1.1
  obtain ⟨y, hy⟩ := Int.eq_ofNat_of_zero_le hb1.1
  rw [hx] at hva ha1
  rw [hy] at hvb hb1
  rw [Int.toNat_natCast] at hva hvb
  rw [hva, hvb] at hle hT
  obtain ⟨d, bo', h1, h2, h3, h4, h5⟩ := rsub_digit x y bo _ _ (by omega) (by omega) hbo hle
  have hv := less_val _ _ _ _ _ _ _ _ _ _ _ hT h3
  rw [← Nat.pow_succ] at hv
  have hval : val 10000 (out ++ [(d : Int)]) = val 10000 out + 10000 ^ i * d := by
   rw [val_append, ho]
   simp [val]
  rw [← hval] at hv
  have H5 := Lib.hid h5
  have ih2 := ih (i + 1) bo' (out ++ [(d : Int)]) (by clear h5; omega) h2 (by rw [List.length_append, ho]; rfl) (hd.app (Dig.mk (by clear h5; omega) (by clear h5; omega) (Dig.nil _))) h4 hv
  clear h5 hv hval hT hle hva hvb h3 h4
  have H2 := Lib.hid ih2
  have WA := Lib.hid (wadd1 i (by omega))
  clear ih2
  refine Ev.step (fun k => ?_) H2.out
  rw [za9.l0, if_pos (by omega), if_pos (by omega), if_pos (by omega), rat, Option.bind_some, rd_nat, hx, hy]
  rcases H5.out with ⟨c1, c2, c3⟩ | ⟨c1, c2, c3⟩
  ·
   rw [if_pos c1, c3, c2]
   clear c1 c3
   rw [if_pos (by omega), WA.out]
   rfl
  ·
   rw [if_neg c1, c3, c2]
   clear c1 c3
   rw [if_pos (by omega), WA.out]
   rfl
theorem rSub (x y : Nat) (hx : Lo x) (hy : y ≤ x) : Ev (fun k => za9.f k (dig 10000 x) (dig 10000 y)) (dig 10000 (x - y)) := by
 have hl := dig_mono (B := 10000) (by decide) hy
 unfold Lo at hx
 have dx := zcl (B := 10000) (by decide) x
 have dy := zcl (B := 10000) (by decide) y
 have vx := zcm (B := 10000) (by decide) x
 have vy := zcm (B := 10000) (by decide) y
 generalize dig 10000 x = a at *
 generalize dig 10000 y = b at *
 have h := rSub_l0 a b dx dy (by omega) hl (x - y) a.length 0 0 [] (by omega) (by omega) rfl (Dig.nil _) (by rw [zda, zda, vx, vy]; omega) (by rw [zda, zda, vx, vy]; simp [val]; omega)
 exact h
theorem limbs_dig {x m : Nat} (hx : x < 18446744073709551616 ^ m) (h : m ≤ 10000) : Ev (fun k => zaf.f k (dig 18446744073709551616 x)) (dig 10000 x) := by
 have := rLimbs (dig 18446744073709551616 x) (zcl (by decide) x) (Nat.le_trans (dig_length (by decide) m x hx) h)
 rwa [zcm (by decide)] at this
end Go.Proofs.YtfjkamhcabckeaaDoor.P
end
