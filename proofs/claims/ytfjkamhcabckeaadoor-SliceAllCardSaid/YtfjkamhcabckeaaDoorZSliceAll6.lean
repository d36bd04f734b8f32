-- Written by a program of this session (wip/tools/shake.py) out of its own texts and of the kit's printed ones; not trusted: Lean checks it.
import Derived.Test.YtfjkamhcabckeaaDoorZSliceAll5
set_option maxHeartbeats 8000000
set_option maxRecDepth 100000
set_option linter.unusedVariables false
set_option linter.unusedSimpArgs false
section
namespace Go.Proofs.YtfjkamhcabckeaaDoor.P
open Go.RowKit Go.Proofs.YtfjkamhcabckeaaDoorW.PrintWords Go.Proofs.YtfjkamhcabckeaaDoorW.PrintLast Go.Proofs.YtfjkamhcabckeaaDoorW.PrintMore
attribute [local go_sem] zdm zdh max_two min_two zc8 zc9 zdg zdi
def za5.f (k : Nat) (l0_0 : List Int) (l0_1 : List Int) : Option (ByteArray) := (zbt.f k).bind fun t234 => ((zcv.f l0_1 t234).bind fun t237 => (if t237 = 0 then ((zb1.f k l0_0).bind fun t238 => (some t238)) else ((zb1.f k l0_0).bind fun t239 => (if t239.size + 1 ≤ 9223372036854775807 then ((zb1.f k l0_1).bind fun t240 => (if (t239 ++ (⟨#[47]⟩ : ByteArray)).size + t240.size ≤ 9223372036854775807 then (some ((t239 ++ (⟨#[47]⟩ : ByteArray)) ++ t240)) else (none))) else (none)))))
theorem za5.mono : ∀ a0 a1 k, LeO (za5.f k a0 a1) (za5.f (k + 1) a0 a1) := by
 intro a0 a1 k
 unfold za5.f
 repeat' first
   | (with_reducible exact zb1.mono _ _)
   | (with_reducible exact zbt.mono _)
   | (with_reducible exact LeO.refl _)
   | (with_reducible exact LeO.none _)
   | (with_reducible refine LeO.ite ?_ ?_)
   | (with_reducible refine LeO.bind ?_ (fun _ => ?_))
   | exact zb1.mono _ _
   | exact zbt.mono _
   | exact LeO.none _
   | refine LeO.ite ?_ ?_
   | refine LeO.bind ?_ (fun _ => ?_)
def za5.T3 : Bool × List (List Nat × List Nat) := (true, [([], []), ([0], [0]), ([1], [1]), ([2], [2]), ([], []), ([4], [4]), ([5, 2], [5]), ([3, 6], [3, 6]), ([7, 6, 0, 1, 2, 3, 4, 5, 6, 7], [7])])
def za5.B3 : List Nat := [0, 1, 3, 7, 0, 16, 55, 127, 255]
theorem za5.tab3 : rtab .any (opsOf Tryd.f41 3) = za5.T3 := by kernel_rfl
theorem za5.bits3 : waitsOk za5.T3.2 za5.B3 = true := by kernel_rfl
theorem za5.calls (k : Nat) (A0_0 : Option Addr) (c0_0 : Nat) (l0_0 : List Int) (A0_1 : Option Addr) (c0_1 : Nat) (l0_1 : List Int) (r : ByteArray) (w : World) (hr0_0 : Kd.C (Kd.int .u64) w A0_0 l0_0.length l0_0) (hc0_0 : l0_0.length ≤ c0_0) (hr0_1 : Kd.C (Kd.int .u64) w A0_1 l0_1.length l0_1) (hc0_1 : l0_1.length ≤ c0_1) (hG : Glob w) (h : za5.f k l0_0 l0_1 = some r) :
  Calls Tryd.prog 41 #[.agg #[.slice A0_0 l0_0.length c0_0, .slice A0_1 l0_1.length c0_1]] w fun e w' => e = .returned (.string r) ∧ Below w.heap.size w w' := by
 have hu28 := Tryd.underlying28
 have HR0_0 := zA hr0_0
 have HC0_0 := zA hc0_0
 clear hr0_0 hc0_0
 have HR0_1 := zA hr0_1
 have HC0_1 := zA hc0_1
 clear hr0_1 hc0_1
 have HG := zA hG
 clear hG
 have HB := zA (Below.refl w.heap.size w)
 have H : ((zbt.f k).bind fun t234 => ((zcv.f l0_1 t234).bind fun t237 => (if t237 = 0 then ((zb1.f k l0_0).bind fun t238 => (some t238)) else ((zb1.f k l0_0).bind fun t239 => (if t239.size + 1 ≤ 9223372036854775807 then ((zb1.f k l0_1).bind fun t240 => (if (t239 ++ (⟨#[47]⟩ : ByteArray)).size + t240.size ≤ 9223372036854775807 then (some ((t239 ++ (⟨#[47]⟩ : ByteArray)) ++ t240)) else (none))) else (none)))))) = some r := h
 clear h
 replace H := zO H
 obtain ⟨t234, A20, H⟩ := H
 try dsimp only at H
 have A2 := zA A20
 clear A20
 replace H := zO H
 obtain ⟨t237, A30, H⟩ := H
 try dsimp only at H
 have A3 := zA A30
 clear A30
 by_cases c4 : t237 = 0
 ·
  rw [if_pos c4] at H
  have c4b0 : (t237 == 0) = true := beq_iff_eq.mpr c4
  have c4b1 : (t237 != 0) = false := bne_eq_false_iff_eq.mpr c4
  clear c4
  replace H := zO H
  obtain ⟨t238, A50, H⟩ := H
  try dsimp only at H
  have A5 := zA A50
  clear A50
  obtain rfl := Option.some.inj H
  go_enter Tryd.func41, Tryd.ntmps41
  try go_wp2_with (first | ((with_reducible refine zbe (N := 1) rfl ?_); refine zbl ?hg (N := 1) ?hd (cs := #[.slice A0_0 l0_0.length c0_0, .slice A0_1 l0_1.length c0_1]) (t := 28) ?hr ?_; (case hd => rfl); (case hg => rfl); (case hr => first | (go_simp; done) | (go_simp; rfl)); intro gb233 hg w6 hbox hb; have n0_ := zA (zac (zB HB) hb); have n1_ := zA (hbox); have n2_ := zA ((by rw [hg]; exact (za (zB HB)) : w.heap.size ≤ gb233)); have n3_ := zA ((by rw [hg]; exact (za (zB HB)) : w.heap.size ≤ gb233)); clear HB; have HB := n0_; have BK233 := n1_; have GW233 := n2_; have GE233 := n3_; clear n0_ n1_ n2_ n3_ hb hbox hg))
  have n0_ := zA (zaj BK233.out)
  have n1_ := zA (zbi HB.out)
  clear BK233 HB
  have BK233 := n0_
  have HB := n1_
  clear n0_ n1_
  refine start_ (n := 5) (S := fun w' => w'.cell? ⟨gb233, 0, none⟩ = some (.slice A0_0 l0_0.length c0_0) ∧ w'.cell? ⟨gb233, 1, none⟩ = some (.slice A0_1 l0_1.length c0_1)) (ds := []) #[false, false, false, false, false] (by kernel_rfl) rfl rfl ⟨(zab BK233.out 0).trans rfl, (zab BK233.out 1).trans rfl⟩ (fun hHeld => ?_)
  generalize w6.drew = w7 at BK233 HB hHeld ⊢
  refine pure_ (i := 0) (N := some 3) (v := ?_) (a' := ?_) #[true, false, false, false, false] rfl rfl (by kernel_rfl) (fun _ _ _ h => h) (Or.inl ⟨by rfl, ?_⟩) ?_ ?_
  rotate_left
  ·
   intro w'
   go_simp
   with_reducible rfl
  rotate_left
  ·
   simp only [Act.put, zs1, zs2, zs3, i64_w, i32_w]
   rfl
  refine take_ (i := 1) (N := some 4) (v := ?_) (a' := ?_) #[true, true, false, false, false] rfl rfl (by kernel_rfl) (fun _ _ _ h => h) (Or.inl ⟨by rfl, ?_⟩) hHeld ?_ ?_
  rotate_left
  ·
   rintro w' ⟨s0, s1⟩
   go_simp
   with_reducible rfl
  rotate_left
  ·
   simp only [Act.put, zs1, zs2, zs3, i64_w, i32_w]
   rfl
  refine one_ (i := 2) (N := some 5) #[true, true, true, false, false] rfl rfl (by kernel_rfl) (by decide) (fun K hK => ?_)
  refine goes_ Tryd.func54 (by kernel_rfl) rfl #[] (by rfl) rfl rfl (zE) ?_
  with_reducible refine (zbt.calls k  t234 _ A2.out).mono ?_
  rintro e w8 ⟨v235, rfl, ho0, hb⟩
  refine ⟨_, rfl, ?_⟩
  have n0_ := zA (Kd.za2 (Kd.zak (ok' := fun k_ => k_ ≠ gb233) ho0 (fun k_ hk_ => (Kd.freshB (g := gb233) (o := .cells #[.slice A0_0 l0_0.length c0_0, .slice A0_1 l0_1.length c0_1] 28 (0, 0)) (zK BK233) k_ hk_))) (za (zB HB)))
  have n1_ := zA (zaf (g := gb233) (o := .cells #[.slice A0_0 l0_0.length c0_0, .slice A0_1 l0_1.length c0_1] 28 (0, 0)) (zK BK233) hb)
  have n2_ := zA (zac (zB HB) hb)
  clear BK233 HB
  have HO236 := n0_
  have BK233 := n1_
  have HB := n2_
  clear n0_ n1_ n2_
  (try clear hb)
  (try clear hb2)
  (try clear hk)
  (try clear hi)
  (try clear ho0)
  obtain ⟨Ao9, co9, eo9⟩ := Kd.za3 HO236.out
  (first | subst eo9 | (injection eo9 with f1_ f2_ f3_; have f4_ := f1_.symm; have f5_ := f3_.symm; clear f1_ f2_ f3_; subst f4_; subst f5_))
  refine hK.out _ _ ⟨(zab BK233.out 0).trans rfl, (zab BK233.out 1).trans rfl⟩ (fun hHeld => ?_)
  clear hK K
  refine norm_ (a' := ?_) ?_ ?_
  rotate_left
  ·
   show Act.put _ (some 5) _ = _
   simp only [Act.put, zs1, zs2, zs3, i64_w, i32_w]
   rfl
  refine one_ (i := 3) (N := some 6) #[true, true, true, true, false] rfl rfl (by kernel_rfl) (by decide) (fun K hK => ?_)
  refine goes_ Tryd.func52 (by kernel_rfl) rfl #[.slice A0_1 l0_1.length c0_1, .slice Ao9 t234.length co9] (by rfl) rfl rfl (zE) ?_
  with_reducible refine (zcv.calls _ _ l0_1 _ _ t234 t237 _ ?side1 ?side2 ?side3 ?side4 A3.out).mono ?_
  (case side1 => exact zJ (Kd.za6 HR0_1.out HB.out))
  (case side2 => exact HC0_1.out)
  (case side3 => exact zJ (Kd.zal HO236.out).2.2)
  (case side4 => exact (Kd.zal HO236.out).2.1)
  rintro e w10 ⟨rfl, hb⟩
  refine ⟨_, rfl, ?_⟩
  have n0_ := zA (Kd.zar (zV HO236) hb)
  have n1_ := zA (zaf (g := gb233) (o := .cells #[.slice A0_0 l0_0.length c0_0, .slice A0_1 l0_1.length c0_1] 28 (0, 0)) (zK BK233) hb)
  have n2_ := zA (zac (zB HB) hb)
  clear HO236 BK233 HB
  have HO236 := n0_
  have BK233 := n1_
  have HB := n2_
  clear n0_ n1_ n2_
  (try clear hb)
  (try clear hb2)
  (try clear hk)
  (try clear hi)
  refine hK.out _ _ ⟨(zab BK233.out 0).trans rfl, (zab BK233.out 1).trans rfl⟩ (fun hHeld => ?_)
  clear hK K
  refine norm_ (a' := ?_) ?_ ?_
  rotate_left
  ·
   show Act.put _ (some 6) _ = _
   simp only [Act.put, zs1, zs2, zs3, i64_w, i32_w]
   rfl
  refine pure_ (i := 4) (N := some 7) (v := ?_) (a' := ?_) #[true, true, true, true, true] rfl rfl (by kernel_rfl) (fun _ _ _ h => h) (Or.inl ⟨by rfl, ?_⟩) ?_ ?_
  rotate_left
  ·
   intro w'
   go_simp
   with_reducible rfl
  rotate_left
  ·
   simp only [Act.put, zs1, zs2, zs3, i64_w, i32_w]
   rfl
  refine done_ (by kernel_rfl) ?_
  have hcz11_0 : w10.cell? ⟨gb233, 0, none⟩ = some (.slice A0_0 l0_0.length c0_0) := (zab BK233.out 0).trans rfl
  have hcz11_1 : w10.cell? ⟨gb233, 1, none⟩ = some (.slice A0_1 l0_1.length c0_1) := (zab BK233.out 1).trans rfl
  have hfz11_0 := zan BK233.out 0
  have hfz11_1 := zan BK233.out 1
  try go_wp2_with (first | ((with_reducible refine zae (f := 50) rfl ?_); refine za4 (some 10) rfl rfl Tryd.func50 (by kernel_rfl) rfl #[.slice A0_0 l0_0.length c0_0] rfl (zE) ?_; (with_reducible refine (zb1.calls k (fun k_ => k_ < w.heap.size) _ _ l0_0 t238 _ ?side1 ?side2 A5.out).mono ?_); (case side1 => exact Kd.V_mk HC0_0.out (Kd.F_below (Kd.C_F (Kd.heap_int .u64) HR0_0.out) (zB HB))); (case side2 => exact Glob.below HG.out (zB HB)); rintro e w12 ⟨rfl, hb⟩; refine ⟨_, rfl, ?_⟩; have n0_ := zA (Kd.zar (zV HO236) hb); have n1_ := zA (zaf (g := gb233) (o := .cells #[.slice A0_0 l0_0.length c0_0, .slice A0_1 l0_1.length c0_1] 28 (0, 0)) (zK BK233) hb); have n2_ := zA (zac (zB HB) hb); clear HO236 BK233 HB; have HO236 := n0_; have BK233 := n1_; have HB := n2_; clear n0_ n1_ n2_; (try clear hb); (try clear hb2); (try clear hk); (try clear hi)))
  go_ret
  exact ⟨zW, zB HB⟩
 ·
  rw [if_neg c4] at H
  have c4b0 : (t237 == 0) = false := beq_eq_false_iff_ne.mpr c4
  have c4b1 : (t237 != 0) = true := bne_iff_ne.mpr c4
  replace H := zO H
  obtain ⟨t239, A130, H⟩ := H
  try dsimp only at H
  have A13 := zA A130
  clear A130
  by_cases c14 : t239.size + 1 ≤ 9223372036854775807
  ·
   rw [if_pos c14] at H
   have c14b0 := eq_true c14
   have c14b1 : decide (t239.size + 1 ≤ 9223372036854775807) = true := decide_eq_true c14
   try have c14b2 : (9223372036854775807 < t239.size + 1) = False := eq_false (Nat.not_lt.2 c14)
   replace H := zO H
   obtain ⟨t240, A150, H⟩ := H
   try dsimp only at H
   have A15 := zA A150
   clear A150
   by_cases c16 : (t239 ++ (⟨#[47]⟩ : ByteArray)).size + t240.size ≤ 9223372036854775807
   ·
    rw [if_pos c16] at H
    have c16b0 := eq_true c16
    have c16b1 : decide ((t239 ++ (⟨#[47]⟩ : ByteArray)).size + t240.size ≤ 9223372036854775807) = true := decide_eq_true c16
    try have c16b3 : (9223372036854775807 < t239.size + 1 + t240.size) = False := by have h_ := eq_false (Nat.not_lt.2 c16); rw [ByteArray.size_append] at h_; exact h_
    try have c16b2 : (9223372036854775807 < (t239 ++ (⟨#[47]⟩ : ByteArray)).size + t240.size) = False := eq_false (Nat.not_lt.2 c16)
    obtain rfl := Option.some.inj H
    go_enter Tryd.func41, Tryd.ntmps41
    try go_wp2_with (first | ((with_reducible refine zbe (N := 1) rfl ?_); refine zbl ?hg (N := 1) ?hd (cs := #[.slice A0_0 l0_0.length c0_0, .slice A0_1 l0_1.length c0_1]) (t := 28) ?hr ?_; (case hd => rfl); (case hg => rfl); (case hr => first | (go_simp; done) | (go_simp; rfl)); intro gb233 hg w17 hbox hb; have n0_ := zA (zac (zB HB) hb); have n1_ := zA (hbox); have n2_ := zA ((by rw [hg]; exact (za (zB HB)) : w.heap.size ≤ gb233)); have n3_ := zA ((by rw [hg]; exact (za (zB HB)) : w.heap.size ≤ gb233)); clear HB; have HB := n0_; have BK233 := n1_; have GW233 := n2_; have GE233 := n3_; clear n0_ n1_ n2_ n3_ hb hbox hg))
    have n0_ := zA (zaj BK233.out)
    have n1_ := zA (zbi HB.out)
    clear BK233 HB
    have BK233 := n0_
    have HB := n1_
    clear n0_ n1_
    refine start_ (n := 5) (S := fun w' => w'.cell? ⟨gb233, 0, none⟩ = some (.slice A0_0 l0_0.length c0_0) ∧ w'.cell? ⟨gb233, 1, none⟩ = some (.slice A0_1 l0_1.length c0_1)) (ds := []) #[false, false, false, false, false] (by kernel_rfl) rfl rfl ⟨(zab BK233.out 0).trans rfl, (zab BK233.out 1).trans rfl⟩ (fun hHeld => ?_)
    generalize w17.drew = w18 at BK233 HB hHeld ⊢
    refine pure_ (i := 0) (N := some 3) (v := ?_) (a' := ?_) #[true, false, false, false, false] rfl rfl (by kernel_rfl) (fun _ _ _ h => h) (Or.inl ⟨by rfl, ?_⟩) ?_ ?_
    rotate_left
    ·
     intro w'
     go_simp
     with_reducible rfl
    rotate_left
    ·
     simp only [Act.put, zs1, zs2, zs3, i64_w, i32_w]
     rfl
    refine take_ (i := 1) (N := some 4) (v := ?_) (a' := ?_) #[true, true, false, false, false] rfl rfl (by kernel_rfl) (fun _ _ _ h => h) (Or.inl ⟨by rfl, ?_⟩) hHeld ?_ ?_
    rotate_left
    ·
     rintro w' ⟨s0, s1⟩
     go_simp
     with_reducible rfl
    rotate_left
    ·
     simp only [Act.put, zs1, zs2, zs3, i64_w, i32_w]
     rfl
    refine one_ (i := 2) (N := some 5) #[true, true, true, false, false] rfl rfl (by kernel_rfl) (by decide) (fun K hK => ?_)
    refine goes_ Tryd.func54 (by kernel_rfl) rfl #[] (by rfl) rfl rfl (zE) ?_
    with_reducible refine (zbt.calls k  t234 _ A2.out).mono ?_
    rintro e w19 ⟨v235, rfl, ho0, hb⟩
    refine ⟨_, rfl, ?_⟩
    have n0_ := zA (Kd.za2 (Kd.zak (ok' := fun k_ => k_ ≠ gb233) ho0 (fun k_ hk_ => (Kd.freshB (g := gb233) (o := .cells #[.slice A0_0 l0_0.length c0_0, .slice A0_1 l0_1.length c0_1] 28 (0, 0)) (zK BK233) k_ hk_))) (za (zB HB)))
    have n1_ := zA (zaf (g := gb233) (o := .cells #[.slice A0_0 l0_0.length c0_0, .slice A0_1 l0_1.length c0_1] 28 (0, 0)) (zK BK233) hb)
    have n2_ := zA (zac (zB HB) hb)
    clear BK233 HB
    have HO236 := n0_
    have BK233 := n1_
    have HB := n2_
    clear n0_ n1_ n2_
    (try clear hb)
    (try clear hb2)
    (try clear hk)
    (try clear hi)
    (try clear ho0)
    obtain ⟨Ao20, co20, eo20⟩ := Kd.za3 HO236.out
    (first | subst eo20 | (injection eo20 with f1_ f2_ f3_; have f4_ := f1_.symm; have f5_ := f3_.symm; clear f1_ f2_ f3_; subst f4_; subst f5_))
    refine hK.out _ _ ⟨(zab BK233.out 0).trans rfl, (zab BK233.out 1).trans rfl⟩ (fun hHeld => ?_)
    clear hK K
    refine norm_ (a' := ?_) ?_ ?_
    rotate_left
    ·
     show Act.put _ (some 5) _ = _
     simp only [Act.put, zs1, zs2, zs3, i64_w, i32_w]
     rfl
    refine one_ (i := 3) (N := some 6) #[true, true, true, true, false] rfl rfl (by kernel_rfl) (by decide) (fun K hK => ?_)
    refine goes_ Tryd.func52 (by kernel_rfl) rfl #[.slice A0_1 l0_1.length c0_1, .slice Ao20 t234.length co20] (by rfl) rfl rfl (zE) ?_
    with_reducible refine (zcv.calls _ _ l0_1 _ _ t234 t237 _ ?side1 ?side2 ?side3 ?side4 A3.out).mono ?_
    (case side1 => exact zJ (Kd.za6 HR0_1.out HB.out))
    (case side2 => exact HC0_1.out)
    (case side3 => exact zJ (Kd.zal HO236.out).2.2)
    (case side4 => exact (Kd.zal HO236.out).2.1)
    rintro e w21 ⟨rfl, hb⟩
    refine ⟨_, rfl, ?_⟩
    have n0_ := zA (Kd.zar (zV HO236) hb)
    have n1_ := zA (zaf (g := gb233) (o := .cells #[.slice A0_0 l0_0.length c0_0, .slice A0_1 l0_1.length c0_1] 28 (0, 0)) (zK BK233) hb)
    have n2_ := zA (zac (zB HB) hb)
    clear HO236 BK233 HB
    have HO236 := n0_
    have BK233 := n1_
    have HB := n2_
    clear n0_ n1_ n2_
    (try clear hb)
    (try clear hb2)
    (try clear hk)
    (try clear hi)
    refine hK.out _ _ ⟨(zab BK233.out 0).trans rfl, (zab BK233.out 1).trans rfl⟩ (fun hHeld => ?_)
    clear hK K
    refine norm_ (a' := ?_) ?_ ?_
    rotate_left
    ·
     show Act.put _ (some 6) _ = _
     simp only [Act.put, zs1, zs2, zs3, i64_w, i32_w]
     rfl
    refine pure_ (i := 4) (N := some 7) (v := ?_) (a' := ?_) #[true, true, true, true, true] rfl rfl (by kernel_rfl) (fun _ _ _ h => h) (Or.inl ⟨by rfl, ?_⟩) ?_ ?_
    rotate_left
    ·
     intro w'
     go_simp
     with_reducible rfl
    rotate_left
    ·
     simp only [Act.put, zs1, zs2, zs3, i64_w, i32_w]
     rfl
    refine done_ (by kernel_rfl) ?_
    try go_wp2
    have n0_ := zA (Kd.zbd HO236.out)
    have n1_ := zA (zaj BK233.out)
    have n2_ := zA (zbi HB.out)
    clear HO236 BK233 HB
    have HO236 := n0_
    have BK233 := n1_
    have HB := n2_
    clear n0_ n1_ n2_
    refine start_ (n := 9) (S := fun w' => w'.cell? ⟨gb233, 0, none⟩ = some (.slice A0_0 l0_0.length c0_0) ∧ w'.cell? ⟨gb233, 1, none⟩ = some (.slice A0_1 l0_1.length c0_1)) (ds := []) #[false, false, false, false, false, false, false, false, false] (by kernel_rfl) rfl rfl ⟨(zab BK233.out 0).trans rfl, (zab BK233.out 1).trans rfl⟩ (fun hHeld => ?_); refine zcw za5.tab3 za5.bits3 (fun HT_ HW_ => ?_)
    generalize w21.drew = w22 at HO236 BK233 HB hHeld ⊢
    refine pure_ (i := 0) (N := some 11) (v := ?_) (a' := ?_) #[true, false, false, false, false, false, false, false, false] rfl rfl (zav HT_.out (by kernel_rfl)) (fun _ _ _ h => h) (Or.inl ⟨by rfl, ?_⟩) ?_ ?_
    rotate_left
    ·
     intro w'
     go_simp
     with_reducible rfl
    rotate_left
    ·
     simp only [Act.put, zs1, zs2, zs3, i64_w, i32_w]
     rfl
    refine pure_ (i := 4) (N := some 15) (v := ?_) (a' := ?_) #[true, false, false, false, true, false, false, false, false] rfl rfl (zav HT_.out (by kernel_rfl)) (fun _ _ _ h => h) (Or.inl ⟨by rfl, ?_⟩) ?_ ?_
    rotate_left
    ·
     intro w'
     go_simp
     with_reducible rfl
    rotate_left
    ·
     simp only [Act.put, zs1, zs2, zs3, i64_w, i32_w]
     rfl
    refine take_ (i := 1) (N := some 12) (v := ?_) (a' := ?_) #[true, true, false, false, true, false, false, false, false] rfl rfl (zb9 HT_.out HW_.out (by kernel_rfl)) (fun _ _ _ h => h) (Or.inl ⟨by rfl, ?_⟩) hHeld ?_ ?_
    rotate_left
    ·
     rintro w' ⟨s0, s1⟩
     go_simp
     with_reducible rfl
    rotate_left
    ·
     simp only [Act.put, zs1, zs2, zs3, i64_w, i32_w]
     rfl
    refine take_ (i := 5) (N := some 16) (v := ?_) (a' := ?_) #[true, true, false, false, true, true, false, false, false] rfl rfl (zb9 HT_.out HW_.out (by kernel_rfl)) (fun _ _ _ h => h) (Or.inl ⟨by rfl, ?_⟩) hHeld ?_ ?_
    rotate_left
    ·
     rintro w' ⟨s0, s1⟩
     go_simp
     with_reducible rfl
    rotate_left
    ·
     simp only [Act.put, zs1, zs2, zs3, i64_w, i32_w]
     rfl
    refine one_ (i := 2) (N := some 13) #[true, true, true, false, true, true, false, false, false] rfl rfl (zb8 HT_.out (by kernel_rfl)) (by decide) (fun K hK => ?_)
    refine goes_ Tryd.func50 (by kernel_rfl) rfl #[.slice A0_0 l0_0.length c0_0] (by rfl) rfl rfl (zE) ?_
    with_reducible refine (zb1.calls k (fun k_ => k_ < w.heap.size) _ _ l0_0 t239 _ ?side1 ?side2 A13.out).mono ?_
    (case side1 => exact Kd.V_mk HC0_0.out (Kd.F_below (Kd.C_F (Kd.heap_int .u64) HR0_0.out) (zB HB)))
    (case side2 => exact Glob.below HG.out (zB HB))
    rintro e w23 ⟨rfl, hb⟩
    refine ⟨_, rfl, ?_⟩
    have n0_ := zA (Kd.zar (zV HO236) hb)
    have n1_ := zA (zaf (g := gb233) (o := .cells #[.slice A0_0 l0_0.length c0_0, .slice A0_1 l0_1.length c0_1] 28 (0, 0)) (zK BK233) hb)
    have n2_ := zA (zac (zB HB) hb)
    clear HO236 BK233 HB
    have HO236 := n0_
    have BK233 := n1_
    have HB := n2_
    clear n0_ n1_ n2_
    (try clear hb)
    (try clear hb2)
    (try clear hk)
    (try clear hi)
    refine hK.out _ _ ⟨(zab BK233.out 0).trans rfl, (zab BK233.out 1).trans rfl⟩ (fun hHeld => ?_)
    clear hK K
    refine norm_ (a' := ?_) ?_ ?_
    rotate_left
    ·
     show Act.put _ (some 13) _ = _
     simp only [Act.put, zs1, zs2, zs3, i64_w, i32_w]
     rfl
    refine pure_ (i := 3) (N := some 14) (v := ?_) (a' := ?_) #[true, true, true, true, true, true, false, false, false] rfl rfl (zav HT_.out (by kernel_rfl)) (fun _ _ _ h => h) (Or.inl ⟨by rfl, ?_⟩) ?_ ?_
    rotate_left
    ·
     intro w'
     go_simp
     with_reducible rfl
    rotate_left
    ·
     simp only [Act.put, zs1, zs2, zs3, i64_w, i32_w]
     rfl
    refine one_ (i := 6) (N := some 17) #[true, true, true, true, true, true, true, false, false] rfl rfl (zb8 HT_.out (by kernel_rfl)) (by decide) (fun K hK => ?_)
    refine goes_ Tryd.func50 (by kernel_rfl) rfl #[.slice A0_1 l0_1.length c0_1] (by rfl) rfl rfl (zE) ?_
    with_reducible refine (zb1.calls k (fun k_ => k_ < w.heap.size) _ _ l0_1 t240 _ ?side1 ?side2 A15.out).mono ?_
    (case side1 => exact Kd.V_mk HC0_1.out (Kd.F_below (Kd.C_F (Kd.heap_int .u64) HR0_1.out) (zB HB)))
    (case side2 => exact Glob.below HG.out (zB HB))
    rintro e w24 ⟨rfl, hb⟩
    refine ⟨_, rfl, ?_⟩
    have n0_ := zA (Kd.zar (zV HO236) hb)
    have n1_ := zA (zaf (g := gb233) (o := .cells #[.slice A0_0 l0_0.length c0_0, .slice A0_1 l0_1.length c0_1] 28 (0, 0)) (zK BK233) hb)
    have n2_ := zA (zac (zB HB) hb)
    clear HO236 BK233 HB
    have HO236 := n0_
    have BK233 := n1_
    have HB := n2_
    clear n0_ n1_ n2_
    (try clear hb)
    (try clear hb2)
    (try clear hk)
    (try clear hi)
    refine hK.out _ _ ⟨(zab BK233.out 0).trans rfl, (zab BK233.out 1).trans rfl⟩ (fun hHeld => ?_)
    clear hK K
    refine norm_ (a' := ?_) ?_ ?_
    rotate_left
    ·
     show Act.put _ (some 17) _ = _
     simp only [Act.put, zs1, zs2, zs3, i64_w, i32_w]
     rfl
    refine pure_ (i := 7) (N := some 18) (v := ?_) (a' := ?_) #[true, true, true, true, true, true, true, true, false] rfl rfl (zav HT_.out (by kernel_rfl)) (fun _ _ _ h => h) (Or.inl ⟨by rfl, ?_⟩) ?_ ?_
    rotate_left
    ·
     intro w'
     go_simp
     with_reducible rfl
    rotate_left
    ·
     simp only [Act.put, zs1, zs2, zs3, i64_w, i32_w]
     rfl
    refine pure_ (i := 8) (N := some 2) (v := ?_) (a' := ?_) #[true, true, true, true, true, true, true, true, true] rfl rfl (zav HT_.out (by kernel_rfl)) (fun _ _ _ h => h) (Or.inl ⟨by rfl, ?_⟩) ?_ ?_
    rotate_left
    ·
     intro w'
     go_simp
     with_reducible rfl
    rotate_left
    ·
     simp only [Act.put, zs1, zs2, zs3, i64_w, i32_w]
     rfl
    refine done_ (zdk HT_.out (by kernel_rfl)) ?_
    try go_wp2
    go_ret
    exact ⟨zW, zB HB⟩
   ·
    rw [if_neg c16] at H
    exact absurd H (by simp)
  ·
   rw [if_neg c14] at H
   exact absurd H (by simp)
def strings_Cut.f (s sep : ByteArray) : Option (ByteArray × ByteArray × Bool) := if s.size < 4294967281 then some (⟨(Lib.cut s.data.toList sep.data.toList).1.toArray⟩, ⟨(Lib.cut s.data.toList sep.data.toList).2.1.toArray⟩, (Lib.cut s.data.toList sep.data.toList).2.2) else none
theorem strings_Cut.calls (a0 a1 : ByteArray) (r1 r2 : ByteArray) (r3 : Bool) (w : World) (hG : Glob w) (h : strings_Cut.f a0 a1 = some (r1, r2, r3)) :
  Calls Tryd.prog 67 #[.string a0, .string a1] w fun e w' => e = .returned (.tuple #[.string r1, .string r2, .bool r3]) ∧ Drawn0 w w' := by
 unfold strings_Cut.f at h
 split at h
 ·
  rename_i hs
  simp only [Option.some.injEq, Prod.mk.injEq] at h
  obtain ⟨rfl, rfl, rfl⟩ := h
  obtain ⟨m, hm⟩ := hG.2
  exact (Tryd.strings_Cut a0 a1 m w hs hm).mono fun e w' ⟨he, n, hw⟩ => ⟨he, n, hw⟩
 ·
  cases h
def digB (b : UInt8) : Bool := decide (48 ≤ b.toNat) && decide (b.toNat ≤ 57)
def textB (s : ByteArray) : Bool := decide (0 < s.size) && !(decide (bt s 0 = 48) && decide (1 < s.size)) && s.data.toList.all digB
def readF (k : Nat) (s : ByteArray) : Nat → Nat → List Int → Option (List Int)
 | 0, _, out => some out
 | n + 1, pos, out => (zcf.f k 10).bind fun t => (za9.f k out t).bind fun m => (zcf.f k (bt s pos - 48)).bind fun c => (zcp.f k m c).bind fun o => readF k s n (pos + 1) o
def zcl.f (k : Nat) (s : ByteArray) : Option (List Int × Int) := if textB s = true then (readF k s s.size 0 []).bind fun o => some (o, 0) else some (([] : List Int), 17)
theorem readF_mono (s : ByteArray) : ∀ (n pos : Nat) (out : List Int) (k : Nat), LeO (readF k s n pos out) (readF (k + 1) s n pos out)
 | 0, _, _, _ => LeO.refl _
 | n + 1, pos, out, k => by
  unfold readF
  exact LeO.bind (zcf.mono _ _) (fun t => LeO.bind (za9.mono _ _ _) (fun m => LeO.bind (zcf.mono _ _) (fun c => LeO.bind (zcp.mono _ _ _) (fun o => readF_mono s n (pos + 1) o k))))
theorem zcl.mono : ∀ s k, LeO (zcl.f k s) (zcl.f (k + 1) s) := by
 intro s k
 unfold zcl.f
 split
 ·
  exact LeO.bind (readF_mono s _ _ _ k) (fun _ => LeO.refl _)
 ·
  exact LeO.refl _
def oddR (r : Nat) : Bool := decide (r < 48) || decide (57 < r)
theorem bt_lit (s : ByteArray) (i : Nat) (h : i < s.size) : bt s (i : Int) = ((s[i]'h).toNat : Int) := (bt_at s i h).symm
theorem all_dig (s : ByteArray) (h : s.data.toList.all digB = true) (i : Nat) (hi : i < s.size) : 48 ≤ (s[i]'hi).toNat ∧ (s[i]'hi).toNat ≤ 57 := by
 have hm : s[i]'hi ∈ s.data.toList := by
  have : s[i]'hi = s.data[i] := rfl
  rw [this]
  simp
 have := List.all_eq_true.1 h _ hm
 simpa [digB] using this
theorem idx_none (s : ByteArray) (h : s.data.toList.all digB = true) : ∀ (f pos : Nat), Lib.idxFuncFrom oddR true s f pos = -1
 | 0, _ => rfl
 | f + 1, pos => by
  unfold Lib.idxFuncFrom
  by_cases hp : pos < s.size
  ·
   obtain ⟨h1, h2⟩ := all_dig s h pos hp
   rw [if_pos hp, decode_ascii s pos hp (by omega), if_neg, idx_none s h f _]
   simp [oddR]
   omega
  ·
   rw [if_neg hp]
theorem idx_some (s : ByteArray) (q : Nat) (hq : q < s.size) (hb : digB (s[q]'hq) = false) : ∀ (f pos : Nat), pos ≤ q → s.size ≤ pos + f → 0 ≤ Lib.idxFuncFrom oddR true s f pos
 | 0, pos, h1, h2 => by omega
 | f + 1, pos, h1, h2 => by
  unfold Lib.idxFuncFrom
  have hp : pos < s.size := by omega
  rw [if_pos hp]
  by_cases ha : (s[pos]'hp).toNat < 128
  ·
   rw [decode_ascii s pos hp ha]
   by_cases ho : oddR (s[pos]'hp).toNat = true
   ·
    rw [if_pos ho]
    omega
   ·
    rw [if_neg ho]
    have hne : pos ≠ q := by
     rintro rfl
     apply ho
     simp [digB] at hb
     simp [oddR]
     omega
    exact idx_some s q hq hb f (pos + 1) (by omega) (by omega)
  ·
   have hd := decode_high s pos hp (by omega)
   rw [if_pos (by simp [oddR]; omega)]
   omega
theorem idx_text (s : ByteArray) : decide (0 ≤ Lib.idxFunc oddR true s) = !(s.data.toList.all digB) := by
 unfold Lib.idxFunc
 cases h : s.data.toList.all digB with
 | true => rw [idx_none s h]; rfl
 | false =>
  obtain ⟨b, hb, hd⟩ := List.all_eq_false.1 h
  obtain ⟨q, hq, rfl⟩ := List.getElem_of_mem hb
  have hq' : q < s.size := by simpa using hq
  have e : s[q]'hq' = s.data.toList[q] := by simp; rfl
  rw [decide_eq_true (idx_some s q hq' (by rw [e]; simpa using hd) s.size 0 (by omega) (by omega))]
  rfl
section
open Go.Shelf
theorem read_odd (W : World) (x : Nat) (hx : x ≤ 1114111) : Calls Tryd.prog 91 #[.int .i32 (x : Int)] W fun e w' => e = .returned (.bool (oddR x)) ∧ ∃ q, w' = W.drewN q := by
 unfold oddR
 by_cases h1 : x < 48
 ·
  have c1 : decide ((x : Int) < 48) = true := decide_eq_true (by omega)
  have c2 : decide (x < 48) = true := decide_eq_true h1
  rw [c2]
  go_enter Tryd.func91, Tryd.ntmps91
  go_wp2
  go_ret
  exact ⟨rfl, 0, rfl⟩
 ·
  have c1 : decide ((x : Int) < 48) = false := decide_eq_false (by omega)
  have c2 : decide (x < 48) = false := decide_eq_false h1
  have c3 : decide ((x : Int) > 57) = decide (57 < x) := by
   by_cases h : 57 < x
   ·
    rw [decide_eq_true h, decide_eq_true (by omega)]
   ·
    rw [decide_eq_false h, decide_eq_false (by omega)]
  rw [c2, ← c3]
  clear c2 c3
  go_enter Tryd.func91, Tryd.ntmps91
  go_wp2
  go_ret
  exact ⟨rfl, 0, rfl⟩
end
section
open Go.Shelf
theorem odd_pred (w : World) : PredAtRunes Tryd.prog 91 #[] oddR w := fun W x hx _ => read_odd W x hx
theorem contains_odd (s : ByteArray) (w : World) (b : Bool) (hb : (!(s.data.toList.all digB)) = b) : Calls Tryd.prog 92 #[.string s, .func (.func 91) #[] #[]] w fun e w' => e = .returned (.bool b) ∧ Below w.heap.size w w' :=
 (Tryd.strings_ContainsFunc_runes 91 #[] (enters_ Tryd.func91 (by kernel_rfl) rfl) oddR s w (odd_pred w)).mono fun e w' h => by rw [idx_text, hb] at h; exact h
theorem zcl.off (a0 : ByteArray) (w : World) (h : textB a0 = false) :
  Calls Tryd.prog 68 #[.string a0] w fun e w' => ∃ v0_ : Value, e = .returned (.tuple #[v0_, .int .i64 17]) ∧ Kd.V (Kd.int .u64) 57 w' w.heap.size (fun k_ => (w.heap.size ≤ k_)) v0_ [] ∧ Below w.heap.size w w' := by
 by_cases h0 : a0.size = 0
 ·
  have c3 : a0.toList = ([] : List UInt8) := by
   rw [Lib.toList_data]
   exact List.eq_nil_of_length_eq_zero (by simp [h0])
  have c3b0 : (a0.toList == ([] : List UInt8)) = true := beq_iff_eq.mpr c3
  clear c3 h h0
  go_enter Tryd.func68, Tryd.ntmps68
  go_wp2
  go_ret2
  exact ⟨_, rfl, Kd.V_nil _ _ _ _ _, Below.refl _ _⟩
 ·
  have hp : 0 < a0.size := by omega
  have c3 : a0.toList ≠ ([] : List UInt8) := by
   rw [Lib.toList_data]
   intro h1
   have h2 : a0.data.toList.length = a0.size := by simp
   rw [h1] at h2
   simp at h2
   omega
  have c3b0 : (a0.toList == ([] : List UInt8)) = false := beq_eq_false_iff_ne.mpr c3
  have q5 : (0 < a0.size) = True := eq_true hp
  have qi5 : (0 < (a0.size : Int)) = True := eq_true (Int.natCast_pos.2 hp)
  have hx5 : ∀ h : 0 < a0.size, ((a0[0]'h).toNat : Int) = bt a0 0 := bt_at a0 0
  have d1 : decide (0 < a0.size) = true := decide_eq_true hp
  clear c3
  have tail : (a0.data.toList.all digB) = false → (bt a0 0 = 48 → ¬ 1 < a0.size) → Calls Tryd.prog 68 #[.string a0] w fun e w' => ∃ v0_ : Value, e = .returned (.tuple #[v0_, .int .i64 17]) ∧ Kd.V (Kd.int .u64) 57 w' w.heap.size (fun k_ => (w.heap.size ≤ k_)) v0_ [] ∧ Below w.heap.size w w' := by
   intro ha hzz
   have hb : (!(a0.data.toList.all digB)) = true := by rw [ha]; rfl
   by_cases hz : bt a0 0 = 48
   ·
    have c6b0 : ((bt a0 0) == 48) = true := beq_iff_eq.mpr hz
    have h1 := hzz hz
    have c7b0 : decide ((a0.size : Int) > 1) = false := decide_eq_false (by omega)
    have c7b1 : decide (a0.size > 1) = false := decide_eq_false (by omega)
    have c7b2 : decide (1 < a0.size) = false := decide_eq_false (by omega)
    clear h h1 h0 hp hz hzz ha
    go_enter Tryd.func68, Tryd.ntmps68
    go_wp2_with (go_at_call 92; refine (contains_odd a0 _ true hb).mono ?_; rintro e w' ⟨rfl, hb1⟩)
    go_ret2
    exact ⟨_, rfl, Kd.V_nil _ _ _ _ _, hb1⟩
   ·
    have c6b0 : ((bt a0 0) == 48) = false := beq_eq_false_iff_ne.mpr hz
    clear h h0 hp hz hzz ha
    go_enter Tryd.func68, Tryd.ntmps68
    go_wp2_with (go_at_call 92; refine (contains_odd a0 _ true hb).mono ?_; rintro e w' ⟨rfl, hb1⟩)
    go_ret2
    exact ⟨_, rfl, Kd.V_nil _ _ _ _ _, hb1⟩
  by_cases hz : bt a0 0 = 48
  ·
   have c6b0 : ((bt a0 0) == 48) = true := beq_iff_eq.mpr hz
   by_cases h1 : 1 < a0.size
   ·
    have c7b0 : decide ((a0.size : Int) > 1) = true := decide_eq_true (by omega)
    have c7b1 : decide (a0.size > 1) = true := decide_eq_true (by omega)
    clear h hz h1 h0 hp tail
    go_enter Tryd.func68, Tryd.ntmps68
    go_wp2
    go_ret2
    exact ⟨_, rfl, Kd.V_nil _ _ _ _ _, Below.refl _ _⟩
   ·
    refine tail ?_ (fun _ => h1)
    unfold textB at h
    rw [d1, decide_eq_true hz, decide_eq_false h1] at h
    exact h
  ·
   refine tail ?_ (fun h => absurd h hz)
   unfold textB at h
   rw [d1, decide_eq_false hz] at h
   exact h
theorem zcl.on (k : Nat) (a0 : ByteArray) (r1 : List Int) (w : World) (h : textB a0 = true) (hr : readF k a0 a0.size 0 [] = some r1) :
  Calls Tryd.prog 68 #[.string a0] w fun e w' => ∃ v0_ : Value, e = .returned (.tuple #[v0_, .int .i64 0]) ∧ Kd.V (Kd.int .u64) 57 w' w.heap.size (fun k_ => (w.heap.size ≤ k_)) v0_ r1 ∧ Below w.heap.size w w' := by
 have hd : a0.data.toList.all digB = true := by
  unfold textB at h
  simp only [Bool.and_eq_true] at h
  exact h.2
 have hp : 0 < a0.size := by
  unfold textB at h
  simp only [Bool.and_eq_true, decide_eq_true_eq] at h
  exact h.1.1
 have hzz : bt a0 0 = 48 → ¬ 1 < a0.size := by
  unfold textB at h
  simp only [Bool.and_eq_true, decide_eq_true_eq, Bool.not_eq_true', Bool.and_eq_false_iff, decide_eq_false_iff_not] at h
  intro h1
  rcases h.1.2 with h2 | h2
  ·
   exact absurd h1 h2
  ·
   exact h2
 have c3 : a0.toList ≠ ([] : List UInt8) := by
  rw [Lib.toList_data]
  intro h1
  have h2 : a0.data.toList.length = a0.size := by simp
  rw [h1] at h2
  simp at h2
  omega
 have c3b0 : (a0.toList == ([] : List UInt8)) = false := beq_eq_false_iff_ne.mpr c3
 have q5 : (0 < a0.size) = True := eq_true hp
 have qi5 : (0 < (a0.size : Int)) = True := eq_true (Int.natCast_pos.2 hp)
 have hx5 : ∀ h : 0 < a0.size, ((a0[0]'h).toNat : Int) = bt a0 0 := bt_at a0 0
 have HR := zA hr
 have HD := zA hd
 have hb : (!(a0.data.toList.all digB)) = false := by rw [hd]; rfl
 have HBB := zA hb
 clear c3 hr h hd hb
 go_enter Tryd.func68, Tryd.ntmps68
 go_upto_region 2 with (fail)
 go_cut [24] (fun v24 wc => v24 = .bool false ∧ Aside0 (Below w.heap.size w wc))
 case first =>
  by_cases hz : bt a0 0 = 48
  ·
   have c6b0 : ((bt a0 0) == 48) = true := beq_iff_eq.mpr hz
   have h1 := hzz hz
   have c7b0 : decide ((a0.size : Int) > 1) = false := decide_eq_false (by omega)
   have c7b1 : decide (a0.size > 1) = false := decide_eq_false (by omega)
   have c7b2 : decide (1 < a0.size) = false := decide_eq_false (by omega)
   clear h1 hp hz hzz
   go_wp2_with (go_at_call 92; refine (contains_odd a0 _ false HBB.out).mono ?_; rintro e w' ⟨rfl, hb1⟩)
   go_meet
   case rel => exact ⟨rfl, ⟨hb1⟩⟩
  ·
   have c6b0 : ((bt a0 0) == 48) = false := beq_eq_false_iff_ne.mpr hz
   clear hp hz hzz
   go_wp2_with (go_at_call 92; refine (contains_odd a0 _ false HBB.out).mono ?_; rintro e w' ⟨rfl, hb1⟩)
   go_meet
   case rel => exact ⟨rfl, ⟨hb1⟩⟩
 case rest =>
  try clear hp hzz qi5 q5 hx5 c3b0
  obtain ⟨rfl, HB⟩ := hcut
  go_wp2
  go_loopg [5] a0.size (fun gk v5 w' => ∃ (pos : Nat) (out : List Int), pos + gk = a0.size ∧ Aside0 (readF k a0 gk pos out = some r1) ∧ Aside0 (w'.heap[wc.heap.size]? = some (.stringIter a0 pos)) ∧ Aside0 (Kd.V (Kd.int .u64) 57 w' w.heap.size (fun q => w.heap.size ≤ q ∧ q ≠ wc.heap.size) v5 out) ∧ Aside0 (Below w.heap.size w w'))
  case atStart => exact ⟨0, [], by omega, HR, ⟨World.iter_heap wc a0 0⟩, ⟨Kd.V_nil _ _ _ _ _⟩, ⟨zbu HB.out _⟩⟩
  case round =>
   have hK0 : w.heap.size ≤ wc.heap.size := HB.out.size
   have HK0 := zA hK0
   clear HB hK0 HR
   obtain ⟨pos, out, hpos, HR, HI, HO, HB⟩ := hrel
   cases gk with
   | zero =>
    have hrun : ∀ ty, (Instr.next (.pointer (some ⟨wc.heap.size, 0, none⟩)) true ty).run Tryd.prog wr = .ok (.tuple #[.bool false]) wr := fun ty => Lib.run_next_end_at wr wc.heap.size a0 pos ty HI.out (by omega)
    have hr := HR.out
    simp only [readF, Option.some.injEq] at hr
    subst hr
    go_wp2
    go_ret2
    exact ⟨_, rfl, Kd.zak HO.out (fun q hq => hq.1), HB.out⟩
   | succ g =>
    have hlt : pos < a0.size := by omega
    obtain ⟨d1, d2⟩ := all_dig a0 HD.out pos hlt
    have hbt := bt_lit a0 pos hlt
    obtain ⟨b, hb⟩ : ∃ b : Nat, b = (a0[pos]'hlt).toNat := ⟨_, rfl⟩
    have hrun : ∀ ty, (Instr.next (.pointer (some ⟨wc.heap.size, 0, none⟩)) true ty).run Tryd.prog wr = .ok (.tuple #[.bool true, .int .i64 pos, .int .i32 (b : Int)]) (wr.iterAt wc.heap.size a0 (pos + 1)) := fun ty => by
     rw [hb]
     exact Lib.run_next_ascii_at wr wc.heap.size a0 pos ty HI.out hlt (by omega)
    rw [← hb] at d1 d2 hbt
    have HBT := zA hbt
    have HI1 := zA (Lib.iterAt_heap wr wc.heap.size a0 pos (pos + 1) HI.out)
    have HO1 : Aside0 (Kd.V (Kd.int .u64) 57 (wr.iterAt wc.heap.size a0 (pos + 1)) w.heap.size (fun q => w.heap.size ≤ q ∧ q ≠ wc.heap.size) u5 out) := ⟨Kd.zdj HO.out (fun q hq _ => Lib.iterAt_other wr wc.heap.size q a0 (pos + 1) hq.2)⟩
    have HB1 := zA (Lib.below_iterAt HB.out HK0.out a0 (pos + 1))
    have hd1 : (48 : Int) ≤ (b : Int) := by omega
    have hd2 : (b : Int) ≤ 57 := by omega
    have hpos2 := zA hpos
    clear hb hbt hlt d1 d2 HO HI HB hpos
    have hr := HR.out
    simp only [readF] at hr
    obtain ⟨t1, e1, hr⟩ := zO hr
    obtain ⟨t2, e2, hr⟩ := zO hr
    obtain ⟨t3, e3, hr⟩ := zO hr
    obtain ⟨t4, e4, hr⟩ := zO hr
    rw [HBT.out] at e3
    have E1 := zA e1
    have E2 := zA e2
    have E3 := zA e3
    have E4 := zA e4
    have HR1 := zA hr
    clear e1 e2 e3 e4 hr HR
    obtain ⟨A, c, rfl⟩ := Kd.za3 HO1.out
    obtain ⟨W, hW⟩ : ∃ W, W = wr.iterAt wc.heap.size a0 (pos + 1) := ⟨_, rfl⟩
    rw [← hW] at HI1 HO1 HB1 hrun
    have HW := zA hW
    clear hW
    go_wp2_with fail
    go_at_call 36
    refine (zcf.calls k 10 t1 _ E1.out).mono ?_
    rintro e w1 ⟨v1, rfl, ho1, hb1⟩
    obtain ⟨A1, c1, rfl⟩ := Kd.za3 ho1
    have HO2 := zA (Kd.zar HO1.out hb1)
    have HI2 : Aside0 (w1.heap[wc.heap.size]? = some (.stringIter a0 (pos + 1))) := ⟨(hb1.block _ (zb4 HI1.out)).trans HI1.out⟩
    have HB2 := zA (HB1.out.trans (hb1.mono HB1.out.size))
    have HV1 := zA ho1
    clear ho1 hb1 HO1 HI1 HB1
    go_wp2_with fail
    go_at_call 61
    obtain ⟨_, y1, y2⟩ := Kd.zal HO2.out
    obtain ⟨_, y3, y4⟩ := Kd.zal HV1.out
    refine (za9.calls k A c out A1 c1 t1 t2 _ y2 y1 y4 y3 E2.out).mono ?_
    clear y1 y2 y3 y4
    rintro e w2 ⟨v2, rfl, ho2, hb2⟩
    obtain ⟨A2, c2, rfl⟩ := Kd.za3 ho2
    have HI3 : Aside0 (w2.heap[wc.heap.size]? = some (.stringIter a0 (pos + 1))) := ⟨(hb2.block _ (zb4 HI2.out)).trans HI2.out⟩
    have HB3 := zA (HB2.out.trans (hb2.mono HB2.out.size))
    have HV2 := zA ho2
    clear ho2 hb2 HO2 HI2 HB2 HV1
    go_wp2_with fail
    go_at_call 36
    refine (zcf.calls k ((b : Int) - 48) t3 _ E3.out).mono ?_
    rintro e w3 ⟨v3, rfl, ho3, hb3⟩
    obtain ⟨A3, c3, rfl⟩ := Kd.za3 ho3
    have HV2' := zA (Kd.zar HV2.out hb3)
    have HI4 : Aside0 (w3.heap[wc.heap.size]? = some (.stringIter a0 (pos + 1))) := ⟨(hb3.block _ (zb4 HI3.out)).trans HI3.out⟩
    have HB4 := zA (HB3.out.trans (hb3.mono HB3.out.size))
    have HV3 := zA ho3
    clear ho3 hb3 HV2 HI3 HB3
    go_wp2_with fail
    go_at_call 64
    obtain ⟨_, y1, y2⟩ := Kd.zal HV2'.out
    obtain ⟨_, y3, y4⟩ := Kd.zal HV3.out
    refine (zcp.calls k A2 c2 t2 A3 c3 t3 t4 _ y2 y1 y4 y3 E4.out).mono ?_
    clear y1 y2 y3 y4
    rintro e w4 ⟨v4, rfl, ho4, hb4⟩
    obtain ⟨A4, c4, rfl⟩ := Kd.za3 ho4
    have HI5 : Aside0 (w4.heap[wc.heap.size]? = some (.stringIter a0 (pos + 1))) := ⟨(hb4.block _ (zb4 HI4.out)).trans HI4.out⟩
    have HB5 := zA (HB4.out.trans (hb4.mono HB4.out.size))
    have hle : wc.heap.size < w3.heap.size := zb4 HI4.out
    have hle2 : w.heap.size ≤ w3.heap.size := HB4.out.size
    have HV4 : Aside0 (Kd.V (Kd.int .u64) 57 w4 w.heap.size (fun q => w.heap.size ≤ q ∧ q ≠ wc.heap.size) (.slice A4 t4.length c4) t4) := ⟨Kd.za2 (Kd.zak ho4 (fun q hq => ⟨by omega, by omega⟩)) hle2⟩
    clear ho4 hb4 HV2' HI4 HB4 hle hle2 HV3
    go_wp2_with fail
    go_roundg g
    case measure => omega
    case rel => exact ⟨pos + 1, t4, by have := hpos2.out; omega, HR1, HI5, HV4, HB5⟩
end
theorem zcl.calls (k : Nat) (a0 : ByteArray) (r1 : List Int) (r2 : Int) (w : World) (h : zcl.f k a0 = some (r1, r2)) :
  Calls Tryd.prog 68 #[.string a0] w fun e w' => ∃ v0_ : Value, e = .returned (.tuple #[v0_, .int .i64 r2]) ∧ Kd.V (Kd.int .u64) 57 w' w.heap.size (fun k_ => (w.heap.size ≤ k_)) v0_ r1 ∧ Below w.heap.size w w' := by
 unfold zcl.f at h
 by_cases ht : textB a0 = true
 ·
  rw [if_pos ht] at h
  obtain ⟨o, ho, h⟩ := zO h
  simp only [Option.some.injEq, Prod.mk.injEq] at h
  obtain ⟨rfl, rfl⟩ := h
  exact zcl.on k a0 o w ht ho
 ·
  rw [if_neg ht] at h
  simp only [Option.some.injEq, Prod.mk.injEq] at h
  obtain ⟨rfl, rfl⟩ := h
  exact zcl.off a0 w (Bool.eq_false_iff.2 ht)
mutual
def zba.j0 : Nat → ByteArray → List Int → Int → List Int → Int → Option (List Int × List Int × Int)
 | 0, _, _, _, _, _ => none
 | k + 1, x0, x7, x8, x9, x10 => if x8 = 0 then (if x10 = 0 then (zba.j1 k x0 x7 x9 ((x9.length : Int) == 0)) else (zba.j1 k x0 x7 x9 true)) else (zba.j1 k x0 x7 x9 true)
def zba.j1 : Nat → ByteArray → List Int → List Int → Bool → Option (List Int × List Int × Int)
 | 0, _, _, _, _ => none
 | k + 1, x0, x7, x9, x40 => if x40 = true then (some (([] : List Int), ([] : List Int), 17)) else ((zbh.f k x7 x9).bind fun bt1000 => ((za5.f k bt1000.1 bt1000.2).bind fun t1007 => (if t1007.toList = x0.toList then (some (bt1000.1, bt1000.2, 0)) else (some (([] : List Int), ([] : List Int), 17)))))
end
def zba.f (k : Nat) (a0 : ByteArray) : Option (List Int × List Int × Int) := (strings_Cut.f a0 (⟨#[47]⟩ : ByteArray)).bind fun bt986 => ((zcl.f k bt986.1).bind fun bt989 => ((zbt.f k).bind fun t993 => (if bt986.2.2 = true then ((zcl.f k bt986.2.1).bind fun bt996 => (zba.j0 k a0 bt989.1 bt989.2 bt996.1 bt996.2)) else (zba.j0 k a0 bt989.1 bt989.2 t993 0))))
theorem zba.zcs : ∀ k, (∀ y0 y1 y2 y3 y4, LeO (zba.j0 k y0 y1 y2 y3 y4) (zba.j0 (k + 1) y0 y1 y2 y3 y4)) ∧ (∀ y0 y1 y2 y3, LeO (zba.j1 k y0 y1 y2 y3) (zba.j1 (k + 1) y0 y1 y2 y3))
 | 0 => ⟨fun _ _ _ _ _ r h => by simp [zba.j0] at h, fun _ _ _ _ r h => by simp [zba.j1] at h⟩
 | k + 1 => by
  obtain ⟨ih0, ih1⟩ := zba.zcs k
  refine ⟨?_, ?_⟩
  ·
   intro y0 y1 y2 y3 y4
   unfold zba.j0
   repeat' first
   | (with_reducible exact ih0 _ _ _ _ _)
   | (with_reducible exact ih1 _ _ _ _)
   | (with_reducible exact zcl.mono _ _)
   | (with_reducible exact za5.mono _ _ _)
   | (with_reducible exact zbh.mono _ _ _)
   | (with_reducible exact zbt.mono _)
   | (with_reducible exact LeO.refl _)
   | (with_reducible exact LeO.none _)
   | (with_reducible refine LeO.ite ?_ ?_)
   | (with_reducible refine LeO.bind ?_ (fun _ => ?_))
   | exact ih0 _ _ _ _ _
   | exact ih1 _ _ _ _
   | exact zcl.mono _ _
   | exact za5.mono _ _ _
   | exact zbh.mono _ _ _
   | exact zbt.mono _
   | exact LeO.none _
   | refine LeO.ite ?_ ?_
   | refine LeO.bind ?_ (fun _ => ?_)
  ·
   intro y0 y1 y2 y3
   unfold zba.j1
   repeat' first
   | (with_reducible exact ih0 _ _ _ _ _)
   | (with_reducible exact ih1 _ _ _ _)
   | (with_reducible exact zcl.mono _ _)
   | (with_reducible exact za5.mono _ _ _)
   | (with_reducible exact zbh.mono _ _ _)
   | (with_reducible exact zbt.mono _)
   | (with_reducible exact LeO.refl _)
   | (with_reducible exact LeO.none _)
   | (with_reducible refine LeO.ite ?_ ?_)
   | (with_reducible refine LeO.bind ?_ (fun _ => ?_))
   | exact ih0 _ _ _ _ _
   | exact ih1 _ _ _ _
   | exact zcl.mono _ _
   | exact za5.mono _ _ _
   | exact zbh.mono _ _ _
   | exact zbt.mono _
   | exact LeO.none _
   | refine LeO.ite ?_ ?_
   | refine LeO.bind ?_ (fun _ => ?_)
theorem zba.mono : ∀ a0 k, LeO (zba.f k a0) (zba.f (k + 1) a0) := by
 intro a0 k
 obtain ⟨ih0, ih1⟩ := zba.zcs k
 unfold zba.f
 repeat' first
   | (with_reducible exact ih0 _ _ _ _ _)
   | (with_reducible exact ih1 _ _ _ _)
   | (with_reducible exact zcl.mono _ _)
   | (with_reducible exact za5.mono _ _ _)
   | (with_reducible exact zbh.mono _ _ _)
   | (with_reducible exact zbt.mono _)
   | (with_reducible exact LeO.refl _)
   | (with_reducible exact LeO.none _)
   | (with_reducible refine LeO.ite ?_ ?_)
   | (with_reducible refine LeO.bind ?_ (fun _ => ?_))
   | exact ih0 _ _ _ _ _
   | exact ih1 _ _ _ _
   | exact zcl.mono _ _
   | exact za5.mono _ _ _
   | exact zbh.mono _ _ _
   | exact zbt.mono _
   | exact LeO.none _
   | refine LeO.ite ?_ ?_
   | refine LeO.bind ?_ (fun _ => ?_)
theorem zba.calls (k : Nat) (a0 : ByteArray) (r1 : List Int) (r2 : List Int) (r3 : Int) (w : World) (hG : Glob w) (h : zba.f k a0 = some (r1, r2, r3)) :
  Calls Tryd.prog 40 #[.string a0] w fun e w' => ∃ v0_ v1_ : Value, e = .returned (.tuple #[.agg #[v0_, v1_], .int .i64 r3]) ∧ Kd.V (Kd.int .u64) 57 w' w.heap.size (fun k_ => (w.heap.size ≤ k_)) v0_ r1 ∧ Kd.V (Kd.int .u64) 57 w' w.heap.size (fun k_ => (w.heap.size ≤ k_)) v1_ r2 ∧ Below w.heap.size w w' := by
 have hu28 := Tryd.underlying28
 have HG := zA hG
 clear hG
 have HB := zA (Below.refl w.heap.size w)
 have H : ((strings_Cut.f a0 (⟨#[47]⟩ : ByteArray)).bind fun bt986 => ((zcl.f k bt986.1).bind fun bt989 => ((zbt.f k).bind fun t993 => (if bt986.2.2 = true then ((zcl.f k bt986.2.1).bind fun bt996 => (zba.j0 k a0 bt989.1 bt989.2 bt996.1 bt996.2)) else (zba.j0 k a0 bt989.1 bt989.2 t993 0))))) = some (r1, r2, r3) := h
 clear h
 replace H := zO H
 obtain ⟨⟨t986, t987, t988⟩, A20, H⟩ := H
 try dsimp only at H
 have A2 := zA A20
 clear A20
 replace H := zO H
 obtain ⟨⟨t989, t992⟩, A30, H⟩ := H
 try dsimp only at H
 have A3 := zA A30
 clear A30
 replace H := zO H
 obtain ⟨t993, A40, H⟩ := H
 try dsimp only at H
 have A4 := zA A40
 clear A40
 have HC5 := zA H
 clear H
 go_enter Tryd.func40, Tryd.ntmps40
 go_upto_if 24 with (first | ((with_reducible refine zbe (N := 2) rfl ?_); (try (refine zct (by rfl) ?_; dsimp only)); refine zbl ?hg (N := 2) ?hd (cs := #[.slice none 0 0, .slice none 0 0]) (t := 28) ?hr ?_; (case hd => rfl); (case hg => rfl); (case hr => first | (go_simp; done) | (go_simp; rfl)); intro gb985 hg w6 hbox hb; have n0_ := zA (zac (zB HB) hb); have n1_ := zA (hbox); have n2_ := zA ((by rw [hg]; exact (za (zB HB)) : w.heap.size ≤ gb985)); have n3_ := zA ((by rw [hg]; exact (za (zB HB)) : w.heap.size ≤ gb985)); clear HB; have HB := n0_; have BK985 := n1_; have GW985 := n2_; have GE985 := n3_; clear n0_ n1_ n2_ n3_ hb hbox hg) | ((with_reducible refine zae (f := 67) rfl ?_); refine za4 (some 14) rfl rfl Tryd.func67 (by kernel_rfl) rfl #[.string a0, .string (⟨#[47]⟩ : ByteArray)] rfl (zE) ?_; (with_reducible refine (strings_Cut.calls a0 (⟨#[47]⟩ : ByteArray) t986 t987 t988 _ ?side1 A2.out).mono ?_); (case side1 => exact Glob.below HG.out (zB HB)); rintro e w' ⟨rfl, ⟨nd, rfl⟩⟩; refine ⟨_, rfl, ?_⟩) | ((with_reducible refine zae (f := 68) rfl ?_); refine za4 (some 20) rfl rfl Tryd.func68 (by kernel_rfl) rfl #[.string t986] rfl (zE) ?_; (with_reducible refine (zcl.calls k t986 t989 t992 _ A3.out).mono ?_); rintro e w7 ⟨v990, rfl, ho0, hb⟩; refine ⟨_, rfl, ?_⟩; have n0_ := zA (Kd.za2 (Kd.zak (ok' := fun k_ => (w.heap.size ≤ k_) ∧ k_ ≠ gb985) ho0 (fun k_ hk_ => ⟨(Nat.le_trans (za (zB HB)) hk_), (Kd.freshB (g := gb985) (o := .cells #[.slice none 0 0, .slice none 0 0] 28 (0, 0)) (zK BK985) k_ hk_)⟩)) (za (zB HB))); have n1_ := zA (zaf (g := gb985) (o := .cells #[.slice none 0 0, .slice none 0 0] 28 (0, 0)) (zK BK985) hb); have n2_ := zA (zac (zB HB) hb); clear BK985 HB; have HO991 := n0_; have BK985 := n1_; have HB := n2_; clear n0_ n1_ n2_; (try clear hb); (try clear hb2); (try clear hk); (try clear hi); (try clear ho0)) | ((with_reducible refine zae (f := 54) rfl ?_); refine za4 (some 23) rfl rfl Tryd.func54 (by kernel_rfl) rfl #[] rfl (zE) ?_; (with_reducible refine (zbt.calls k  t993 _ A4.out).mono ?_); rintro e w8 ⟨v994, rfl, ho0, hb⟩; refine ⟨_, rfl, ?_⟩; have n0_ := zA (Kd.zar (zV HO991) hb); have n1_ := zA (Kd.za2 (Kd.zak (ok' := fun k_ => (w.heap.size ≤ k_) ∧ k_ ≠ gb985) ho0 (fun k_ hk_ => ⟨(Nat.le_trans (za (zB HB)) hk_), (Kd.freshB (g := gb985) (o := .cells #[.slice none 0 0, .slice none 0 0] 28 (0, 0)) (zK BK985) k_ hk_)⟩)) (za (zB HB))); have n2_ := zA (zaf (g := gb985) (o := .cells #[.slice none 0 0, .slice none 0 0] 28 (0, 0)) (zK BK985) hb); have n3_ := zA (zac (zB HB) hb); clear HO991 BK985 HB; have HO991 := n0_; have HO995 := n1_; have BK985 := n2_; have HB := n3_; clear n0_ n1_ n2_ n3_; (try clear hb); (try clear hb2); (try clear hk); (try clear hi); (try clear ho0)))
 (try simp only [Act.put, zs1, zs2, zs3])
 go_cut [9, 10] (fun v9 v10 wc => ∃ (kq : Nat) (x9_4 : List Int) (x10_4 : Int), v10 = .int .i64 x10_4 ∧ Aside0 (zba.j0 kq a0 t989 t992 x9_4 x10_4 = some (r1, r2, r3)) ∧ Aside0 (kq ≤ k) ∧ Aside0 (Kd.V (Kd.int .u64) 57 wc w.heap.size (fun k_ => (w.heap.size ≤ k_) ∧ k_ ≠ gb985) v990 t989) ∧ Aside0 (Kd.V (Kd.int .u64) 57 wc w.heap.size (fun k_ => (w.heap.size ≤ k_) ∧ k_ ≠ gb985) v9 x9_4) ∧ Aside0 (wc.heap[gb985]? = some (.cells #[(.slice none 0 0), (.slice none 0 0)] 28 (0, 0))) ∧ Aside0 (Below w.heap.size w wc))
 case first =>
  have H := HC5.out
  clear HC5
  by_cases c9 : t988 = true
  ·
   subst c9
   rw [if_pos rfl] at H
   replace H := zO H
   obtain ⟨⟨t996, t999⟩, A100, H⟩ := H
   try dsimp only at H
   have A10 := zA A100
   clear A100
   have H' := zA H
   clear H
   go_wp2_with (first | ((with_reducible refine zae (f := 68) rfl ?_); refine za4 (some 27) rfl rfl Tryd.func68 (by kernel_rfl) rfl #[.string t987] rfl (zE) ?_; (with_reducible refine (zcl.calls k t987 t996 t999 _ A10.out).mono ?_); rintro e w11 ⟨v997, rfl, ho0, hb⟩; refine ⟨_, rfl, ?_⟩; have n0_ := zA (Kd.zar (zV HO991) hb); have n1_ := zA (Kd.zar (zV HO995) hb); have n2_ := zA (Kd.za2 (Kd.zak (ok' := fun k_ => (w.heap.size ≤ k_) ∧ k_ ≠ gb985) ho0 (fun k_ hk_ => ⟨(Nat.le_trans (za (zB HB)) hk_), (Kd.freshB (g := gb985) (o := .cells #[.slice none 0 0, .slice none 0 0] 28 (0, 0)) (zK BK985) k_ hk_)⟩)) (za (zB HB))); have n3_ := zA (zaf (g := gb985) (o := .cells #[.slice none 0 0, .slice none 0 0] 28 (0, 0)) (zK BK985) hb); have n4_ := zA (zac (zB HB) hb); clear HO991 HO995 BK985 HB; have HO991 := n0_; have HO995 := n1_; have HO998 := n2_; have BK985 := n3_; have HB := n4_; clear n0_ n1_ n2_ n3_ n4_; (try clear hb); (try clear hb2); (try clear hk); (try clear hi); (try clear ho0)))
   go_meet
   case rel => exact ⟨_, (t996), (t999), (zF), H', ⟨by first | omega | exact Nat.le_refl _⟩, ⟨zV HO991⟩, ⟨zV HO998⟩, ⟨zK BK985⟩, ⟨zB HB⟩⟩
  ·
   replace c9 := Bool.eq_false_iff.mpr c9
   subst c9
   rw [if_neg (show ¬ (false = true) by decide)] at H
   have H' := zA H
   clear H
   go_wp2
   go_meet
   case rel => exact ⟨_, (t993), (0), (zF), H', ⟨by first | omega | exact Nat.le_refl _⟩, ⟨zV HO991⟩, ⟨zV HO995⟩, ⟨zK BK985⟩, ⟨zB HB⟩⟩
 case rest =>
  clear HC5
  try clear p2
  try clear c4
  try clear c5
  try clear c6
  try clear p6
  try clear c9
  obtain ⟨kq, x9_4, x10_4, rfl, HA, HJ4, HO_7, HO_9, BK985, HB⟩ := hcut
  cases kq with
  | zero => exact absurd HA.out (by simp [zba.j0])
  | succ kj4 =>
   have H := HA.out
   clear HA
   simp only [zba.j0] at H
   have HC12 := zA H
   clear H
   go_upto_region 7 with (fail)
   go_cut [40] (fun v40 wc => ∃ (kq : Nat) (x40_11 : Bool), v40 = .bool x40_11 ∧ Aside0 (zba.j1 kq a0 t989 x9_4 x40_11 = some (r1, r2, r3)) ∧ Aside0 (kq ≤ kj4) ∧ Aside0 (Kd.V (Kd.int .u64) 57 wc w.heap.size (fun k_ => (w.heap.size ≤ k_) ∧ k_ ≠ gb985) v990 t989) ∧ Aside0 (Kd.V (Kd.int .u64) 57 wc w.heap.size (fun k_ => (w.heap.size ≤ k_) ∧ k_ ≠ gb985) u9 x9_4) ∧ Aside0 (wc.heap[gb985]? = some (.cells #[(.slice none 0 0), (.slice none 0 0)] 28 (0, 0))) ∧ Aside0 (Below w.heap.size w wc))
   case first =>
    have H := HC12.out
    clear HC12
    by_cases c13 : t992 = 0
    ·
     rw [if_pos c13] at H
     have c13b0 : (t992 == 0) = true := beq_iff_eq.mpr c13
     have c13b1 : (t992 != 0) = false := bne_eq_false_iff_eq.mpr c13
     clear c13
     (first | rw [c13b0] | (simp only [i64_w, i32_w]; rw [c13b0]) | skip)
     by_cases c14 : x10_4 = 0
     ·
      rw [if_pos c14] at H
      have c14b0 : (x10_4 == 0) = true := beq_iff_eq.mpr c14
      have c14b1 : (x10_4 != 0) = false := bne_eq_false_iff_eq.mpr c14
      clear c14
      have H' := zA H
      clear H
      obtain ⟨Ao15, co15, eo15⟩ := Kd.za3 HO_9.out
      subst eo15
      go_wp2
      go_meet
      case rel => exact ⟨_, (((x9_4.length : Int) == 0)), (zF), H', ⟨by have := HJ4.out; first | omega | exact Nat.le_refl _⟩, ⟨zV HO_7⟩, ⟨zV HO_9⟩, ⟨zK BK985⟩, ⟨zB HB⟩⟩
     ·
      rw [if_neg c14] at H
      have c14b0 : (x10_4 == 0) = false := beq_eq_false_iff_ne.mpr c14
      have c14b1 : (x10_4 != 0) = true := bne_iff_ne.mpr c14
      have H' := zA H
      clear H
      go_wp2
      go_meet
      case rel => exact ⟨_, (true), (zF), H', ⟨by have := HJ4.out; first | omega | exact Nat.le_refl _⟩, ⟨zV HO_7⟩, ⟨zV HO_9⟩, ⟨zK BK985⟩, ⟨zB HB⟩⟩
    ·
     rw [if_neg c13] at H
     have c13b0 : (t992 == 0) = false := beq_eq_false_iff_ne.mpr c13
     have c13b1 : (t992 != 0) = true := bne_iff_ne.mpr c13
     (first | rw [c13b0] | (simp only [i64_w, i32_w]; rw [c13b0]) | skip)
     have H' := zA H
     clear H
     go_wp2
     go_meet
     case rel => exact ⟨_, (true), (zF), H', ⟨by have := HJ4.out; first | omega | exact Nat.le_refl _⟩, ⟨zV HO_7⟩, ⟨zV HO_9⟩, ⟨zK BK985⟩, ⟨zB HB⟩⟩
   case rest =>
    clear HC12
    try clear c1
    try clear p2
    try clear c4
    try clear c5
    try clear c6
    try clear p6
    try clear c9
    try clear c13
    try clear c13b0
    try clear c13b1
    try clear c14
    try clear c14b0
    try clear c14b1
    try clear p2
    try clear p6
    obtain ⟨kq, x40_11, rfl, HA, HJ11, HO_7, HO_9, BK985, HB⟩ := hcut
    cases kq with
    | zero => exact absurd HA.out (by simp [zba.j1])
    | succ kj11 =>
     have H := HA.out
     clear HA
     simp only [zba.j1] at H
     by_cases c16 : x40_11 = true
     ·
      subst c16
      rw [if_pos rfl] at H
      simp only [Option.some.injEq, Prod.mk.injEq] at H
      obtain ⟨rfl, rfl, rfl⟩ := H
      have hcz17_0 : wc.cell? ⟨gb985, 0, none⟩ = some (.slice none 0 0) := (zab BK985.out 0).trans rfl
      have hcz17_1 : wc.cell? ⟨gb985, 1, none⟩ = some (.slice none 0 0) := (zab BK985.out 1).trans rfl
      have hfz17_0 := zan BK985.out 0
      have hfz17_1 := zan BK985.out 1
      go_wp2
      refine bodyPost_ret (results_ct rfl _ _ gb985 28 #[.slice none 0 0, .slice none 0 0] (0, 0) _ rfl (by (with_reducible repeat (first | refine zai ?_ _ | refine zaj ?_ | refine zah ?_ _)); refine zbn (cs := #[.slice none 0 0, .slice none 0 0]) ?_ 1 _ rfl; (with_reducible repeat (first | refine zai ?_ _ | refine zaj ?_ | refine zah ?_ _)); refine zbn (cs := #[.slice none 0 0, .slice none 0 0]) ?_ 0 _ rfl; (with_reducible repeat (first | refine zai ?_ _ | refine zaj ?_ | refine zah ?_ _)); exact BK985.out) Tryd.underlying28 rfl (by kernel_rfl)) rfl ?_
      exact ⟨_, _, zW, Kd.V_nil _ _ _ _ _, Kd.V_nil _ _ _ _ _, zB HB⟩
     ·
      replace c16 := Bool.eq_false_iff.mpr c16
      subst c16
      rw [if_neg (show ¬ (false = true) by decide)] at H
      replace H := zO H
      obtain ⟨⟨t1000, t1003⟩, A180, H⟩ := H
      try dsimp only at H
      have A18 := zA A180
      clear A180
      replace H := zO H
      obtain ⟨t1007, A190, H⟩ := H
      try dsimp only at H
      have A19 := zA A190
      clear A190
      by_cases c20 : t1007.toList = a0.toList
      ·
       rw [if_pos c20] at H
       have c20b0 : (t1007.toList == a0.toList) = true := beq_iff_eq.mpr c20
       have c20b1 : (t1007.toList != a0.toList) = false := bne_eq_false_iff_eq.mpr c20
       clear c20
       simp only [Option.some.injEq, Prod.mk.injEq] at H
       obtain ⟨rfl, rfl, rfl⟩ := H
       obtain ⟨Ao21, co21, eo21⟩ := Kd.za3 HO_7.out
       subst eo21
       obtain ⟨Ao22, co22, eo22⟩ := Kd.za3 HO_9.out
       subst eo22
       go_wp2_with (first | ((with_reducible refine zae (f := 58) rfl ?_); refine za4 (some 44) rfl rfl Tryd.func58 (by kernel_rfl) rfl #[.slice Ao21 t989.length co21, .slice Ao22 x9_4.length co22] rfl (zE) ?_; (with_reducible refine (zbh.calls kj11 _ _ t989 _ _ x9_4 t1000 t1003 _ ?side1 ?side2 ?side3 ?side4 A18.out).mono ?_); (case side1 => exact zJ (Kd.zal HO_7.out).2.2); (case side2 => exact (Kd.zal HO_7.out).2.1); (case side3 => exact zJ (Kd.zal HO_9.out).2.2); (case side4 => exact (Kd.zal HO_9.out).2.1); rintro e w23 ⟨v1001, v1004, rfl, ho0, ho1, hb⟩; refine ⟨_, rfl, ?_⟩; have n0_ := zA (Kd.zar (zV HO_7) hb); have n1_ := zA (Kd.zar (zV HO_9) hb); have n2_ := zA (Kd.za2 (Kd.zak (ok' := fun k_ => (w.heap.size ≤ k_) ∧ k_ ≠ gb985) ho0 (fun k_ hk_ => ⟨(Nat.le_trans (za (zB HB)) hk_), (Kd.freshB (g := gb985) (o := .cells #[.slice none 0 0, .slice none 0 0] 28 (0, 0)) (zK BK985) k_ hk_)⟩)) (za (zB HB))); have n3_ := zA (Kd.za2 (Kd.zak (ok' := fun k_ => (w.heap.size ≤ k_) ∧ k_ ≠ gb985) ho1 (fun k_ hk_ => ⟨(Nat.le_trans (za (zB HB)) hk_), (Kd.freshB (g := gb985) (o := .cells #[.slice none 0 0, .slice none 0 0] 28 (0, 0)) (zK BK985) k_ hk_)⟩)) (za (zB HB))); have n4_ := zA (zaf (g := gb985) (o := .cells #[.slice none 0 0, .slice none 0 0] 28 (0, 0)) (zK BK985) hb); have n5_ := zA (zac (zB HB) hb); clear HO_7 HO_9 BK985 HB; have HO_7 := n0_; have HO_9 := n1_; have HO1002 := n2_; have HO1005 := n3_; have BK985 := n4_; have HB := n5_; clear n0_ n1_ n2_ n3_ n4_ n5_; (try clear hb); (try clear hb2); (try clear hk); (try clear hi); (try clear ho0); (try clear ho1)) | ((with_reducible refine zbe (N := 11) rfl ?_); (try (refine zct (by rfl) ?_; dsimp only)); refine zbl ?hg (N := 11) ?hd (cs := #[.slice none 0 0, .slice none 0 0]) (t := 28) ?hr ?_; (case hd => rfl); (case hg => rfl); (case hr => first | (go_simp; done) | (go_simp; rfl)); intro gb1006 hg w24 hbox hb; have n0_ := zA (Kd.zar (Kd.zb7 (zV HO_7) gb1006 (Nat.le_of_eq hg.symm)) hb); have n1_ := zA (Kd.zar (Kd.zb7 (zV HO_9) gb1006 (Nat.le_of_eq hg.symm)) hb); have n2_ := zA (Kd.zar (Kd.zb7 (zV HO1002) gb1006 (Nat.le_of_eq hg.symm)) hb); have n3_ := zA (Kd.zar (Kd.zb7 (zV HO1005) gb1006 (Nat.le_of_eq hg.symm)) hb); have n4_ := zA (zaf (g := gb985) (o := .cells #[.slice none 0 0, .slice none 0 0] 28 (0, 0)) (zK BK985) hb); have n5_ := zA (zac (zB HB) hb); have n6_ := zA (hbox); have n7_ := zA ((by rw [hg]; exact (za (zB HB)) : w.heap.size ≤ gb1006)); have n8_ := zA ((by rw [hg]; exact (za (zB HB)) : w.heap.size ≤ gb1006)); have n9_ := zA ((by rw [hg]; exact Nat.ne_of_lt (zb4 (g := gb985) (o := .cells #[.slice none 0 0, .slice none 0 0] 28 (0, 0)) (zK BK985)) : gb985 ≠ gb1006)); have n10_ := zA ((by rw [hg]; exact Nat.ne_of_gt (zb4 (g := gb985) (o := .cells #[.slice none 0 0, .slice none 0 0] 28 (0, 0)) (zK BK985)) : gb1006 ≠ gb985)); clear HO_7 HO_9 HO1002 HO1005 BK985 HB; have HO_7 := n0_; have HO_9 := n1_; have HO1002 := n2_; have HO1005 := n3_; have BK985 := n4_; have HB := n5_; have BK1006 := n6_; have GW1006 := n7_; have GE1006 := n8_; have NB985_1006 := n9_; have NB1006_985 := n10_; clear n0_ n1_ n2_ n3_ n4_ n5_ n6_ n7_ n8_ n9_ n10_ hb hbox hg; obtain ⟨Ao25, co25, eo25⟩ := Kd.za3 HO1002.out; subst eo25; have hnb26 := NB1006_985.out; have hnc26 := NB985_1006.out; have hcz27_0 : w24.cell? ⟨gb1006, 0, none⟩ = some (.slice none 0 0) := (zab BK1006.out 0).trans rfl; have hcz27_1 : w24.cell? ⟨gb1006, 1, none⟩ = some (.slice none 0 0) := (zab BK1006.out 1).trans rfl; have hfz27_0 := zan BK1006.out 0; have hfz27_1 := zan BK1006.out 1; obtain ⟨Ao28, co28, eo28⟩ := Kd.za3 HO1005.out; subst eo28) | ((with_reducible refine zae (f := 41) rfl ?_); refine za4 (some 46) rfl rfl Tryd.func41 (by kernel_rfl) rfl #[.agg #[.slice Ao25 t1000.length co25, .slice Ao28 t1003.length co28]] rfl (zE) ?_; (with_reducible refine (za5.calls kj11 _ _ t1000 _ _ t1003 t1007 _ ?side1 ?side2 ?side3 ?side4 ?side5 A19.out).mono ?_); (case side1 => refine (Kd.zal (e := 57) (base := w.heap.size) (ok := fun k_ => (((w.heap.size ≤ k_) ∧ k_ ≠ gb985) ∧ k_ ≠ gb1006)) (n := t1000.length) (c := co25) ?_).2.2; exact (by (with_reducible repeat (first | apply Kd.za8 | apply Kd.za7 | apply Kd.zbd)); exact (Kd.zak (Kd.V_far (p := ⟨gb1006, 1, none⟩) (Kd.V_far (p := ⟨gb1006, 0, none⟩) (Kd.zak HO1002.out (fun k_ hk => (⟨hk, hk.2⟩ : _ ∧ k_ ≠ gb1006))) (fun _ hk => hk.2) (.slice Ao25 t1000.length co25)) (fun _ hk => hk.2) (.slice Ao28 t1003.length co28)) (fun _ h_ => h_.1)))); (case side2 => exact (Kd.zal HO1002.out).2.1); (case side3 => refine (Kd.zal (e := 57) (base := w.heap.size) (ok := fun k_ => (((w.heap.size ≤ k_) ∧ k_ ≠ gb985) ∧ k_ ≠ gb1006)) (n := t1003.length) (c := co28) ?_).2.2; exact (by (with_reducible repeat (first | apply Kd.za8 | apply Kd.za7 | apply Kd.zbd)); exact (Kd.zak (Kd.V_far (p := ⟨gb1006, 1, none⟩) (Kd.V_far (p := ⟨gb1006, 0, none⟩) (Kd.zak HO1005.out (fun k_ hk => (⟨hk, hk.2⟩ : _ ∧ k_ ≠ gb1006))) (fun _ hk => hk.2) (.slice Ao25 t1000.length co25)) (fun _ hk => hk.2) (.slice Ao28 t1003.length co28)) (fun _ h_ => h_.1)))); (case side4 => exact (Kd.zal HO1005.out).2.1); (case side5 => exact Glob.below HG.out (zB HB)); rintro e w29 ⟨rfl, hb⟩; refine ⟨_, rfl, ?_⟩; have n0_ := zA (Kd.zar (by (with_reducible repeat (first | apply Kd.za8 | apply Kd.za7 | apply Kd.zbd)); exact (Kd.zak (Kd.V_far (p := ⟨gb1006, 1, none⟩) (Kd.V_far (p := ⟨gb1006, 0, none⟩) (Kd.zak HO_7.out (fun k_ hk => (⟨hk, hk.2⟩ : _ ∧ k_ ≠ gb1006))) (fun _ hk => hk.2) (.slice Ao25 t1000.length co25)) (fun _ hk => hk.2) (.slice Ao28 t1003.length co28)) (fun _ h_ => h_.1))) hb); have n1_ := zA (Kd.zar (by (with_reducible repeat (first | apply Kd.za8 | apply Kd.za7 | apply Kd.zbd)); exact (Kd.zak (Kd.V_far (p := ⟨gb1006, 1, none⟩) (Kd.V_far (p := ⟨gb1006, 0, none⟩) (Kd.zak HO_9.out (fun k_ hk => (⟨hk, hk.2⟩ : _ ∧ k_ ≠ gb1006))) (fun _ hk => hk.2) (.slice Ao25 t1000.length co25)) (fun _ hk => hk.2) (.slice Ao28 t1003.length co28)) (fun _ h_ => h_.1))) hb); have n2_ := zA (Kd.zar (by (with_reducible repeat (first | apply Kd.za8 | apply Kd.za7 | apply Kd.zbd)); exact (Kd.zak (Kd.V_far (p := ⟨gb1006, 1, none⟩) (Kd.V_far (p := ⟨gb1006, 0, none⟩) (Kd.zak HO1002.out (fun k_ hk => (⟨hk, hk.2⟩ : _ ∧ k_ ≠ gb1006))) (fun _ hk => hk.2) (.slice Ao25 t1000.length co25)) (fun _ hk => hk.2) (.slice Ao28 t1003.length co28)) (fun _ h_ => h_.1))) hb); have n3_ := zA (Kd.zar (by (with_reducible repeat (first | apply Kd.za8 | apply Kd.za7 | apply Kd.zbd)); exact (Kd.zak (Kd.V_far (p := ⟨gb1006, 1, none⟩) (Kd.V_far (p := ⟨gb1006, 0, none⟩) (Kd.zak HO1005.out (fun k_ hk => (⟨hk, hk.2⟩ : _ ∧ k_ ≠ gb1006))) (fun _ hk => hk.2) (.slice Ao25 t1000.length co25)) (fun _ hk => hk.2) (.slice Ao28 t1003.length co28)) (fun _ h_ => h_.1))) hb); have n4_ := zA (zaf (g := gb985) (o := .cells #[.slice none 0 0, .slice none 0 0] 28 (0, 0)) (by (with_reducible repeat (first | refine zai ?_ _ | refine zaj ?_ | refine zah ?_ _)); refine zco ?_ NB985_1006.out _; (with_reducible repeat (first | refine zai ?_ _ | refine zaj ?_ | refine zah ?_ _)); refine zco ?_ NB985_1006.out _; (with_reducible repeat (first | refine zai ?_ _ | refine zaj ?_ | refine zah ?_ _)); exact BK985.out) hb); have n5_ := zA (zaf (g := gb1006) (o := .cells #[.slice Ao25 t1000.length co25, .slice Ao28 t1003.length co28] 28 (0, 0)) (by (with_reducible repeat (first | refine zai ?_ _ | refine zaj ?_ | refine zah ?_ _)); refine zbn (cs := #[.slice Ao25 t1000.length co25, .slice none 0 0]) ?_ 1 _ rfl; (with_reducible repeat (first | refine zai ?_ _ | refine zaj ?_ | refine zah ?_ _)); refine zbn (cs := #[.slice none 0 0, .slice none 0 0]) ?_ 0 _ rfl; (with_reducible repeat (first | refine zai ?_ _ | refine zaj ?_ | refine zah ?_ _)); exact BK1006.out) hb); have n6_ := zA (zac (zB HB) hb); clear HO_7 HO_9 HO1002 HO1005 BK985 BK1006 HB; have HO_7 := n0_; have HO_9 := n1_; have HO1002 := n2_; have HO1005 := n3_; have BK985 := n4_; have BK1006 := n5_; have HB := n6_; clear n0_ n1_ n2_ n3_ n4_ n5_ n6_; (try clear hb); (try clear hb2); (try clear hk); (try clear hi); have hcz30_0 : w29.cell? ⟨gb1006, 0, none⟩ = some (.slice Ao25 t1000.length co25) := (zab BK1006.out 0).trans rfl; have hcz30_1 : w29.cell? ⟨gb1006, 1, none⟩ = some (.slice Ao28 t1003.length co28) := (zab BK1006.out 1).trans rfl; have hfz30_0 := zan BK1006.out 0; have hfz30_1 := zan BK1006.out 1; have hcz31_0 : w29.cell? ⟨gb985, 0, none⟩ = some (.slice none 0 0) := (zab BK985.out 0).trans rfl; have hcz31_1 : w29.cell? ⟨gb985, 1, none⟩ = some (.slice none 0 0) := (zab BK985.out 1).trans rfl; have hfz31_0 := zan BK985.out 0; have hfz31_1 := zan BK985.out 1))
       refine bodyPost_ret (results_ct rfl _ _ gb985 28 #[.slice Ao25 t1000.length co25, .slice Ao28 t1003.length co28] (0, 0) _ rfl (by (with_reducible repeat (first | refine zai ?_ _ | refine zaj ?_ | refine zah ?_ _)); refine zbn (cs := #[.slice Ao25 t1000.length co25, .slice none 0 0]) ?_ 1 _ rfl; (with_reducible repeat (first | refine zai ?_ _ | refine zaj ?_ | refine zah ?_ _)); refine zbn (cs := #[.slice none 0 0, .slice none 0 0]) ?_ 0 _ rfl; (with_reducible repeat (first | refine zai ?_ _ | refine zaj ?_ | refine zah ?_ _)); exact BK985.out) Tryd.underlying28 rfl (by kernel_rfl)) rfl ?_
       exact ⟨_, _, zW, by (with_reducible repeat (first | apply Kd.za8 | apply Kd.za7 | apply Kd.zbd)); exact Kd.zak (Kd.V_far (p := ⟨gb985, 1, none⟩) (Kd.V_far (p := ⟨gb985, 0, none⟩) (Kd.zak HO1002.out (fun k_ hk => (⟨hk, hk.1.2⟩ : _ ∧ k_ ≠ gb985))) (fun _ hk => hk.2) (.slice Ao25 t1000.length co25)) (fun _ hk => hk.2) (.slice Ao28 t1003.length co28)) (fun _ hk => hk.1.1.1), by (with_reducible repeat (first | apply Kd.za8 | apply Kd.za7 | apply Kd.zbd)); exact Kd.zak (Kd.V_far (p := ⟨gb985, 1, none⟩) (Kd.V_far (p := ⟨gb985, 0, none⟩) (Kd.zak HO1005.out (fun k_ hk => (⟨hk, hk.1.2⟩ : _ ∧ k_ ≠ gb985))) (fun _ hk => hk.2) (.slice Ao25 t1000.length co25)) (fun _ hk => hk.2) (.slice Ao28 t1003.length co28)) (fun _ hk => hk.1.1.1), zB HB⟩
      ·
       rw [if_neg c20] at H
       have c20b0 : (t1007.toList == a0.toList) = false := beq_eq_false_iff_ne.mpr c20
       have c20b1 : (t1007.toList != a0.toList) = true := bne_iff_ne.mpr c20
       simp only [Option.some.injEq, Prod.mk.injEq] at H
       obtain ⟨rfl, rfl, rfl⟩ := H
       obtain ⟨Ao32, co32, eo32⟩ := Kd.za3 HO_7.out
       subst eo32
       obtain ⟨Ao33, co33, eo33⟩ := Kd.za3 HO_9.out
       subst eo33
       go_wp2_with (first | ((with_reducible refine zae (f := 58) rfl ?_); refine za4 (some 44) rfl rfl Tryd.func58 (by kernel_rfl) rfl #[.slice Ao32 t989.length co32, .slice Ao33 x9_4.length co33] rfl (zE) ?_; (with_reducible refine (zbh.calls kj11 _ _ t989 _ _ x9_4 t1000 t1003 _ ?side1 ?side2 ?side3 ?side4 A18.out).mono ?_); (case side1 => exact zJ (Kd.zal HO_7.out).2.2); (case side2 => exact (Kd.zal HO_7.out).2.1); (case side3 => exact zJ (Kd.zal HO_9.out).2.2); (case side4 => exact (Kd.zal HO_9.out).2.1); rintro e w34 ⟨v1001, v1004, rfl, ho0, ho1, hb⟩; refine ⟨_, rfl, ?_⟩; have n0_ := zA (Kd.zar (zV HO_7) hb); have n1_ := zA (Kd.zar (zV HO_9) hb); have n2_ := zA (Kd.za2 (Kd.zak (ok' := fun k_ => (w.heap.size ≤ k_) ∧ k_ ≠ gb985) ho0 (fun k_ hk_ => ⟨(Nat.le_trans (za (zB HB)) hk_), (Kd.freshB (g := gb985) (o := .cells #[.slice none 0 0, .slice none 0 0] 28 (0, 0)) (zK BK985) k_ hk_)⟩)) (za (zB HB))); have n3_ := zA (Kd.za2 (Kd.zak (ok' := fun k_ => (w.heap.size ≤ k_) ∧ k_ ≠ gb985) ho1 (fun k_ hk_ => ⟨(Nat.le_trans (za (zB HB)) hk_), (Kd.freshB (g := gb985) (o := .cells #[.slice none 0 0, .slice none 0 0] 28 (0, 0)) (zK BK985) k_ hk_)⟩)) (za (zB HB))); have n4_ := zA (zaf (g := gb985) (o := .cells #[.slice none 0 0, .slice none 0 0] 28 (0, 0)) (zK BK985) hb); have n5_ := zA (zac (zB HB) hb); clear HO_7 HO_9 BK985 HB; have HO_7 := n0_; have HO_9 := n1_; have HO1002 := n2_; have HO1005 := n3_; have BK985 := n4_; have HB := n5_; clear n0_ n1_ n2_ n3_ n4_ n5_; (try clear hb); (try clear hb2); (try clear hk); (try clear hi); (try clear ho0); (try clear ho1)) | ((with_reducible refine zbe (N := 11) rfl ?_); (try (refine zct (by rfl) ?_; dsimp only)); refine zbl ?hg (N := 11) ?hd (cs := #[.slice none 0 0, .slice none 0 0]) (t := 28) ?hr ?_; (case hd => rfl); (case hg => rfl); (case hr => first | (go_simp; done) | (go_simp; rfl)); intro gb1006 hg w35 hbox hb; have n0_ := zA (Kd.zar (Kd.zb7 (zV HO_7) gb1006 (Nat.le_of_eq hg.symm)) hb); have n1_ := zA (Kd.zar (Kd.zb7 (zV HO_9) gb1006 (Nat.le_of_eq hg.symm)) hb); have n2_ := zA (Kd.zar (Kd.zb7 (zV HO1002) gb1006 (Nat.le_of_eq hg.symm)) hb); have n3_ := zA (Kd.zar (Kd.zb7 (zV HO1005) gb1006 (Nat.le_of_eq hg.symm)) hb); have n4_ := zA (zaf (g := gb985) (o := .cells #[.slice none 0 0, .slice none 0 0] 28 (0, 0)) (zK BK985) hb); have n5_ := zA (zac (zB HB) hb); have n6_ := zA (hbox); have n7_ := zA ((by rw [hg]; exact (za (zB HB)) : w.heap.size ≤ gb1006)); have n8_ := zA ((by rw [hg]; exact (za (zB HB)) : w.heap.size ≤ gb1006)); have n9_ := zA ((by rw [hg]; exact Nat.ne_of_lt (zb4 (g := gb985) (o := .cells #[.slice none 0 0, .slice none 0 0] 28 (0, 0)) (zK BK985)) : gb985 ≠ gb1006)); have n10_ := zA ((by rw [hg]; exact Nat.ne_of_gt (zb4 (g := gb985) (o := .cells #[.slice none 0 0, .slice none 0 0] 28 (0, 0)) (zK BK985)) : gb1006 ≠ gb985)); clear HO_7 HO_9 HO1002 HO1005 BK985 HB; have HO_7 := n0_; have HO_9 := n1_; have HO1002 := n2_; have HO1005 := n3_; have BK985 := n4_; have HB := n5_; have BK1006 := n6_; have GW1006 := n7_; have GE1006 := n8_; have NB985_1006 := n9_; have NB1006_985 := n10_; clear n0_ n1_ n2_ n3_ n4_ n5_ n6_ n7_ n8_ n9_ n10_ hb hbox hg; obtain ⟨Ao36, co36, eo36⟩ := Kd.za3 HO1002.out; subst eo36; have hnb37 := NB1006_985.out; have hnc37 := NB985_1006.out; have hcz38_0 : w35.cell? ⟨gb1006, 0, none⟩ = some (.slice none 0 0) := (zab BK1006.out 0).trans rfl; have hcz38_1 : w35.cell? ⟨gb1006, 1, none⟩ = some (.slice none 0 0) := (zab BK1006.out 1).trans rfl; have hfz38_0 := zan BK1006.out 0; have hfz38_1 := zan BK1006.out 1; obtain ⟨Ao39, co39, eo39⟩ := Kd.za3 HO1005.out; subst eo39) | ((with_reducible refine zae (f := 41) rfl ?_); refine za4 (some 46) rfl rfl Tryd.func41 (by kernel_rfl) rfl #[.agg #[.slice Ao36 t1000.length co36, .slice Ao39 t1003.length co39]] rfl (zE) ?_; (with_reducible refine (za5.calls kj11 _ _ t1000 _ _ t1003 t1007 _ ?side1 ?side2 ?side3 ?side4 ?side5 A19.out).mono ?_); (case side1 => refine (Kd.zal (e := 57) (base := w.heap.size) (ok := fun k_ => (((w.heap.size ≤ k_) ∧ k_ ≠ gb985) ∧ k_ ≠ gb1006)) (n := t1000.length) (c := co36) ?_).2.2; exact (by (with_reducible repeat (first | apply Kd.za8 | apply Kd.za7 | apply Kd.zbd)); exact (Kd.zak (Kd.V_far (p := ⟨gb1006, 1, none⟩) (Kd.V_far (p := ⟨gb1006, 0, none⟩) (Kd.zak HO1002.out (fun k_ hk => (⟨hk, hk.2⟩ : _ ∧ k_ ≠ gb1006))) (fun _ hk => hk.2) (.slice Ao36 t1000.length co36)) (fun _ hk => hk.2) (.slice Ao39 t1003.length co39)) (fun _ h_ => h_.1)))); (case side2 => exact (Kd.zal HO1002.out).2.1); (case side3 => refine (Kd.zal (e := 57) (base := w.heap.size) (ok := fun k_ => (((w.heap.size ≤ k_) ∧ k_ ≠ gb985) ∧ k_ ≠ gb1006)) (n := t1003.length) (c := co39) ?_).2.2; exact (by (with_reducible repeat (first | apply Kd.za8 | apply Kd.za7 | apply Kd.zbd)); exact (Kd.zak (Kd.V_far (p := ⟨gb1006, 1, none⟩) (Kd.V_far (p := ⟨gb1006, 0, none⟩) (Kd.zak HO1005.out (fun k_ hk => (⟨hk, hk.2⟩ : _ ∧ k_ ≠ gb1006))) (fun _ hk => hk.2) (.slice Ao36 t1000.length co36)) (fun _ hk => hk.2) (.slice Ao39 t1003.length co39)) (fun _ h_ => h_.1)))); (case side4 => exact (Kd.zal HO1005.out).2.1); (case side5 => exact Glob.below HG.out (zB HB)); rintro e w40 ⟨rfl, hb⟩; refine ⟨_, rfl, ?_⟩; have n0_ := zA (Kd.zar (by (with_reducible repeat (first | apply Kd.za8 | apply Kd.za7 | apply Kd.zbd)); exact (Kd.zak (Kd.V_far (p := ⟨gb1006, 1, none⟩) (Kd.V_far (p := ⟨gb1006, 0, none⟩) (Kd.zak HO_7.out (fun k_ hk => (⟨hk, hk.2⟩ : _ ∧ k_ ≠ gb1006))) (fun _ hk => hk.2) (.slice Ao36 t1000.length co36)) (fun _ hk => hk.2) (.slice Ao39 t1003.length co39)) (fun _ h_ => h_.1))) hb); have n1_ := zA (Kd.zar (by (with_reducible repeat (first | apply Kd.za8 | apply Kd.za7 | apply Kd.zbd)); exact (Kd.zak (Kd.V_far (p := ⟨gb1006, 1, none⟩) (Kd.V_far (p := ⟨gb1006, 0, none⟩) (Kd.zak HO_9.out (fun k_ hk => (⟨hk, hk.2⟩ : _ ∧ k_ ≠ gb1006))) (fun _ hk => hk.2) (.slice Ao36 t1000.length co36)) (fun _ hk => hk.2) (.slice Ao39 t1003.length co39)) (fun _ h_ => h_.1))) hb); have n2_ := zA (Kd.zar (by (with_reducible repeat (first | apply Kd.za8 | apply Kd.za7 | apply Kd.zbd)); exact (Kd.zak (Kd.V_far (p := ⟨gb1006, 1, none⟩) (Kd.V_far (p := ⟨gb1006, 0, none⟩) (Kd.zak HO1002.out (fun k_ hk => (⟨hk, hk.2⟩ : _ ∧ k_ ≠ gb1006))) (fun _ hk => hk.2) (.slice Ao36 t1000.length co36)) (fun _ hk => hk.2) (.slice Ao39 t1003.length co39)) (fun _ h_ => h_.1))) hb); have n3_ := zA (Kd.zar (by (with_reducible repeat (first | apply Kd.za8 | apply Kd.za7 | apply Kd.zbd)); exact (Kd.zak (Kd.V_far (p := ⟨gb1006, 1, none⟩) (Kd.V_far (p := ⟨gb1006, 0, none⟩) (Kd.zak HO1005.out (fun k_ hk => (⟨hk, hk.2⟩ : _ ∧ k_ ≠ gb1006))) (fun _ hk => hk.2) (.slice Ao36 t1000.length co36)) (fun _ hk => hk.2) (.slice Ao39 t1003.length co39)) (fun _ h_ => h_.1))) hb); have n4_ := zA (zaf (g := gb985) (o := .cells #[.slice none 0 0, .slice none 0 0] 28 (0, 0)) (by (with_reducible repeat (first | refine zai ?_ _ | refine zaj ?_ | refine zah ?_ _)); refine zco ?_ NB985_1006.out _; (with_reducible repeat (first | refine zai ?_ _ | refine zaj ?_ | refine zah ?_ _)); refine zco ?_ NB985_1006.out _; (with_reducible repeat (first | refine zai ?_ _ | refine zaj ?_ | refine zah ?_ _)); exact BK985.out) hb); have n5_ := zA (zaf (g := gb1006) (o := .cells #[.slice Ao36 t1000.length co36, .slice Ao39 t1003.length co39] 28 (0, 0)) (by (with_reducible repeat (first | refine zai ?_ _ | refine zaj ?_ | refine zah ?_ _)); refine zbn (cs := #[.slice Ao36 t1000.length co36, .slice none 0 0]) ?_ 1 _ rfl; (with_reducible repeat (first | refine zai ?_ _ | refine zaj ?_ | refine zah ?_ _)); refine zbn (cs := #[.slice none 0 0, .slice none 0 0]) ?_ 0 _ rfl; (with_reducible repeat (first | refine zai ?_ _ | refine zaj ?_ | refine zah ?_ _)); exact BK1006.out) hb); have n6_ := zA (zac (zB HB) hb); clear HO_7 HO_9 HO1002 HO1005 BK985 BK1006 HB; have HO_7 := n0_; have HO_9 := n1_; have HO1002 := n2_; have HO1005 := n3_; have BK985 := n4_; have BK1006 := n5_; have HB := n6_; clear n0_ n1_ n2_ n3_ n4_ n5_ n6_; (try clear hb); (try clear hb2); (try clear hk); (try clear hi); have hcz41_0 : w40.cell? ⟨gb985, 0, none⟩ = some (.slice none 0 0) := (zab BK985.out 0).trans rfl; have hcz41_1 : w40.cell? ⟨gb985, 1, none⟩ = some (.slice none 0 0) := (zab BK985.out 1).trans rfl; have hfz41_0 := zan BK985.out 0; have hfz41_1 := zan BK985.out 1))
       refine bodyPost_ret (results_ct rfl _ _ gb985 28 #[.slice none 0 0, .slice none 0 0] (0, 0) _ rfl (by (with_reducible repeat (first | refine zai ?_ _ | refine zaj ?_ | refine zah ?_ _)); refine zbn (cs := #[.slice none 0 0, .slice none 0 0]) ?_ 1 _ rfl; (with_reducible repeat (first | refine zai ?_ _ | refine zaj ?_ | refine zah ?_ _)); refine zbn (cs := #[.slice none 0 0, .slice none 0 0]) ?_ 0 _ rfl; (with_reducible repeat (first | refine zai ?_ _ | refine zaj ?_ | refine zah ?_ _)); exact BK985.out) Tryd.underlying28 rfl (by kernel_rfl)) rfl ?_
       exact ⟨_, _, zW, Kd.V_nil _ _ _ _ _, Kd.V_nil _ _ _ _ _, zB HB⟩
def zbf.f (k : Nat) : Option Bool := (zba.f k (⟨#[49, 47, 51]⟩ : ByteArray)).bind fun r => (zba.f k (⟨#[49, 47, 50, 48]⟩ : ByteArray)).bind fun s => (zbp.f k 10 [⟨r.1, r.2.1⟩, ⟨s.1, s.2.1⟩]).bind fun l => if l = ([3, 1], 0) then some true else none
theorem zbf.mono : ∀ k, LeO (zbf.f k) (zbf.f (k + 1)) := by
 intro k
 unfold zbf.f
 exact LeO.bind (zba.mono _ _) (fun r => LeO.bind (zba.mono _ _) (fun s => LeO.bind (zbp.mono _ _ _) (fun _ => LeO.refl _)))
theorem k28_row {w : World} {g : Nat} {A0 A1 A2 A3 : Option Addr} {c0 c1 c2 c3 : Nat} {l0 l1 l2 l3 : List Int} {t : Nat} (hb : w.heap[g]? = some (.cells #[.slice A0 l0.length c0, .slice A1 l1.length c1, .slice A2 l2.length c2, .slice A3 l3.length c3] t (0, 0)))
  (h0 : l0.length ≤ c0 ∧ Kd.C (Kd.int .u64) w A0 l0.length l0) (h1 : l1.length ≤ c1 ∧ Kd.C (Kd.int .u64) w A1 l1.length l1) (h2 : l2.length ≤ c2 ∧ Kd.C (Kd.int .u64) w A2 l2.length l2) (h3 : l3.length ≤ c3 ∧ Kd.C (Kd.int .u64) w A3 l3.length l3) :
  Kd.C k28 w (some ⟨g, 0, none⟩) 2 [⟨l0, l1⟩, ⟨l2, l3⟩] := by
 refine ⟨rfl, by omega, fun _ => ⟨_, rfl, fun j p hj => ?_⟩⟩
 match j, hj with
 | 0, hj =>
  simp at hj
  subst hj
  refine ⟨[.slice A0 l0.length c0, .slice A1 l1.length c1], rfl, ⟨[.slice A0 l0.length c0], [.slice A1 l1.length c1], rfl, ⟨A0, c0, rfl, h0.1, h0.2⟩, ⟨A1, c1, rfl, h1.1, h1.2⟩⟩, fun i u hu => ?_⟩
  match i, hu with
  | 0, hu => exact (zab hb 0).trans hu
  | 1, hu => exact (zab hb 1).trans hu
 | 1, hj =>
  simp at hj
  subst hj
  refine ⟨[.slice A2 l2.length c2, .slice A3 l3.length c3], rfl, ⟨[.slice A2 l2.length c2], [.slice A3 l3.length c3], rfl, ⟨A2, c2, rfl, h2.1, h2.2⟩, ⟨A3, c3, rfl, h3.1, h3.2⟩⟩, fun i u hu => ?_⟩
  match i, hu with
  | 0, hu => exact (zab hb 2).trans hu
  | 1, hu => exact (zab hb 3).trans hu
theorem zbf.calls (k : Nat) (r : Bool) (w : World) (hG : Glob w) (h : zbf.f k = some r) :
  Calls Tryd.prog 45 #[] w fun e w' => e = .returned (.bool r) ∧ Below w.heap.size w w' := by
 unfold zbf.f at h
 obtain ⟨r1, e1, h⟩ := zO h
 obtain ⟨r2, e2, h⟩ := zO h
 obtain ⟨l, e3, h⟩ := zO h
 split at h
 ·
  rename_i hl
  subst hl
  injection h with h
  subst h
  obtain ⟨p1, p2, p3⟩ := r1
  obtain ⟨q1, q2, q3⟩ := r2
  have E1 := zA e1
  have E2 := zA e2
  have E3 := zA e3
  have HG := zA hG
  clear e1 e2 e3 hG
  go_enter Tryd.func45, Tryd.ntmps45
  go_wp2_with fail
  go_at_call 40
  refine (zba.calls k _ p1 p2 p3 _ HG.out E1.out).mono ?_
  rintro e w1 ⟨v0, v1, rfl, ho0, ho1, hb⟩
  obtain ⟨A0, c0, rfl⟩ := Kd.za3 ho0
  obtain ⟨A1, c1, rfl⟩ := Kd.za3 ho1
  have HO0 := zA (Kd.zal ho0)
  have HO1 := zA (Kd.zal ho1)
  have HB := zA hb
  have HG1 := zA (Glob.below HG.out hb)
  clear ho0 ho1 hb
  go_wp2_with fail
  go_at_call 40
  refine (zba.calls k _ q1 q2 q3 _ (Glob.below HG1.out (zbu (Below.refl _ _) _)) E2.out).mono ?_
  rintro e w2 ⟨v2, v3, rfl, ho2, ho3, hb2⟩
  obtain ⟨A2, c2, rfl⟩ := Kd.za3 ho2
  obtain ⟨A3, c3, rfl⟩ := Kd.za3 ho3
  have BK1 := zA (zaf (blk_new w1 (.cells #[.slice A0 p1.length c0, .slice A1 p2.length c1] 28)) hb2)
  have HO2 := zA (Kd.zal ho2)
  have HO3 := zA (Kd.zal ho3)
  have HB2 := zA (zac (zbu HB.out (.cells #[.slice A0 p1.length c0, .slice A1 p2.length c1] 28)) hb2)
  have C0 := zA (Kd.za6 (Kd.zdc HO0.out.2.2 (.cells #[.slice A0 p1.length c0, .slice A1 p2.length c1] 28)) hb2)
  have C1 := zA (Kd.za6 (Kd.zdc HO1.out.2.2 (.cells #[.slice A0 p1.length c0, .slice A1 p2.length c1] 28)) hb2)
  have hs1 : w1.heap.size < w2.heap.size := zb4 BK1.out
  have B0 := zA (zah BK1.out (.cells #[.slice A2 q1.length c2, .slice A3 q2.length c3] 28))
  have e0 := (zab B0.out 0).trans rfl
  have e1 := (zab B0.out 1).trans rfl
  have B1 := zA (blk_new w2 (.cells #[.slice A2 q1.length c2, .slice A3 q2.length c3] 28))
  have e2 := (zab B1.out 0).trans rfl
  have e3 := (zab B1.out 1).trans rfl
  clear ho2 ho3 hb2 hs1
  have B3 : Aside0 (((w2.alloc (.cells #[.slice A2 q1.length c2, .slice A3 q2.length c3] 28)).alloc (.cells #[.slice A0 p1.length c0, .slice A1 p2.length c1, .slice A2 q1.length c2, .slice A3 q2.length c3] 28)).heap[w2.heap.size + 1]? = some (.cells #[.slice A0 p1.length c0, .slice A1 p2.length c1, .slice A2 q1.length c2, .slice A3 q2.length c3] 28 (0, 0))) := ⟨by
   have := blk_new (w2.alloc (.cells #[.slice A2 q1.length c2, .slice A3 q2.length c3] 28)) (.cells #[.slice A0 p1.length c0, .slice A1 p2.length c1, .slice A2 q1.length c2, .slice A3 q2.length c3] 28)
   rwa [show (w2.alloc (.cells #[.slice A2 q1.length c2, .slice A3 q2.length c3] 28)).heap.size = w2.heap.size + 1 by simp] at this⟩
  go_wp2_with fail
  go_at_call 48
  refine (zbp.calls k 10 (some ⟨w2.heap.size + 1, 0, none⟩) 2 [⟨p1, p2⟩, ⟨q1, q2⟩] [3, 1] 0 _ (k28_row B3.out ⟨HO0.out.2.1, Kd.zdc (Kd.zdc C0.out _) _⟩ ⟨HO1.out.2.1, Kd.zdc (Kd.zdc C1.out _) _⟩ ⟨HO2.out.2.1, Kd.zdc (Kd.zdc HO2.out.2.2 _) _⟩ ⟨HO3.out.2.1, Kd.zdc (Kd.zdc HO3.out.2.2 _) _⟩) (Nat.le_refl _) E3.out).mono ?_
  rintro e w3 ⟨v4, rfl, ho4, hb4⟩
  have hb5 := zA (zac (zbu (zbu HB2.out _) _) hb4)
  obtain ⟨g, cap, rfl, _, _, cells, hcells⟩ := Kd.R_form ho4 (by decide)
  have f0 := (Kd.R_cell (0 : Int) ho4 0 (by decide) (by decide)).1
  have f1 := (Kd.R_cell (0 : Int) ho4 1 (by decide) (by decide)).1
  have g0 : w3.cell? ⟨g, 0, none⟩ = some (.int .i64 3) := f0
  have g1 : w3.cell? ⟨g, 1, none⟩ = some (.int .i64 1) := f1
  clear f0 f1 hcells ho4 hb4 e0 e1 e2 e3
  go_wp2
  go_ret
  exact ⟨rfl, hb5.out⟩
 ·
  cases h
def za1.l0 : Nat → Int → Int → List Int → List Int → Option (Int)
 | 0, _, _, _, _ => none
 | k + 1, x0, x5, x1169000, x1169001 => if x5 < x0 then ((zaw.f k (wrap64 (x5 + 1))).bind fun t1169 => ((zam.f k x1169001 t1169).bind fun t1172 => ((zaw.f k x0).bind fun t1175 => ((zam.f k x1169000 t1175).bind fun t1178 => ((zaz.f k t1172 t1178).bind fun t1181 => (if t1181 ≤ 0 then (za1.l0 k x0 (wrap64 (x5 + 1)) x1169000 x1169001) else (some x5))))))) else (some x5)
def za1.f (k : Nat) (a0 : Int) (l1_0 : List Int) (l1_1 : List Int) : Option (Int) := za1.l0 k a0 1 l1_0 l1_1
def za1.T2 : Bool × List (List Nat × List Nat) := (true, [([], []), ([], []), ([0, 1], [0, 1]), ([2], [2]), ([3], [3]), ([4, 3], [3, 4]), ([3], [3]), ([6, 3], [3, 6]), ([7, 3, 3], [3, 7]), ([5, 8, 8, 3], [3, 5, 8]), ([3], [3]), ([10, 3], [3, 10]), ([3], [3]), ([12, 9, 3], [3, 12]), ([11, 13, 13, 3], [3, 11, 13]), ([9, 14, 14, 3], [3, 9, 14]), ([15, 3], [3, 15]), ([3, 16], [3, 16])])
def za1.B2 : List Nat := [0, 0, 3, 7, 15, 31, 15, 79, 207, 511, 15, 1039, 15, 5119, 16383, 32767, 65535, 131071]
theorem za1.tab2 : rtab .any (opsOf Tryd.f47 2) = za1.T2 := by kernel_rfl
theorem za1.bits2 : waitsOk za1.T2.2 za1.B2 = true := by kernel_rfl
theorem za1.calls (k : Nat) (a0 : Int) (A1_0 : Option Addr) (c1_0 : Nat) (l1_0 : List Int) (A1_1 : Option Addr) (c1_1 : Nat) (l1_1 : List Int) (r : Int) (w : World) (hr1_0 : Kd.C (Kd.int .i64) w A1_0 l1_0.length l1_0) (hc1_0 : l1_0.length ≤ c1_0) (hr1_1 : Kd.C (Kd.int .i64) w A1_1 l1_1.length l1_1) (hc1_1 : l1_1.length ≤ c1_1) (h : za1.f k a0 l1_0 l1_1 = some r) :
  Calls Tryd.prog 47 #[.int .i64 a0, .agg #[.slice A1_0 l1_0.length c1_0, .slice A1_1 l1_1.length c1_1]] w fun e w' => e = .returned (.int .i64 r) ∧ Below w.heap.size w w' := by
 have hu40 := Tryd.underlying40
 have HR1_0 := zA hr1_0
 have HC1_0 := zA hc1_0
 clear hr1_0 hc1_0
 have HR1_1 := zA hr1_1
 have HC1_1 := zA hc1_1
 clear hr1_1 hc1_1
 have HB := zA (Below.refl w.heap.size w)
 have H : (za1.l0 k a0 1 l1_0 l1_1) = some r := h
 clear h
 have H' := zA H
 clear H
 go_enter Tryd.func47, Tryd.ntmps47
 go_wp2_with (first | ((with_reducible refine zbe (N := 3) rfl ?_); refine zbl ?hg (N := 3) ?hd (cs := #[.slice A1_0 l1_0.length c1_0, .slice A1_1 l1_1.length c1_1]) (t := 40) ?hr ?_; (case hd => rfl); (case hg => rfl); (case hr => first | (go_simp; done) | (go_simp; rfl)); intro gb1168 hg w3 hbox hb; have n0_ := zA (zac (zB HB) hb); have n1_ := zA (hbox); have n2_ := zA ((by rw [hg]; exact (za (zB HB)) : w.heap.size ≤ gb1168)); have n3_ := zA ((by rw [hg]; exact (za (zB HB)) : w.heap.size ≤ gb1168)); clear HB; have HB := n0_; have BK1168 := n1_; have GW1168 := n2_; have GE1168 := n3_; clear n0_ n1_ n2_ n3_ hb hbox hg))
 go_loopg [5] k (fun kq v5 w' => ∃ (x5_1 : Int), v5 = .int .i64 x5_1 ∧ Aside0 (za1.l0 kq a0 x5_1 l1_0 l1_1 = some r) ∧ Aside0 (kq ≤ k) ∧ Aside0 (w'.heap[gb1168]? = some (.cells #[(.slice A1_0 l1_0.length c1_0), (.slice A1_1 l1_1.length c1_1)] 40 (0, 0))) ∧ Aside0 (Below w.heap.size w w'))
 case atStart => exact ⟨(1), (zF), H', ⟨Nat.le_refl _⟩, ⟨zK BK1168⟩, ⟨zB HB⟩⟩
 case round =>
  clear H'
  try clear c1
  try clear p2
  obtain ⟨x5_1, rfl, HA, HK1, BK1168, HB⟩ := hrel
  cases gk with
  | zero => exact absurd HA.out (by simp [za1.l0])
  | succ k1 =>
   have H := HA.out
   clear HA
   simp only [za1.l0] at H
   by_cases c4 : x5_1 < a0
   ·
    rw [if_pos c4] at H
    have c4b0 : decide (x5_1 < a0) = true := decide_eq_true c4
    clear c4
    replace H := zO H
    obtain ⟨t1169, A50, H⟩ := H
    try dsimp only at H
    have A5 := zA A50
    clear A50
    replace H := zO H
    obtain ⟨t1172, A60, H⟩ := H
    try dsimp only at H
    have A6 := zA A60
    clear A60
    replace H := zO H
    obtain ⟨t1175, A70, H⟩ := H
    try dsimp only at H
    have A7 := zA A70
    clear A70
    replace H := zO H
    obtain ⟨t1178, A80, H⟩ := H
    try dsimp only at H
    have A8 := zA A80
    clear A80
    replace H := zO H
    obtain ⟨t1181, A90, H⟩ := H
    try dsimp only at H
    have A9 := zA A90
    clear A90
    by_cases c10 : t1181 ≤ 0
    ·
     rw [if_pos c10] at H
     have c10b0 : decide (t1181 ≤ 0) = true := decide_eq_true c10
     clear c10
     have H' := zA H
     clear H
     try go_wp2
     have n0_ := zA (zaj BK1168.out)
     have n1_ := zA (zbi HB.out)
     clear BK1168 HB
     have BK1168 := n0_
     have HB := n1_
     clear n0_ n1_
     refine start_ (n := 18) (S := fun w' => w'.cell? ⟨gb1168, 0, none⟩ = some (.slice A1_0 l1_0.length c1_0) ∧ w'.cell? ⟨gb1168, 1, none⟩ = some (.slice A1_1 l1_1.length c1_1)) (ds := []) #[false, false, false, false, false, false, false, false, false, false, false, false, false, false, false, false, false, false] (by kernel_rfl) rfl rfl ⟨(zab BK1168.out 0).trans rfl, (zab BK1168.out 1).trans rfl⟩ (fun hHeld => ?_); refine zcw za1.tab2 za1.bits2 (fun HT_ HW_ => ?_)
     generalize wr.drew = w11 at BK1168 HB hHeld ⊢
     refine pure_ (i := 0) (N := some 6) (v := ?_) (a' := ?_) #[true, false, false, false, false, false, false, false, false, false, false, false, false, false, false, false, false, false] rfl rfl (zav HT_.out (by kernel_rfl)) (fun _ _ _ h => h) (Or.inl ⟨by rfl, ?_⟩) ?_ ?_
     rotate_left
     ·
      intro w'
      go_simp
      with_reducible rfl
     rotate_left
     ·
      simp only [Act.put, zs1, zs2, zs3, i64_w, i32_w]
      rfl
     refine pure_ (i := 1) (N := some 7) (v := ?_) (a' := ?_) #[true, true, false, false, false, false, false, false, false, false, false, false, false, false, false, false, false, false] rfl rfl (zav HT_.out (by kernel_rfl)) (fun _ _ _ h => h) (Or.inl ⟨by rfl, ?_⟩) ?_ ?_
     rotate_left
     ·
      intro w'
      go_simp
      with_reducible rfl
     rotate_left
     ·
      simp only [Act.put, zs1, zs2, zs3, i64_w, i32_w]
      rfl
     refine pure_ (i := 2) (N := some 8) (v := ?_) (a' := ?_) #[true, true, true, false, false, false, false, false, false, false, false, false, false, false, false, false, false, false] rfl rfl (zav HT_.out (by kernel_rfl)) (fun _ _ _ h => h) (Or.inl ⟨by rfl, ?_⟩) ?_ ?_
     rotate_left
     ·
      intro w'
      go_simp
      with_reducible rfl
     rotate_left
     ·
      simp only [Act.put, zs1, zs2, zs3, i64_w, i32_w]
      rfl
     refine pure_ (i := 3) (N := some 9) (v := ?_) (a' := ?_) #[true, true, true, true, false, false, false, false, false, false, false, false, false, false, false, false, false, false] rfl rfl (zav HT_.out (by kernel_rfl)) (fun _ _ _ h => h) (Or.inl ⟨by rfl, ?_⟩) ?_ ?_
     rotate_left
     ·
      intro w'
      go_simp
      with_reducible rfl
     rotate_left
     ·
      simp only [Act.put, zs1, zs2, zs3, i64_w, i32_w]
      rfl
     refine pure_ (i := 4) (N := some 10) (v := ?_) (a' := ?_) #[true, true, true, true, true, false, false, false, false, false, false, false, false, false, false, false, false, false] rfl rfl (zav HT_.out (by kernel_rfl)) (fun _ _ _ h => h) (Or.inl ⟨by rfl, ?_⟩) ?_ ?_
     rotate_left
     ·
      intro w'
      go_simp
      with_reducible rfl
     rotate_left
     ·
      simp only [Act.put, zs1, zs2, zs3, i64_w, i32_w]
      rfl
     refine pure_ (i := 6) (N := some 12) (v := ?_) (a' := ?_) #[true, true, true, true, true, false, true, false, false, false, false, false, false, false, false, false, false, false] rfl rfl (zav HT_.out (by kernel_rfl)) (fun _ _ _ h => h) (Or.inl ⟨by rfl, ?_⟩) ?_ ?_
     rotate_left
     ·
      intro w'
      go_simp
      with_reducible rfl
     rotate_left
     ·
      simp only [Act.put, zs1, zs2, zs3, i64_w, i32_w]
      rfl
     refine pure_ (i := 7) (N := some 13) (v := ?_) (a' := ?_) #[true, true, true, true, true, false, true, true, false, false, false, false, false, false, false, false, false, false] rfl rfl (zav HT_.out (by kernel_rfl)) (fun _ _ _ h => h) (Or.inl ⟨by rfl, ?_⟩) ?_ ?_
     rotate_left
     ·
      intro w'
      go_simp
      with_reducible rfl
     rotate_left
     ·
      simp only [Act.put, zs1, zs2, zs3, i64_w, i32_w]
      rfl
     refine pure_ (i := 10) (N := some 16) (v := ?_) (a' := ?_) #[true, true, true, true, true, false, true, true, false, false, true, false, false, false, false, false, false, false] rfl rfl (zav HT_.out (by kernel_rfl)) (fun _ _ _ h => h) (Or.inl ⟨by rfl, ?_⟩) ?_ ?_
     rotate_left
     ·
      intro w'
      go_simp
      with_reducible rfl
     rotate_left
     ·
      simp only [Act.put, zs1, zs2, zs3, i64_w, i32_w]
      rfl
     refine pure_ (i := 12) (N := some 18) (v := ?_) (a' := ?_) #[true, true, true, true, true, false, true, true, false, false, true, false, true, false, false, false, false, false] rfl rfl (zav HT_.out (by kernel_rfl)) (fun _ _ _ h => h) (Or.inl ⟨by rfl, ?_⟩) ?_ ?_
     rotate_left
     ·
      intro w'
      go_simp
      with_reducible rfl
     rotate_left
     ·
      simp only [Act.put, zs1, zs2, zs3, i64_w, i32_w]
      rfl
     refine take_ (i := 5) (N := some 11) (v := ?_) (a' := ?_) #[true, true, true, true, true, true, true, true, false, false, true, false, true, false, false, false, false, false] rfl rfl (zb9 HT_.out HW_.out (by kernel_rfl)) (fun _ _ _ h => h) (Or.inl ⟨by rfl, ?_⟩) hHeld ?_ ?_
     rotate_left
     ·
      rintro w' ⟨s0, s1⟩
      go_simp
      with_reducible rfl
     rotate_left
     ·
      simp only [Act.put, zs1, zs2, zs3, i64_w, i32_w]
      rfl
     refine take_ (i := 11) (N := some 17) (v := ?_) (a' := ?_) #[true, true, true, true, true, true, true, true, false, false, true, true, true, false, false, false, false, false] rfl rfl (zb9 HT_.out HW_.out (by kernel_rfl)) (fun _ _ _ h => h) (Or.inl ⟨by rfl, ?_⟩) hHeld ?_ ?_
     rotate_left
     ·
      rintro w' ⟨s0, s1⟩
      go_simp
      with_reducible rfl
     rotate_left
     ·
      simp only [Act.put, zs1, zs2, zs3, i64_w, i32_w]
      rfl
     refine one_ (i := 8) (N := some 14) #[true, true, true, true, true, true, true, true, true, false, true, true, true, false, false, false, false, false] rfl rfl (zb8 HT_.out (by kernel_rfl)) (by decide) (fun K hK => ?_)
     refine goes_ Tryd.func20 (by kernel_rfl) rfl #[.int .i64 (wrap64 (x5_1 + 1))] (by rfl) rfl rfl (zE) ?_
     with_reducible refine (zaw.calls k1 (wrap64 (x5_1 + 1)) t1169 _ A5.out).mono ?_
     rintro e w12 ⟨v1170, rfl, ho0, hb⟩
     refine ⟨_, rfl, ?_⟩
     have n0_ := zA (Kd.zbw ho0 (za (zB HB)))
     have n1_ := zA (zaf (g := gb1168) (o := .cells #[.slice A1_0 l1_0.length c1_0, .slice A1_1 l1_1.length c1_1] 40 (0, 0)) (zK BK1168) hb)
     have n2_ := zA (zac (zB HB) hb)
     clear BK1168 HB
     have HO1171 := n0_
     have BK1168 := n1_
     have HB := n2_
     clear n0_ n1_ n2_
     (try clear hb)
     (try clear hb2)
     (try clear hk)
     (try clear hi)
     (try clear ho0)
     obtain ⟨Ao13, co13, eo13⟩ := Kd.zbq HO1171.out
     (first | subst eo13 | (injection eo13 with f1_ f2_ f3_; have f4_ := f1_.symm; have f5_ := f3_.symm; clear f1_ f2_ f3_; subst f4_; subst f5_))
     refine hK.out _ _ ⟨(zab BK1168.out 0).trans rfl, (zab BK1168.out 1).trans rfl⟩ (fun hHeld => ?_)
     clear hK K
     refine norm_ (a' := ?_) ?_ ?_
     rotate_left
     ·
      show Act.put _ (some 14) _ = _
      simp only [Act.put, zs1, zs2, zs3, i64_w, i32_w]
      rfl
     refine one_ (i := 9) (N := some 15) #[true, true, true, true, true, true, true, true, true, true, true, true, true, false, false, false, false, false] rfl rfl (zb8 HT_.out (by kernel_rfl)) (by decide) (fun K hK => ?_)
     refine goes_ Tryd.func56 (by kernel_rfl) rfl #[.slice A1_1 l1_1.length c1_1, .slice Ao13 t1169.length co13] (by rfl) rfl rfl (zE) ?_
     with_reducible refine (zam.calls k1 _ _ l1_1 _ _ t1169 t1172 _ ?side1 ?side2 ?side3 ?side4 A6.out).mono ?_
     (case side1 => exact zJ (Kd.za6 HR1_1.out HB.out))
     (case side2 => exact HC1_1.out)
     (case side3 => exact zJ (Kd.zay HO1171.out).2.2)
     (case side4 => exact (Kd.zay HO1171.out).2.1)
     rintro e w14 ⟨v1173, rfl, ho0, hb⟩
     refine ⟨_, rfl, ?_⟩
     have n0_ := zA (Kd.zbv (zR HO1171) (Kd.zbk ho0) hb)
     have n1_ := zA (Kd.zbw (Kd.zcc ho0 (Kd.R_lt (zR HO1171))) (za (zB HB)))
     have n2_ := zA (zaf (g := gb1168) (o := .cells #[.slice A1_0 l1_0.length c1_0, .slice A1_1 l1_1.length c1_1] 40 (0, 0)) (zK BK1168) hb)
     have n3_ := zA (zac (zB HB) hb)
     clear HO1171 BK1168 HB
     have HO1171 := n0_
     have HO1174 := n1_
     have BK1168 := n2_
     have HB := n3_
     clear n0_ n1_ n2_ n3_
     (try clear hb)
     (try clear hb2)
     (try clear hk)
     (try clear hi)
     (try clear ho0)
     refine hK.out _ _ ⟨(zab BK1168.out 0).trans rfl, (zab BK1168.out 1).trans rfl⟩ (fun hHeld => ?_)
     clear hK K
     refine norm_ (a' := ?_) ?_ ?_
     rotate_left
     ·
      show Act.put _ (some 15) _ = _
      simp only [Act.put, zs1, zs2, zs3, i64_w, i32_w]
      rfl
     refine one_ (i := 13) (N := some 19) #[true, true, true, true, true, true, true, true, true, true, true, true, true, true, false, false, false, false] rfl rfl (zb8 HT_.out (by kernel_rfl)) (by decide) (fun K hK => ?_)
     refine goes_ Tryd.func20 (by kernel_rfl) rfl #[.int .i64 a0] (by rfl) rfl rfl (zE) ?_
     with_reducible refine (zaw.calls k1 a0 t1175 _ A7.out).mono ?_
     rintro e w15 ⟨v1176, rfl, ho0, hb⟩
     refine ⟨_, rfl, ?_⟩
     have n0_ := zA (Kd.zbv (zR HO1171) (Kd.zbk ho0) hb)
     have n1_ := zA (Kd.zbv (zR HO1174) (Kd.zbk ho0) hb)
     have n2_ := zA (Kd.zbw (Kd.zcc (Kd.zcc ho0 (Kd.R_lt (zR HO1171))) (Kd.R_lt (zR HO1174))) (za (zB HB)))
     have n3_ := zA (zaf (g := gb1168) (o := .cells #[.slice A1_0 l1_0.length c1_0, .slice A1_1 l1_1.length c1_1] 40 (0, 0)) (zK BK1168) hb)
     have n4_ := zA (zac (zB HB) hb)
     clear HO1171 HO1174 BK1168 HB
     have HO1171 := n0_
     have HO1174 := n1_
     have HO1177 := n2_
     have BK1168 := n3_
     have HB := n4_
     clear n0_ n1_ n2_ n3_ n4_
     (try clear hb)
     (try clear hb2)
     (try clear hk)
     (try clear hi)
     (try clear ho0)
     obtain ⟨Ao16, co16, eo16⟩ := Kd.zbq HO1177.out
     (first | subst eo16 | (injection eo16 with f1_ f2_ f3_; have f4_ := f1_.symm; have f5_ := f3_.symm; clear f1_ f2_ f3_; subst f4_; subst f5_))
     refine hK.out _ _ ⟨(zab BK1168.out 0).trans rfl, (zab BK1168.out 1).trans rfl⟩ (fun hHeld => ?_)
     clear hK K
     refine norm_ (a' := ?_) ?_ ?_
     rotate_left
     ·
      show Act.put _ (some 19) _ = _
      simp only [Act.put, zs1, zs2, zs3, i64_w, i32_w]
      rfl
     refine one_ (i := 14) (N := some 20) #[true, true, true, true, true, true, true, true, true, true, true, true, true, true, true, false, false, false] rfl rfl (zb8 HT_.out (by kernel_rfl)) (by decide) (fun K hK => ?_)
     refine goes_ Tryd.func56 (by kernel_rfl) rfl #[.slice A1_0 l1_0.length c1_0, .slice Ao16 t1175.length co16] (by rfl) rfl rfl (zE) ?_
     with_reducible refine (zam.calls k1 _ _ l1_0 _ _ t1175 t1178 _ ?side1 ?side2 ?side3 ?side4 A8.out).mono ?_
     (case side1 => exact zJ (Kd.za6 HR1_0.out HB.out))
     (case side2 => exact HC1_0.out)
     (case side3 => exact zJ (Kd.zay HO1177.out).2.2)
     (case side4 => exact (Kd.zay HO1177.out).2.1)
     rintro e w17 ⟨v1179, rfl, ho0, hb⟩
     refine ⟨_, rfl, ?_⟩
     have n0_ := zA (Kd.zbv (zR HO1171) (Kd.zbk ho0) hb)
     have n1_ := zA (Kd.zbv (zR HO1174) (Kd.zbk ho0) hb)
     have n2_ := zA (Kd.zbv (zR HO1177) (Kd.zbk ho0) hb)
     have n3_ := zA (Kd.zbw (Kd.zcc (Kd.zcc (Kd.zcc ho0 (Kd.R_lt (zR HO1171))) (Kd.R_lt (zR HO1174))) (Kd.R_lt (zR HO1177))) (za (zB HB)))
     have n4_ := zA (zaf (g := gb1168) (o := .cells #[.slice A1_0 l1_0.length c1_0, .slice A1_1 l1_1.length c1_1] 40 (0, 0)) (zK BK1168) hb)
     have n5_ := zA (zac (zB HB) hb)
     clear HO1171 HO1174 HO1177 BK1168 HB
     have HO1171 := n0_
     have HO1174 := n1_
     have HO1177 := n2_
     have HO1180 := n3_
     have BK1168 := n4_
     have HB := n5_
     clear n0_ n1_ n2_ n3_ n4_ n5_
     (try clear hb)
     (try clear hb2)
     (try clear hk)
     (try clear hi)
     (try clear ho0)
     obtain ⟨Ao18, co18, eo18⟩ := Kd.zbq HO1174.out
     (first | subst eo18 | (injection eo18 with f1_ f2_ f3_; have f4_ := f1_.symm; have f5_ := f3_.symm; clear f1_ f2_ f3_; subst f4_; subst f5_))
     obtain ⟨Ao19, co19, eo19⟩ := Kd.zbq HO1180.out
     (first | subst eo19 | (injection eo19 with f1_ f2_ f3_; have f4_ := f1_.symm; have f5_ := f3_.symm; clear f1_ f2_ f3_; subst f4_; subst f5_))
     refine hK.out _ _ ⟨(zab BK1168.out 0).trans rfl, (zab BK1168.out 1).trans rfl⟩ (fun hHeld => ?_)
     clear hK K
     refine norm_ (a' := ?_) ?_ ?_
     rotate_left
     ·
      show Act.put _ (some 20) _ = _
      simp only [Act.put, zs1, zs2, zs3, i64_w, i32_w]
      rfl
     refine one_ (i := 15) (N := some 21) #[true, true, true, true, true, true, true, true, true, true, true, true, true, true, true, true, false, false] rfl rfl (zb8 HT_.out (by kernel_rfl)) (by decide) (fun K hK => ?_)
     refine goes_ Tryd.func18 (by kernel_rfl) rfl #[.slice Ao18 t1172.length co18, .slice Ao19 t1178.length co19] (by rfl) rfl rfl (zE) ?_
     with_reducible refine (zaz.calls k1 _ _ t1172 _ _ t1178 t1181 _ ?side1 ?side2 ?side3 ?side4 A9.out).mono ?_
     (case side1 => exact zJ (Kd.zay HO1174.out).2.2)
     (case side2 => exact (Kd.zay HO1174.out).2.1)
     (case side3 => exact zJ (Kd.zay HO1180.out).2.2)
     (case side4 => exact (Kd.zay HO1180.out).2.1)
     rintro e w' ⟨rfl, ⟨nd, rfl⟩⟩
     refine ⟨_, rfl, ?_⟩
     refine hK.out _ _ ⟨(zab BK1168.out 0).trans rfl, (zab BK1168.out 1).trans rfl⟩ (fun hHeld => ?_)
     clear hK K
     refine norm_ (a' := ?_) ?_ ?_
     rotate_left
     ·
      show Act.put _ (some 21) _ = _
      simp only [Act.put, zs1, zs2, zs3, i64_w, i32_w]
      rfl
     refine pure_ (i := 16) (N := some 22) (v := ?_) (a' := ?_) #[true, true, true, true, true, true, true, true, true, true, true, true, true, true, true, true, true, false] rfl rfl (zav HT_.out (by kernel_rfl)) (fun _ _ _ h => h) (Or.inl ⟨by rfl, ?_⟩) ?_ ?_
     rotate_left
     ·
      intro w'
      go_simp
      with_reducible rfl
     rotate_left
     ·
      simp only [Act.put, zs1, zs2, zs3, i64_w, i32_w]
      rfl
     refine pure_ (i := 17) (N := some 23) (v := ?_) (a' := ?_) #[true, true, true, true, true, true, true, true, true, true, true, true, true, true, true, true, true, true] rfl rfl (zav HT_.out (by kernel_rfl)) (fun _ _ _ h => h) (Or.inl ⟨by rfl, ?_⟩) ?_ ?_
     rotate_left
     ·
      intro w'
      go_simp
      with_reducible rfl
     rotate_left
     ·
      simp only [Act.put, zs1, zs2, zs3, i64_w, i32_w]
      rfl
     refine done_ (zdk HT_.out (by kernel_rfl)) ?_
     try go_wp2
     go_roundg k1
     case measure => have := HK1.out; omega
     case rel => exact ⟨(wrap64 (x5_1 + 1)), (zF), H', ⟨by have := HK1.out; omega⟩, ⟨zK BK1168⟩, ⟨zB HB⟩⟩
    ·
     rw [if_neg c10] at H
     have c10b0 : decide (t1181 ≤ 0) = false := decide_eq_false c10
     clear c10
     obtain rfl := Option.some.inj H
     try go_wp2
     have n0_ := zA (zaj BK1168.out)
     have n1_ := zA (zbi HB.out)
     clear BK1168 HB
     have BK1168 := n0_
     have HB := n1_
     clear n0_ n1_
     refine start_ (n := 18) (S := fun w' => w'.cell? ⟨gb1168, 0, none⟩ = some (.slice A1_0 l1_0.length c1_0) ∧ w'.cell? ⟨gb1168, 1, none⟩ = some (.slice A1_1 l1_1.length c1_1)) (ds := []) #[false, false, false, false, false, false, false, false, false, false, false, false, false, false, false, false, false, false] (by kernel_rfl) rfl rfl ⟨(zab BK1168.out 0).trans rfl, (zab BK1168.out 1).trans rfl⟩ (fun hHeld => ?_); refine zcw za1.tab2 za1.bits2 (fun HT_ HW_ => ?_)
     generalize wr.drew = w20 at BK1168 HB hHeld ⊢
     refine pure_ (i := 0) (N := some 6) (v := ?_) (a' := ?_) #[true, false, false, false, false, false, false, false, false, false, false, false, false, false, false, false, false, false] rfl rfl (zav HT_.out (by kernel_rfl)) (fun _ _ _ h => h) (Or.inl ⟨by rfl, ?_⟩) ?_ ?_
     rotate_left
     ·
      intro w'
      go_simp
      with_reducible rfl
     rotate_left
     ·
      simp only [Act.put, zs1, zs2, zs3, i64_w, i32_w]
      rfl
     refine pure_ (i := 1) (N := some 7) (v := ?_) (a' := ?_) #[true, true, false, false, false, false, false, false, false, false, false, false, false, false, false, false, false, false] rfl rfl (zav HT_.out (by kernel_rfl)) (fun _ _ _ h => h) (Or.inl ⟨by rfl, ?_⟩) ?_ ?_
     rotate_left
     ·
      intro w'
      go_simp
      with_reducible rfl
     rotate_left
     ·
      simp only [Act.put, zs1, zs2, zs3, i64_w, i32_w]
      rfl
     refine pure_ (i := 2) (N := some 8) (v := ?_) (a' := ?_) #[true, true, true, false, false, false, false, false, false, false, false, false, false, false, false, false, false, false] rfl rfl (zav HT_.out (by kernel_rfl)) (fun _ _ _ h => h) (Or.inl ⟨by rfl, ?_⟩) ?_ ?_
     rotate_left
     ·
      intro w'
      go_simp
      with_reducible rfl
     rotate_left
     ·
      simp only [Act.put, zs1, zs2, zs3, i64_w, i32_w]
      rfl
     refine pure_ (i := 3) (N := some 9) (v := ?_) (a' := ?_) #[true, true, true, true, false, false, false, false, false, false, false, false, false, false, false, false, false, false] rfl rfl (zav HT_.out (by kernel_rfl)) (fun _ _ _ h => h) (Or.inl ⟨by rfl, ?_⟩) ?_ ?_
     rotate_left
     ·
      intro w'
      go_simp
      with_reducible rfl
     rotate_left
     ·
      simp only [Act.put, zs1, zs2, zs3, i64_w, i32_w]
      rfl
     refine pure_ (i := 4) (N := some 10) (v := ?_) (a' := ?_) #[true, true, true, true, true, false, false, false, false, false, false, false, false, false, false, false, false, false] rfl rfl (zav HT_.out (by kernel_rfl)) (fun _ _ _ h => h) (Or.inl ⟨by rfl, ?_⟩) ?_ ?_
     rotate_left
     ·
      intro w'
      go_simp
      with_reducible rfl
     rotate_left
     ·
      simp only [Act.put, zs1, zs2, zs3, i64_w, i32_w]
      rfl
     refine pure_ (i := 6) (N := some 12) (v := ?_) (a' := ?_) #[true, true, true, true, true, false, true, false, false, false, false, false, false, false, false, false, false, false] rfl rfl (zav HT_.out (by kernel_rfl)) (fun _ _ _ h => h) (Or.inl ⟨by rfl, ?_⟩) ?_ ?_
     rotate_left
     ·
      intro w'
      go_simp
      with_reducible rfl
     rotate_left
     ·
      simp only [Act.put, zs1, zs2, zs3, i64_w, i32_w]
      rfl
     refine pure_ (i := 7) (N := some 13) (v := ?_) (a' := ?_) #[true, true, true, true, true, false, true, true, false, false, false, false, false, false, false, false, false, false] rfl rfl (zav HT_.out (by kernel_rfl)) (fun _ _ _ h => h) (Or.inl ⟨by rfl, ?_⟩) ?_ ?_
     rotate_left
     ·
      intro w'
      go_simp
      with_reducible rfl
     rotate_left
     ·
      simp only [Act.put, zs1, zs2, zs3, i64_w, i32_w]
      rfl
     refine pure_ (i := 10) (N := some 16) (v := ?_) (a' := ?_) #[true, true, true, true, true, false, true, true, false, false, true, false, false, false, false, false, false, false] rfl rfl (zav HT_.out (by kernel_rfl)) (fun _ _ _ h => h) (Or.inl ⟨by rfl, ?_⟩) ?_ ?_
     rotate_left
     ·
      intro w'
      go_simp
      with_reducible rfl
     rotate_left
     ·
      simp only [Act.put, zs1, zs2, zs3, i64_w, i32_w]
      rfl
     refine pure_ (i := 12) (N := some 18) (v := ?_) (a' := ?_) #[true, true, true, true, true, false, true, true, false, false, true, false, true, false, false, false, false, false] rfl rfl (zav HT_.out (by kernel_rfl)) (fun _ _ _ h => h) (Or.inl ⟨by rfl, ?_⟩) ?_ ?_
     rotate_left
     ·
      intro w'
      go_simp
      with_reducible rfl
     rotate_left
     ·
      simp only [Act.put, zs1, zs2, zs3, i64_w, i32_w]
      rfl
     refine take_ (i := 5) (N := some 11) (v := ?_) (a' := ?_) #[true, true, true, true, true, true, true, true, false, false, true, false, true, false, false, false, false, false] rfl rfl (zb9 HT_.out HW_.out (by kernel_rfl)) (fun _ _ _ h => h) (Or.inl ⟨by rfl, ?_⟩) hHeld ?_ ?_
     rotate_left
     ·
      rintro w' ⟨s0, s1⟩
      go_simp
      with_reducible rfl
     rotate_left
     ·
      simp only [Act.put, zs1, zs2, zs3, i64_w, i32_w]
      rfl
     refine take_ (i := 11) (N := some 17) (v := ?_) (a' := ?_) #[true, true, true, true, true, true, true, true, false, false, true, true, true, false, false, false, false, false] rfl rfl (zb9 HT_.out HW_.out (by kernel_rfl)) (fun _ _ _ h => h) (Or.inl ⟨by rfl, ?_⟩) hHeld ?_ ?_
     rotate_left
     ·
      rintro w' ⟨s0, s1⟩
      go_simp
      with_reducible rfl
     rotate_left
     ·
      simp only [Act.put, zs1, zs2, zs3, i64_w, i32_w]
      rfl
     refine one_ (i := 8) (N := some 14) #[true, true, true, true, true, true, true, true, true, false, true, true, true, false, false, false, false, false] rfl rfl (zb8 HT_.out (by kernel_rfl)) (by decide) (fun K hK => ?_)
     refine goes_ Tryd.func20 (by kernel_rfl) rfl #[.int .i64 (wrap64 (x5_1 + 1))] (by rfl) rfl rfl (zE) ?_
     with_reducible refine (zaw.calls k1 (wrap64 (x5_1 + 1)) t1169 _ A5.out).mono ?_
     rintro e w21 ⟨v1170, rfl, ho0, hb⟩
     refine ⟨_, rfl, ?_⟩
     have n0_ := zA (Kd.zbw ho0 (za (zB HB)))
     have n1_ := zA (zaf (g := gb1168) (o := .cells #[.slice A1_0 l1_0.length c1_0, .slice A1_1 l1_1.length c1_1] 40 (0, 0)) (zK BK1168) hb)
     have n2_ := zA (zac (zB HB) hb)
     clear BK1168 HB
     have HO1171 := n0_
     have BK1168 := n1_
     have HB := n2_
     clear n0_ n1_ n2_
     (try clear hb)
     (try clear hb2)
     (try clear hk)
     (try clear hi)
     (try clear ho0)
     obtain ⟨Ao22, co22, eo22⟩ := Kd.zbq HO1171.out
     (first | subst eo22 | (injection eo22 with f1_ f2_ f3_; have f4_ := f1_.symm; have f5_ := f3_.symm; clear f1_ f2_ f3_; subst f4_; subst f5_))
     refine hK.out _ _ ⟨(zab BK1168.out 0).trans rfl, (zab BK1168.out 1).trans rfl⟩ (fun hHeld => ?_)
     clear hK K
     refine norm_ (a' := ?_) ?_ ?_
     rotate_left
     ·
      show Act.put _ (some 14) _ = _
      simp only [Act.put, zs1, zs2, zs3, i64_w, i32_w]
      rfl
     refine one_ (i := 9) (N := some 15) #[true, true, true, true, true, true, true, true, true, true, true, true, true, false, false, false, false, false] rfl rfl (zb8 HT_.out (by kernel_rfl)) (by decide) (fun K hK => ?_)
     refine goes_ Tryd.func56 (by kernel_rfl) rfl #[.slice A1_1 l1_1.length c1_1, .slice Ao22 t1169.length co22] (by rfl) rfl rfl (zE) ?_
     with_reducible refine (zam.calls k1 _ _ l1_1 _ _ t1169 t1172 _ ?side1 ?side2 ?side3 ?side4 A6.out).mono ?_
     (case side1 => exact zJ (Kd.za6 HR1_1.out HB.out))
     (case side2 => exact HC1_1.out)
     (case side3 => exact zJ (Kd.zay HO1171.out).2.2)
     (case side4 => exact (Kd.zay HO1171.out).2.1)
     rintro e w23 ⟨v1173, rfl, ho0, hb⟩
     refine ⟨_, rfl, ?_⟩
     have n0_ := zA (Kd.zbv (zR HO1171) (Kd.zbk ho0) hb)
     have n1_ := zA (Kd.zbw (Kd.zcc ho0 (Kd.R_lt (zR HO1171))) (za (zB HB)))
     have n2_ := zA (zaf (g := gb1168) (o := .cells #[.slice A1_0 l1_0.length c1_0, .slice A1_1 l1_1.length c1_1] 40 (0, 0)) (zK BK1168) hb)
     have n3_ := zA (zac (zB HB) hb)
     clear HO1171 BK1168 HB
     have HO1171 := n0_
     have HO1174 := n1_
     have BK1168 := n2_
     have HB := n3_
     clear n0_ n1_ n2_ n3_
     (try clear hb)
     (try clear hb2)
     (try clear hk)
     (try clear hi)
     (try clear ho0)
     refine hK.out _ _ ⟨(zab BK1168.out 0).trans rfl, (zab BK1168.out 1).trans rfl⟩ (fun hHeld => ?_)
     clear hK K
     refine norm_ (a' := ?_) ?_ ?_
     rotate_left
     ·
      show Act.put _ (some 15) _ = _
      simp only [Act.put, zs1, zs2, zs3, i64_w, i32_w]
      rfl
     refine one_ (i := 13) (N := some 19) #[true, true, true, true, true, true, true, true, true, true, true, true, true, true, false, false, false, false] rfl rfl (zb8 HT_.out (by kernel_rfl)) (by decide) (fun K hK => ?_)
     refine goes_ Tryd.func20 (by kernel_rfl) rfl #[.int .i64 a0] (by rfl) rfl rfl (zE) ?_
     with_reducible refine (zaw.calls k1 a0 t1175 _ A7.out).mono ?_
     rintro e w24 ⟨v1176, rfl, ho0, hb⟩
     refine ⟨_, rfl, ?_⟩
     have n0_ := zA (Kd.zbv (zR HO1171) (Kd.zbk ho0) hb)
     have n1_ := zA (Kd.zbv (zR HO1174) (Kd.zbk ho0) hb)
     have n2_ := zA (Kd.zbw (Kd.zcc (Kd.zcc ho0 (Kd.R_lt (zR HO1171))) (Kd.R_lt (zR HO1174))) (za (zB HB)))
     have n3_ := zA (zaf (g := gb1168) (o := .cells #[.slice A1_0 l1_0.length c1_0, .slice A1_1 l1_1.length c1_1] 40 (0, 0)) (zK BK1168) hb)
     have n4_ := zA (zac (zB HB) hb)
     clear HO1171 HO1174 BK1168 HB
     have HO1171 := n0_
     have HO1174 := n1_
     have HO1177 := n2_
     have BK1168 := n3_
     have HB := n4_
     clear n0_ n1_ n2_ n3_ n4_
     (try clear hb)
     (try clear hb2)
     (try clear hk)
     (try clear hi)
     (try clear ho0)
     obtain ⟨Ao25, co25, eo25⟩ := Kd.zbq HO1177.out
     (first | subst eo25 | (injection eo25 with f1_ f2_ f3_; have f4_ := f1_.symm; have f5_ := f3_.symm; clear f1_ f2_ f3_; subst f4_; subst f5_))
     refine hK.out _ _ ⟨(zab BK1168.out 0).trans rfl, (zab BK1168.out 1).trans rfl⟩ (fun hHeld => ?_)
     clear hK K
     refine norm_ (a' := ?_) ?_ ?_
     rotate_left
     ·
      show Act.put _ (some 19) _ = _
      simp only [Act.put, zs1, zs2, zs3, i64_w, i32_w]
      rfl
     refine one_ (i := 14) (N := some 20) #[true, true, true, true, true, true, true, true, true, true, true, true, true, true, true, false, false, false] rfl rfl (zb8 HT_.out (by kernel_rfl)) (by decide) (fun K hK => ?_)
     refine goes_ Tryd.func56 (by kernel_rfl) rfl #[.slice A1_0 l1_0.length c1_0, .slice Ao25 t1175.length co25] (by rfl) rfl rfl (zE) ?_
     with_reducible refine (zam.calls k1 _ _ l1_0 _ _ t1175 t1178 _ ?side1 ?side2 ?side3 ?side4 A8.out).mono ?_
     (case side1 => exact zJ (Kd.za6 HR1_0.out HB.out))
     (case side2 => exact HC1_0.out)
     (case side3 => exact zJ (Kd.zay HO1177.out).2.2)
     (case side4 => exact (Kd.zay HO1177.out).2.1)
     rintro e w26 ⟨v1179, rfl, ho0, hb⟩
     refine ⟨_, rfl, ?_⟩
     have n0_ := zA (Kd.zbv (zR HO1171) (Kd.zbk ho0) hb)
     have n1_ := zA (Kd.zbv (zR HO1174) (Kd.zbk ho0) hb)
     have n2_ := zA (Kd.zbv (zR HO1177) (Kd.zbk ho0) hb)
     have n3_ := zA (Kd.zbw (Kd.zcc (Kd.zcc (Kd.zcc ho0 (Kd.R_lt (zR HO1171))) (Kd.R_lt (zR HO1174))) (Kd.R_lt (zR HO1177))) (za (zB HB)))
     have n4_ := zA (zaf (g := gb1168) (o := .cells #[.slice A1_0 l1_0.length c1_0, .slice A1_1 l1_1.length c1_1] 40 (0, 0)) (zK BK1168) hb)
     have n5_ := zA (zac (zB HB) hb)
     clear HO1171 HO1174 HO1177 BK1168 HB
     have HO1171 := n0_
     have HO1174 := n1_
     have HO1177 := n2_
     have HO1180 := n3_
     have BK1168 := n4_
     have HB := n5_
     clear n0_ n1_ n2_ n3_ n4_ n5_
     (try clear hb)
     (try clear hb2)
     (try clear hk)
     (try clear hi)
     (try clear ho0)
     obtain ⟨Ao27, co27, eo27⟩ := Kd.zbq HO1174.out
     (first | subst eo27 | (injection eo27 with f1_ f2_ f3_; have f4_ := f1_.symm; have f5_ := f3_.symm; clear f1_ f2_ f3_; subst f4_; subst f5_))
     obtain ⟨Ao28, co28, eo28⟩ := Kd.zbq HO1180.out
     (first | subst eo28 | (injection eo28 with f1_ f2_ f3_; have f4_ := f1_.symm; have f5_ := f3_.symm; clear f1_ f2_ f3_; subst f4_; subst f5_))
     refine hK.out _ _ ⟨(zab BK1168.out 0).trans rfl, (zab BK1168.out 1).trans rfl⟩ (fun hHeld => ?_)
     clear hK K
     refine norm_ (a' := ?_) ?_ ?_
     rotate_left
     ·
      show Act.put _ (some 20) _ = _
      simp only [Act.put, zs1, zs2, zs3, i64_w, i32_w]
      rfl
     refine one_ (i := 15) (N := some 21) #[true, true, true, true, true, true, true, true, true, true, true, true, true, true, true, true, false, false] rfl rfl (zb8 HT_.out (by kernel_rfl)) (by decide) (fun K hK => ?_)
     refine goes_ Tryd.func18 (by kernel_rfl) rfl #[.slice Ao27 t1172.length co27, .slice Ao28 t1178.length co28] (by rfl) rfl rfl (zE) ?_
     with_reducible refine (zaz.calls k1 _ _ t1172 _ _ t1178 t1181 _ ?side1 ?side2 ?side3 ?side4 A9.out).mono ?_
     (case side1 => exact zJ (Kd.zay HO1174.out).2.2)
     (case side2 => exact (Kd.zay HO1174.out).2.1)
     (case side3 => exact zJ (Kd.zay HO1180.out).2.2)
     (case side4 => exact (Kd.zay HO1180.out).2.1)
     rintro e w' ⟨rfl, ⟨nd, rfl⟩⟩
     refine ⟨_, rfl, ?_⟩
     refine hK.out _ _ ⟨(zab BK1168.out 0).trans rfl, (zab BK1168.out 1).trans rfl⟩ (fun hHeld => ?_)
     clear hK K
     refine norm_ (a' := ?_) ?_ ?_
     rotate_left
     ·
      show Act.put _ (some 21) _ = _
      simp only [Act.put, zs1, zs2, zs3, i64_w, i32_w]
      rfl
     refine pure_ (i := 16) (N := some 22) (v := ?_) (a' := ?_) #[true, true, true, true, true, true, true, true, true, true, true, true, true, true, true, true, true, false] rfl rfl (zav HT_.out (by kernel_rfl)) (fun _ _ _ h => h) (Or.inl ⟨by rfl, ?_⟩) ?_ ?_
     rotate_left
     ·
      intro w'
      go_simp
      with_reducible rfl
     rotate_left
     ·
      simp only [Act.put, zs1, zs2, zs3, i64_w, i32_w]
      rfl
     refine pure_ (i := 17) (N := some 23) (v := ?_) (a' := ?_) #[true, true, true, true, true, true, true, true, true, true, true, true, true, true, true, true, true, true] rfl rfl (zav HT_.out (by kernel_rfl)) (fun _ _ _ h => h) (Or.inl ⟨by rfl, ?_⟩) ?_ ?_
     rotate_left
     ·
      intro w'
      go_simp
      with_reducible rfl
     rotate_left
     ·
      simp only [Act.put, zs1, zs2, zs3, i64_w, i32_w]
      rfl
     refine done_ (zdk HT_.out (by kernel_rfl)) ?_
     try go_wp2
     go_ret
     exact ⟨zW, zB HB⟩
   ·
    rw [if_neg c4] at H
    have c4b0 : decide (x5_1 < a0) = false := decide_eq_false c4
    clear c4
    obtain rfl := Option.some.inj H
    try go_wp2
    have n0_ := zA (zaj BK1168.out)
    have n1_ := zA (zbi HB.out)
    clear BK1168 HB
    have BK1168 := n0_
    have HB := n1_
    clear n0_ n1_
    refine start_ (n := 18) (S := fun w' => True) (ds := []) #[false, false, false, false, false, false, false, false, false, false, false, false, false, false, false, false, false, false] (by kernel_rfl) rfl rfl trivial (fun hHeld => ?_); refine zcw za1.tab2 za1.bits2 (fun HT_ HW_ => ?_)
    generalize wr.drew = w29 at BK1168 HB hHeld ⊢
    refine pure_ (i := 0) (N := some 6) (v := ?_) (a' := ?_) #[true, false, false, false, false, false, false, false, false, false, false, false, false, false, false, false, false, false] rfl rfl (zav HT_.out (by kernel_rfl)) (fun _ _ _ h => h) (Or.inl ⟨by rfl, ?_⟩) ?_ ?_
    rotate_left
    ·
     intro w'
     go_simp
     with_reducible rfl
    rotate_left
    ·
     simp only [Act.put, zs1, zs2, zs3, i64_w, i32_w]
     rfl
    refine pure_ (i := 1) (N := some 7) (v := ?_) (a' := ?_) #[true, true, false, false, false, false, false, false, false, false, false, false, false, false, false, false, false, false] rfl rfl (zav HT_.out (by kernel_rfl)) (fun _ _ _ h => h) (Or.inl ⟨by rfl, ?_⟩) ?_ ?_
    rotate_left
    ·
     intro w'
     go_simp
     with_reducible rfl
    rotate_left
    ·
     simp only [Act.put, zs1, zs2, zs3, i64_w, i32_w]
     rfl
    refine pure_ (i := 2) (N := some 8) (v := ?_) (a' := ?_) #[true, true, true, false, false, false, false, false, false, false, false, false, false, false, false, false, false, false] rfl rfl (zav HT_.out (by kernel_rfl)) (fun _ _ _ h => h) (Or.inl ⟨by rfl, ?_⟩) ?_ ?_
    rotate_left
    ·
     intro w'
     go_simp
     with_reducible rfl
    rotate_left
    ·
     simp only [Act.put, zs1, zs2, zs3, i64_w, i32_w]
     rfl
    refine pure_ (i := 3) (N := some 9) (v := ?_) (a' := ?_) #[true, true, true, true, false, false, false, false, false, false, false, false, false, false, false, false, false, false] rfl rfl (zav HT_.out (by kernel_rfl)) (fun _ _ _ h => h) (Or.inl ⟨by rfl, ?_⟩) ?_ ?_
    rotate_left
    ·
     intro w'
     go_simp
     with_reducible rfl
    rotate_left
    ·
     simp only [Act.put, zs1, zs2, zs3, i64_w, i32_w]
     rfl
    refine pure_ (i := 4) (N := some 10) (v := undef) (a' := ?_) #[true, true, true, true, true, false, false, false, false, false, false, false, false, false, false, false, false, false] rfl rfl (zav HT_.out (by kernel_rfl)) (fun _ _ _ h => h) (Or.inr ⟨by rfl, rfl⟩) ?_ ?_
    rotate_left
    ·
     simp only [Act.put, zs1, zs2, zs3, i64_w, i32_w]
     rfl
    refine pure_ (i := 5) (N := some 11) (v := undef) (a' := ?_) #[true, true, true, true, true, true, false, false, false, false, false, false, false, false, false, false, false, false] rfl rfl (zav HT_.out (by kernel_rfl)) (fun _ _ _ h => h) (Or.inr ⟨by rfl, rfl⟩) ?_ ?_
    rotate_left
    ·
     simp only [Act.put, zs1, zs2, zs3, i64_w, i32_w]
     rfl
    refine pure_ (i := 6) (N := some 12) (v := undef) (a' := ?_) #[true, true, true, true, true, true, true, false, false, false, false, false, false, false, false, false, false, false] rfl rfl (zav HT_.out (by kernel_rfl)) (fun _ _ _ h => h) (Or.inr ⟨by rfl, rfl⟩) ?_ ?_
    rotate_left
    ·
     simp only [Act.put, zs1, zs2, zs3, i64_w, i32_w]
     rfl
    refine pure_ (i := 7) (N := some 13) (v := undef) (a' := ?_) #[true, true, true, true, true, true, true, true, false, false, false, false, false, false, false, false, false, false] rfl rfl (zav HT_.out (by kernel_rfl)) (fun _ _ _ h => h) (Or.inr ⟨by rfl, rfl⟩) ?_ ?_
    rotate_left
    ·
     simp only [Act.put, zs1, zs2, zs3, i64_w, i32_w]
     rfl
    refine pure_ (i := 8) (N := some 14) (v := undef) (a' := ?_) #[true, true, true, true, true, true, true, true, true, false, false, false, false, false, false, false, false, false] rfl rfl (zav HT_.out (by kernel_rfl)) (fun _ _ _ h => h) (Or.inr ⟨by rfl, rfl⟩) ?_ ?_
    rotate_left
    ·
     simp only [Act.put, zs1, zs2, zs3, i64_w, i32_w]
     rfl
    refine pure_ (i := 9) (N := some 15) (v := undef) (a' := ?_) #[true, true, true, true, true, true, true, true, true, true, false, false, false, false, false, false, false, false] rfl rfl (zav HT_.out (by kernel_rfl)) (fun _ _ _ h => h) (Or.inr ⟨by rfl, rfl⟩) ?_ ?_
    rotate_left
    ·
     simp only [Act.put, zs1, zs2, zs3, i64_w, i32_w]
     rfl
    refine pure_ (i := 10) (N := some 16) (v := undef) (a' := ?_) #[true, true, true, true, true, true, true, true, true, true, true, false, false, false, false, false, false, false] rfl rfl (zav HT_.out (by kernel_rfl)) (fun _ _ _ h => h) (Or.inr ⟨by rfl, rfl⟩) ?_ ?_
    rotate_left
    ·
     simp only [Act.put, zs1, zs2, zs3, i64_w, i32_w]
     rfl
    refine pure_ (i := 11) (N := some 17) (v := undef) (a' := ?_) #[true, true, true, true, true, true, true, true, true, true, true, true, false, false, false, false, false, false] rfl rfl (zav HT_.out (by kernel_rfl)) (fun _ _ _ h => h) (Or.inr ⟨by rfl, rfl⟩) ?_ ?_
    rotate_left
    ·
     simp only [Act.put, zs1, zs2, zs3, i64_w, i32_w]
     rfl
    refine pure_ (i := 12) (N := some 18) (v := undef) (a' := ?_) #[true, true, true, true, true, true, true, true, true, true, true, true, true, false, false, false, false, false] rfl rfl (zav HT_.out (by kernel_rfl)) (fun _ _ _ h => h) (Or.inr ⟨by rfl, rfl⟩) ?_ ?_
    rotate_left
    ·
     simp only [Act.put, zs1, zs2, zs3, i64_w, i32_w]
     rfl
    refine pure_ (i := 13) (N := some 19) (v := undef) (a' := ?_) #[true, true, true, true, true, true, true, true, true, true, true, true, true, true, false, false, false, false] rfl rfl (zav HT_.out (by kernel_rfl)) (fun _ _ _ h => h) (Or.inr ⟨by rfl, rfl⟩) ?_ ?_
    rotate_left
    ·
     simp only [Act.put, zs1, zs2, zs3, i64_w, i32_w]
     rfl
    refine pure_ (i := 14) (N := some 20) (v := undef) (a' := ?_) #[true, true, true, true, true, true, true, true, true, true, true, true, true, true, true, false, false, false] rfl rfl (zav HT_.out (by kernel_rfl)) (fun _ _ _ h => h) (Or.inr ⟨by rfl, rfl⟩) ?_ ?_
    rotate_left
    ·
     simp only [Act.put, zs1, zs2, zs3, i64_w, i32_w]
     rfl
    refine pure_ (i := 15) (N := some 21) (v := undef) (a' := ?_) #[true, true, true, true, true, true, true, true, true, true, true, true, true, true, true, true, false, false] rfl rfl (zav HT_.out (by kernel_rfl)) (fun _ _ _ h => h) (Or.inr ⟨by rfl, rfl⟩) ?_ ?_
    rotate_left
    ·
     simp only [Act.put, zs1, zs2, zs3, i64_w, i32_w]
     rfl
    refine pure_ (i := 16) (N := some 22) (v := undef) (a' := ?_) #[true, true, true, true, true, true, true, true, true, true, true, true, true, true, true, true, true, false] rfl rfl (zav HT_.out (by kernel_rfl)) (fun _ _ _ h => h) (Or.inr ⟨by rfl, rfl⟩) ?_ ?_
    rotate_left
    ·
     simp only [Act.put, zs1, zs2, zs3, i64_w, i32_w]
     rfl
    refine pure_ (i := 17) (N := some 23) (v := ?_) (a' := ?_) #[true, true, true, true, true, true, true, true, true, true, true, true, true, true, true, true, true, true] rfl rfl (zav HT_.out (by kernel_rfl)) (fun _ _ _ h => h) (Or.inl ⟨by rfl, ?_⟩) ?_ ?_
    rotate_left
    ·
     intro w'
     go_simp
     with_reducible rfl
    rotate_left
    ·
     simp only [Act.put, zs1, zs2, zs3, i64_w, i32_w]
     rfl
    refine done_ (zdk HT_.out (by kernel_rfl)) ?_
    try go_wp2
    go_ret
    exact ⟨zW, zB HB⟩
def zcq.l0 : Nat → Int → List Int → Int → Int → Option (Int)
 | 0, _, _, _, _ => none
 | k + 1, x3, x6, x7, x8 => if x8 < x7 then (if 0 ≤ x8 then (if x8 < (x6.length : Int) then (zcq.l0 k (wrap64 (x3 + (rd x6 x8))) x6 x7 (wrap64 (x8 + 1))) else (none)) else (none)) else (some x3)
def zcq.f (k : Nat) (l0 : List Int) : Option (Int) := zcq.l0 k 0 l0 (l0.length : Int) 0
theorem zcq.calls (k : Nat) (A0 : Option Addr) (c0 : Nat) (l0 : List Int) (r : Int) (w : World) (hr0 : Kd.C (Kd.int .i64) w A0 l0.length l0) (hc0 : l0.length ≤ c0) (h : zcq.f k l0 = some r) :
  Calls Tryd.prog 49 #[.slice A0 l0.length c0] w fun e w' => e = .returned (.int .i64 r) ∧ Drawn0 w w' := by
 have HR0 := zA hr0
 have HC0 := zA hc0
 clear hr0 hc0
 have H : (zcq.l0 k 0 l0 (l0.length : Int) 0) = some r := h
 clear h
 have H' := zA H
 clear H
 go_enter Tryd.func49, Tryd.ntmps49
 go_wp2
 go_loopg [3, 8] k (fun kq v3 v8 w' => ∃ (x3_1 : Int) (x8_1 : Int), v3 = .int .i64 x3_1 ∧ v8 = .int .i64 x8_1 ∧ Aside0 (zcq.l0 kq x3_1 l0 (l0.length : Int) x8_1 = some r) ∧ Aside0 (kq ≤ k) ∧ Drawn0 w w')
 case atStart => exact ⟨(0), (0), (zF), (zF), H', ⟨Nat.le_refl _⟩, by repeat (first | exact Drawn0.refl _ | apply Drawn0.step)⟩
 case round =>
  clear H'
  obtain ⟨x3_1, x8_1, rfl, rfl, HA, HK1, ⟨m1, rfl⟩⟩ := hrel
  cases gk with
  | zero => exact absurd HA.out (by simp [zcq.l0])
  | succ k1 =>
   have H := HA.out
   clear HA
   simp only [zcq.l0] at H
   by_cases c2 : x8_1 < (l0.length : Int)
   ·
    rw [if_pos c2] at H
    have c2b0 : decide (x8_1 < (l0.length : Int)) = true := decide_eq_true c2
    clear c2
    by_cases c3 : 0 ≤ x8_1
    ·
     rw [if_pos c3] at H
     have c3b0 : decide (0 ≤ x8_1) = true := decide_eq_true c3
     clear c3
     by_cases c4 : x8_1 < (l0.length : Int)
     ·
      rw [if_pos c4] at H
      have c4b0 : decide (x8_1 < (l0.length : Int)) = true := decide_eq_true c4
      clear c4
      have H' := zA H
      clear H
      have p1268 : 0 ≤ (x8_1 : Int) := of_decide_eq_true (by first | (with_reducible assumption) | assumption)
      have q1268 : x8_1 < (l0.length : Int) := of_decide_eq_true (by first | (with_reducible assumption) | assumption)
      obtain ⟨ad1268, e1268, hx1268_0⟩ := Kd.at_int HR0.out x8_1 p1268 q1268
      cases e1268
      replace p1268 := eq_true p1268
      replace q1268 := eq_true q1268
      go_wp2
      go_roundg k1
      case measure => have := HK1.out; omega
      case rel => exact ⟨(wrap64 (x3_1 + (rd l0 x8_1))), (wrap64 (x8_1 + 1)), (zF), (zF), H', ⟨by have := HK1.out; omega⟩, by repeat (first | exact Drawn0.refl _ | apply Drawn0.step)⟩
     ·
      rw [if_neg c4] at H
      exact absurd H (by simp)
    ·
     rw [if_neg c3] at H
     exact absurd H (by simp)
   ·
    rw [if_neg c2] at H
    have c2b0 : decide (x8_1 < (l0.length : Int)) = false := decide_eq_false c2
    clear c2
    obtain rfl := Option.some.inj H
    go_wp2
    go_ret
    exact ⟨zF, by repeat (first | exact Drawn0.refl _ | apply Drawn0.step)⟩
end Go.Proofs.YtfjkamhcabckeaaDoor.P
end
