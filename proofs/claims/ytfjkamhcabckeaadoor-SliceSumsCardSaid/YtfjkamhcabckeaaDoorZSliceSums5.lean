-- Written by a program of this session (wip/tools/shake.py) out of its own texts and of the kit's printed ones; not trusted: Lean checks it.
import Derived.Test.YtfjkamhcabckeaaDoorZSliceSums4
set_option maxHeartbeats 8000000
set_option maxRecDepth 100000
set_option linter.unusedVariables false
set_option linter.unusedSimpArgs false
section
namespace Go.Proofs.YtfjkamhcabckeaaDoor.P
open Go.RowKit Go.Proofs.YtfjkamhcabckeaaDoorW.PrintWords Go.Proofs.YtfjkamhcabckeaaDoorW.PrintLast Go.Proofs.YtfjkamhcabckeaaDoorW.PrintMore
attribute [local go_sem] max2_int min2_int max_two min_two max_three min_three max_four min_four
mutual
def zaw.j0 : Nat → ByteArray → List Int → Int → List Int → Int → Option (List Int × List Int × Int)
 | 0, _, _, _, _, _ => none
 | k + 1, x0, x7, x8, x9, x10 => if x8 = 0 then (if x10 = 0 then (zaw.j1 k x0 x7 x9 ((x9.length : Int) == 0)) else (zaw.j1 k x0 x7 x9 true)) else (zaw.j1 k x0 x7 x9 true)
def zaw.j1 : Nat → ByteArray → List Int → List Int → Bool → Option (List Int × List Int × Int)
 | 0, _, _, _, _ => none
 | k + 1, x0, x7, x9, x40 => if x40 = true then (some (([] : List Int), ([] : List Int), 17)) else ((za3.f k x7 x9).bind fun bt1000 => ((zaq.f k bt1000.1 bt1000.2).bind fun t1007 => (if t1007.toList = x0.toList then (some (bt1000.1, bt1000.2, 0)) else (some (([] : List Int), ([] : List Int), 17)))))
end
def zaw.f (k : Nat) (a0 : ByteArray) : Option (List Int × List Int × Int) := (strings_Cut.f a0 (⟨#[47]⟩ : ByteArray)).bind fun bt986 => ((zbs.f k bt986.1).bind fun bt989 => ((za7.f k).bind fun t993 => (if bt986.2.2 = true then ((zbs.f k bt986.2.1).bind fun bt996 => (zaw.j0 k a0 bt989.1 bt989.2 bt996.1 bt996.2)) else (zaw.j0 k a0 bt989.1 bt989.2 t993 0))))
theorem zaw.zb1 : ∀ k, (∀ y0 y1 y2 y3 y4, LeO (zaw.j0 k y0 y1 y2 y3 y4) (zaw.j0 (k + 1) y0 y1 y2 y3 y4)) ∧ (∀ y0 y1 y2 y3, LeO (zaw.j1 k y0 y1 y2 y3) (zaw.j1 (k + 1) y0 y1 y2 y3))
 | 0 => ⟨fun _ _ _ _ _ r h => by simp [zaw.j0] at h, fun _ _ _ _ r h => by simp [zaw.j1] at h⟩
 | k + 1 => by
  obtain ⟨ih0, ih1⟩ := zaw.zb1 k
  refine ⟨?_, ?_⟩
  ·
   intro y0 y1 y2 y3 y4
   unfold zaw.j0
   repeat' first
   | (with_reducible exact ih0 _ _ _ _ _)
   | (with_reducible exact ih1 _ _ _ _)
   | (with_reducible exact zbs.mono _ _)
   | (with_reducible exact zaq.mono _ _ _)
   | (with_reducible exact za3.mono _ _ _)
   | (with_reducible exact za7.mono _)
   | (with_reducible exact LeO.refl _)
   | (with_reducible exact LeO.none _)
   | (with_reducible refine LeO.ite ?_ ?_)
   | (with_reducible refine LeO.bind ?_ (fun _ => ?_))
   | exact ih0 _ _ _ _ _
   | exact ih1 _ _ _ _
   | exact zbs.mono _ _
   | exact zaq.mono _ _ _
   | exact za3.mono _ _ _
   | exact za7.mono _
   | exact LeO.none _
   | refine LeO.ite ?_ ?_
   | refine LeO.bind ?_ (fun _ => ?_)
  ·
   intro y0 y1 y2 y3
   unfold zaw.j1
   repeat' first
   | (with_reducible exact ih0 _ _ _ _ _)
   | (with_reducible exact ih1 _ _ _ _)
   | (with_reducible exact zbs.mono _ _)
   | (with_reducible exact zaq.mono _ _ _)
   | (with_reducible exact za3.mono _ _ _)
   | (with_reducible exact za7.mono _)
   | (with_reducible exact LeO.refl _)
   | (with_reducible exact LeO.none _)
   | (with_reducible refine LeO.ite ?_ ?_)
   | (with_reducible refine LeO.bind ?_ (fun _ => ?_))
   | exact ih0 _ _ _ _ _
   | exact ih1 _ _ _ _
   | exact zbs.mono _ _
   | exact zaq.mono _ _ _
   | exact za3.mono _ _ _
   | exact za7.mono _
   | exact LeO.none _
   | refine LeO.ite ?_ ?_
   | refine LeO.bind ?_ (fun _ => ?_)
theorem zaw.mono : ∀ a0 k, LeO (zaw.f k a0) (zaw.f (k + 1) a0) := by
 intro a0 k
 obtain ⟨ih0, ih1⟩ := zaw.zb1 k
 unfold zaw.f
 repeat' first
   | (with_reducible exact ih0 _ _ _ _ _)
   | (with_reducible exact ih1 _ _ _ _)
   | (with_reducible exact zbs.mono _ _)
   | (with_reducible exact zaq.mono _ _ _)
   | (with_reducible exact za3.mono _ _ _)
   | (with_reducible exact za7.mono _)
   | (with_reducible exact LeO.refl _)
   | (with_reducible exact LeO.none _)
   | (with_reducible refine LeO.ite ?_ ?_)
   | (with_reducible refine LeO.bind ?_ (fun _ => ?_))
   | exact ih0 _ _ _ _ _
   | exact ih1 _ _ _ _
   | exact zbs.mono _ _
   | exact zaq.mono _ _ _
   | exact za3.mono _ _ _
   | exact za7.mono _
   | exact LeO.none _
   | refine LeO.ite ?_ ?_
   | refine LeO.bind ?_ (fun _ => ?_)
theorem zaw.calls (k : Nat) (a0 : ByteArray) (r1 : List Int) (r2 : List Int) (r3 : Int) (w : World) (hG : Glob w) (h : zaw.f k a0 = some (r1, r2, r3)) :
  Calls Tryd.prog 40 #[.string a0] w fun e w' => ∃ v0_ v1_ : Value, e = .returned (.tuple #[.agg #[v0_, v1_], .int .i64 r3]) ∧ Kd.V (Kd.int .u64) 57 w' w.heap.size (fun k_ => (w.heap.size ≤ k_)) v0_ r1 ∧ Kd.V (Kd.int .u64) 57 w' w.heap.size (fun k_ => (w.heap.size ≤ k_)) v1_ r2 ∧ Below w.heap.size w w' := by
 have hu28 := Tryd.underlying28
 have HG := zA hG
 clear hG
 have HB := zA (Below.refl w.heap.size w)
 have H : ((strings_Cut.f a0 (⟨#[47]⟩ : ByteArray)).bind fun bt986 => ((zbs.f k bt986.1).bind fun bt989 => ((za7.f k).bind fun t993 => (if bt986.2.2 = true then ((zbs.f k bt986.2.1).bind fun bt996 => (zaw.j0 k a0 bt989.1 bt989.2 bt996.1 bt996.2)) else (zaw.j0 k a0 bt989.1 bt989.2 t993 0))))) = some (r1, r2, r3) := h
 clear h
 replace H := zO H
 obtain ⟨⟨t986, t987, t988⟩, A20, H⟩ := H
 try dsimp only at H
 have A2 := zA A20
 clear A20
 replace H := zO H
 obtain ⟨⟨t989, t992⟩, A30, H⟩ := H
 try dsimp only at H
 have A3 := zA A30
 clear A30
 replace H := zO H
 obtain ⟨t993, A40, H⟩ := H
 try dsimp only at H
 have A4 := zA A40
 clear A40
 have HC5 := zA H
 clear H
 go_enter Tryd.func40, Tryd.ntmps40
 go_upto_if 24 with (first | ((with_reducible refine zba (N := 2) rfl ?_); (try (refine zcb (by rfl) ?_; dsimp only)); refine zbb ?hg (N := 2) ?hd (cs := #[.slice none 0 0, .slice none 0 0]) (t := 28) ?hr ?_; (case hd => rfl); (case hg => rfl); (case hr => first | (go_simp; done) | (go_simp; rfl)); intro gb985 hg w6 hbox hb; have n0_ := zA (zad (zB HB) hb); have n1_ := zA (hbox); have n2_ := zA ((by rw [hg]; exact (za (zB HB)) : w.heap.size ≤ gb985)); have n3_ := zA ((by rw [hg]; exact (za (zB HB)) : w.heap.size ≤ gb985)); clear HB; have HB := n0_; have BK985 := n1_; have GW985 := n2_; have GE985 := n3_; clear n0_ n1_ n2_ n3_ hb hbox hg) | ((with_reducible refine zac (f := 67) rfl ?_); refine zar (some 14) rfl rfl Tryd.func67 (by kernel_rfl) rfl #[.string a0, .string (⟨#[47]⟩ : ByteArray)] rfl (zE) ?_; (with_reducible refine (strings_Cut.calls a0 (⟨#[47]⟩ : ByteArray) t986 t987 t988 _ ?side1 A2.out).mono ?_); (case side1 => exact Glob.below HG.out (zB HB)); rintro e w' ⟨rfl, ⟨nd, rfl⟩⟩; refine ⟨_, rfl, ?_⟩) | ((with_reducible refine zac (f := 68) rfl ?_); refine zar (some 20) rfl rfl Tryd.func68 (by kernel_rfl) rfl #[.string t986] rfl (zE) ?_; (with_reducible refine (zbs.calls k t986 t989 t992 _ A3.out).mono ?_); rintro e w7 ⟨v990, rfl, ho0, hb⟩; refine ⟨_, rfl, ?_⟩; have n0_ := zA (Kd.za2 (Kd.zak (ok' := fun k_ => (w.heap.size ≤ k_) ∧ k_ ≠ gb985) ho0 (fun k_ hk_ => ⟨(Nat.le_trans (za (zB HB)) hk_), (Kd.freshB (g := gb985) (o := .cells #[.slice none 0 0, .slice none 0 0] 28 (0, 0)) (zK BK985) k_ hk_)⟩)) (za (zB HB))); have n1_ := zA (zal (g := gb985) (o := .cells #[.slice none 0 0, .slice none 0 0] 28 (0, 0)) (zK BK985) hb); have n2_ := zA (zad (zB HB) hb); clear BK985 HB; have HO991 := n0_; have BK985 := n1_; have HB := n2_; clear n0_ n1_ n2_; (try clear hb); (try clear hb2); (try clear hk); (try clear hi); (try clear ho0)) | ((with_reducible refine zac (f := 54) rfl ?_); refine zar (some 23) rfl rfl Tryd.func54 (by kernel_rfl) rfl #[] rfl (zE) ?_; (with_reducible refine (za7.calls k  t993 _ A4.out).mono ?_); rintro e w8 ⟨v994, rfl, ho0, hb⟩; refine ⟨_, rfl, ?_⟩; have n0_ := zA (Kd.zao (zV HO991) hb); have n1_ := zA (Kd.za2 (Kd.zak (ok' := fun k_ => (w.heap.size ≤ k_) ∧ k_ ≠ gb985) ho0 (fun k_ hk_ => ⟨(Nat.le_trans (za (zB HB)) hk_), (Kd.freshB (g := gb985) (o := .cells #[.slice none 0 0, .slice none 0 0] 28 (0, 0)) (zK BK985) k_ hk_)⟩)) (za (zB HB))); have n2_ := zA (zal (g := gb985) (o := .cells #[.slice none 0 0, .slice none 0 0] 28 (0, 0)) (zK BK985) hb); have n3_ := zA (zad (zB HB) hb); clear HO991 BK985 HB; have HO991 := n0_; have HO995 := n1_; have BK985 := n2_; have HB := n3_; clear n0_ n1_ n2_ n3_; (try clear hb); (try clear hb2); (try clear hk); (try clear hi); (try clear ho0)))
 (try simp only [Act.put, zs1, zs2, zs3])
 go_cut [9, 10] (fun v9 v10 wc => ∃ (kq : Nat) (x9_4 : List Int) (x10_4 : Int), v10 = .int .i64 x10_4 ∧ Aside0 (zaw.j0 kq a0 t989 t992 x9_4 x10_4 = some (r1, r2, r3)) ∧ Aside0 (kq ≤ k) ∧ Aside0 (Kd.V (Kd.int .u64) 57 wc w.heap.size (fun k_ => (w.heap.size ≤ k_) ∧ k_ ≠ gb985) v990 t989) ∧ Aside0 (Kd.V (Kd.int .u64) 57 wc w.heap.size (fun k_ => (w.heap.size ≤ k_) ∧ k_ ≠ gb985) v9 x9_4) ∧ Aside0 (wc.heap[gb985]? = some (.cells #[(.slice none 0 0), (.slice none 0 0)] 28 (0, 0))) ∧ Aside0 (Below w.heap.size w wc))
 case first =>
  have H := HC5.out
  clear HC5
  by_cases c9 : t988 = true
  ·
   subst c9
   rw [if_pos rfl] at H
   replace H := zO H
   obtain ⟨⟨t996, t999⟩, A100, H⟩ := H
   try dsimp only at H
   have A10 := zA A100
   clear A100
   have H' := zA H
   clear H
   go_wp2_with (first | ((with_reducible refine zac (f := 68) rfl ?_); refine zar (some 27) rfl rfl Tryd.func68 (by kernel_rfl) rfl #[.string t987] rfl (zE) ?_; (with_reducible refine (zbs.calls k t987 t996 t999 _ A10.out).mono ?_); rintro e w11 ⟨v997, rfl, ho0, hb⟩; refine ⟨_, rfl, ?_⟩; have n0_ := zA (Kd.zao (zV HO991) hb); have n1_ := zA (Kd.zao (zV HO995) hb); have n2_ := zA (Kd.za2 (Kd.zak (ok' := fun k_ => (w.heap.size ≤ k_) ∧ k_ ≠ gb985) ho0 (fun k_ hk_ => ⟨(Nat.le_trans (za (zB HB)) hk_), (Kd.freshB (g := gb985) (o := .cells #[.slice none 0 0, .slice none 0 0] 28 (0, 0)) (zK BK985) k_ hk_)⟩)) (za (zB HB))); have n3_ := zA (zal (g := gb985) (o := .cells #[.slice none 0 0, .slice none 0 0] 28 (0, 0)) (zK BK985) hb); have n4_ := zA (zad (zB HB) hb); clear HO991 HO995 BK985 HB; have HO991 := n0_; have HO995 := n1_; have HO998 := n2_; have BK985 := n3_; have HB := n4_; clear n0_ n1_ n2_ n3_ n4_; (try clear hb); (try clear hb2); (try clear hk); (try clear hi); (try clear ho0)))
   go_meet
   case rel => exact ⟨_, (t996), (t999), (zF), H', ⟨by first | omega | exact Nat.le_refl _⟩, ⟨zV HO991⟩, ⟨zV HO998⟩, ⟨zK BK985⟩, ⟨zB HB⟩⟩
  ·
   replace c9 := Bool.eq_false_iff.mpr c9
   subst c9
   rw [if_neg (show ¬ (false = true) by decide)] at H
   have H' := zA H
   clear H
   go_wp2
   go_meet
   case rel => exact ⟨_, (t993), (0), (zF), H', ⟨by first | omega | exact Nat.le_refl _⟩, ⟨zV HO991⟩, ⟨zV HO995⟩, ⟨zK BK985⟩, ⟨zB HB⟩⟩
 case rest =>
  clear HC5
  try clear p2
  try clear c4
  try clear c5
  try clear c6
  try clear p6
  try clear c9
  obtain ⟨kq, x9_4, x10_4, rfl, HA, HJ4, HO_7, HO_9, BK985, HB⟩ := hcut
  cases kq with
  | zero => exact absurd HA.out (by simp [zaw.j0])
  | succ kj4 =>
   have H := HA.out
   clear HA
   simp only [zaw.j0] at H
   have HC12 := zA H
   clear H
   go_upto_region 7 with (fail)
   go_cut [40] (fun v40 wc => ∃ (kq : Nat) (x40_11 : Bool), v40 = .bool x40_11 ∧ Aside0 (zaw.j1 kq a0 t989 x9_4 x40_11 = some (r1, r2, r3)) ∧ Aside0 (kq ≤ kj4) ∧ Aside0 (Kd.V (Kd.int .u64) 57 wc w.heap.size (fun k_ => (w.heap.size ≤ k_) ∧ k_ ≠ gb985) v990 t989) ∧ Aside0 (Kd.V (Kd.int .u64) 57 wc w.heap.size (fun k_ => (w.heap.size ≤ k_) ∧ k_ ≠ gb985) u9 x9_4) ∧ Aside0 (wc.heap[gb985]? = some (.cells #[(.slice none 0 0), (.slice none 0 0)] 28 (0, 0))) ∧ Aside0 (Below w.heap.size w wc))
   case first =>
    have H := HC12.out
    clear HC12
    by_cases c13 : t992 = 0
    ·
     rw [if_pos c13] at H
     have c13b0 : (t992 == 0) = true := beq_iff_eq.mpr c13
     have c13b1 : (t992 != 0) = false := bne_eq_false_iff_eq.mpr c13
     clear c13
     (first | rw [c13b0] | (simp only [i64_w, i32_w]; rw [c13b0]) | skip)
     by_cases c14 : x10_4 = 0
     ·
      rw [if_pos c14] at H
      have c14b0 : (x10_4 == 0) = true := beq_iff_eq.mpr c14
      have c14b1 : (x10_4 != 0) = false := bne_eq_false_iff_eq.mpr c14
      clear c14
      have H' := zA H
      clear H
      obtain ⟨Ao15, co15, eo15⟩ := Kd.za1 HO_9.out
      subst eo15
      go_wp2
      go_meet
      case rel => exact ⟨_, (((x9_4.length : Int) == 0)), (zF), H', ⟨by have := HJ4.out; first | omega | exact Nat.le_refl _⟩, ⟨zV HO_7⟩, ⟨zV HO_9⟩, ⟨zK BK985⟩, ⟨zB HB⟩⟩
     ·
      rw [if_neg c14] at H
      have c14b0 : (x10_4 == 0) = false := beq_eq_false_iff_ne.mpr c14
      have c14b1 : (x10_4 != 0) = true := bne_iff_ne.mpr c14
      have H' := zA H
      clear H
      go_wp2
      go_meet
      case rel => exact ⟨_, (true), (zF), H', ⟨by have := HJ4.out; first | omega | exact Nat.le_refl _⟩, ⟨zV HO_7⟩, ⟨zV HO_9⟩, ⟨zK BK985⟩, ⟨zB HB⟩⟩
    ·
     rw [if_neg c13] at H
     have c13b0 : (t992 == 0) = false := beq_eq_false_iff_ne.mpr c13
     have c13b1 : (t992 != 0) = true := bne_iff_ne.mpr c13
     (first | rw [c13b0] | (simp only [i64_w, i32_w]; rw [c13b0]) | skip)
     have H' := zA H
     clear H
     go_wp2
     go_meet
     case rel => exact ⟨_, (true), (zF), H', ⟨by have := HJ4.out; first | omega | exact Nat.le_refl _⟩, ⟨zV HO_7⟩, ⟨zV HO_9⟩, ⟨zK BK985⟩, ⟨zB HB⟩⟩
   case rest =>
    clear HC12
    try clear c1
    try clear p2
    try clear c4
    try clear c5
    try clear c6
    try clear p6
    try clear c9
    try clear c13
    try clear c13b0
    try clear c13b1
    try clear c14
    try clear c14b0
    try clear c14b1
    try clear p2
    try clear p6
    obtain ⟨kq, x40_11, rfl, HA, HJ11, HO_7, HO_9, BK985, HB⟩ := hcut
    cases kq with
    | zero => exact absurd HA.out (by simp [zaw.j1])
    | succ kj11 =>
     have H := HA.out
     clear HA
     simp only [zaw.j1] at H
     by_cases c16 : x40_11 = true
     ·
      subst c16
      rw [if_pos rfl] at H
      simp only [Option.some.injEq, Prod.mk.injEq] at H
      obtain ⟨rfl, rfl, rfl⟩ := H
      have hcz17_0 : wc.cell? ⟨gb985, 0, none⟩ = some (.slice none 0 0) := (zae BK985.out 0).trans rfl
      have hcz17_1 : wc.cell? ⟨gb985, 1, none⟩ = some (.slice none 0 0) := (zae BK985.out 1).trans rfl
      have hfz17_0 := zan BK985.out 0
      have hfz17_1 := zan BK985.out 1
      go_wp2
      refine bodyPost_ret (results_ct rfl _ _ gb985 28 #[.slice none 0 0, .slice none 0 0] (0, 0) _ rfl (by (with_reducible repeat (first | refine zau ?_ _ | refine zas ?_ | refine zat ?_ _)); refine zbx (cs := #[.slice none 0 0, .slice none 0 0]) ?_ 1 _ rfl; (with_reducible repeat (first | refine zau ?_ _ | refine zas ?_ | refine zat ?_ _)); refine zbx (cs := #[.slice none 0 0, .slice none 0 0]) ?_ 0 _ rfl; (with_reducible repeat (first | refine zau ?_ _ | refine zas ?_ | refine zat ?_ _)); exact BK985.out) Tryd.underlying28 rfl (by kernel_rfl)) rfl ?_
      exact ⟨_, _, zW, Kd.V_nil _ _ _ _ _, Kd.V_nil _ _ _ _ _, zB HB⟩
     ·
      replace c16 := Bool.eq_false_iff.mpr c16
      subst c16
      rw [if_neg (show ¬ (false = true) by decide)] at H
      replace H := zO H
      obtain ⟨⟨t1000, t1003⟩, A180, H⟩ := H
      try dsimp only at H
      have A18 := zA A180
      clear A180
      replace H := zO H
      obtain ⟨t1007, A190, H⟩ := H
      try dsimp only at H
      have A19 := zA A190
      clear A190
      by_cases c20 : t1007.toList = a0.toList
      ·
       rw [if_pos c20] at H
       have c20b0 : (t1007.toList == a0.toList) = true := beq_iff_eq.mpr c20
       have c20b1 : (t1007.toList != a0.toList) = false := bne_eq_false_iff_eq.mpr c20
       clear c20
       simp only [Option.some.injEq, Prod.mk.injEq] at H
       obtain ⟨rfl, rfl, rfl⟩ := H
       obtain ⟨Ao21, co21, eo21⟩ := Kd.za1 HO_7.out
       subst eo21
       obtain ⟨Ao22, co22, eo22⟩ := Kd.za1 HO_9.out
       subst eo22
       go_wp2_with (first | ((with_reducible refine zac (f := 58) rfl ?_); refine zar (some 44) rfl rfl Tryd.func58 (by kernel_rfl) rfl #[.slice Ao21 t989.length co21, .slice Ao22 x9_4.length co22] rfl (zE) ?_; (with_reducible refine (za3.calls kj11 _ _ t989 _ _ x9_4 t1000 t1003 _ ?side1 ?side2 ?side3 ?side4 A18.out).mono ?_); (case side1 => exact zJ (Kd.zaj HO_7.out).2.2); (case side2 => exact (Kd.zaj HO_7.out).2.1); (case side3 => exact zJ (Kd.zaj HO_9.out).2.2); (case side4 => exact (Kd.zaj HO_9.out).2.1); rintro e w23 ⟨v1001, v1004, rfl, ho0, ho1, hb⟩; refine ⟨_, rfl, ?_⟩; have n0_ := zA (Kd.zao (zV HO_7) hb); have n1_ := zA (Kd.zao (zV HO_9) hb); have n2_ := zA (Kd.za2 (Kd.zak (ok' := fun k_ => (w.heap.size ≤ k_) ∧ k_ ≠ gb985) ho0 (fun k_ hk_ => ⟨(Nat.le_trans (za (zB HB)) hk_), (Kd.freshB (g := gb985) (o := .cells #[.slice none 0 0, .slice none 0 0] 28 (0, 0)) (zK BK985) k_ hk_)⟩)) (za (zB HB))); have n3_ := zA (Kd.za2 (Kd.zak (ok' := fun k_ => (w.heap.size ≤ k_) ∧ k_ ≠ gb985) ho1 (fun k_ hk_ => ⟨(Nat.le_trans (za (zB HB)) hk_), (Kd.freshB (g := gb985) (o := .cells #[.slice none 0 0, .slice none 0 0] 28 (0, 0)) (zK BK985) k_ hk_)⟩)) (za (zB HB))); have n4_ := zA (zal (g := gb985) (o := .cells #[.slice none 0 0, .slice none 0 0] 28 (0, 0)) (zK BK985) hb); have n5_ := zA (zad (zB HB) hb); clear HO_7 HO_9 BK985 HB; have HO_7 := n0_; have HO_9 := n1_; have HO1002 := n2_; have HO1005 := n3_; have BK985 := n4_; have HB := n5_; clear n0_ n1_ n2_ n3_ n4_ n5_; (try clear hb); (try clear hb2); (try clear hk); (try clear hi); (try clear ho0); (try clear ho1)) | ((with_reducible refine zba (N := 11) rfl ?_); (try (refine zcb (by rfl) ?_; dsimp only)); refine zbb ?hg (N := 11) ?hd (cs := #[.slice none 0 0, .slice none 0 0]) (t := 28) ?hr ?_; (case hd => rfl); (case hg => rfl); (case hr => first | (go_simp; done) | (go_simp; rfl)); intro gb1006 hg w24 hbox hb; have n0_ := zA (Kd.zao (Kd.zcf (zV HO_7) gb1006 (Nat.le_of_eq hg.symm)) hb); have n1_ := zA (Kd.zao (Kd.zcf (zV HO_9) gb1006 (Nat.le_of_eq hg.symm)) hb); have n2_ := zA (Kd.zao (Kd.zcf (zV HO1002) gb1006 (Nat.le_of_eq hg.symm)) hb); have n3_ := zA (Kd.zao (Kd.zcf (zV HO1005) gb1006 (Nat.le_of_eq hg.symm)) hb); have n4_ := zA (zal (g := gb985) (o := .cells #[.slice none 0 0, .slice none 0 0] 28 (0, 0)) (zK BK985) hb); have n5_ := zA (zad (zB HB) hb); have n6_ := zA (hbox); have n7_ := zA ((by rw [hg]; exact (za (zB HB)) : w.heap.size ≤ gb1006)); have n8_ := zA ((by rw [hg]; exact (za (zB HB)) : w.heap.size ≤ gb1006)); have n9_ := zA ((by rw [hg]; exact Nat.ne_of_lt (zb9 (g := gb985) (o := .cells #[.slice none 0 0, .slice none 0 0] 28 (0, 0)) (zK BK985)) : gb985 ≠ gb1006)); have n10_ := zA ((by rw [hg]; exact Nat.ne_of_gt (zb9 (g := gb985) (o := .cells #[.slice none 0 0, .slice none 0 0] 28 (0, 0)) (zK BK985)) : gb1006 ≠ gb985)); clear HO_7 HO_9 HO1002 HO1005 BK985 HB; have HO_7 := n0_; have HO_9 := n1_; have HO1002 := n2_; have HO1005 := n3_; have BK985 := n4_; have HB := n5_; have BK1006 := n6_; have GW1006 := n7_; have GE1006 := n8_; have NB985_1006 := n9_; have NB1006_985 := n10_; clear n0_ n1_ n2_ n3_ n4_ n5_ n6_ n7_ n8_ n9_ n10_ hb hbox hg; obtain ⟨Ao25, co25, eo25⟩ := Kd.za1 HO1002.out; subst eo25; have hnb26 := NB1006_985.out; have hnc26 := NB985_1006.out; have hcz27_0 : w24.cell? ⟨gb1006, 0, none⟩ = some (.slice none 0 0) := (zae BK1006.out 0).trans rfl; have hcz27_1 : w24.cell? ⟨gb1006, 1, none⟩ = some (.slice none 0 0) := (zae BK1006.out 1).trans rfl; have hfz27_0 := zan BK1006.out 0; have hfz27_1 := zan BK1006.out 1; obtain ⟨Ao28, co28, eo28⟩ := Kd.za1 HO1005.out; subst eo28) | ((with_reducible refine zac (f := 41) rfl ?_); refine zar (some 46) rfl rfl Tryd.func41 (by kernel_rfl) rfl #[.agg #[.slice Ao25 t1000.length co25, .slice Ao28 t1003.length co28]] rfl (zE) ?_; (with_reducible refine (zaq.calls kj11 _ _ t1000 _ _ t1003 t1007 _ ?side1 ?side2 ?side3 ?side4 ?side5 A19.out).mono ?_); (case side1 => refine (Kd.zaj (e := 57) (base := w.heap.size) (ok := fun k_ => (((w.heap.size ≤ k_) ∧ k_ ≠ gb985) ∧ k_ ≠ gb1006)) (n := t1000.length) (c := co25) ?_).2.2; exact (by (with_reducible repeat (first | apply Kd.zbf | apply Kd.zbe | apply Kd.zbh)); exact (Kd.zak (Kd.V_far (p := ⟨gb1006, 1, none⟩) (Kd.V_far (p := ⟨gb1006, 0, none⟩) (Kd.zak HO1002.out (fun k_ hk => (⟨hk, hk.2⟩ : _ ∧ k_ ≠ gb1006))) (fun _ hk => hk.2) (.slice Ao25 t1000.length co25)) (fun _ hk => hk.2) (.slice Ao28 t1003.length co28)) (fun _ h_ => h_.1)))); (case side2 => exact (Kd.zaj HO1002.out).2.1); (case side3 => refine (Kd.zaj (e := 57) (base := w.heap.size) (ok := fun k_ => (((w.heap.size ≤ k_) ∧ k_ ≠ gb985) ∧ k_ ≠ gb1006)) (n := t1003.length) (c := co28) ?_).2.2; exact (by (with_reducible repeat (first | apply Kd.zbf | apply Kd.zbe | apply Kd.zbh)); exact (Kd.zak (Kd.V_far (p := ⟨gb1006, 1, none⟩) (Kd.V_far (p := ⟨gb1006, 0, none⟩) (Kd.zak HO1005.out (fun k_ hk => (⟨hk, hk.2⟩ : _ ∧ k_ ≠ gb1006))) (fun _ hk => hk.2) (.slice Ao25 t1000.length co25)) (fun _ hk => hk.2) (.slice Ao28 t1003.length co28)) (fun _ h_ => h_.1)))); (case side4 => exact (Kd.zaj HO1005.out).2.1); (case side5 => exact Glob.below HG.out (zB HB)); rintro e w29 ⟨rfl, hb⟩; refine ⟨_, rfl, ?_⟩; have n0_ := zA (Kd.zao (by (with_reducible repeat (first | apply Kd.zbf | apply Kd.zbe | apply Kd.zbh)); exact (Kd.zak (Kd.V_far (p := ⟨gb1006, 1, none⟩) (Kd.V_far (p := ⟨gb1006, 0, none⟩) (Kd.zak HO_7.out (fun k_ hk => (⟨hk, hk.2⟩ : _ ∧ k_ ≠ gb1006))) (fun _ hk => hk.2) (.slice Ao25 t1000.length co25)) (fun _ hk => hk.2) (.slice Ao28 t1003.length co28)) (fun _ h_ => h_.1))) hb); have n1_ := zA (Kd.zao (by (with_reducible repeat (first | apply Kd.zbf | apply Kd.zbe | apply Kd.zbh)); exact (Kd.zak (Kd.V_far (p := ⟨gb1006, 1, none⟩) (Kd.V_far (p := ⟨gb1006, 0, none⟩) (Kd.zak HO_9.out (fun k_ hk => (⟨hk, hk.2⟩ : _ ∧ k_ ≠ gb1006))) (fun _ hk => hk.2) (.slice Ao25 t1000.length co25)) (fun _ hk => hk.2) (.slice Ao28 t1003.length co28)) (fun _ h_ => h_.1))) hb); have n2_ := zA (Kd.zao (by (with_reducible repeat (first | apply Kd.zbf | apply Kd.zbe | apply Kd.zbh)); exact (Kd.zak (Kd.V_far (p := ⟨gb1006, 1, none⟩) (Kd.V_far (p := ⟨gb1006, 0, none⟩) (Kd.zak HO1002.out (fun k_ hk => (⟨hk, hk.2⟩ : _ ∧ k_ ≠ gb1006))) (fun _ hk => hk.2) (.slice Ao25 t1000.length co25)) (fun _ hk => hk.2) (.slice Ao28 t1003.length co28)) (fun _ h_ => h_.1))) hb); have n3_ := zA (Kd.zao (by (with_reducible repeat (first | apply Kd.zbf | apply Kd.zbe | apply Kd.zbh)); exact (Kd.zak (Kd.V_far (p := ⟨gb1006, 1, none⟩) (Kd.V_far (p := ⟨gb1006, 0, none⟩) (Kd.zak HO1005.out (fun k_ hk => (⟨hk, hk.2⟩ : _ ∧ k_ ≠ gb1006))) (fun _ hk => hk.2) (.slice Ao25 t1000.length co25)) (fun _ hk => hk.2) (.slice Ao28 t1003.length co28)) (fun _ h_ => h_.1))) hb); have n4_ := zA (zal (g := gb985) (o := .cells #[.slice none 0 0, .slice none 0 0] 28 (0, 0)) (by (with_reducible repeat (first | refine zau ?_ _ | refine zas ?_ | refine zat ?_ _)); refine blk_far ?_ NB985_1006.out _; (with_reducible repeat (first | refine zau ?_ _ | refine zas ?_ | refine zat ?_ _)); refine blk_far ?_ NB985_1006.out _; (with_reducible repeat (first | refine zau ?_ _ | refine zas ?_ | refine zat ?_ _)); exact BK985.out) hb); have n5_ := zA (zal (g := gb1006) (o := .cells #[.slice Ao25 t1000.length co25, .slice Ao28 t1003.length co28] 28 (0, 0)) (by (with_reducible repeat (first | refine zau ?_ _ | refine zas ?_ | refine zat ?_ _)); refine zbx (cs := #[.slice Ao25 t1000.length co25, .slice none 0 0]) ?_ 1 _ rfl; (with_reducible repeat (first | refine zau ?_ _ | refine zas ?_ | refine zat ?_ _)); refine zbx (cs := #[.slice none 0 0, .slice none 0 0]) ?_ 0 _ rfl; (with_reducible repeat (first | refine zau ?_ _ | refine zas ?_ | refine zat ?_ _)); exact BK1006.out) hb); have n6_ := zA (zad (zB HB) hb); clear HO_7 HO_9 HO1002 HO1005 BK985 BK1006 HB; have HO_7 := n0_; have HO_9 := n1_; have HO1002 := n2_; have HO1005 := n3_; have BK985 := n4_; have BK1006 := n5_; have HB := n6_; clear n0_ n1_ n2_ n3_ n4_ n5_ n6_; (try clear hb); (try clear hb2); (try clear hk); (try clear hi); have hcz30_0 : w29.cell? ⟨gb1006, 0, none⟩ = some (.slice Ao25 t1000.length co25) := (zae BK1006.out 0).trans rfl; have hcz30_1 : w29.cell? ⟨gb1006, 1, none⟩ = some (.slice Ao28 t1003.length co28) := (zae BK1006.out 1).trans rfl; have hfz30_0 := zan BK1006.out 0; have hfz30_1 := zan BK1006.out 1; have hcz31_0 : w29.cell? ⟨gb985, 0, none⟩ = some (.slice none 0 0) := (zae BK985.out 0).trans rfl; have hcz31_1 : w29.cell? ⟨gb985, 1, none⟩ = some (.slice none 0 0) := (zae BK985.out 1).trans rfl; have hfz31_0 := zan BK985.out 0; have hfz31_1 := zan BK985.out 1))
       refine bodyPost_ret (results_ct rfl _ _ gb985 28 #[.slice Ao25 t1000.length co25, .slice Ao28 t1003.length co28] (0, 0) _ rfl (by (with_reducible repeat (first | refine zau ?_ _ | refine zas ?_ | refine zat ?_ _)); refine zbx (cs := #[.slice Ao25 t1000.length co25, .slice none 0 0]) ?_ 1 _ rfl; (with_reducible repeat (first | refine zau ?_ _ | refine zas ?_ | refine zat ?_ _)); refine zbx (cs := #[.slice none 0 0, .slice none 0 0]) ?_ 0 _ rfl; (with_reducible repeat (first | refine zau ?_ _ | refine zas ?_ | refine zat ?_ _)); exact BK985.out) Tryd.underlying28 rfl (by kernel_rfl)) rfl ?_
       exact ⟨_, _, zW, by (with_reducible repeat (first | apply Kd.zbf | apply Kd.zbe | apply Kd.zbh)); exact Kd.zak (Kd.V_far (p := ⟨gb985, 1, none⟩) (Kd.V_far (p := ⟨gb985, 0, none⟩) (Kd.zak HO1002.out (fun k_ hk => (⟨hk, hk.1.2⟩ : _ ∧ k_ ≠ gb985))) (fun _ hk => hk.2) (.slice Ao25 t1000.length co25)) (fun _ hk => hk.2) (.slice Ao28 t1003.length co28)) (fun _ hk => hk.1.1.1), by (with_reducible repeat (first | apply Kd.zbf | apply Kd.zbe | apply Kd.zbh)); exact Kd.zak (Kd.V_far (p := ⟨gb985, 1, none⟩) (Kd.V_far (p := ⟨gb985, 0, none⟩) (Kd.zak HO1005.out (fun k_ hk => (⟨hk, hk.1.2⟩ : _ ∧ k_ ≠ gb985))) (fun _ hk => hk.2) (.slice Ao25 t1000.length co25)) (fun _ hk => hk.2) (.slice Ao28 t1003.length co28)) (fun _ hk => hk.1.1.1), zB HB⟩
      ·
       rw [if_neg c20] at H
       have c20b0 : (t1007.toList == a0.toList) = false := beq_eq_false_iff_ne.mpr c20
       have c20b1 : (t1007.toList != a0.toList) = true := bne_iff_ne.mpr c20
       simp only [Option.some.injEq, Prod.mk.injEq] at H
       obtain ⟨rfl, rfl, rfl⟩ := H
       obtain ⟨Ao32, co32, eo32⟩ := Kd.za1 HO_7.out
       subst eo32
       obtain ⟨Ao33, co33, eo33⟩ := Kd.za1 HO_9.out
       subst eo33
       go_wp2_with (first | ((with_reducible refine zac (f := 58) rfl ?_); refine zar (some 44) rfl rfl Tryd.func58 (by kernel_rfl) rfl #[.slice Ao32 t989.length co32, .slice Ao33 x9_4.length co33] rfl (zE) ?_; (with_reducible refine (za3.calls kj11 _ _ t989 _ _ x9_4 t1000 t1003 _ ?side1 ?side2 ?side3 ?side4 A18.out).mono ?_); (case side1 => exact zJ (Kd.zaj HO_7.out).2.2); (case side2 => exact (Kd.zaj HO_7.out).2.1); (case side3 => exact zJ (Kd.zaj HO_9.out).2.2); (case side4 => exact (Kd.zaj HO_9.out).2.1); rintro e w34 ⟨v1001, v1004, rfl, ho0, ho1, hb⟩; refine ⟨_, rfl, ?_⟩; have n0_ := zA (Kd.zao (zV HO_7) hb); have n1_ := zA (Kd.zao (zV HO_9) hb); have n2_ := zA (Kd.za2 (Kd.zak (ok' := fun k_ => (w.heap.size ≤ k_) ∧ k_ ≠ gb985) ho0 (fun k_ hk_ => ⟨(Nat.le_trans (za (zB HB)) hk_), (Kd.freshB (g := gb985) (o := .cells #[.slice none 0 0, .slice none 0 0] 28 (0, 0)) (zK BK985) k_ hk_)⟩)) (za (zB HB))); have n3_ := zA (Kd.za2 (Kd.zak (ok' := fun k_ => (w.heap.size ≤ k_) ∧ k_ ≠ gb985) ho1 (fun k_ hk_ => ⟨(Nat.le_trans (za (zB HB)) hk_), (Kd.freshB (g := gb985) (o := .cells #[.slice none 0 0, .slice none 0 0] 28 (0, 0)) (zK BK985) k_ hk_)⟩)) (za (zB HB))); have n4_ := zA (zal (g := gb985) (o := .cells #[.slice none 0 0, .slice none 0 0] 28 (0, 0)) (zK BK985) hb); have n5_ := zA (zad (zB HB) hb); clear HO_7 HO_9 BK985 HB; have HO_7 := n0_; have HO_9 := n1_; have HO1002 := n2_; have HO1005 := n3_; have BK985 := n4_; have HB := n5_; clear n0_ n1_ n2_ n3_ n4_ n5_; (try clear hb); (try clear hb2); (try clear hk); (try clear hi); (try clear ho0); (try clear ho1)) | ((with_reducible refine zba (N := 11) rfl ?_); (try (refine zcb (by rfl) ?_; dsimp only)); refine zbb ?hg (N := 11) ?hd (cs := #[.slice none 0 0, .slice none 0 0]) (t := 28) ?hr ?_; (case hd => rfl); (case hg => rfl); (case hr => first | (go_simp; done) | (go_simp; rfl)); intro gb1006 hg w35 hbox hb; have n0_ := zA (Kd.zao (Kd.zcf (zV HO_7) gb1006 (Nat.le_of_eq hg.symm)) hb); have n1_ := zA (Kd.zao (Kd.zcf (zV HO_9) gb1006 (Nat.le_of_eq hg.symm)) hb); have n2_ := zA (Kd.zao (Kd.zcf (zV HO1002) gb1006 (Nat.le_of_eq hg.symm)) hb); have n3_ := zA (Kd.zao (Kd.zcf (zV HO1005) gb1006 (Nat.le_of_eq hg.symm)) hb); have n4_ := zA (zal (g := gb985) (o := .cells #[.slice none 0 0, .slice none 0 0] 28 (0, 0)) (zK BK985) hb); have n5_ := zA (zad (zB HB) hb); have n6_ := zA (hbox); have n7_ := zA ((by rw [hg]; exact (za (zB HB)) : w.heap.size ≤ gb1006)); have n8_ := zA ((by rw [hg]; exact (za (zB HB)) : w.heap.size ≤ gb1006)); have n9_ := zA ((by rw [hg]; exact Nat.ne_of_lt (zb9 (g := gb985) (o := .cells #[.slice none 0 0, .slice none 0 0] 28 (0, 0)) (zK BK985)) : gb985 ≠ gb1006)); have n10_ := zA ((by rw [hg]; exact Nat.ne_of_gt (zb9 (g := gb985) (o := .cells #[.slice none 0 0, .slice none 0 0] 28 (0, 0)) (zK BK985)) : gb1006 ≠ gb985)); clear HO_7 HO_9 HO1002 HO1005 BK985 HB; have HO_7 := n0_; have HO_9 := n1_; have HO1002 := n2_; have HO1005 := n3_; have BK985 := n4_; have HB := n5_; have BK1006 := n6_; have GW1006 := n7_; have GE1006 := n8_; have NB985_1006 := n9_; have NB1006_985 := n10_; clear n0_ n1_ n2_ n3_ n4_ n5_ n6_ n7_ n8_ n9_ n10_ hb hbox hg; obtain ⟨Ao36, co36, eo36⟩ := Kd.za1 HO1002.out; subst eo36; have hnb37 := NB1006_985.out; have hnc37 := NB985_1006.out; have hcz38_0 : w35.cell? ⟨gb1006, 0, none⟩ = some (.slice none 0 0) := (zae BK1006.out 0).trans rfl; have hcz38_1 : w35.cell? ⟨gb1006, 1, none⟩ = some (.slice none 0 0) := (zae BK1006.out 1).trans rfl; have hfz38_0 := zan BK1006.out 0; have hfz38_1 := zan BK1006.out 1; obtain ⟨Ao39, co39, eo39⟩ := Kd.za1 HO1005.out; subst eo39) | ((with_reducible refine zac (f := 41) rfl ?_); refine zar (some 46) rfl rfl Tryd.func41 (by kernel_rfl) rfl #[.agg #[.slice Ao36 t1000.length co36, .slice Ao39 t1003.length co39]] rfl (zE) ?_; (with_reducible refine (zaq.calls kj11 _ _ t1000 _ _ t1003 t1007 _ ?side1 ?side2 ?side3 ?side4 ?side5 A19.out).mono ?_); (case side1 => refine (Kd.zaj (e := 57) (base := w.heap.size) (ok := fun k_ => (((w.heap.size ≤ k_) ∧ k_ ≠ gb985) ∧ k_ ≠ gb1006)) (n := t1000.length) (c := co36) ?_).2.2; exact (by (with_reducible repeat (first | apply Kd.zbf | apply Kd.zbe | apply Kd.zbh)); exact (Kd.zak (Kd.V_far (p := ⟨gb1006, 1, none⟩) (Kd.V_far (p := ⟨gb1006, 0, none⟩) (Kd.zak HO1002.out (fun k_ hk => (⟨hk, hk.2⟩ : _ ∧ k_ ≠ gb1006))) (fun _ hk => hk.2) (.slice Ao36 t1000.length co36)) (fun _ hk => hk.2) (.slice Ao39 t1003.length co39)) (fun _ h_ => h_.1)))); (case side2 => exact (Kd.zaj HO1002.out).2.1); (case side3 => refine (Kd.zaj (e := 57) (base := w.heap.size) (ok := fun k_ => (((w.heap.size ≤ k_) ∧ k_ ≠ gb985) ∧ k_ ≠ gb1006)) (n := t1003.length) (c := co39) ?_).2.2; exact (by (with_reducible repeat (first | apply Kd.zbf | apply Kd.zbe | apply Kd.zbh)); exact (Kd.zak (Kd.V_far (p := ⟨gb1006, 1, none⟩) (Kd.V_far (p := ⟨gb1006, 0, none⟩) (Kd.zak HO1005.out (fun k_ hk => (⟨hk, hk.2⟩ : _ ∧ k_ ≠ gb1006))) (fun _ hk => hk.2) (.slice Ao36 t1000.length co36)) (fun _ hk => hk.2) (.slice Ao39 t1003.length co39)) (fun _ h_ => h_.1)))); (case side4 => exact (Kd.zaj HO1005.out).2.1); (case side5 => exact Glob.below HG.out (zB HB)); rintro e w40 ⟨rfl, hb⟩; refine ⟨_, rfl, ?_⟩; have n0_ := zA (Kd.zao (by (with_reducible repeat (first | apply Kd.zbf | apply Kd.zbe | apply Kd.zbh)); exact (Kd.zak (Kd.V_far (p := ⟨gb1006, 1, none⟩) (Kd.V_far (p := ⟨gb1006, 0, none⟩) (Kd.zak HO_7.out (fun k_ hk => (⟨hk, hk.2⟩ : _ ∧ k_ ≠ gb1006))) (fun _ hk => hk.2) (.slice Ao36 t1000.length co36)) (fun _ hk => hk.2) (.slice Ao39 t1003.length co39)) (fun _ h_ => h_.1))) hb); have n1_ := zA (Kd.zao (by (with_reducible repeat (first | apply Kd.zbf | apply Kd.zbe | apply Kd.zbh)); exact (Kd.zak (Kd.V_far (p := ⟨gb1006, 1, none⟩) (Kd.V_far (p := ⟨gb1006, 0, none⟩) (Kd.zak HO_9.out (fun k_ hk => (⟨hk, hk.2⟩ : _ ∧ k_ ≠ gb1006))) (fun _ hk => hk.2) (.slice Ao36 t1000.length co36)) (fun _ hk => hk.2) (.slice Ao39 t1003.length co39)) (fun _ h_ => h_.1))) hb); have n2_ := zA (Kd.zao (by (with_reducible repeat (first | apply Kd.zbf | apply Kd.zbe | apply Kd.zbh)); exact (Kd.zak (Kd.V_far (p := ⟨gb1006, 1, none⟩) (Kd.V_far (p := ⟨gb1006, 0, none⟩) (Kd.zak HO1002.out (fun k_ hk => (⟨hk, hk.2⟩ : _ ∧ k_ ≠ gb1006))) (fun _ hk => hk.2) (.slice Ao36 t1000.length co36)) (fun _ hk => hk.2) (.slice Ao39 t1003.length co39)) (fun _ h_ => h_.1))) hb); have n3_ := zA (Kd.zao (by (with_reducible repeat (first | apply Kd.zbf | apply Kd.zbe | apply Kd.zbh)); exact (Kd.zak (Kd.V_far (p := ⟨gb1006, 1, none⟩) (Kd.V_far (p := ⟨gb1006, 0, none⟩) (Kd.zak HO1005.out (fun k_ hk => (⟨hk, hk.2⟩ : _ ∧ k_ ≠ gb1006))) (fun _ hk => hk.2) (.slice Ao36 t1000.length co36)) (fun _ hk => hk.2) (.slice Ao39 t1003.length co39)) (fun _ h_ => h_.1))) hb); have n4_ := zA (zal (g := gb985) (o := .cells #[.slice none 0 0, .slice none 0 0] 28 (0, 0)) (by (with_reducible repeat (first | refine zau ?_ _ | refine zas ?_ | refine zat ?_ _)); refine blk_far ?_ NB985_1006.out _; (with_reducible repeat (first | refine zau ?_ _ | refine zas ?_ | refine zat ?_ _)); refine blk_far ?_ NB985_1006.out _; (with_reducible repeat (first | refine zau ?_ _ | refine zas ?_ | refine zat ?_ _)); exact BK985.out) hb); have n5_ := zA (zal (g := gb1006) (o := .cells #[.slice Ao36 t1000.length co36, .slice Ao39 t1003.length co39] 28 (0, 0)) (by (with_reducible repeat (first | refine zau ?_ _ | refine zas ?_ | refine zat ?_ _)); refine zbx (cs := #[.slice Ao36 t1000.length co36, .slice none 0 0]) ?_ 1 _ rfl; (with_reducible repeat (first | refine zau ?_ _ | refine zas ?_ | refine zat ?_ _)); refine zbx (cs := #[.slice none 0 0, .slice none 0 0]) ?_ 0 _ rfl; (with_reducible repeat (first | refine zau ?_ _ | refine zas ?_ | refine zat ?_ _)); exact BK1006.out) hb); have n6_ := zA (zad (zB HB) hb); clear HO_7 HO_9 HO1002 HO1005 BK985 BK1006 HB; have HO_7 := n0_; have HO_9 := n1_; have HO1002 := n2_; have HO1005 := n3_; have BK985 := n4_; have BK1006 := n5_; have HB := n6_; clear n0_ n1_ n2_ n3_ n4_ n5_ n6_; (try clear hb); (try clear hb2); (try clear hk); (try clear hi); have hcz41_0 : w40.cell? ⟨gb985, 0, none⟩ = some (.slice none 0 0) := (zae BK985.out 0).trans rfl; have hcz41_1 : w40.cell? ⟨gb985, 1, none⟩ = some (.slice none 0 0) := (zae BK985.out 1).trans rfl; have hfz41_0 := zan BK985.out 0; have hfz41_1 := zan BK985.out 1))
       refine bodyPost_ret (results_ct rfl _ _ gb985 28 #[.slice none 0 0, .slice none 0 0] (0, 0) _ rfl (by (with_reducible repeat (first | refine zau ?_ _ | refine zas ?_ | refine zat ?_ _)); refine zbx (cs := #[.slice none 0 0, .slice none 0 0]) ?_ 1 _ rfl; (with_reducible repeat (first | refine zau ?_ _ | refine zas ?_ | refine zat ?_ _)); refine zbx (cs := #[.slice none 0 0, .slice none 0 0]) ?_ 0 _ rfl; (with_reducible repeat (first | refine zau ?_ _ | refine zas ?_ | refine zat ?_ _)); exact BK985.out) Tryd.underlying28 rfl (by kernel_rfl)) rfl ?_
       exact ⟨_, _, zW, Kd.V_nil _ _ _ _ _, Kd.V_nil _ _ _ _ _, zB HB⟩
def zax.f (k : Nat) : Option Bool := (zaw.f k (⟨#[49, 47, 51]⟩ : ByteArray)).bind fun r => (zaw.f k (⟨#[49, 47, 50, 48]⟩ : ByteArray)).bind fun s => (za8.f k 10 [⟨r.1, r.2.1⟩, ⟨s.1, s.2.1⟩]).bind fun l => if l = ([3, 1], 0) then some true else none
theorem zax.mono : ∀ k, LeO (zax.f k) (zax.f (k + 1)) := by
 intro k
 unfold zax.f
 exact LeO.bind (zaw.mono _ _) (fun r => LeO.bind (zaw.mono _ _) (fun s => LeO.bind (za8.mono _ _ _) (fun _ => LeO.refl _)))
theorem k28_row {w : World} {g : Nat} {A0 A1 A2 A3 : Option Addr} {c0 c1 c2 c3 : Nat} {l0 l1 l2 l3 : List Int} {t : Nat} (hb : w.heap[g]? = some (.cells #[.slice A0 l0.length c0, .slice A1 l1.length c1, .slice A2 l2.length c2, .slice A3 l3.length c3] t (0, 0)))
  (h0 : l0.length ≤ c0 ∧ Kd.C (Kd.int .u64) w A0 l0.length l0) (h1 : l1.length ≤ c1 ∧ Kd.C (Kd.int .u64) w A1 l1.length l1) (h2 : l2.length ≤ c2 ∧ Kd.C (Kd.int .u64) w A2 l2.length l2) (h3 : l3.length ≤ c3 ∧ Kd.C (Kd.int .u64) w A3 l3.length l3) :
  Kd.C k28 w (some ⟨g, 0, none⟩) 2 [⟨l0, l1⟩, ⟨l2, l3⟩] := by
 refine ⟨rfl, by omega, fun _ => ⟨_, rfl, fun j p hj => ?_⟩⟩
 match j, hj with
 | 0, hj =>
  simp at hj
  subst hj
  refine ⟨[.slice A0 l0.length c0, .slice A1 l1.length c1], rfl, ⟨[.slice A0 l0.length c0], [.slice A1 l1.length c1], rfl, ⟨A0, c0, rfl, h0.1, h0.2⟩, ⟨A1, c1, rfl, h1.1, h1.2⟩⟩, fun i u hu => ?_⟩
  match i, hu with
  | 0, hu => exact (zae hb 0).trans hu
  | 1, hu => exact (zae hb 1).trans hu
 | 1, hj =>
  simp at hj
  subst hj
  refine ⟨[.slice A2 l2.length c2, .slice A3 l3.length c3], rfl, ⟨[.slice A2 l2.length c2], [.slice A3 l3.length c3], rfl, ⟨A2, c2, rfl, h2.1, h2.2⟩, ⟨A3, c3, rfl, h3.1, h3.2⟩⟩, fun i u hu => ?_⟩
  match i, hu with
  | 0, hu => exact (zae hb 2).trans hu
  | 1, hu => exact (zae hb 3).trans hu
theorem zax.calls (k : Nat) (r : Bool) (w : World) (hG : Glob w) (h : zax.f k = some r) :
  Calls Tryd.prog 45 #[] w fun e w' => e = .returned (.bool r) ∧ Below w.heap.size w w' := by
 unfold zax.f at h
 obtain ⟨r1, e1, h⟩ := zO h
 obtain ⟨r2, e2, h⟩ := zO h
 obtain ⟨l, e3, h⟩ := zO h
 split at h
 ·
  rename_i hl
  subst hl
  injection h with h
  subst h
  obtain ⟨p1, p2, p3⟩ := r1
  obtain ⟨q1, q2, q3⟩ := r2
  have E1 := zA e1
  have E2 := zA e2
  have E3 := zA e3
  have HG := zA hG
  clear e1 e2 e3 hG
  go_enter Tryd.func45, Tryd.ntmps45
  go_wp2_with fail
  go_at_call 40
  refine (zaw.calls k _ p1 p2 p3 _ HG.out E1.out).mono ?_
  rintro e w1 ⟨v0, v1, rfl, ho0, ho1, hb⟩
  obtain ⟨A0, c0, rfl⟩ := Kd.za1 ho0
  obtain ⟨A1, c1, rfl⟩ := Kd.za1 ho1
  have HO0 := zA (Kd.zaj ho0)
  have HO1 := zA (Kd.zaj ho1)
  have HB := zA hb
  have HG1 := zA (Glob.below HG.out hb)
  clear ho0 ho1 hb
  go_wp2_with fail
  go_at_call 40
  refine (zaw.calls k _ q1 q2 q3 _ (Glob.below HG1.out (zbm (Below.refl _ _) _)) E2.out).mono ?_
  rintro e w2 ⟨v2, v3, rfl, ho2, ho3, hb2⟩
  obtain ⟨A2, c2, rfl⟩ := Kd.za1 ho2
  obtain ⟨A3, c3, rfl⟩ := Kd.za1 ho3
  have BK1 := zA (zal (blk_new w1 (.cells #[.slice A0 p1.length c0, .slice A1 p2.length c1] 28)) hb2)
  have HO2 := zA (Kd.zaj ho2)
  have HO3 := zA (Kd.zaj ho3)
  have HB2 := zA (zad (zbm HB.out (.cells #[.slice A0 p1.length c0, .slice A1 p2.length c1] 28)) hb2)
  have C0 := zA (Kd.za0 (Kd.zcc HO0.out.2.2 (.cells #[.slice A0 p1.length c0, .slice A1 p2.length c1] 28)) hb2)
  have C1 := zA (Kd.za0 (Kd.zcc HO1.out.2.2 (.cells #[.slice A0 p1.length c0, .slice A1 p2.length c1] 28)) hb2)
  have hs1 : w1.heap.size < w2.heap.size := zb9 BK1.out
  have B0 := zA (zat BK1.out (.cells #[.slice A2 q1.length c2, .slice A3 q2.length c3] 28))
  have e0 := (zae B0.out 0).trans rfl
  have e1 := (zae B0.out 1).trans rfl
  have B1 := zA (blk_new w2 (.cells #[.slice A2 q1.length c2, .slice A3 q2.length c3] 28))
  have e2 := (zae B1.out 0).trans rfl
  have e3 := (zae B1.out 1).trans rfl
  clear ho2 ho3 hb2 hs1
  have B3 : Aside0 (((w2.alloc (.cells #[.slice A2 q1.length c2, .slice A3 q2.length c3] 28)).alloc (.cells #[.slice A0 p1.length c0, .slice A1 p2.length c1, .slice A2 q1.length c2, .slice A3 q2.length c3] 28)).heap[w2.heap.size + 1]? = some (.cells #[.slice A0 p1.length c0, .slice A1 p2.length c1, .slice A2 q1.length c2, .slice A3 q2.length c3] 28 (0, 0))) := ⟨by
   have := blk_new (w2.alloc (.cells #[.slice A2 q1.length c2, .slice A3 q2.length c3] 28)) (.cells #[.slice A0 p1.length c0, .slice A1 p2.length c1, .slice A2 q1.length c2, .slice A3 q2.length c3] 28)
   rwa [show (w2.alloc (.cells #[.slice A2 q1.length c2, .slice A3 q2.length c3] 28)).heap.size = w2.heap.size + 1 by simp] at this⟩
  go_wp2_with fail
  go_at_call 48
  refine (za8.calls k 10 (some ⟨w2.heap.size + 1, 0, none⟩) 2 [⟨p1, p2⟩, ⟨q1, q2⟩] [3, 1] 0 _ (k28_row B3.out ⟨HO0.out.2.1, Kd.zcc (Kd.zcc C0.out _) _⟩ ⟨HO1.out.2.1, Kd.zcc (Kd.zcc C1.out _) _⟩ ⟨HO2.out.2.1, Kd.zcc (Kd.zcc HO2.out.2.2 _) _⟩ ⟨HO3.out.2.1, Kd.zcc (Kd.zcc HO3.out.2.2 _) _⟩) (Nat.le_refl _) E3.out).mono ?_
  rintro e w3 ⟨v4, rfl, ho4, hb4⟩
  have hb5 := zA (zad (zbm (zbm HB2.out _) _) hb4)
  obtain ⟨g, cap, rfl, _, _, cells, hcells⟩ := Kd.R_form ho4 (by decide)
  have f0 := (Kd.R_cell (0 : Int) ho4 0 (by decide) (by decide)).1
  have f1 := (Kd.R_cell (0 : Int) ho4 1 (by decide) (by decide)).1
  have g0 : w3.cell? ⟨g, 0, none⟩ = some (.int .i64 3) := f0
  have g1 : w3.cell? ⟨g, 1, none⟩ = some (.int .i64 1) := f1
  clear f0 f1 hcells ho4 hb4 e0 e1 e2 e3
  go_wp2
  go_ret
  exact ⟨rfl, hb5.out⟩
 ·
  cases h
mutual
def zab.j0 : Nat → Int → List Int → Bool → Option (Bool)
 | 0, _, _, _ => none
 | k + 1, x0, x1, x28 => if x28 = true then ((zax.f k).bind fun t1316 => (some t1316)) else (zab.l0 k x1 (wrap64 (1 + (Int.tmod (wrap64 (x0)) 1000))) 0 x1 (x1.length : Int) 0)
def zab.l0 : Nat → List Int → Int → Int → List Int → Int → Int → Option (Bool)
 | 0, _, _, _, _, _, _ => none
 | k + 1, x1, x5, x6, x34, x35, x36 => if x36 < x35 then (if 0 ≤ x36 then (if x36 < (x34.length : Int) then (zab.l0 k x1 x5 (wrap64 (x6 + (wrap64 (1 + (wrap64 (rd x34 x36)))))) x34 x35 (wrap64 (x36 + 1))) else (none)) else (none)) else (zab.l1 k x1 x5 x6 ([] : List (S28)) x1 (x1.length : Int) 0)
def zab.l1 : Nat → List Int → Int → Int → List (S28) → List Int → Int → Int → Option (Bool)
 | 0, _, _, _, _, _, _, _ => none
 | k + 1, x1, x5, x6, x9, x46, x47, x48 => if x48 < x47 then (if 0 ≤ x48 then (if x48 < (x46.length : Int) then ((zb0.f k (IntKind.u64.wrap (wrap64 (1 + (wrap64 (rd x46 x48)))))).bind fun t1319 => ((zb0.f k (IntKind.u64.wrap (x6))).bind fun t1322 => ((ratio_Of.f k t1319 t1322).bind fun bt1325 => (if x9.length < 2932031007402 then (zab.l1 k x1 x5 x6 (x9 ++ [(⟨bt1325.1, bt1325.2.1⟩ : S28)]) x46 x47 (wrap64 (x48 + 1))) else (none))))) else (none)) else (none)) else ((za8.f k x5 x9).bind fun bt1336 => ((zbz.f k bt1336.1).bind fun t1340 => (if bt1336.2 = 0 then (if (bt1336.1.length : Int) = (x1.length : Int) then (if t1340 ≤ (wrap64 (x5 + (x1.length : Int))) then (some (decide (t1340 > (wrap64 (x5 - (x1.length : Int)))))) else (none)) else (none)) else (none))))
end
def zab.f (k : Nat) (a0 : Int) (l1 : List Int) : Option (Bool) := (zax.f k).bind fun t1315 => (if t1315 = true then (if (l1.length : Int) = 0 then (zab.j0 k a0 l1 true) else (zab.j0 k a0 l1 (decide ((l1.length : Int) > 12)))) else (zab.j0 k a0 l1 true))
theorem zab.calls (k : Nat) (a0 : Int) (A1 : Option Addr) (c1 : Nat) (l1 : List Int) (r : Bool) (w : World) (hr1 : Kd.C (Kd.int .u8) w A1 l1.length l1) (hc1 : l1.length ≤ c1) (hG : Glob w) (h : zab.f k a0 l1 = some r) :
  Calls Tryd.prog 13 #[.int .u16 a0, .slice A1 l1.length c1] w fun e w' => e = .returned (.bool r) ∧ Below w.heap.size w w' := by
 have hu28 := Tryd.underlying28
 have HR1 := zA hr1
 have HC1 := zA hc1
 clear hr1 hc1
 have HG := zA hG
 clear hG
 have HB := zA (Below.refl w.heap.size w)
 have H : ((zax.f k).bind fun t1315 => (if t1315 = true then (if (l1.length : Int) = 0 then (zab.j0 k a0 l1 true) else (zab.j0 k a0 l1 (decide ((l1.length : Int) > 12)))) else (zab.j0 k a0 l1 true))) = some r := h
 clear h
 have HC3 := zA H
 clear H
 go_enter Tryd.func13, Tryd.ntmps13
 go_upto_region 1 with (fail)
 go_cut [28] (fun v28 wc => ∃ (kq : Nat) (x28_2 : Bool), v28 = .bool x28_2 ∧ Aside0 (zab.j0 kq a0 l1 x28_2 = some r) ∧ Aside0 (kq ≤ k) ∧ Aside0 (Below w.heap.size w wc))
 case first =>
  have H := HC3.out
  clear HC3
  replace H := zO H
  obtain ⟨t1315, A40, H⟩ := H
  try dsimp only at H
  have A4 := zA A40
  clear A40
  by_cases c5 : t1315 = true
  ·
   subst c5
   rw [if_pos rfl] at H
   by_cases c6 : (l1.length : Int) = 0
   ·
    rw [if_pos c6] at H
    have c6b0 : ((l1.length : Int) == 0) = true := beq_iff_eq.mpr c6
    have c6b1 : ((l1.length : Int) != 0) = false := bne_eq_false_iff_eq.mpr c6
    clear c6
    (first | rw [c6b0] | (simp only [i64_w, i32_w]; rw [c6b0]) | skip)
    have H' := zA H
    clear H
    go_wp2_with (first | ((with_reducible refine zac (f := 45) rfl ?_); refine zar (some 17) rfl rfl Tryd.func45 (by kernel_rfl) rfl #[] rfl (zE) ?_; (with_reducible refine (zax.calls k  true _ ?side1 A4.out).mono ?_); (case side1 => exact Glob.below HG.out (zB HB)); rintro e w7 ⟨rfl, hb⟩; refine ⟨_, rfl, ?_⟩; have n0_ := zA (zad (zB HB) hb); clear HB; have HB := n0_; clear n0_; (try clear hb); (try clear hb2); (try clear hk); (try clear hi)))
    go_meet
    case rel => exact ⟨_, (true), (zF), H', ⟨by first | omega | exact Nat.le_refl _⟩, ⟨zB HB⟩⟩
   ·
    rw [if_neg c6] at H
    have c6b0 : ((l1.length : Int) == 0) = false := beq_eq_false_iff_ne.mpr c6
    have c6b1 : ((l1.length : Int) != 0) = true := bne_iff_ne.mpr c6
    have c6b2 : ¬ (l1 = []) := fun h_ => c6 (by rw [h_]; rfl)
    (first | rw [c6b0] | (simp only [i64_w, i32_w]; rw [c6b0]) | skip)
    have H' := zA H
    clear H
    go_wp2_with (first | ((with_reducible refine zac (f := 45) rfl ?_); refine zar (some 17) rfl rfl Tryd.func45 (by kernel_rfl) rfl #[] rfl (zE) ?_; (with_reducible refine (zax.calls k  true _ ?side1 A4.out).mono ?_); (case side1 => exact Glob.below HG.out (zB HB)); rintro e w8 ⟨rfl, hb⟩; refine ⟨_, rfl, ?_⟩; have n0_ := zA (zad (zB HB) hb); clear HB; have HB := n0_; clear n0_; (try clear hb); (try clear hb2); (try clear hk); (try clear hi)))
    go_meet
    case rel => exact ⟨_, (decide ((l1.length : Int) > 12)), (zF), H', ⟨by first | omega | exact Nat.le_refl _⟩, ⟨zB HB⟩⟩
  ·
   replace c5 := Bool.eq_false_iff.mpr c5
   subst c5
   rw [if_neg (show ¬ (false = true) by decide)] at H
   have H' := zA H
   clear H
   go_wp2_with (first | ((with_reducible refine zac (f := 45) rfl ?_); refine zar (some 17) rfl rfl Tryd.func45 (by kernel_rfl) rfl #[] rfl (zE) ?_; (with_reducible refine (zax.calls k  false _ ?side1 A4.out).mono ?_); (case side1 => exact Glob.below HG.out (zB HB)); rintro e w9 ⟨rfl, hb⟩; refine ⟨_, rfl, ?_⟩; have n0_ := zA (zad (zB HB) hb); clear HB; have HB := n0_; clear n0_; (try clear hb); (try clear hb2); (try clear hk); (try clear hi)))
   go_meet
   case rel => exact ⟨_, (true), (zF), H', ⟨by first | omega | exact Nat.le_refl _⟩, ⟨zB HB⟩⟩
 case rest =>
  clear HC3
  try clear c1
  try clear p2
  try clear c4
  try clear c5
  try clear c6
  try clear c6b0
  try clear c6b1
  try clear c6b2
  try clear p6
  obtain ⟨kq, x28_2, rfl, HA, HJ2, HB⟩ := hcut
  cases kq with
  | zero => exact absurd HA.out (by simp [zab.j0])
  | succ kj2 =>
   have H := HA.out
   clear HA
   simp only [zab.j0] at H
   by_cases c10 : x28_2 = true
   ·
    subst c10
    rw [if_pos rfl] at H
    replace H := zO H
    obtain ⟨t1316, A110, H⟩ := H
    try dsimp only at H
    have A11 := zA A110
    clear A110
    obtain rfl := Option.some.inj H
    go_wp2_with (first | ((with_reducible refine zac (f := 45) rfl ?_); refine zar (some 29) rfl rfl Tryd.func45 (by kernel_rfl) rfl #[] rfl (zE) ?_; (with_reducible refine (zax.calls kj2  t1316 _ ?side1 A11.out).mono ?_); (case side1 => exact Glob.below HG.out (zB HB)); rintro e w12 ⟨rfl, hb⟩; refine ⟨_, rfl, ?_⟩; have n0_ := zA (zad (zB HB) hb); clear HB; have HB := n0_; clear n0_; (try clear hb); (try clear hb2); (try clear hk); (try clear hi)))
    go_ret
    exact ⟨zW, zB HB⟩
   ·
    replace c10 := Bool.eq_false_iff.mpr c10
    subst c10
    rw [if_neg (show ¬ (false = true) by decide)] at H
    have H' := zA H
    clear H
    go_wp2
    go_loopg [6, 36] kj2 (fun kq v6 v36 w' => ∃ (x6_2 : Int) (x36_2 : Int), v6 = .int .i64 x6_2 ∧ v36 = .int .i64 x36_2 ∧ Aside0 (zab.l0 kq l1 (wrap64 (1 + (Int.tmod (wrap64 (a0)) 1000))) x6_2 l1 (l1.length : Int) x36_2 = some r) ∧ Aside0 (kq ≤ kj2) ∧ Aside0 (Below w.heap.size w w'))
    case atStart => exact ⟨(0), (0), (zF), (zF), H', ⟨Nat.le_refl _⟩, ⟨zB HB⟩⟩
    case round =>
     clear H'
     try clear c1
     try clear p2
     try clear c4
     try clear c5
     try clear c6
     try clear c6b0
     try clear c6b1
     try clear c6b2
     try clear p6
     try clear c10
     try clear p2
     try clear p6
     obtain ⟨x6_2, x36_2, rfl, rfl, HA, HK2, HB⟩ := hrel
     cases gk with
     | zero => exact absurd HA.out (by simp [zab.l0])
     | succ k2 =>
      have H := HA.out
      clear HA
      simp only [zab.l0] at H
      by_cases c13 : x36_2 < (l1.length : Int)
      ·
       rw [if_pos c13] at H
       have c13b0 : decide (x36_2 < (l1.length : Int)) = true := decide_eq_true c13
       clear c13
       by_cases c14 : 0 ≤ x36_2
       ·
        rw [if_pos c14] at H
        have c14b0 : decide (0 ≤ x36_2) = true := decide_eq_true c14
        clear c14
        by_cases c15 : x36_2 < (l1.length : Int)
        ·
         rw [if_pos c15] at H
         have c15b0 : decide (x36_2 < (l1.length : Int)) = true := decide_eq_true c15
         clear c15
         have H' := zA H
         clear H
         have p1317 : 0 ≤ (x36_2 : Int) := of_decide_eq_true (by first | (with_reducible assumption) | assumption)
         have q1317 : x36_2 < (l1.length : Int) := of_decide_eq_true (by first | (with_reducible assumption) | assumption)
         obtain ⟨ad1317, e1317, hx1317_0⟩ := Kd.at_int HR1.out x36_2 p1317 q1317
         cases e1317
         replace hx1317_0 := (HB.out.cell (World.block_lt_of_cell? w _ hx1317_0)).trans hx1317_0
         replace p1317 := eq_true p1317
         replace q1317 := eq_true q1317
         go_wp2
         go_roundg k2
         case measure => have := HJ2.out; have := HK2.out; omega
         case rel => exact ⟨(wrap64 (x6_2 + (wrap64 (1 + (wrap64 (rd l1 x36_2)))))), (wrap64 (x36_2 + 1)), (zF), (zF), H', ⟨by have := HJ2.out; have := HK2.out; omega⟩, ⟨zB HB⟩⟩
        ·
         rw [if_neg c15] at H
         exact absurd H (by simp)
       ·
        rw [if_neg c14] at H
        exact absurd H (by simp)
      ·
       rw [if_neg c13] at H
       have c13b0 : decide (x36_2 < (l1.length : Int)) = false := decide_eq_false c13
       clear c13
       have H' := zA H
       clear H
       go_wp2
       go_loopg [9, 48] k2 (fun kq v9 v48 w' => ∃ (x9_3 : List (S28)) (x48_3 : Int), v48 = .int .i64 x48_3 ∧ Aside0 (zab.l1 kq l1 (wrap64 (1 + (Int.tmod (wrap64 (a0)) 1000))) x6_2 x9_3 l1 (l1.length : Int) x48_3 = some r) ∧ Aside0 (kq ≤ k2) ∧ Aside0 (Kd.N k28 28 w' w.heap.size (fun _ => True) v9 x9_3) ∧ Aside0 (Below w.heap.size w w'))
       case atStart => exact ⟨(([] : List (S28))), (0), (zF), H', ⟨Nat.le_refl _⟩, ⟨by first | exact Kd.S_nil _ _ _ _ _ | exact Kd.N_nil _ _ _ _ _ | exact Kd.V_nil _ _ _ _ _ | exact Kd.Q_nil _ _ _ _ _ | exact Kd.R_nil _ _ _ _ _⟩, ⟨zB HB⟩⟩
       case round =>
        clear H'
        try clear c1
        try clear p1
        try clear q1
        try clear hx1
        try clear p2
        try clear c4
        try clear c5
        try clear c6
        try clear c6b0
        try clear c6b1
        try clear c6b2
        try clear p6
        try clear c10
        try clear c13
        try clear c13b0
        try clear p13
        try clear q13
        try clear hx13
        try clear c14
        try clear c14b0
        try clear c15
        try clear c15b0
        try clear hx1317_0
        try clear p1317
        try clear p2
        try clear p6
        try clear q1317
        obtain ⟨x9_3, x48_3, rfl, HA, HK3, HO_9, HB⟩ := hrel
        cases gk with
        | zero => exact absurd HA.out (by simp [zab.l1])
        | succ k3 =>
         have H := HA.out
         clear HA
         simp only [zab.l1] at H
         by_cases c16 : x48_3 < (l1.length : Int)
         ·
          rw [if_pos c16] at H
          have c16b0 : decide (x48_3 < (l1.length : Int)) = true := decide_eq_true c16
          clear c16
          by_cases c17 : 0 ≤ x48_3
          ·
           rw [if_pos c17] at H
           have c17b0 : decide (0 ≤ x48_3) = true := decide_eq_true c17
           clear c17
           by_cases c18 : x48_3 < (l1.length : Int)
           ·
            rw [if_pos c18] at H
            have c18b0 : decide (x48_3 < (l1.length : Int)) = true := decide_eq_true c18
            clear c18
            replace H := zO H
            obtain ⟨t1319, A190, H⟩ := H
            try dsimp only at H
            have A19 := zA A190
            clear A190
            replace H := zO H
            obtain ⟨t1322, A200, H⟩ := H
            try dsimp only at H
            have A20 := zA A200
            clear A200
            replace H := zO H
            obtain ⟨⟨t1325, t1328, t1331⟩, A210, H⟩ := H
            try dsimp only at H
            have A21 := zA A210
            clear A210
            by_cases c22 : x9_3.length < 2932031007402
            ·
             rw [if_pos c22] at H
             have LMc22 := zA c22
             clear c22
             obtain ⟨y1333, hy1333⟩ : ∃ y_ : List (S28), y_ = (x9_3 ++ [(⟨t1325, t1328⟩ : S28)]) := ⟨_, rfl⟩
             replace H : (zab.l1 k3 l1 (wrap64 (1 + (Int.tmod (wrap64 (a0)) 1000))) x6_2 y1333 l1 (l1.length : Int) (wrap64 (x48_3 + 1))) = some r := by first | (rw [hy1333]; with_reducible exact H) | (have H2_ := (Option.bind_some _ _).symm.trans H; rw [hy1333]; with_reducible exact H2_) | (have H2_ := (Option.bind_some _ _).symm.trans H; with_reducible exact H2_) | with_reducible exact H | (rw [hy1333]; exact H) | exact H
             have Ny1333 := zA hy1333
             clear hy1333
             have H' := zA H
             clear H
             have p1318 : 0 ≤ (x48_3 : Int) := of_decide_eq_true (by first | (with_reducible assumption) | assumption)
             have q1318 : x48_3 < (l1.length : Int) := of_decide_eq_true (by first | (with_reducible assumption) | assumption)
             obtain ⟨ad1318, e1318, hx1318_0⟩ := Kd.at_int HR1.out x48_3 p1318 q1318
             cases e1318
             replace hx1318_0 := (HB.out.cell (World.block_lt_of_cell? w _ hx1318_0)).trans hx1318_0
             replace p1318 := eq_true p1318
             replace q1318 := eq_true q1318
             go_wp2_with (first | ((with_reducible refine zac (f := 36) rfl ?_); refine zar (some 57) rfl rfl Tryd.func36 (by kernel_rfl) rfl #[.int .u64 (IntKind.u64.wrap (wrap64 (1 + (wrap64 (rd l1 x48_3)))))] rfl (zE) ?_; (with_reducible refine (zb0.calls k3 (IntKind.u64.wrap (wrap64 (1 + (wrap64 (rd l1 x48_3))))) t1319 _ A19.out).mono ?_); rintro e w23 ⟨v1320, rfl, ho0, hb⟩; refine ⟨_, rfl, ?_⟩; have n0_ := zA (Kd.N_below (zN HO_9) hb); have n1_ := zA (Kd.za2 (Kd.zak (ok' := fun k_ => some k_ ≠ (u9 : Value).ownBlock) ho0 (fun k_ hk_ => (Kd.fresh' (Kd.N_lt (zN HO_9)) k_ hk_))) (za (zB HB))); have n2_ := zA (zad (zB HB) hb); clear HO_9 HB; have HO_9 := n0_; have HO1321 := n1_; have HB := n2_; clear n0_ n1_ n2_; (try clear hb); (try clear hb2); (try clear hk); (try clear hi); (try clear ho0)) | ((with_reducible refine zac (f := 36) rfl ?_); refine zar (some 60) rfl rfl Tryd.func36 (by kernel_rfl) rfl #[.int .u64 (IntKind.u64.wrap (x6_2))] rfl (zE) ?_; (with_reducible refine (zb0.calls k3 (IntKind.u64.wrap (x6_2)) t1322 _ A20.out).mono ?_); rintro e w24 ⟨v1323, rfl, ho0, hb⟩; refine ⟨_, rfl, ?_⟩; have n0_ := zA (Kd.N_below (zN HO_9) hb); have n1_ := zA (Kd.zao (zV HO1321) hb); have n2_ := zA (Kd.za2 (Kd.zak (ok' := fun k_ => some k_ ≠ (u9 : Value).ownBlock) ho0 (fun k_ hk_ => (Kd.fresh' (Kd.N_lt (zN HO_9)) k_ hk_))) (za (zB HB))); have n3_ := zA (zad (zB HB) hb); clear HO_9 HO1321 HB; have HO_9 := n0_; have HO1321 := n1_; have HO1324 := n2_; have HB := n3_; clear n0_ n1_ n2_ n3_; (try clear hb); (try clear hb2); (try clear hk); (try clear hi); (try clear ho0); obtain ⟨Ao25, co25, eo25⟩ := Kd.za1 HO1321.out; subst eo25; obtain ⟨Ao26, co26, eo26⟩ := Kd.za1 HO1324.out; subst eo26) | ((with_reducible refine zac (f := 24) rfl ?_); refine zar (some 61) rfl rfl Tryd.func24 (by kernel_rfl) rfl #[.slice Ao25 t1319.length co25, .slice Ao26 t1322.length co26] rfl (zE) ?_; (with_reducible refine (ratio_Of.calls k3 _ _ t1319 _ _ t1322 t1325 t1328 t1331 _ ?side1 ?side2 ?side3 ?side4 A21.out).mono ?_); (case side1 => exact zJ (Kd.zaj HO1321.out).2.2); (case side2 => exact (Kd.zaj HO1321.out).2.1); (case side3 => exact zJ (Kd.zaj HO1324.out).2.2); (case side4 => exact (Kd.zaj HO1324.out).2.1); rintro e w27 ⟨v1326, v1329, rfl, ho0, ho1, hb⟩; refine ⟨_, rfl, ?_⟩; have n0_ := zA (Kd.N_below (zN HO_9) hb); have n1_ := zA (Kd.zao (zV HO1321) hb); have n2_ := zA (Kd.zao (zV HO1324) hb); have n3_ := zA (Kd.za2 (Kd.zak (ok' := fun k_ => some k_ ≠ (u9 : Value).ownBlock) ho0 (fun k_ hk_ => (Kd.fresh' (Kd.N_lt (zN HO_9)) k_ hk_))) (za (zB HB))); have n4_ := zA (Kd.za2 (Kd.zak (ok' := fun k_ => some k_ ≠ (u9 : Value).ownBlock) ho1 (fun k_ hk_ => (Kd.fresh' (Kd.N_lt (zN HO_9)) k_ hk_))) (za (zB HB))); have n5_ := zA (zad (zB HB) hb); clear HO_9 HO1321 HO1324 HB; have HO_9 := n0_; have HO1321 := n1_; have HO1324 := n2_; have HO1327 := n3_; have HO1330 := n4_; have HB := n5_; clear n0_ n1_ n2_ n3_ n4_ n5_; (try clear hb); (try clear hb2); (try clear hk); (try clear hi); (try clear ho0); (try clear ho1)) | ((with_reducible refine zba (N := 12) rfl ?_); (try (refine zcb (by rfl) ?_; dsimp only)); refine zbb ?hg (N := 12) ?hd (cs := #[.slice none 0 0, .slice none 0 0]) (t := 28) ?hr ?_; (case hd => rfl); (case hg => rfl); (case hr => first | (go_simp; done) | (go_simp; rfl)); intro gb1332 hg w28 hbox hb; have n0_ := zA (Kd.N_below (Kd.N_elderB (zN HO_9) gb1332 (Nat.le_of_eq hg.symm)) hb); have n1_ := zA (Kd.zao (Kd.zcf (zV HO1321) gb1332 (Nat.le_of_eq hg.symm)) hb); have n2_ := zA (Kd.zao (Kd.zcf (zV HO1324) gb1332 (Nat.le_of_eq hg.symm)) hb); have n3_ := zA (Kd.zao (Kd.zcf (zV HO1327) gb1332 (Nat.le_of_eq hg.symm)) hb); have n4_ := zA (Kd.zao (Kd.zcf (zV HO1330) gb1332 (Nat.le_of_eq hg.symm)) hb); have n5_ := zA (zad (zB HB) hb); have n6_ := zA (hbox); have n7_ := zA ((by rw [hg]; exact (za (zB HB)) : w.heap.size ≤ gb1332)); have n8_ := zA ((by rw [hg]; exact (za (zB HB)) : w.heap.size ≤ gb1332)); clear HO_9 HO1321 HO1324 HO1327 HO1330 HB; have HO_9 := n0_; have HO1321 := n1_; have HO1324 := n2_; have HO1327 := n3_; have HO1330 := n4_; have HB := n5_; have BK1332 := n6_; have GW1332 := n7_; have GE1332 := n8_; clear n0_ n1_ n2_ n3_ n4_ n5_ n6_ n7_ n8_ hb hbox hg; obtain ⟨Ao29, co29, eo29⟩ := Kd.za1 HO1327.out; subst eo29; have hcz30_0 : w28.cell? ⟨gb1332, 0, none⟩ = some (.slice none 0 0) := (zae BK1332.out 0).trans rfl; have hcz30_1 : w28.cell? ⟨gb1332, 1, none⟩ = some (.slice none 0 0) := (zae BK1332.out 1).trans rfl; have hfz30_0 := zan BK1332.out 0; have hfz30_1 := zan BK1332.out 1; obtain ⟨Ao31, co31, eo31⟩ := Kd.za1 HO1330.out; subst eo31) | ((with_reducible refine gate_store (t := 28) (p := 12) rfl ?_); refine store_event (t := 28) (p := 12) (v := ?vo_w32) (w1 := ((w28.setCell ⟨gb1332, 0, none⟩ (.slice Ao29 t1325.length co29)).setCell ⟨gb1332, 1, none⟩ (.slice Ao31 t1328.length co31))) ?hg ?ho ?hn ?hr ?_; (case ho => rfl); (case hg => rfl); (case hn => rfl); (case hr => first | (go_simp; done) | (go_simp; rfl)); intro w32 hw; have n0_ : Aside0 (Kd.N k28 28 w32 w.heap.size (fun k_ => k_ ≠ gb1332) u9 x9_3) := ⟨(by rw [hw]; exact (by (with_reducible repeat (first | apply Kd.N_alloc | apply Kd.N_drewN | apply Kd.N_drew)); exact Kd.N_mono (Kd.N_far (p := ⟨gb1332, 1, none⟩) (Kd.N_far (p := ⟨gb1332, 0, none⟩) (Kd.N_mono HO_9.out (fun k_ hk => (⟨hk, hk.2⟩ : _ ∧ k_ ≠ gb1332))) (fun _ hk => hk.2) (.slice Ao29 t1325.length co29)) (fun _ hk => hk.2) (.slice Ao31 t1328.length co31)) (fun _ hk => hk.1.2)))⟩; have n1_ : Aside0 (Kd.V (Kd.int .u64) 57 w32 w.heap.size (fun k_ => some k_ ≠ (u9 : Value).ownBlock ∧ k_ ≠ gb1332) (.slice Ao25 t1319.length co25) t1319) := ⟨(by rw [hw]; exact (by (with_reducible repeat (first | apply Kd.zbf | apply Kd.zbe | apply Kd.zbh)); exact Kd.zak (Kd.V_far (p := ⟨gb1332, 1, none⟩) (Kd.V_far (p := ⟨gb1332, 0, none⟩) (Kd.zak HO1321.out (fun k_ hk => (⟨hk, hk.2⟩ : _ ∧ k_ ≠ gb1332))) (fun _ hk => hk.2) (.slice Ao29 t1325.length co29)) (fun _ hk => hk.2) (.slice Ao31 t1328.length co31)) (fun _ hk => ⟨hk.1.1, hk.1.2⟩)))⟩; have n2_ : Aside0 (Kd.V (Kd.int .u64) 57 w32 w.heap.size (fun k_ => some k_ ≠ (u9 : Value).ownBlock ∧ k_ ≠ gb1332) (.slice Ao26 t1322.length co26) t1322) := ⟨(by rw [hw]; exact (by (with_reducible repeat (first | apply Kd.zbf | apply Kd.zbe | apply Kd.zbh)); exact Kd.zak (Kd.V_far (p := ⟨gb1332, 1, none⟩) (Kd.V_far (p := ⟨gb1332, 0, none⟩) (Kd.zak HO1324.out (fun k_ hk => (⟨hk, hk.2⟩ : _ ∧ k_ ≠ gb1332))) (fun _ hk => hk.2) (.slice Ao29 t1325.length co29)) (fun _ hk => hk.2) (.slice Ao31 t1328.length co31)) (fun _ hk => ⟨hk.1.1, hk.1.2⟩)))⟩; have n3_ : Aside0 (Kd.V (Kd.int .u64) 57 w32 w.heap.size (fun k_ => some k_ ≠ (u9 : Value).ownBlock ∧ k_ ≠ gb1332) (.slice Ao29 t1325.length co29) t1325) := ⟨(by rw [hw]; exact (by (with_reducible repeat (first | apply Kd.zbf | apply Kd.zbe | apply Kd.zbh)); exact Kd.zak (Kd.V_far (p := ⟨gb1332, 1, none⟩) (Kd.V_far (p := ⟨gb1332, 0, none⟩) (Kd.zak HO1327.out (fun k_ hk => (⟨hk, hk.2⟩ : _ ∧ k_ ≠ gb1332))) (fun _ hk => hk.2) (.slice Ao29 t1325.length co29)) (fun _ hk => hk.2) (.slice Ao31 t1328.length co31)) (fun _ hk => ⟨hk.1.1, hk.1.2⟩)))⟩; have n4_ : Aside0 (Kd.V (Kd.int .u64) 57 w32 w.heap.size (fun k_ => some k_ ≠ (u9 : Value).ownBlock ∧ k_ ≠ gb1332) (.slice Ao31 t1328.length co31) t1328) := ⟨(by rw [hw]; exact (by (with_reducible repeat (first | apply Kd.zbf | apply Kd.zbe | apply Kd.zbh)); exact Kd.zak (Kd.V_far (p := ⟨gb1332, 1, none⟩) (Kd.V_far (p := ⟨gb1332, 0, none⟩) (Kd.zak HO1330.out (fun k_ hk => (⟨hk, hk.2⟩ : _ ∧ k_ ≠ gb1332))) (fun _ hk => hk.2) (.slice Ao29 t1325.length co29)) (fun _ hk => hk.2) (.slice Ao31 t1328.length co31)) (fun _ hk => ⟨hk.1.1, hk.1.2⟩)))⟩; have n5_ : Aside0 (w32.heap[gb1332]? = some (.cells #[.slice Ao29 t1325.length co29, .slice Ao31 t1328.length co31] 28 (0, 0))) := ⟨(by rw [hw]; exact (by (with_reducible repeat (first | refine zau ?_ _ | refine zas ?_ | refine zat ?_ _)); refine zbx (cs := #[.slice Ao29 t1325.length co29, .slice none 0 0]) ?_ 1 _ rfl; (with_reducible repeat (first | refine zau ?_ _ | refine zas ?_ | refine zat ?_ _)); refine zbx (cs := #[.slice none 0 0, .slice none 0 0]) ?_ 0 _ rfl; (with_reducible repeat (first | refine zau ?_ _ | refine zas ?_ | refine zat ?_ _)); exact BK1332.out))⟩; have n6_ : Aside0 (Below w.heap.size w w32) := ⟨(by rw [hw]; exact (zB HB))⟩; clear hw HO_9 HO1321 HO1324 HO1327 HO1330 BK1332 HB; have HO_9 := n0_; have HO1321 := n1_; have HO1324 := n2_; have HO1327 := n3_; have HO1330 := n4_; have BK1332 := n5_; have HB := n6_; clear n0_ n1_ n2_ n3_ n4_ n5_ n6_; have hcz33_0 : w32.cell? ⟨gb1332, 0, none⟩ = some (.slice Ao29 t1325.length co29) := (zae BK1332.out 0).trans rfl; have hcz33_1 : w32.cell? ⟨gb1332, 1, none⟩ = some (.slice Ao31 t1328.length co31) := (zae BK1332.out 1).trans rfl; have hfz33_0 := zan BK1332.out 0; have hfz33_1 := zan BK1332.out 1) | ((with_reducible refine zb3 (b := .append) (xs := #[.tmp 64, .tmp 66]) rfl ?_); (try (refine zcb (by rfl) ?_; dsimp only)); at_builtin; refine Kd.N_append k28 (w0 := w) w.heap.size rfl (.tmp 64) (.tmp 66) 74 28 (.agg #[(.slice none 0 0), (.slice none 0 0)]) 48 rfl Tryd.underlying74 info28 rfl (by decide) (by omega) u9 x9_3 (⟨t1325, t1328⟩ : S28) [.slice Ao29 t1325.length co29, .slice Ao31 t1328.length co31] (fun k_ => k_ ≠ gb1332) (fun k_ => ((fun k_ => k_ ≠ gb1332)) k_ ∧ some k_ ≠ (u9 : Value).ownBlock) rfl rfl ?aP (fun _ hk => hk) ?aF ?aO ?aB ?aS ?aL ?_; (case aP => exact (k28_mkF _ _ (⟨t1325, t1328⟩ : S28) (Kd.zaj (Kd.zak (ok' := (fun k_ => ((fun k_ => k_ ≠ gb1332)) k_ ∧ some k_ ≠ (u9 : Value).ownBlock)) (HO1327.out) (fun k_ hk => ⟨hk.2, hk.1⟩))).2.1 (Kd.V_F (Kd.zak (ok' := (fun k_ => ((fun k_ => k_ ≠ gb1332)) k_ ∧ some k_ ≠ (u9 : Value).ownBlock)) (HO1327.out) (fun k_ hk => ⟨hk.2, hk.1⟩))) (Kd.zaj (Kd.zak (ok' := (fun k_ => ((fun k_ => k_ ≠ gb1332)) k_ ∧ some k_ ≠ (u9 : Value).ownBlock)) (HO1330.out) (fun k_ hk => ⟨hk.2, hk.1⟩))).2.1 (Kd.V_F (Kd.zak (ok' := (fun k_ => ((fun k_ => k_ ≠ gb1332)) k_ ∧ some k_ ≠ (u9 : Value).ownBlock)) (HO1330.out) (fun k_ hk => ⟨hk.2, hk.1⟩))))); (case aB => exact (zB HB)); (case aF => exact (fun k_ hk => Kd.freshB (g := gb1332) (o := .cells #[.slice Ao29 t1325.length co29, .slice Ao31 t1328.length co31] 28 (0, 0)) (zK BK1332) k_ hk)); (case aO => exact (zN HO_9)); (case aS => exact (za (zB HB))); (case aL => have := LMc22.out; omega); intro v1334 w34 ho hb hg hat; rw [← Ny1333.out] at ho; have n0_ := zA (Kd.V_afterv (ok := (fun k_ => k_ ≠ gb1332)) (by (with_reducible repeat (first | apply Kd.zbf | apply Kd.zbe | apply Kd.zbh)); exact Kd.zak HO1321.out (fun _ hk => ⟨hk.2, hk.1⟩)) hg hat); have n1_ := zA (Kd.V_afterv (ok := (fun k_ => k_ ≠ gb1332)) (by (with_reducible repeat (first | apply Kd.zbf | apply Kd.zbe | apply Kd.zbh)); exact Kd.zak HO1324.out (fun _ hk => ⟨hk.2, hk.1⟩)) hg hat); have n2_ := zA (Kd.V_afterv (ok := (fun k_ => k_ ≠ gb1332)) (by (with_reducible repeat (first | apply Kd.zbf | apply Kd.zbe | apply Kd.zbh)); exact Kd.zak HO1327.out (fun _ hk => ⟨hk.2, hk.1⟩)) hg hat); have n3_ := zA (Kd.V_afterv (ok := (fun k_ => k_ ≠ gb1332)) (by (with_reducible repeat (first | apply Kd.zbf | apply Kd.zbe | apply Kd.zbh)); exact Kd.zak HO1330.out (fun _ hk => ⟨hk.2, hk.1⟩)) hg hat); have n4_ := zA (blk_grown (g := gb1332) (o := .cells #[.slice Ao29 t1325.length co29, .slice Ao31 t1328.length co31] 28 (0, 0)) (zK BK1332) hg (Kd.N_away HO_9.out (fun _ hk => hk))); have n5_ := zA (hb); have n6_ := zA (ho); clear HO1321 HO1324 HO1327 HO1330 BK1332 HB HO_9; have HO1321 := n0_; have HO1324 := n1_; have HO1327 := n2_; have HO1330 := n3_; have BK1332 := n4_; have HB := n5_; have HO1335 := n6_; clear n0_ n1_ n2_ n3_ n4_ n5_ n6_ ho hb hg hat))
             go_roundg k3
             case measure => have := HJ2.out; have := HK2.out; have := HK3.out; omega
             case rel => exact ⟨(y1333), (wrap64 (x48_3 + 1)), (zF), H', ⟨by have := HJ2.out; have := HK2.out; have := HK3.out; omega⟩, ⟨by (with_reducible repeat (first | apply Kd.N_alloc | apply Kd.N_drewN | apply Kd.N_drew)); exact Kd.N_mono HO1335.out (fun _ hk => trivial)⟩, ⟨zB HB⟩⟩
            ·
             rw [if_neg c22] at H
             exact absurd H (by simp)
           ·
            rw [if_neg c18] at H
            exact absurd H (by simp)
          ·
           rw [if_neg c17] at H
           exact absurd H (by simp)
         ·
          rw [if_neg c16] at H
          have c16b0 : decide (x48_3 < (l1.length : Int)) = false := decide_eq_false c16
          clear c16
          replace H := zO H
          obtain ⟨⟨t1336, t1337⟩, A350, H⟩ := H
          try dsimp only at H
          have A35 := zA A350
          clear A350
          replace H := zO H
          obtain ⟨t1340, A360, H⟩ := H
          try dsimp only at H
          have A36 := zA A360
          clear A360
          by_cases c37 : t1337 = 0
          ·
           rw [if_pos c37] at H
           have c37b0 : (t1337 == 0) = true := beq_iff_eq.mpr c37
           have c37b1 : (t1337 != 0) = false := bne_eq_false_iff_eq.mpr c37
           clear c37
           by_cases c38 : (t1336.length : Int) = (l1.length : Int)
           ·
            rw [if_pos c38] at H
            have c38b0 : ((t1336.length : Int) == (l1.length : Int)) = true := beq_iff_eq.mpr c38
            have c38b1 : ((t1336.length : Int) != (l1.length : Int)) = false := bne_eq_false_iff_eq.mpr c38
            have c38b2 : (t1336.length == l1.length) = true := by first | simpa using c38 | (simp at c38 ⊢; omega)
            clear c38
            by_cases c39 : t1340 ≤ (wrap64 ((wrap64 (1 + (Int.tmod (wrap64 (a0)) 1000))) + (l1.length : Int)))
            ·
             rw [if_pos c39] at H
             have c39b0 : decide (t1340 ≤ (wrap64 ((wrap64 (1 + (Int.tmod (wrap64 (a0)) 1000))) + (l1.length : Int)))) = true := decide_eq_true c39
             clear c39
             obtain rfl := Option.some.inj H
             obtain ⟨Ao40, co40, eo40⟩ := Kd.N_slice HO_9.out
             subst eo40
             go_wp2_with (first | ((with_reducible refine zac (f := 48) rfl ?_); refine zar (some 72) rfl rfl Tryd.func48 (by kernel_rfl) rfl #[.int .i64 (wrap64 (1 + (Int.tmod (wrap64 (a0)) 1000))), .slice Ao40 x9_3.length co40] rfl (zE) ?_; (with_reducible refine (za8.calls k3 (wrap64 (1 + (Int.tmod (wrap64 (a0)) 1000))) _ _ x9_3 t1336 t1337 _ ?side1 ?side2 A35.out).mono ?_); (case side1 => exact zJ (Kd.N_reads' HO_9.out).2.2); (case side2 => exact (Kd.N_reads' HO_9.out).2.1); rintro e w41 ⟨v1338, rfl, ho0, hb⟩; refine ⟨_, rfl, ?_⟩; have n0_ := zA (Kd.N_elder' (zN HO_9) (Kd.R_base ho0) hb); have n1_ := zA (Kd.R_lower ho0 (za (zB HB))); have n2_ := zA (zad (zB HB) hb); clear HO_9 HB; have HO_9 := n0_; have HO1339 := n1_; have HB := n2_; clear n0_ n1_ n2_; (try clear hb); (try clear hb2); (try clear hk); (try clear hi); (try clear ho0); obtain ⟨Ao42, co42, eo42⟩ := Kd.zcd HO1339.out; subst eo42) | ((with_reducible refine zac (f := 49) rfl ?_); refine zar (some 76) rfl rfl Tryd.func49 (by kernel_rfl) rfl #[.slice Ao42 t1336.length co42] rfl (zE) ?_; (with_reducible refine (zbz.calls k3 _ _ t1336 t1340 _ ?side1 ?side2 A36.out).mono ?_); (case side1 => exact zJ (Kd.zbl HO1339.out).2.2); (case side2 => exact (Kd.zbl HO1339.out).2.1); rintro e w' ⟨rfl, ⟨nd, rfl⟩⟩; refine ⟨_, rfl, ?_⟩))
             go_ret
             exact ⟨zW, zB HB⟩
            ·
             rw [if_neg c39] at H
             exact absurd H (by simp)
           ·
            rw [if_neg c38] at H
            exact absurd H (by simp)
          ·
           rw [if_neg c37] at H
           exact absurd H (by simp)
def zab.Pure : Prop := ∀ (a0 : Int) (l1 : List Int), (Lit.int .u16 a0).wf = true → l1.length ≤ maxLen → l1.length * 1 ≤ 140737488351232 → (∀ x ∈ l1, (Lit.int .u8 x).wf = true) → ∃ k, zab.f k a0 l1 = some true
theorem zab.walk (P : zab.Pure) (a0 : Int) (a1 : Option Addr) (len1 cap1 : Nat) (z1 : List Int) (w : World) (w0 : (Lit.int .u16 a0).wf = true) (w1 : (a1 = none ∧ len1 = 0 ∧ cap1 = 0 ∧ z1 = []) ∨ ∃ x, a1 = some x ∧ len1 ≤ cap1 ∧ cap1 ≤ maxLen ∧ z1.length = cap1 ∧ (∀ i, i < z1.length → w.cell? (x.add i) = some (.int .u8 (z1.getD i 0))) ∧ ∀ n ∈ z1, (Lit.int .u8 n).wf = true) (y1 : len1 * 1 ≤ 140737488351232) (hG : Glob w) :
  Calls Tryd.prog 13 #[.int .u16 a0, .slice a1 len1 cap1] w fun e w' => e = .returned (.bool true) ∧ Below w.heap.size w w' := by
 obtain ⟨l1, rfl, hr1, hm1, hw1, hc1⟩ := ReadsInt.ofRowC w1
 obtain ⟨k, h⟩ := P a0 l1 w0 hm1 y1 hw1
 refine (zab.calls k a0 _ _ l1 true w (Kd.C_of_reads (d := (0 : Int)) (h1 := fun _ => rfl) hr1) hc1 hG h).mono ?_
 rintro e w' ⟨rfl, hd⟩
 exact ⟨rfl, hd⟩
def Ev {α : Type} (F : Nat → Option α) (r : α) : Prop := ∃ K, ∀ k, K ≤ k → F k = some r
theorem Ev.const {α : Type} (r : α) : Ev (fun _ => some r) r := ⟨0, fun _ _ => rfl⟩
theorem Ev.congr {α : Type} {F G : Nat → Option α} {r : α} (h : ∀ k, F k = G k) (hg : Ev G r) : Ev F r := by
 obtain ⟨K, hK⟩ := hg
 exact ⟨K, fun k hk => (h k).trans (hK k hk)⟩
theorem Ev.step {α : Type} {F G : Nat → Option α} {r : α} (h : ∀ k, F (k + 1) = G k) (hg : Ev G r) : Ev F r := by
 obtain ⟨K, hK⟩ := hg
 refine ⟨K + 1, fun k hk => ?_⟩
 obtain ⟨m, rfl⟩ : ∃ m, k = m + 1 := ⟨k - 1, by omega⟩
 exact (h m).trans (hK m (by omega))
theorem Ev.bind {α β : Type} {F : Nat → Option α} {G : Nat → α → Option β} {x : α} {r : β} (hf : Ev F x) (hg : Ev (fun k => G k x) r) : Ev (fun k => (F k).bind (G k)) r := by
 obtain ⟨K, hK⟩ := hf
 obtain ⟨L, hL⟩ := hg
 refine ⟨K + L, fun k hk => ?_⟩
 show (F k).bind (G k) = some r
 rw [hK k (by omega)]
 exact hL k (by omega)
theorem Ev.get {α : Type} {F : Nat → Option α} {r : α} (h : Ev F r) : ∃ k, F k = some r := by
 obtain ⟨K, hK⟩ := h
 exact ⟨K, hK K (Nat.le_refl _)⟩
theorem w64s {x : Int} (h0 : -9223372036854775808 ≤ x) (h1 : x < 9223372036854775808) : wrap64 x = x := by unfold wrap64; omega
def val (B : Nat) : List Int → Nat
 | [] => 0
 | x :: xs => x.toNat + B * val B xs
def Dig (B : Nat) (l : List Int) : Prop := ∀ x ∈ l, 0 ≤ x ∧ x < (B : Int)
def strip : List Int → List Int
 | [] => []
 | x :: xs => if strip xs = [] then (if x = 0 then [] else [x]) else x :: strip xs
def dig (B n : Nat) : List Int := if h : n = 0 ∨ B ≤ 1 then [] else ((n % B : Nat) : Int) :: dig B (n / B)
termination_by n
decreasing_by exact Nat.div_lt_self (by omega) (by omega)
theorem zca (B : Nat) : dig B 0 = [] := by rw [dig]; simp
theorem dig_pos {B n : Nat} (hB : 1 < B) (hn : n ≠ 0) : dig B n = ((n % B : Nat) : Int) :: dig B (n / B) := by
 rw [dig, dif_neg (by omega)]
theorem dig_ne {B n : Nat} (hB : 1 < B) (hn : n ≠ 0) : dig B n ≠ [] := by rw [dig_pos hB hn]; simp
theorem val_dig {B : Nat} (hB : 1 < B) (n : Nat) : val B (dig B n) = n := by
 induction n using Nat.strongRecOn with
 | ind n ih =>
  by_cases hn : n = 0
  ·
   subst hn
   rw [zca]
   rfl
  ·
   rw [dig_pos hB hn, val, ih (n / B) (Nat.div_lt_self (by omega) hB)]
   have := Nat.mod_add_div n B
   omega
theorem Dig_dig {B : Nat} (hB : 1 < B) (n : Nat) : Dig B (dig B n) := by
 induction n using Nat.strongRecOn with
 | ind n ih =>
  by_cases hn : n = 0
  ·
   subst hn
   rw [zca]
   intro x hx
   cases hx
  ·
   rw [dig_pos hB hn]
   intro x hx
   rcases List.mem_cons.1 hx with rfl | hx
   ·
    have := Nat.mod_lt n (show 0 < B by omega)
    omega
   ·
    exact ih (n / B) (Nat.div_lt_self (by omega) hB) x hx
theorem Dig.cons {B : Nat} {x : Int} {l : List Int} (h : Dig B (x :: l)) : (0 ≤ x ∧ x < (B : Int)) ∧ Dig B l := ⟨h x (by simp), fun y hy => h y (by simp [hy])⟩
theorem Dig.mk {B : Nat} {x : Int} {l : List Int} (h0 : 0 ≤ x) (h1 : x < (B : Int)) (h : Dig B l) : Dig B (x :: l) := by
 intro y hy
 rcases List.mem_cons.1 hy with rfl | hy
 ·
  exact ⟨h0, h1⟩
 ·
  exact h y hy
theorem Dig.nil (B : Nat) : Dig B [] := by intro x hx; cases hx
theorem Dig.app {B : Nat} {a b : List Int} (ha : Dig B a) (hb : Dig B b) : Dig B (a ++ b) := by
 intro x hx
 rcases List.mem_append.1 hx with h | h
 ·
  exact ha x h
 ·
  exact hb x h
theorem strip_dig {B : Nat} (hB : 1 < B) : ∀ (l : List Int), Dig B l → strip l = dig B (val B l)
 | [], _ => by rw [val, zca]; rfl
 | x :: xs, h => by
  obtain ⟨⟨h0, h1⟩, h2⟩ := h.cons
  have ih := strip_dig hB xs h2
  have hm : ∀ v, (x.toNat + B * v) % B = x.toNat := fun v => by
   rw [Nat.add_mul_mod_self_left, Nat.mod_eq_of_lt (by omega)]
  have hd : ∀ v, (x.toNat + B * v) / B = v := fun v => by
   rw [Nat.add_mul_div_left _ _ (by omega), Nat.div_eq_of_lt (by omega), Nat.zero_add]
  rw [strip, val, ih]
  by_cases hv : val B xs = 0
  ·
   rw [hv, zca, if_pos rfl]
   by_cases hx : x = 0
   ·
    subst hx
    simp [zca]
   ·
    rw [if_neg hx, dig_pos hB (by omega), hm, hd, zca]
    congr 1
    omega
  ·
   rw [if_neg (dig_ne hB hv)]
   have hne : x.toNat + B * val B xs ≠ 0 := by
    have := Nat.mul_pos (show 0 < B by omega) (Nat.pos_of_ne_zero hv)
    omega
   rw [dig_pos hB hne, hm, hd]
   congr 1
   omega
theorem strip_snoc0 : ∀ (l : List Int), strip (l ++ [0]) = strip l
 | [] => by simp [strip]
 | x :: xs => by
  rw [List.cons_append, strip, strip, strip_snoc0 xs]
theorem strip_snoc : ∀ (l : List Int) (x : Int), x ≠ 0 → strip (l ++ [x]) = l ++ [x]
 | [], x, h => by simp [strip, h]
 | y :: ys, x, h => by
  rw [List.cons_append, strip, strip_snoc ys x h, if_neg (by simp)]
def Good (l : List Int) : Prop := l = [] ∨ l.getD (l.length - 1) 0 ≠ 0
theorem dig_last {B : Nat} (hB : 1 < B) (n : Nat) : Good (dig B n) := by
 induction n using Nat.strongRecOn with
 | ind n ih =>
  by_cases hn : n = 0
  ·
   subst hn
   exact .inl (zca B)
  ·
   right
   rw [dig_pos hB hn]
   have ih := ih (n / B) (Nat.div_lt_self (by omega) hB)
   by_cases hd : n / B = 0
   ·
    rw [hd, zca]
    have h1 := Nat.div_add_mod n B
    rw [hd] at h1
    simp
    omega
   ·
    have hne := dig_ne hB hd
    rcases ih with ih | ih
    ·
     exact absurd ih hne
    ·
     have hl : 0 < (dig B (n / B)).length := List.length_pos_iff.2 hne
     simp only [List.length_cons, Nat.add_sub_cancel]
     rw [show (dig B (n / B)).length = (dig B (n / B)).length - 1 + 1 by omega, List.getD_cons_succ]
     exact ih
theorem dig_length {B : Nat} (hB : 1 < B) : ∀ (m n : Nat), n < B ^ m → (dig B n).length ≤ m
 | 0, n, h => by
  have : n = 0 := by simpa using h
  subst this
  rw [zca]
  exact Nat.le_refl _
 | m + 1, n, h => by
  by_cases hn : n = 0
  ·
   subst hn
   rw [zca]
   exact Nat.zero_le _
  ·
   rw [dig_pos hB hn, List.length_cons]
   have : n / B < B ^ m := by
    rw [Nat.div_lt_iff_lt_mul (by omega)]
    rwa [Nat.pow_succ] at h
   have := dig_length hB m _ this
   omega
theorem val_lt {B : Nat} : ∀ (l : List Int), Dig B l → val B l < B ^ l.length
 | [], _ => by simp [val]
 | x :: xs, h => by
  obtain ⟨⟨h0, h1⟩, h2⟩ := h.cons
  have ih := val_lt xs h2
  rw [val, List.length_cons, Nat.pow_succ]
  have : B * (val B xs + 1) ≤ B * B ^ xs.length := Nat.mul_le_mul_left _ ih
  rw [Nat.mul_add] at this
  rw [Nat.mul_comm (B ^ xs.length)]
  omega
def V (B : Nat) (l : List Int) (i : Nat) : Nat := val B (l.drop i)
theorem V_zero (B : Nat) (l : List Int) : V B l 0 = val B l := rfl
theorem V_end (B : Nat) {l : List Int} {i : Nat} (h : l.length ≤ i) : V B l i = 0 := by
 unfold V
 rw [List.drop_eq_nil_of_le h]
 rfl
theorem V_step (B : Nat) (l : List Int) (i : Nat) : V B l i = (l.getD i 0).toNat + B * V B l (i + 1) := by
 by_cases h : i < l.length
 ·
  unfold V
  rw [List.drop_eq_getElem_cons h, val, List.getD_eq_getElem?_getD, List.getElem?_eq_getElem h]
  rfl
 ·
  rw [V_end B (by omega), V_end B (by omega), List.getD_eq_getElem?_getD, List.getElem?_eq_none (by omega)]
  rfl
theorem Dig.get {B : Nat} (hB : 0 < B) {l : List Int} (h : Dig B l) (i : Nat) : 0 ≤ l.getD i 0 ∧ l.getD i 0 < (B : Int) := by
 by_cases hi : i < l.length
 ·
  rw [List.getD_eq_getElem?_getD, List.getElem?_eq_getElem hi]
  exact h _ (List.getElem_mem hi)
 ·
  rw [List.getD_eq_getElem?_getD, List.getElem?_eq_none (by omega)]
  simp
  omega
theorem V_pos {B : Nat} (hB : 1 < B) {l : List Int} (h : Dig B l) (hg : Good l) (i : Nat) (hi : i < l.length) : 0 < V B l i := by
 rcases hg with rfl | hg
 ·
  simp at hi
 ·
  obtain ⟨m, hm⟩ : ∃ m, l.length - 1 = i + m := ⟨l.length - 1 - i, by omega⟩
  rw [hm] at hg
  have key : ∀ m i, l.getD (i + m) 0 ≠ 0 → 0 < V B l i := by
   intro m
   induction m with
   | zero =>
    intro i h0
    rw [V_step]
    have := (h.get (show 0 < B by omega) i).1
    rw [Nat.add_zero] at h0
    omega
   | succ m ih =>
    intro i h0
    rw [V_step]
    have := ih (i + 1) (by rw [show i + 1 + m = i + (m + 1) by omega]; exact h0)
    have := Nat.mul_pos (show 0 < B by omega) this
    omega
  exact key m i hg
theorem rd_nat (l : List Int) (i : Nat) : rd l (i : Int) = l.getD i 0 := by
 unfold rd
 simp
theorem val_append (B : Nat) : ∀ (a b : List Int), val B (a ++ b) = val B a + B ^ a.length * val B b
 | [], b => by simp [val]
 | x :: xs, b => by
  rw [List.cons_append, val, val, val_append B xs b, List.length_cons, Nat.pow_succ, Nat.mul_add, ← Nat.mul_assoc, Nat.mul_comm B (B ^ xs.length)]
  omega
theorem zb7 (B : Nat) : ∀ n, val B (List.replicate n 0) = 0
 | 0 => rfl
 | n + 1 => by rw [List.replicate_succ, val, zb7 B n]; simp
theorem Dig.rep {B : Nat} (hB : 0 < B) (n : Nat) : Dig B (List.replicate n 0) := by
 intro x hx
 obtain ⟨_, rfl⟩ := List.mem_replicate.1 hx
 omega
theorem wadd (i j : Nat) (h : i + j < 4611686018427387904) : wrap64 ((i : Int) + (j : Int)) = ((i + j : Nat) : Int) := by rw [w64s (by omega) (by omega)]; omega
theorem wadd1 (i : Nat) (h : i < 4611686018427387904) : wrap64 ((i : Int) + 1) = ((i + 1 : Nat) : Int) := by rw [w64s (by omega) (by omega)]; omega
theorem wsub1 (i : Nat) (h : i < 4611686018427387904) (h0 : 0 < i) : wrap64 ((i : Int) - 1) = ((i - 1 : Nat) : Int) := by rw [w64s (by omega) (by omega)]; omega
theorem wid (i : Nat) (h : i < 4611686018427387904) : wrap64 (i : Int) = (i : Int) := w64s (by omega) (by omega)
def sgn (x y : Nat) : Int := if x = y then 0 else if x < y then -1 else 1
theorem take_snoc (l : List Int) (n : Nat) (h : n < l.length) : l.take (n + 1) = l.take n ++ [l.getD n 0] := by
 rw [List.take_succ_eq_append_getElem h, List.getD_eq_getElem?_getD, List.getElem?_eq_getElem h]
 rfl
theorem V_lt {B : Nat} (hB : 0 < B) {a b : List Int} (ha : Dig B a) (hb : Dig B b) : ∀ i : Nat, V B a i < V B b i → val B a < val B b
 | 0, h => h
 | i + 1, h => by
  refine V_lt hB ha hb i ?_
  rw [V_step B a i, V_step B b i]
  have h1 := (ha.get hB i)
  have h2 : B * (V B a (i + 1) + 1) ≤ B * V B b (i + 1) := Nat.mul_le_mul_left _ h
  rw [Nat.mul_add] at h2
  omega
theorem len_lt {B : Nat} (hB : 1 < B) {a b : List Int} (ha : Dig B a) (hb : Dig B b) (hg : Good b) (h : a.length < b.length) : val B a < val B b := by
 refine V_lt (by omega) ha hb (b.length - 1) ?_
 rw [V_end B (show a.length ≤ b.length - 1 by omega)]
 exact V_pos hB hb hg _ (by omega)
theorem val_set (B : Nat) : ∀ (l : List Int) (j : Nat) (v : Int), j < l.length → val B (l.set j v) + B ^ j * (l.getD j 0).toNat = val B l + B ^ j * v.toNat
 | [], j, v, h => by simp at h
 | x :: xs, 0, v, h => by
  simp [val]
  omega
 | x :: xs, j + 1, v, h => by
  have ih := val_set B xs j v (by simpa using h)
  rw [List.set_cons_succ, val, val, List.getD_cons_succ, Nat.pow_succ, Nat.mul_comm (B ^ j) B, Nat.mul_assoc, Nat.mul_assoc]
  have : B * (val B (xs.set j v) + B ^ j * (xs.getD j 0).toNat) = B * (val B xs + B ^ j * v.toNat) := by rw [ih]
  rw [Nat.mul_add, Nat.mul_add] at this
  omega
theorem dig_set {B : Nat} {l : List Int} (h : Dig B l) (j : Nat) {v : Int} (h0 : 0 ≤ v) (h1 : v < (B : Int)) : Dig B (l.set j v) := by
 intro x hx
 rcases List.mem_or_eq_of_mem_set hx with h2 | rfl
 ·
  exact h x h2
 ·
  exact ⟨h0, h1⟩
theorem getD_set_ne {l : List Int} {i j : Nat} {v : Int} (h : i ≠ j) : (l.set i v).getD j 0 = l.getD j 0 := by
 rw [List.getD_eq_getElem?_getD, List.getD_eq_getElem?_getD, List.getElem?_set_ne h]
theorem mul_val (X B o x y c vo vs V V' q r : Nat) (hs : vs + X * o = vo + X * r) (hV : V = y + B * V') (hd : o + x * y + c = B * q + r) : vs + X * B * q + X * B * (x * V') = vo + X * c + X * (x * V) := by
 have h1 : X * (o + x * y + c) = X * (B * q + r) := by rw [hd]
 rw [hV]
 simp only [Nat.mul_add] at h1 ⊢
 have e1 : X * B * q = X * (B * q) := Nat.mul_assoc _ _ _
 have e2 : X * B * (x * V') = X * (x * (B * V')) := by rw [Nat.mul_assoc, Nat.mul_left_comm B x V']
 rw [e1, e2]
 omega
theorem V_bound {B : Nat} (hB : 0 < B) {l : List Int} (h : Dig B l) (i : Nat) : V B l i < B ^ l.length := by
 have h1 : Dig B (l.drop i) := fun x hx => h x (List.mem_of_mem_drop hx)
 have h2 := val_lt _ h1
 refine Nat.lt_of_lt_of_le h2 (Nat.pow_le_pow_right hB ?_)
 rw [List.length_drop]
 omega
theorem Ev.mono {α : Type} {F : Nat → Option α} (h : ∀ k, LeO (F k) (F (k + 1))) {K : Nat} {r : α} (hK : F K = some r) : Ev F r := by
 refine ⟨K, fun k hk => ?_⟩
 obtain ⟨m, rfl⟩ : ∃ m, k = K + m := ⟨k - K, by omega⟩
 clear hk
 induction m with
 | zero => exact hK
 | succ m ih => exact h (K + m) r ih
theorem sgn_add (p q c : Nat) : sgn (p + c) (q + c) = sgn p q := by
 unfold sgn
 by_cases h1 : p = q
 ·
  rw [if_pos h1, if_pos (by omega)]
 ·
  rw [if_neg h1, if_neg (by omega)]
  by_cases h2 : p < q
  ·
   rw [if_pos h2, if_pos (by omega)]
  ·
   rw [if_neg h2, if_neg (by omega)]
theorem sgn_lt {p q : Nat} (h : p < q) : sgn p q = -1 := by rw [sgn, if_neg (by omega), if_pos h]
theorem sgn_gt {p q : Nat} (h : q < p) : sgn p q = 1 := by rw [sgn, if_neg (by omega), if_neg (by omega)]
theorem top_lt {B p q x y X : Nat} (hp : p < X) (h : x < y) : p + X * x < q + X * y := by
 have : X * (x + 1) ≤ X * y := Nat.mul_le_mul_left _ h
 rw [Nat.mul_add] at this
 omega
theorem revCmp_val {B : Nat} : ∀ (n : Nat) (a b : List Int), a.length = n → b.length = n → Dig B a → Dig B b → revCmp a.reverse b.reverse = sgn (val B a) (val B b)
 | 0, a, b, ha, hb, _, _ => by
  obtain rfl := List.length_eq_zero_iff.1 ha
  obtain rfl := List.length_eq_zero_iff.1 hb
  simp [revCmp, sgn, val]
 | n + 1, a, b, ha, hb, da, db => by
  rcases List.eq_nil_or_concat a with rfl | ⟨a', x, rfl⟩
  ·
   simp at ha
  rcases List.eq_nil_or_concat b with rfl | ⟨b', y, rfl⟩
  ·
   simp at hb
  rw [List.concat_eq_append] at ha hb da db ⊢
  rw [List.concat_eq_append]
  have ha' : a'.length = n := by simpa using ha
  have hb' : b'.length = n := by simpa using hb
  have da' : Dig B a' := fun z hz => da z (by simp [hz])
  have db' : Dig B b' := fun z hz => db z (by simp [hz])
  have hx := da x (by simp)
  have hy := db y (by simp)
  have va := val_lt a' da'
  have vb := val_lt b' db'
  rw [ha'] at va
  rw [hb'] at vb
  rw [List.reverse_append, List.reverse_append, val_append, val_append, ha', hb']
  simp only [List.reverse_cons, List.reverse_nil, List.nil_append, List.cons_append, val, Nat.mul_zero, Nat.add_zero]
  rw [revCmp]
  by_cases h1 : x = y
  ·
   rw [if_pos h1, revCmp_val n a' b' ha' hb' da' db', h1, sgn_add]
  ·
   rw [if_neg h1]
   by_cases h2 : x < y
   ·
    rw [if_pos h2, sgn_lt (top_lt (B := B) va (by omega))]
   ·
    rw [if_neg h2, sgn_gt (top_lt (B := B) vb (by omega))]
theorem less_val (X W d y bo x bo' vo T va vb : Nat) (h : vo + X * (x + W * va) = T + X * (y + W * vb + bo)) (hd : d + y + bo = x + W * bo') : vo + X * d + X * W * va = T + X * W * (vb + bo') := by
 have h1 : X * (d + y + bo) = X * (x + W * bo') := by rw [hd]
 have e1 : X * W * va = X * (W * va) := Nat.mul_assoc _ _ _
 have e2 : X * W * (vb + bo') = X * (W * vb) + X * (W * bo') := by rw [Nat.mul_assoc, Nat.mul_add, Nat.mul_add]
 rw [e1, e2]
 simp only [Nat.mul_add] at h h1
 omega
theorem dig_mono {B : Nat} (hB : 1 < B) {x y : Nat} (h : x ≤ y) : (dig B x).length ≤ (dig B y).length := by
 have h1 := val_lt _ (Dig_dig hB y)
 rw [val_dig hB] at h1
 exact dig_length hB _ x (Nat.lt_of_le_of_lt h h1)
theorem Ev.pos {α : Type} {c : Prop} [Decidable c] {F G : Nat → Option α} {r : α} (hc : c) (h : Ev F r) : Ev (fun k => if c then F k else G k) r := Ev.congr (fun k => if_pos hc) h
theorem Ev.neg {α : Type} {c : Prop} [Decidable c] {F G : Nat → Option α} {r : α} (hc : ¬ c) (h : Ev G r) : Ev (fun k => if c then F k else G k) r := Ev.congr (fun k => if_neg hc) h
theorem Ev.plain {α β : Type} {x : Option α} {y : α} {G : Nat → α → Option β} {r : β} (hx : x = some y) (h : Ev (fun k => G k y) r) : Ev (fun k => x.bind (G k)) r := by subst hx; exact h
theorem W_add {x y m : Nat} (hx : x < 18446744073709551616 ^ m) (hy : y < 18446744073709551616 ^ m) : x + y < 18446744073709551616 ^ (m + 1) := by
 rw [Nat.pow_succ]
 omega
theorem W_mul {x y m n : Nat} (hx : x < 18446744073709551616 ^ m) (hy : y < 18446744073709551616 ^ n) : x * y < 18446744073709551616 ^ (m + n) := by
 rw [Nat.pow_add]
 exact Nat.mul_lt_mul'' hx hy
theorem W_le {x m n : Nat} (hx : x < 18446744073709551616 ^ m) (h : m ≤ n) : x < 18446744073709551616 ^ n := Nat.lt_of_lt_of_le hx (Nat.pow_le_pow_right (by decide) h)
def goodB (l : List Int) : Bool := if l.length = 0 then true else l.getD (l.length - 1) 0 != 0
theorem nGood (l : List Int) (hl : l.length < 1000000000) : zb8.f l = some (goodB l) := by
 unfold zb8.f goodB
 by_cases h : l.length = 0
 ·
  rw [if_pos (by omega), if_pos h]
 ·
  rw [if_neg (by omega), if_neg h, wsub1 l.length (by omega) (by omega), if_pos (by omega), if_pos (by omega), rd_nat]
theorem goodB_iff (l : List Int) : goodB l = true ↔ Good l := by
 unfold goodB Good
 by_cases h : l.length = 0
 ·
  rw [if_pos h]
  simp [List.length_eq_zero_iff.1 h]
 ·
  rw [if_neg h]
  have : l ≠ [] := fun e => h (by rw [e]; rfl)
  simp [this]
theorem goodB_dig (n : Nat) : goodB (dig 18446744073709551616 n) = true := (goodB_iff _).2 (dig_last (by decide) n)
theorem ntrim_l0 : ∀ (n : Nat) (l : List Int), l.length = n → n < 1000000000 → Ev (fun k => zam.l0 k l) (strip l) := by
 intro n
 induction n with
 | zero =>
  intro l hl _
  obtain rfl := List.length_eq_zero_iff.1 hl
  refine Ev.step (G := fun _ => some []) (fun k => ?_) (Ev.const _)
  rw [zam.l0, if_neg (by simp)]
 | succ n ih =>
  intro l hl hn
  have e1 := Lib.hid (wsub1 l.length (by omega) (by omega))
  by_cases hz : l.getD n 0 = 0
  ·
   refine Ev.step (G := fun k => zam.l0 k (l.take n)) (fun k => ?_) ?_
   ·
    rw [zam.l0, if_pos (by omega), e1.out, hl, Nat.add_sub_cancel, if_pos (by omega), if_pos (by omega), rd_nat, if_pos hz, if_pos (by omega), Int.toNat_natCast]
   ·
    have e : strip l = strip (l.take n) := by
     have h2 := take_snoc l n (by omega)
     rw [hz, ← hl, List.take_length] at h2
     have h3 := strip_snoc0 (l.take n)
     rw [← h2] at h3
     exact h3
    rw [e]
    exact ih (l.take n) (by rw [List.length_take]; omega) (by omega)
  ·
   refine Ev.step (G := fun _ => some l) (fun k => ?_) ?_
   ·
    rw [zam.l0, if_pos (by omega), e1.out, hl, Nat.add_sub_cancel, if_pos (by omega), if_pos (by omega), rd_nat, if_neg hz]
   ·
    have h2 := take_snoc l n (by omega)
    rw [← hl, List.take_length] at h2
    have e : strip l = l := by
     have h3 := strip_snoc (l.take n) _ hz
     rw [← h2] at h3
     exact h3
    rw [e]
    exact Ev.const _
theorem ntrim (l : List Int) (hl : l.length < 1000000000) (h : Dig 18446744073709551616 l) : Ev (fun k => zam.f k l) (dig 18446744073709551616 (val 18446744073709551616 l)) := by
 rw [← strip_dig (by decide) l h]
 exact ntrim_l0 l.length l rfl hl
theorem nOf (n : Nat) (h : n < 18446744073709551616) : Ev (fun k => zb0.f k (n : Int)) (dig 18446744073709551616 n) := by
 have h1 := ntrim [(n : Int)] (by simp) (Dig.mk (by omega) (by omega) (Dig.nil _))
 rw [show val 18446744073709551616 [(n : Int)] = n by simp [val]] at h1
 exact Ev.bind h1 (Ev.const _)
theorem nAt (l : List Int) (i : Nat) : zbo.f l (i : Int) = some (l.getD i 0) := by
 unfold zbo.f
 by_cases h : i < l.length
 ·
  rw [if_neg (by omega), if_pos (by omega), if_pos (by omega), rd_nat]
 ·
  rw [if_pos (by omega), List.getD_eq_getElem?_getD, List.getElem?_eq_none (by omega)]
  rfl
theorem nCmp' (a b : List Int) (ha : Dig 18446744073709551616 a) (hb : Dig 18446744073709551616 b) (ga : Good a) (gb : Good b) : natCmp a b = sgn (val 18446744073709551616 a) (val 18446744073709551616 b) := by
 unfold natCmp
 by_cases h : a.length = b.length
 ·
  rw [if_pos h, revCmp_val a.length a b rfl h.symm ha hb]
 ·
  rw [if_neg h]
  by_cases h2 : a.length < b.length
  ·
   rw [if_pos h2, sgn_lt (len_lt (by decide) ha hb gb h2)]
  ·
   rw [if_neg h2, sgn_gt (len_lt (by decide) hb ha ga (by omega))]
theorem nCmp (x y : Nat) : zb2.f (dig 18446744073709551616 x) (dig 18446744073709551616 y) = some (sgn x y) := by
 unfold zb2.f
 rw [nCmp' _ _ (Dig_dig (by decide) x) (Dig_dig (by decide) y) (dig_last (by decide) x) (dig_last (by decide) y), val_dig (by decide), val_dig (by decide)]
theorem add64 (x y c : Nat) (hc : c ≤ 1) : bits_Add64.f (x : Int) (y : Int) (c : Int) = some ((((x + y + c) % 18446744073709551616 : Nat) : Int), (((x + y + c) / 18446744073709551616 : Nat) : Int)) := by
 unfold bits_Add64.f
 rw [if_pos (by omega)]
 simp only [Int.toNat_natCast]
theorem sub64 (x y c : Nat) (hc : c ≤ 1) : bits_Sub64.f (x : Int) (y : Int) (c : Int) = some ((((x + 18446744073709551616 - y - c) % 18446744073709551616 : Nat) : Int), (((if x < y + c then 1 else 0 : Nat)) : Int)) := by
 unfold bits_Sub64.f
 rw [if_pos (by omega)]
 simp only [Int.toNat_natCast]
def Le (n m : Nat) : Prop := (dig 18446744073709551616 n).length ≤ m
theorem sub_digit (x y bo va vb : Nat) (hx : x < 18446744073709551616) (hy : y < 18446744073709551616) (hbo : bo ≤ 1) (h : y + 18446744073709551616 * vb + bo ≤ x + 18446744073709551616 * va) :
  (x + 18446744073709551616 - y - bo) % 18446744073709551616 + y + bo = x + 18446744073709551616 * (if x < y + bo then 1 else 0) ∧ vb + (if x < y + bo then 1 else 0) ≤ va ∧ (if x < y + bo then 1 else 0) ≤ 1 := by
 split <;> refine ⟨?_, ?_, ?_⟩ <;> omega
theorem nLess_l0 (a b : List Int) (ha : Dig 18446744073709551616 a) (hb : Dig 18446744073709551616 b) (hs : a.length < 1000000) (hs' : b.length ≤ a.length) (T : Nat) : ∀ (m i bo : Nat) (out : List Int), i + m = a.length → bo ≤ 1 → out.length = a.length → Dig 18446744073709551616 out → (∀ p, i ≤ p → out.getD p 0 = 0) →
  V 18446744073709551616 b i + bo ≤ V 18446744073709551616 a i → val 18446744073709551616 out + 18446744073709551616 ^ i * V 18446744073709551616 a i = T + 18446744073709551616 ^ i * (V 18446744073709551616 b i + bo) →
  Ev (fun k => za4.l0 k a b out (bo : Int) (a.length : Int) (i : Int)) (dig 18446744073709551616 T) := by
 intro m
 induction m with
 | zero =>
  intro i bo out hi hbo ho hd hz hle hT
  refine Ev.step (G := fun k => (zam.f k out).bind fun t307 => some t307) (fun k => ?_) ?_
  ·
   rw [za4.l0, if_neg (by omega)]
  ·
   have h := ntrim out (by omega) hd
   rw [V_end _ (show a.length ≤ i by omega)] at hT hle
   have h0 : V 18446744073709551616 b i + bo = 0 := by omega
   rw [h0, Nat.mul_zero, Nat.add_zero, Nat.add_zero] at hT
   rw [hT] at h
   exact Ev.bind h (Ev.const _)
 | succ m ih =>
  intro i bo out hi hbo ho hd hz hle hT
  have ha1 := ha.get (show 0 < 18446744073709551616 by decide) i
  have hb1 := hb.get (show 0 < 18446744073709551616 by decide) i
  have hva := V_step 18446744073709551616 a i
  have hvb := V_step 18446744073709551616 b i
  obtain ⟨x, hx⟩ := Int.eq_ofNat_of_zero_le ha1.1
  obtain ⟨y, hy⟩ := Int.eq_ofNat_of_zero_le hb1.1
  rw [hx] at hva ha1
  rw [hy] at hvb hb1
  rw [Int.toNat_natCast] at hva hvb
  rw [hva, hvb] at hle hT
  obtain ⟨d1, d2, d3⟩ := sub_digit x y bo _ _ (by omega) (by omega) hbo hle
  have hset := val_set 18446744073709551616 out i (((x + 18446744073709551616 - y - bo) % 18446744073709551616 : Nat) : Int) (by omega)
  rw [hz i (Nat.le_refl _), Int.toNat_natCast, Int.toNat_zero, Nat.mul_zero, Nat.add_zero] at hset
  have hv := less_val _ _ _ _ _ _ _ _ _ _ _ hT d1
  rw [← hset, ← Nat.pow_succ] at hv
  have ih2 := ih (i + 1) (if x < y + bo then 1 else 0) (out.set i (((x + 18446744073709551616 - y - bo) % 18446744073709551616 : Nat) : Int)) (by omega) d3 (by rw [List.length_set]; exact ho) (dig_set hd _ (by omega) (by omega)) (fun p hp => by rw [getD_set_ne (by omega)]; exact hz p (by omega)) d2 hv
  have WA := Lib.hid (wadd1 i (by omega))
  have H2 := Lib.hid ih2
  clear ih2 hv hset d1 d2 d3 hT hle hva hvb
  refine Ev.step (fun k => ?_) H2.out
  rw [za4.l0, if_pos (by omega), if_pos (by omega), if_pos (by omega), nAt, Option.bind_some, rd_nat, hx, hy, sub64 x y bo hbo, Option.bind_some, if_pos (by omega), WA.out, Int.toNat_natCast]
theorem nLess (x y : Nat) (hx : Le x 100000) (hy : y ≤ x) : Ev (fun k => za4.f k (dig 18446744073709551616 x) (dig 18446744073709551616 y)) (dig 18446744073709551616 (x - y)) := by
 have hl := dig_mono (B := 18446744073709551616) (by decide) hy
 unfold Le at hx
 have dx := Dig_dig (B := 18446744073709551616) (by decide) x
 have dy := Dig_dig (B := 18446744073709551616) (by decide) y
 have vx := val_dig (B := 18446744073709551616) (by decide) x
 have vy := val_dig (B := 18446744073709551616) (by decide) y
 generalize dig 18446744073709551616 x = a at *
 generalize dig 18446744073709551616 y = b at *
 have h := nLess_l0 a b dx dy (by omega) hl (x - y) a.length 0 0 (List.replicate a.length 0) (by omega) (by omega) (by simp) (Dig.rep (by decide) _) (fun p _ => by
  rw [List.getD_eq_getElem?_getD, List.getElem?_replicate]
  split <;> rfl) (by rw [V_zero, V_zero, vx, vy]; omega) (by rw [V_zero, V_zero, vx, vy, zb7]; simp; omega)
 refine Ev.congr (fun k => ?_) h
 rw [za4.f, if_pos (by omega), Int.toNat_natCast, if_pos (by omega)]
 rfl
theorem Le_lt {x m : Nat} (hx : x < 18446744073709551616 ^ m) (h : m ≤ 100000) : Le x 100000 := Nat.le_trans (dig_length (by decide) m x hx) h
theorem mul64_parts (x1 x0 y1 y0 : Nat) (h1 : x1 < 4294967296) (h2 : x0 < 4294967296) (h3 : y1 < 4294967296) (h4 : y0 < 4294967296) :
  x1 * y1 ≤ 18446744065119617025 ∧ x1 * y0 ≤ 18446744065119617025 ∧ x0 * y1 ≤ 18446744065119617025 ∧ x0 * y0 ≤ 18446744065119617025 ∧
  (4294967296 * x1 + x0) * (4294967296 * y1 + y0) = 18446744073709551616 * (x1 * y1) + 4294967296 * (x1 * y0) + 4294967296 * (x0 * y1) + x0 * y0 := by
 refine ⟨Nat.mul_le_mul (show x1 ≤ 4294967295 by omega) (show y1 ≤ 4294967295 by omega), Nat.mul_le_mul (show x1 ≤ 4294967295 by omega) (show y0 ≤ 4294967295 by omega), Nat.mul_le_mul (show x0 ≤ 4294967295 by omega) (show y1 ≤ 4294967295 by omega), Nat.mul_le_mul (show x0 ≤ 4294967295 by omega) (show y0 ≤ 4294967295 by omega), ?_⟩
 rw [Nat.add_mul, Nat.mul_add, Nat.mul_add]
 have e1 : 4294967296 * x1 * (4294967296 * y1) = 18446744073709551616 * (x1 * y1) := by
  rw [Nat.mul_mul_mul_comm]
 have e2 : 4294967296 * x1 * y0 = 4294967296 * (x1 * y0) := Nat.mul_assoc _ _ _
 have e3 : x0 * (4294967296 * y1) = 4294967296 * (x0 * y1) := Nat.mul_left_comm _ _ _
 rw [e1, e2, e3]
 omega
theorem mul64_hi (x y P a b c d : Nat) (hP : P = 18446744073709551616 * a + 4294967296 * b + 4294967296 * c + d) (ha : a ≤ 18446744065119617025) (hb : b ≤ 18446744065119617025) (hc : c ≤ 18446744065119617025) (hd : d ≤ 18446744065119617025) :
  a + (b + d / 4294967296) / 4294967296 + ((b + d / 4294967296) % 4294967296 + c) / 4294967296 = P / 18446744073709551616 := by
 omega
theorem mul64 (x y : Nat) (hx : x < 18446744073709551616) (hy : y < 18446744073709551616) : bits_Mul64.f (x : Int) (y : Int) = some (((x * y / 18446744073709551616 : Nat) : Int), ((x * y % 18446744073709551616 : Nat) : Int)) := by
 unfold bits_Mul64.f
 rw [and32 (by omega) (by omega), and32 (by omega) (by omega)]
 obtain ⟨b1, b2, b3, b4, e⟩ := mul64_parts (x / 4294967296) (x % 4294967296) (y / 4294967296) (y % 4294967296) (by omega) (by omega) (by omega) (by omega)
 rw [show 4294967296 * (x / 4294967296) + x % 4294967296 = x by omega, show 4294967296 * (y / 4294967296) + y % 4294967296 = y by omega] at e
 have c1 : (x : Int) / 4294967296 = ((x / 4294967296 : Nat) : Int) := by omega
 have c2 : (y : Int) / 4294967296 = ((y / 4294967296 : Nat) : Int) := by omega
 have c3 : (x : Int) % 4294967296 = ((x % 4294967296 : Nat) : Int) := by omega
 have c4 : (y : Int) % 4294967296 = ((y % 4294967296 : Nat) : Int) := by omega
 rw [c1, c2, c3, c4]
 have cm : ∀ p q : Nat, (p : Int) * (q : Int) = ((p * q : Nat) : Int) := fun p q => by simp
 rw [cm, cm, cm, cm, cm]
 have hh := mul64_hi x y _ _ _ _ _ e b1 b2 b3 b4
 generalize x / 4294967296 * (y / 4294967296) = a at *
 generalize x / 4294967296 * (y % 4294967296) = b at *
 generalize x % 4294967296 * (y / 4294967296) = c at *
 generalize x % 4294967296 * (y % 4294967296) = d at *
 generalize x * y = P at *
 clear c1 c2 c3 c4 cm
 have e1 : IntKind.u64.wrap (d : Int) = (d : Int) := u64s (by omega) (by omega)
 have e2 : IntKind.u64.wrap (b : Int) = (b : Int) := u64s (by omega) (by omega)
 have e3 : IntKind.u64.wrap (c : Int) = (c : Int) := u64s (by omega) (by omega)
 have e4 : IntKind.u64.wrap (a : Int) = (a : Int) := u64s (by omega) (by omega)
 have e5 : IntKind.u64.wrap ((b : Int) + (d : Int) / 4294967296) = ((b + d / 4294967296 : Nat) : Int) := by rw [u64s (by omega) (by omega)]; omega
 rw [e1, e2, e3, e4, e5]
 clear e1 e2 e3 e4 e5
 generalize ht : b + d / 4294967296 = t at *
 rw [and32 (by omega) (by omega)]
 have e6 : IntKind.u64.wrap ((t : Int) % 4294967296 + (c : Int)) = ((t % 4294967296 + c : Nat) : Int) := by rw [u64s (by omega) (by omega)]; omega
 rw [e6]
 clear e6
 have e7 : IntKind.u64.wrap ((a : Int) + (t : Int) / 4294967296) = ((a + t / 4294967296 : Nat) : Int) := by rw [u64s (by omega) (by omega)]; omega
 rw [e7]
 clear e7
 have e8 : IntKind.u64.wrap (((a + t / 4294967296 : Nat) : Int) + ((t % 4294967296 + c : Nat) : Int) / 4294967296) = ((a + t / 4294967296 + (t % 4294967296 + c) / 4294967296 : Nat) : Int) := by rw [u64s (by omega) (by omega)]; omega
 rw [e8, hh]
 clear e8
 have e9 : IntKind.u64.wrap (P : Int) = ((P % 18446744073709551616 : Nat) : Int) := by rw [u64w]; omega
 rw [e9]
theorem mul_step (x y o c : Nat) (hx : x < 18446744073709551616) (hy : y < 18446744073709551616) (ho : o < 18446744073709551616) (hc : c < 18446744073709551616) :
  ∃ s q c1 c2 : Nat, s < 18446744073709551616 ∧ q < 18446744073709551616 ∧ o + x * y + c = 18446744073709551616 * q + s ∧
   (x * y % 18446744073709551616 + o + 0) / 18446744073709551616 = c1 ∧ ((x * y % 18446744073709551616 + o + 0) % 18446744073709551616 + c + 0) / 18446744073709551616 = c2 ∧ ((x * y % 18446744073709551616 + o + 0) % 18446744073709551616 + c + 0) % 18446744073709551616 = s ∧
   IntKind.u64.wrap (IntKind.u64.wrap (((x * y / 18446744073709551616 : Nat) : Int) + (c1 : Int)) + (c2 : Int)) = (q : Int) := by
 have hb : x * y ≤ 18446744073709551615 * 18446744073709551615 := Nat.mul_le_mul (by omega) (by omega)
 generalize x * y = P at *
 refine ⟨_, (o + P + c) / 18446744073709551616, _, _, ?_, ?_, ?_, rfl, rfl, rfl, ?_⟩
 ·
  omega
 ·
  omega
 ·
  omega
 ·
  rw [u64s (x := ((P / 18446744073709551616 : Nat) : Int) + (((P % 18446744073709551616 + o + 0) / 18446744073709551616 : Nat) : Int)) (by omega) (by omega), u64s (by omega) (by omega)]
  omega
theorem nMul_l1 (b : List Int) (hb : Dig 18446744073709551616 b) (x la : Nat) (a : List Int) (hla : a.length = la) (hs : la < 1000000) (hs' : b.length < 1000000) (hx : x < 18446744073709551616) (i : Nat) (hi : i < la) : ∀ (m j c : Nat) (out : List Int), j + m = b.length → c < 18446744073709551616 → Dig 18446744073709551616 out → out.length = la + b.length →
  ∃ (out' : List Int) (c' : Nat), Dig 18446744073709551616 out' ∧ out'.length = la + b.length ∧ c' < 18446744073709551616 ∧ (∀ p, i + b.length ≤ p → out'.getD p 0 = out.getD p 0) ∧
   val 18446744073709551616 out' + 18446744073709551616 ^ (i + b.length) * c' = val 18446744073709551616 out + 18446744073709551616 ^ (i + j) * c + 18446744073709551616 ^ (i + j) * (x * V 18446744073709551616 b j) ∧
   ∀ r, Ev (fun k => zav.l1 k b out' (i : Int) (x : Int) (c' : Int) a (la : Int) (i : Int) b (b.length : Int) (b.length : Int)) r → Ev (fun k => zav.l1 k b out (i : Int) (x : Int) (c : Int) a (la : Int) (i : Int) b (b.length : Int) (j : Int)) r := by
 intro m
 induction m with
 | zero =>
  intro j c out hj hc hd hl
  obtain rfl : j = b.length := by omega
  refine ⟨out, c, hd, hl, hc, fun _ _ => rfl, ?_, fun r h => h⟩
  rw [V_end _ (Nat.le_refl _)]
  simp
 | succ m ih =>
  intro j c out hj hc hd hl
  have hy := hb.get (show 0 < 18446744073709551616 by decide) j
  have ho := hd.get (show 0 < 18446744073709551616 by decide) (i + j)
  have hv := V_step 18446744073709551616 b j
  obtain ⟨y, hy'⟩ := Int.eq_ofNat_of_zero_le hy.1
  obtain ⟨o, ho'⟩ := Int.eq_ofNat_of_zero_le ho.1
  rw [hy'] at hy hv
  rw [ho'] at ho
  rw [Int.toNat_natCast] at hv
  obtain ⟨s, q, c1, c2, s1, s2, s3, s4, s5, s6, s7⟩ := mul_step x y o c hx (by omega) (by omega) hc
  have S7 := Lib.hid s7
  have S4 := Lib.hid s4
  have S5 := Lib.hid s5
  have S6 := Lib.hid s6
  clear s4 s5 s6 s7
  have hset := val_set 18446744073709551616 out (i + j) (s : Int) (by omega)
  rw [ho', Int.toNat_natCast, Int.toNat_natCast] at hset
  obtain ⟨out', c', h1, h2, h3, h4, h5, h6⟩ := ih (j + 1) q (out.set (i + j) (s : Int)) (by omega) s2 (dig_set hd _ (by omega) (by omega)) (by rw [List.length_set]; exact hl)
  have hmv := mul_val (18446744073709551616 ^ (i + j)) 18446744073709551616 o x y c _ _ _ _ _ _ hset hv s3
  have HMV := Lib.hid hmv
  have H5 := Lib.hid h5
  clear hmv h5 hset hv s3
  have EJ := Lib.hid (wadd i j (by omega))
  have EK := Lib.hid (wadd1 j (by omega))
  refine ⟨out', c', h1, h2, h3, fun p hp => ?_, ?_, fun r hr => ?_⟩
  ·
   rw [h4 p hp, getD_set_ne (by omega)]
  ·
   rw [H5.out, show i + (j + 1) = i + j + 1 by omega, Nat.pow_succ]
   exact HMV.out
  ·
   refine Ev.step (fun k => ?_) (h6 r hr)
   have a1 := add64 (x * y % 18446744073709551616) o 0 (by omega)
   have a2 := add64 ((x * y % 18446744073709551616 + o + 0) % 18446744073709551616) c 0 (by omega)
   rw [S4.out] at a1
   rw [S5.out, S6.out] at a2
   have A1 := Lib.hid a1
   have A2 := Lib.hid a2
   clear a1 a2
   rw [zav.l1, if_pos (by omega), if_pos (by omega), if_pos (by omega), rd_nat, hy', mul64 x y hx (by omega), Option.bind_some, EJ.out, if_pos (by omega), if_pos (by omega), rd_nat, ho']
   rw [show (0 : Int) = ((0 : Nat) : Int) from rfl, A1.out, Option.bind_some, A2.out, Option.bind_some, S7.out, EK.out, Int.toNat_natCast]
theorem nMul_l0 (a b : List Int) (ha : Dig 18446744073709551616 a) (hb : Dig 18446744073709551616 b) (hs : a.length < 1000000) (hs' : b.length < 1000000) : ∀ (m i : Nat) (out : List Int), i + m = a.length → Dig 18446744073709551616 out → out.length = a.length + b.length → (∀ p, i + b.length ≤ p → out.getD p 0 = 0) →
  Ev (fun k => zav.l0 k b out a (a.length : Int) (i : Int)) (dig 18446744073709551616 (val 18446744073709551616 out + 18446744073709551616 ^ i * (V 18446744073709551616 a i * val 18446744073709551616 b))) := by
 intro m
 induction m with
 | zero =>
  intro i out hi hd hl hz
  refine Ev.step (G := fun k => (zam.f k out).bind fun t190 => some t190) (fun k => ?_) ?_
  ·
   rw [zav.l0, if_neg (by omega)]
  ·
   rw [V_end _ (by omega), Nat.zero_mul, Nat.mul_zero, Nat.add_zero]
   exact Ev.bind (ntrim out (by omega) hd) (Ev.const _)
 | succ m ih =>
  intro i out hi hd hl hz
  have hg := ha.get (show 0 < 18446744073709551616 by decide) i
  obtain ⟨x, hx⟩ := Int.eq_ofNat_of_zero_le hg.1
  rw [hx] at hg
  obtain ⟨out', c', h1, h2, h3, h4, h5, h6⟩ := nMul_l1 b hb x a.length a rfl hs hs' (by omega) i (by omega) b.length 0 0 out (by omega) (by omega) hd hl
  have hz' := (h4 (i + b.length) (Nat.le_refl _)).trans (hz _ (Nat.le_refl _))
  have hset := val_set 18446744073709551616 out' (i + b.length) (c' : Int) (by omega)
  rw [hz', Int.toNat_natCast] at hset
  have ih2 := ih (i + 1) (out'.set (i + b.length) (c' : Int)) (by omega) (dig_set h1 _ (by omega) (by omega)) (by rw [List.length_set]; exact h2) (fun p hp => by
   rw [getD_set_ne (by omega), h4 p (by omega), hz p (by omega)])
  have EI := Lib.hid (wadd i b.length (by omega))
  have EI1 := Lib.hid (wadd1 i (by omega))
  have hva := V_step 18446744073709551616 a i
  rw [hx, Int.toNat_natCast] at hva
  have hval : val 18446744073709551616 out + 18446744073709551616 ^ i * (V 18446744073709551616 a i * val 18446744073709551616 b) = val 18446744073709551616 (out'.set (i + b.length) (c' : Int)) + 18446744073709551616 ^ (i + 1) * (V 18446744073709551616 a (i + 1) * val 18446744073709551616 b) := by
   rw [hva, Nat.add_mul, Nat.mul_add, Nat.pow_succ, Nat.mul_assoc 18446744073709551616, ← Nat.mul_assoc (18446744073709551616 ^ i) 18446744073709551616]
   rw [V_zero, Nat.add_zero, Nat.mul_zero, Nat.add_zero] at h5
   simp only [Int.toNat_zero, Nat.mul_zero, Nat.add_zero] at hset
   omega
  rw [hval]
  refine Ev.step (G := fun k => zav.l1 k b out (i : Int) (x : Int) 0 a (a.length : Int) (i : Int) b (b.length : Int) 0) (fun k => ?_) (h6 _ ?_)
  ·
   rw [zav.l0, if_pos (by omega), if_pos (by omega), if_pos (by omega), rd_nat, hx]
  ·
   refine Ev.step (fun k => ?_) ih2
   rw [zav.l1, if_neg (by omega), EI.out, if_pos (by omega), if_pos (by omega), EI1.out, Int.toNat_natCast]
theorem nMul (x y : Nat) (hx : Le x 100000) (hy : Le y 100000) : Ev (fun k => zav.f k (dig 18446744073709551616 x) (dig 18446744073709551616 y)) (dig 18446744073709551616 (x * y)) := by
 unfold Le at hx hy
 have dx := Dig_dig (B := 18446744073709551616) (by decide) x
 have dy := Dig_dig (B := 18446744073709551616) (by decide) y
 have vx := val_dig (B := 18446744073709551616) (by decide) x
 have vy := val_dig (B := 18446744073709551616) (by decide) y
 generalize dig 18446744073709551616 x = a at *
 generalize dig 18446744073709551616 y = b at *
 have h := nMul_l0 a b dx dy (by omega) (by omega) a.length 0 (List.replicate (a.length + b.length) 0) (by omega) (Dig.rep (by omega) _) (by simp) (fun p _ => by
  rw [List.getD_eq_getElem?_getD, List.getElem?_replicate]
  split <;> rfl)
 rw [V_zero, zb7, vx, vy, Nat.pow_zero, Nat.one_mul, Nat.zero_add] at h
 refine Ev.congr (fun k => ?_) h
 rw [zav.f, wadd a.length b.length (by omega), if_pos (by omega), Int.toNat_natCast, if_pos (by omega)]
 rfl
theorem nLong (x : Nat) (hx : Le x 100000) : ∃ L : Nat, zbv.f (dig 18446744073709551616 x) = some (L : Int) ∧ L ≤ 64 * (dig 18446744073709551616 x).length ∧ x < 2 ^ L ∧ (x ≠ 0 → 1 ≤ L ∧ 2 ^ (L - 1) ≤ x) := by
 unfold Le at hx
 by_cases h0 : x = 0
 ·
  subst h0
  refine ⟨0, ?_, by omega, by decide, fun h => absurd rfl h⟩
  rw [zca]
  rfl
 ·
  have hne := dig_ne (B := 18446744073709551616) (by decide) h0
  have hd := Dig_dig (B := 18446744073709551616) (by decide) x
  have hv := val_dig (B := 18446744073709551616) (by decide) x
  have hg := dig_last (B := 18446744073709551616) (by decide) x
  generalize dig 18446744073709551616 x = l at *
  rcases List.eq_nil_or_concat l with rfl | ⟨ys, y, rfl⟩
  ·
   exact absurd rfl hne
  rw [List.concat_eq_append] at *
  have hy := hd y (by simp)
  have hys : Dig 18446744073709551616 ys := fun z hz => hd z (by simp [hz])
  have hlt := val_lt ys hys
  obtain ⟨t, rfl⟩ := Int.eq_ofNat_of_zero_le hy.1
  have ht : t ≠ 0 := by
   rcases hg with hg | hg
   ·
    simp at hg
   ·
    intro e
    subst e
    simp at hg
  have ht2 : t < 18446744073709551616 := by omega
  obtain ⟨b1, b2, b3⟩ := Lib.bitLenAux_bounds 64 t (by omega) (by omega)
  have b4 := Lib.bitLen_le t 64 (by omega) (by omega)
  have hb : Lib.bitLen t = Lib.bitLenAux 64 t := rfl
  rw [← hb] at b1 b2 b3
  generalize hbl : Lib.bitLen t = bl at *
  have hlen : (ys ++ [(t : Int)]).length = ys.length + 1 := by simp
  rw [val_append] at hv
  simp only [val, Int.toNat_natCast, Nat.mul_zero, Nat.add_zero] at hv
  have hW : (18446744073709551616 : Nat) ^ ys.length = 2 ^ (64 * ys.length) := by rw [Nat.pow_mul]
  rw [hW] at hv hlt
  refine ⟨64 * ys.length + bl, ?_, by rw [hlen]; omega, ?_, fun _ => ⟨by omega, ?_⟩⟩
  ·
   unfold zbv.f
   rw [hlen] at hx ⊢
   rw [if_neg (by omega), wsub1 (ys.length + 1) (by omega) (by omega), if_pos (by omega), if_pos (by omega), rd_nat, Nat.add_sub_cancel]
   have e : (ys ++ [(t : Int)]).getD ys.length 0 = (t : Int) := by simp
   rw [e]
   unfold bits_Len64.f
   rw [if_pos (by omega), if_pos (by omega), Int.toNat_natCast, hbl]
   show some (wrap64 (wrap64 (64 * (ys.length : Int)) + (bl : Int))) = _
   rw [w64s (x := 64 * (ys.length : Int)) (by omega) (by omega), w64s (by omega) (by omega)]
   congr 1
  ·
   rw [Nat.pow_add, ← hv]
   have : 2 ^ (64 * ys.length) * (t + 1) ≤ 2 ^ (64 * ys.length) * 2 ^ bl := Nat.mul_le_mul_left _ b3
   rw [Nat.mul_add] at this
   omega
  ·
   rw [show 64 * ys.length + bl - 1 = 64 * ys.length + (bl - 1) by omega, Nat.pow_add, ← hv]
   have : 2 ^ (64 * ys.length) * 2 ^ (bl - 1) ≤ 2 ^ (64 * ys.length) * t := Nat.mul_le_mul_left _ b2
   omega
theorem shift_digit (x c r : Nat) (hr : r < 64) (hx : x < 18446744073709551616) (hc : c < 2 ^ r) :
  ∃ d c' : Nat, d < 18446744073709551616 ∧ c' < 2 ^ r ∧ 2 ^ r * x + c = 18446744073709551616 * c' + d ∧ Go.bits .or .u64 (shl .u64 (x : Int) (r : Int)) (c : Int) = (d : Int) ∧ shr .u64 (x : Int) (wrap64 (64 - (r : Int))) = (c' : Int) := by
 have hp : 0 < 2 ^ r := Nat.two_pow_pos r
 have hq : 0 < 2 ^ (64 - r) := Nat.two_pow_pos _
 have hpq : 2 ^ r * 2 ^ (64 - r) = 18446744073709551616 := by
  rw [← Nat.pow_add, show r + (64 - r) = 64 by omega]
 have hm := Nat.mod_add_div x (2 ^ (64 - r))
 have hml := Nat.mod_lt x hq
 have h1 : 2 ^ r * (x % 2 ^ (64 - r)) + 2 ^ r ≤ 18446744073709551616 := by
  rw [← hpq, ← Nat.mul_succ]
  exact Nat.mul_le_mul_left _ hml
 have h2 : 2 ^ r * x = 18446744073709551616 * (x / 2 ^ (64 - r)) + 2 ^ r * (x % 2 ^ (64 - r)) := by
  rw [← hpq, Nat.mul_assoc, ← Nat.mul_add, Nat.add_comm, hm]
 have h3 : x / 2 ^ (64 - r) < 2 ^ r := by
  rw [Nat.div_lt_iff_lt_mul hq, hpq]
  exact hx
 have hsl : shl .u64 (x : Int) (r : Int) = ((2 ^ r * (x % 2 ^ (64 - r)) : Nat) : Int) := by
  unfold shl
  rw [show min ((r : Int)).toNat IntKind.u64.bits = r by simp [IntKind.bits] <;> omega, u64w]
  have e : (x : Int) * 2 ^ r = ((2 ^ r * x : Nat) : Int) := by rw [Int.natCast_mul, Int.mul_comm]; simp
  rw [e, h2]
  omega
 refine ⟨2 ^ r * (x % 2 ^ (64 - r)) + c, x / 2 ^ (64 - r), by omega, h3, by omega, ?_, ?_⟩
 ·
  rw [hsl]
  exact orAdd hc (by omega)
 ·
  have ew : wrap64 (64 - (r : Int)) = ((64 - r : Nat) : Int) := by rw [w64s (by omega) (by omega)]; omega
  rw [ew]
  unfold shr
  rw [Int.toNat_natCast, show min (64 - r) IntKind.u64.bits = 64 - r by simp [IntKind.bits] <;> omega]
  simp
theorem shift_val (X W r2 x c c' d va' : Nat) (T vo : Nat) (h : vo + X * c + X * (r2 * (x + W * va')) = T) (hd : r2 * x + c = W * c' + d) : vo + X * d + X * W * c' + X * W * (r2 * va') = T := by
 have h1 : X * (r2 * x + c) = X * (W * c' + d) := by rw [hd]
 have e1 : X * W * c' = X * (W * c') := Nat.mul_assoc _ _ _
 have e2 : X * W * (r2 * va') = X * (r2 * (W * va')) := by rw [Nat.mul_assoc, Nat.mul_left_comm W]
 rw [e1, e2]
 simp only [Nat.mul_add] at h h1
 omega
theorem nShifted_l0 (a : List Int) (ha : Dig 18446744073709551616 a) (hs : a.length < 1000000) (n r q T : Nat) (hn : n < 100000000) (hr : r = n % 64) (hq : q < 100000000) : ∀ (m i c : Nat) (out : List Int), i + m = a.length → c < 2 ^ r → Dig 18446744073709551616 out → out.length = q + i →
  val 18446744073709551616 out + 18446744073709551616 ^ (q + i) * c + 18446744073709551616 ^ (q + i) * (2 ^ r * V 18446744073709551616 a i) = T →
  Ev (fun k => zah.l0 k (n : Int) out (c : Int) a (a.length : Int) (i : Int)) (dig 18446744073709551616 T) := by
 have hr64 : r < 64 := by omega
 have hp64 : 2 ^ r < 18446744073709551616 := by
  have : 2 ^ r < 2 ^ 64 := Nat.pow_lt_pow_right (by decide) hr64
  omega
 have et : Int.tmod (n : Int) 64 = (r : Int) := by
  rw [Int.tmod_eq_emod_of_nonneg (by omega)]
  omega
 have ET := Lib.hid et
 clear et
 intro m
 induction m with
 | zero =>
  intro i c out hi hc hd hl hT
  refine Ev.step (G := fun k => (zam.f k (out ++ [(c : Int)])).bind fun t479 => some t479) (fun k => ?_) ?_
  ·
   rw [zah.l0, if_neg (by omega), if_pos (by omega)]
  ·
   have h := ntrim (out ++ [(c : Int)]) (by rw [List.length_append, List.length_singleton]; omega) (hd.app (Dig.mk (by omega) (by omega) (Dig.nil _)))
   rw [val_append, hl] at h
   simp only [val, Int.toNat_natCast, Nat.mul_zero, Nat.add_zero] at h
   rw [V_end _ (show a.length ≤ i by omega), Nat.mul_zero, Nat.mul_zero, Nat.add_zero] at hT
   rw [hT] at h
   exact Ev.bind h (Ev.const _)
 | succ m ih =>
  intro i c out hi hc hd hl hT
  have hg := ha.get (show 0 < 18446744073709551616 by decide) i
  obtain ⟨x, hx⟩ := Int.eq_ofNat_of_zero_le hg.1
  rw [hx] at hg
  have hva := V_step 18446744073709551616 a i
  rw [hx, Int.toNat_natCast] at hva
  rw [hva] at hT
  obtain ⟨d, c', h1, h2, h3, h4, h5⟩ := shift_digit x c r hr64 (by omega) hc
  have hv := shift_val _ _ _ _ _ _ _ _ _ _ hT h3
  have hval : val 18446744073709551616 (out ++ [(d : Int)]) = val 18446744073709551616 out + 18446744073709551616 ^ (q + i) * d := by
   rw [val_append, hl]
   simp [val]
  rw [← hval, ← Nat.pow_succ] at hv
  have H4 := Lib.hid h4
  have H5 := Lib.hid h5
  clear h4 h5 h3 hT hva hval
  have ih2 := ih (i + 1) c' (out ++ [(d : Int)]) (by omega) h2 (hd.app (Dig.mk (by omega) (by omega) (Dig.nil _))) (by rw [List.length_append, hl]; rfl) hv
  have H2 := Lib.hid ih2
  have WA := Lib.hid (wadd1 i (by omega))
  have ew := Lib.hid (show (0 : Int) ≤ wrap64 (64 - (r : Int)) by rw [w64s (by omega) (by omega)]; omega)
  clear ih2 hv
  refine Ev.step (fun k => ?_) H2.out
  rw [zah.l0, if_pos (by omega), if_pos (by omega), if_pos (by omega), ET.out, if_pos (by omega), if_pos (by omega), if_pos ew.out, rd_nat, hx, H4.out, H5.out, WA.out]
theorem nShifted (x n : Nat) (hx : Le x 100000) (hn : n < 10000000) : Ev (fun k => zah.f k (dig 18446744073709551616 x) (n : Int)) (dig 18446744073709551616 (x * 2 ^ n)) := by
 unfold Le at hx
 have dx := Dig_dig (B := 18446744073709551616) (by decide) x
 have vx := val_dig (B := 18446744073709551616) (by decide) x
 generalize dig 18446744073709551616 x = a at *
 have hW : 18446744073709551616 ^ (n / 64) * (2 ^ (n % 64) * x) = x * 2 ^ n := by
  have e : (18446744073709551616 : Nat) ^ (n / 64) = 2 ^ (64 * (n / 64)) := by rw [Nat.pow_mul]
  rw [e, ← Nat.mul_assoc, ← Nat.pow_add, show 64 * (n / 64) + n % 64 = n by omega, Nat.mul_comm]
 have h := nShifted_l0 a dx (by omega) n (n % 64) (n / 64) (x * 2 ^ n) (by omega) rfl (by omega) a.length 0 0 (List.replicate (n / 64) 0) (by omega) (Nat.two_pow_pos _) (Dig.rep (by decide) _) (by simp) (by
  rw [zb7, V_zero, vx, Nat.mul_zero, Nat.add_zero, Nat.zero_add]
  exact hW)
 refine Ev.congr (fun k => ?_) h
 have e1 : wrap64 (Int.tdiv (n : Int) 64) = ((n / 64 : Nat) : Int) := by
  rw [Int.tdiv_eq_ediv_of_nonneg (by omega), w64s (by omega) (by omega)]
  omega
 rw [zah.f, e1, wadd (n / 64) a.length (by omega), wadd1 (n / 64 + a.length) (by omega)]
 clear e1
 rw [if_pos (by omega), if_pos (by omega), Int.toNat_natCast, Int.toNat_natCast, if_pos (by omega)]
 rfl
def Free (l : List Int) (m : Nat) : Prop := ∀ p, ∃ z : Nat, l.getD p 0 = ((2 ^ (min 64 (m - 64 * p)) * z : Nat) : Int)
theorem Free.zero (n m : Nat) : Free (List.replicate n 0) m := fun p => ⟨0, by
 rw [List.getD_eq_getElem?_getD, List.getElem?_replicate]
 split <;> simp⟩
theorem Free.less {l : List Int} {m m' : Nat} (h : Free l m) (hm : m' ≤ m) : Free l m' := fun p => by
 obtain ⟨z, hz⟩ := h p
 refine ⟨2 ^ (min 64 (m - 64 * p) - min 64 (m' - 64 * p)) * z, ?_⟩
 rw [hz, ← Nat.mul_assoc, ← Nat.pow_add]
 congr 3
 omega
theorem set_bit (l : List Int) (hd : Dig 18446744073709551616 l) (n : Nat) (h : Free l (n + 1)) (hn : n / 64 < l.length) :
  ∃ o : Nat, Go.bits .or .u64 (l.getD (n / 64) 0) (shl .u64 1 ((n % 64 : Nat) : Int)) = (o : Int) ∧ o < 18446744073709551616 ∧ Free (l.set (n / 64) (o : Int)) n ∧ val 18446744073709551616 (l.set (n / 64) (o : Int)) = val 18446744073709551616 l + 2 ^ n := by
 obtain ⟨z, hz⟩ := h (n / 64)
 have hr : n % 64 < 64 := Nat.mod_lt _ (by decide)
 rw [show min 64 (n + 1 - 64 * (n / 64)) = n % 64 + 1 by omega] at hz
 have hg := hd.get (show 0 < 18446744073709551616 by decide) (n / 64)
 rw [hz] at hg
 have hp : 0 < 2 ^ (n % 64) := Nat.two_pow_pos _
 have hp2 : 2 ^ (n % 64 + 1) = 2 * 2 ^ (n % 64) := by rw [Nat.pow_succ, Nat.mul_comm]
 have hp64 : 2 ^ (n % 64 + 1) ≤ 18446744073709551616 := by
  have : 2 ^ (n % 64 + 1) ≤ 2 ^ 64 := Nat.pow_le_pow_right (by decide) hr
  omega
 have hsl : shl .u64 1 ((n % 64 : Nat) : Int) = ((2 ^ (n % 64) : Nat) : Int) := by
  unfold shl
  rw [Int.toNat_natCast, show min (n % 64) IntKind.u64.bits = n % 64 by simp [IntKind.bits] <;> omega, Int.one_mul]
  have e : (2 : Int) ^ (n % 64) = ((2 ^ (n % 64) : Nat) : Int) := by simp
  rw [e, u64s (by omega) (by omega)]
 have hlt : 2 ^ (n % 64 + 1) * z + 2 ^ (n % 64) < 18446744073709551616 := by
  have h64 : 2 ^ (n % 64 + 1) * 2 ^ (63 - n % 64) = 18446744073709551616 := by
   rw [← Nat.pow_add, show n % 64 + 1 + (63 - n % 64) = 64 by omega]
  have h1 : 2 ^ (n % 64 + 1) * z < 2 ^ (n % 64 + 1) * 2 ^ (63 - n % 64) := by rw [h64]; omega
  have h2 : z < 2 ^ (63 - n % 64) := Nat.lt_of_mul_lt_mul_left h1
  have h3 : 2 ^ (n % 64 + 1) * (z + 1) ≤ 18446744073709551616 := by rw [← h64]; exact Nat.mul_le_mul_left _ h2
  rw [Nat.mul_add] at h3
  omega
 refine ⟨2 ^ (n % 64 + 1) * z + 2 ^ (n % 64), ?_, hlt, fun p => ?_, ?_⟩
 ·
  rw [hz, hsl]
  exact orAdd (by omega) hlt
 ·
  by_cases hp1 : p = n / 64
  ·
   subst hp1
   refine ⟨2 * z + 1, ?_⟩
   rw [List.getD_eq_getElem?_getD, List.getElem?_set_self hn, show min 64 (n - 64 * (n / 64)) = n % 64 by omega]
   show (((2 ^ (n % 64 + 1) * z + 2 ^ (n % 64) : Nat)) : Int) = _
   congr 1
   rw [hp2, Nat.mul_add, Nat.mul_one, ← Nat.mul_assoc, Nat.mul_comm (2 ^ (n % 64)) 2]
  ·
   rw [getD_set_ne (Ne.symm hp1)]
   exact h.less (by omega) p
 ·
  have hs := val_set 18446744073709551616 l (n / 64) ((2 ^ (n % 64 + 1) * z + 2 ^ (n % 64) : Nat) : Int) hn
  rw [hz, Int.toNat_natCast, Int.toNat_natCast, Nat.mul_add] at hs
  have hW : 18446744073709551616 ^ (n / 64) * 2 ^ (n % 64) = 2 ^ n := by
   have e : (18446744073709551616 : Nat) ^ (n / 64) = 2 ^ (64 * (n / 64)) := by rw [Nat.pow_mul]
   rw [e, ← Nat.pow_add, show 64 * (n / 64) + n % 64 = n by omega]
  omega
theorem nDiv_l0 (x y : Nat) (hy : 0 < y) (hx : Le x 100000) (hyl : Le y 100000) : ∀ (m : Nat) (l : Nat) (out : List Int), m < 10000000 → l ≤ x → l < y * 2 ^ m → out.length = (dig 18446744073709551616 x).length → m ≤ 64 * out.length → Dig 18446744073709551616 out → Free out m → val 18446744073709551616 out * y + l = x →
  Ev (fun k => zai.l0 k (dig 18446744073709551616 y) (dig 18446744073709551616 l) out ((m : Int) - 1)) (dig 18446744073709551616 (x / y), dig 18446744073709551616 (x % y), 0) := by
 intro m
 induction m with
 | zero =>
  intro l out _ hlx hl ho _ hd hf hv
  refine Ev.step (G := fun k => (zam.f k out).bind fun t490 => some (t490, dig 18446744073709551616 l, 0)) (fun k => ?_) ?_
  ·
   rw [zai.l0, if_neg (by omega)]
  ·
   have h := ntrim out (by unfold Le at hx; omega) hd
   rw [Nat.pow_zero, Nat.mul_one] at hl
   have e1 : x / y = val 18446744073709551616 out := by
    rw [← hv, Nat.add_comm, Nat.add_mul_div_right _ _ hy, Nat.div_eq_of_lt hl, Nat.zero_add]
   have e2 : x % y = l := by
    rw [← hv, Nat.add_comm, Nat.add_mul_mod_self_right, Nat.mod_eq_of_lt hl]
   rw [e1, e2]
   exact Ev.bind h (Ev.const _)
 | succ n ih =>
  intro l out hm hlx hl ho hn hd hf hv
  have hll : Le l 100000 := Nat.le_trans (dig_mono (by decide) hlx) hx
  have sh := nShifted y n hyl (by omega)
  have e0 : ((n + 1 : Nat) : Int) - 1 = (n : Int) := by omega
  rw [e0]
  have e1 : wrap64 (Int.tdiv (n : Int) 64) = ((n / 64 : Nat) : Int) := by
   rw [Int.tdiv_eq_ediv_of_nonneg (by omega), w64s (by omega) (by omega)]
   omega
  have e2 : Int.tmod (n : Int) 64 = ((n % 64 : Nat) : Int) := by
   rw [Int.tmod_eq_emod_of_nonneg (by omega)]
   omega
  have E1 := Lib.hid e1
  have E2 := Lib.hid e2
  have E3 := Lib.hid (show wrap64 ((n : Int) - 1) = (n : Int) - 1 from w64s (by omega) (by omega))
  clear e1 e2
  refine Ev.step (G := fun k => (zah.f k (dig 18446744073709551616 y) (n : Int)).bind fun t493 => (zb2.f (dig 18446744073709551616 l) t493).bind fun t496 => if t496 ≥ 0 then ((za4.f k (dig 18446744073709551616 l) t493).bind fun t497 => if 0 ≤ (wrap64 (Int.tdiv (n : Int) 64)) then (if (wrap64 (Int.tdiv (n : Int) 64)) < (out.length : Int) then (if 0 ≤ (Int.tmod (n : Int) 64) then (zai.l0 k (dig 18446744073709551616 y) t497 (out.set ((wrap64 (Int.tdiv (n : Int) 64)) : Int).toNat (Go.bits .or .u64 (rd out (wrap64 (Int.tdiv (n : Int) 64))) (shl .u64 1 (Int.tmod (n : Int) 64)))) (wrap64 ((n : Int) - 1))) else none) else none) else none) else zai.l0 k (dig 18446744073709551616 y) (dig 18446744073709551616 l) out (wrap64 ((n : Int) - 1))) (fun k => ?_) (Ev.bind sh (Ev.plain (nCmp l (y * 2 ^ n)) ?_))
  ·
   rw [zai.l0, if_pos (by omega)]
  ·
   by_cases hge : y * 2 ^ n ≤ l
   ·
    have hs : sgn l (y * 2 ^ n) ≥ 0 := by
     unfold sgn
     split
     ·
      omega
     ·
      rw [if_neg (by omega)]
      omega
    obtain ⟨o, o1, o2, o3, o4⟩ := set_bit out hd n hf (by omega)
    have O1 := Lib.hid o1
    have hv2 : val 18446744073709551616 (out.set (n / 64) (o : Int)) * y + (l - y * 2 ^ n) = x := by
     rw [o4, Nat.add_mul, Nat.mul_comm (2 ^ n) y]
     omega
    have hl2 : l - y * 2 ^ n < y * 2 ^ n := by
     rw [Nat.pow_succ, ← Nat.mul_assoc] at hl
     omega
    have ih2 := ih (l - y * 2 ^ n) (out.set (n / 64) (o : Int)) (by omega) (by omega) hl2 (by rw [List.length_set]; exact ho) (by rw [List.length_set]; omega) (dig_set hd _ (by omega) (by omega)) o3 hv2
    refine Ev.pos hs (Ev.bind (nLess l (y * 2 ^ n) hll hge) ?_)
    refine Ev.congr (fun k => ?_) ih2
    rw [E1.out, E2.out, E3.out, if_pos (by omega), if_pos (by omega), if_pos (by omega), Int.toNat_natCast, rd_nat, O1.out]
   ·
    have hs : ¬ sgn l (y * 2 ^ n) ≥ 0 := by
     rw [sgn_lt (by omega)]
     omega
    refine Ev.neg hs (Ev.congr (fun k => ?_) (ih l out (by omega) hlx (by omega) ho (by omega) hd (hf.less (by omega)) hv))
    rw [E3.out]
theorem nDivMod (x y : Nat) (hy : 0 < y) (hx : Le x 100000) (hyl : Le y 100000) : Ev (fun k => zai.f k (dig 18446744073709551616 x) (dig 18446744073709551616 y)) (dig 18446744073709551616 (x / y), dig 18446744073709551616 (x % y), 0) := by
 obtain ⟨L, l1, l2, l3, l4⟩ := nLong x hx
 obtain ⟨M, m1, m2, m3, m4⟩ := nLong y hyl
 obtain ⟨m5, m6⟩ := m4 (by omega)
 have hyne := dig_ne (B := 18446744073709551616) (by decide) (show y ≠ 0 by omega)
 have hyl0 : 0 < (dig 18446744073709551616 y).length := List.length_pos_iff.2 hyne
 have hxl := hx
 have hyl' := hyl
 unfold Le at hxl hyl'
 have hb : x < y * 2 ^ (L - M + 1) := by
  have h1 : 2 ^ L ≤ 2 ^ (M - 1) * 2 ^ (L - M + 1) := by
   rw [← Nat.pow_add]
   exact Nat.pow_le_pow_right (by decide) (by omega)
  exact Nat.lt_of_lt_of_le l3 (Nat.le_trans h1 (Nat.mul_le_mul_right _ m6))
 have hclone : zay.f (dig 18446744073709551616 x) = some (dig 18446744073709551616 x) := by
  unfold zay.f
  rw [if_pos (by omega)]
 refine Ev.congr (G := fun k => zai.l0 k (dig 18446744073709551616 y) (dig 18446744073709551616 x) (List.replicate (dig 18446744073709551616 x).length 0) ((L : Int) - (M : Int))) (fun k => ?_) ?_
 ·
  rw [zai.f, if_neg (by omega), hclone, Option.bind_some, if_pos (by omega), Int.toNat_natCast, if_pos (by omega), l1, Option.bind_some, m1, Option.bind_some, w64s (by omega) (by omega)]
 ·
  by_cases hLM : M ≤ L
  ·
   have h := nDiv_l0 x y hy hx hyl (L - M + 1) x (List.replicate (dig 18446744073709551616 x).length 0) (by omega) (Nat.le_refl _) hb (by simp) (by rw [List.length_replicate]; omega) (Dig.rep (by decide) _) (Free.zero _ _) (by rw [zb7]; omega)
   rw [show ((L - M + 1 : Nat) : Int) - 1 = (L : Int) - (M : Int) by omega] at h
   exact h
  ·
   have hxy : x < y := by
    have : 2 ^ L ≤ 2 ^ (M - 1) := Nat.pow_le_pow_right (by decide) (by omega)
    omega
   have h := nDiv_l0 x y hy hx hyl 0 x (List.replicate (dig 18446744073709551616 x).length 0) (by omega) (Nat.le_refl _) (by omega) (by simp) (by omega) (Dig.rep (by decide) _) (Free.zero _ _) (by rw [zb7]; omega)
   obtain ⟨K, hK⟩ := h
   have ht := ntrim (List.replicate (dig 18446744073709551616 x).length 0) (by rw [List.length_replicate]; omega) (Dig.rep (by decide) _)
   rw [zb7] at ht
   refine Ev.step (G := fun k => (zam.f k (List.replicate (dig 18446744073709551616 x).length 0)).bind fun t490 => some (t490, dig 18446744073709551616 x, 0)) (fun k => ?_) ?_
   ·
    rw [zai.l0, if_neg (by omega)]
   ·
    rw [Nat.div_eq_of_lt hxy, Nat.mod_eq_of_lt hxy]
    exact Ev.bind ht (Ev.const _)
theorem nGcd_l0 : ∀ (y x : Nat), Le x 100000 → Le y 100000 → Ev (fun k => zbg.l0 k (dig 18446744073709551616 x) (dig 18446744073709551616 y)) (dig 18446744073709551616 (Nat.gcd x y)) := by
 intro y
 induction y using Nat.strongRecOn with
 | ind y ih =>
  intro x hx hyl
  by_cases hy : y = 0
  ·
   subst hy
   refine Ev.step (G := fun _ => some (dig 18446744073709551616 x)) (fun k => ?_) ?_
   ·
    rw [zca, zbg.l0, if_neg (by simp)]
   ·
    rw [Nat.gcd_zero_right]
    exact Ev.const _
  ·
   have hpos : 0 < y := by omega
   have hne := dig_ne (B := 18446744073709551616) (by decide) hy
   have hl0 : 0 < (dig 18446744073709551616 y).length := List.length_pos_iff.2 hne
   have hmod := Nat.mod_lt x hpos
   have ih2 := ih (x % y) hmod y hyl (Nat.le_trans (dig_mono (by decide) (Nat.le_of_lt hmod)) hyl)
   have hg : Nat.gcd x y = Nat.gcd y (x % y) := by rw [Nat.gcd_comm x y, Nat.gcd_rec y x, Nat.gcd_comm]
   have hclone : zay.f (dig 18446744073709551616 y) = some (dig 18446744073709551616 y) := by
    unfold zay.f
    have := hyl
    unfold Le at this
    rw [if_pos (by omega)]
   refine Ev.step (G := fun k => (zai.f k (dig 18446744073709551616 x) (dig 18446744073709551616 y)).bind fun bt505 => (zay.f (dig 18446744073709551616 y)).bind fun t512 => zbg.l0 k t512 bt505.2.1) (fun k => ?_) (Ev.bind (nDivMod x y hpos hx hyl) (Ev.plain hclone ?_))
   ·
    rw [zbg.l0, if_pos (by omega)]
   ·
    rw [hg]
    exact ih2
theorem nGcd (x y : Nat) (hx : Le x 100000) (hy : Le y 100000) : Ev (fun k => zbg.f k (dig 18446744073709551616 x) (dig 18446744073709551616 y)) (dig 18446744073709551616 (Nat.gcd x y)) := by
 have hclone : zay.f (dig 18446744073709551616 x) = some (dig 18446744073709551616 x) := by
  unfold zay.f
  have := hx
  unfold Le at this
  rw [if_pos (by omega)]
 exact Ev.plain hclone (nGcd_l0 y x hx hy)
theorem gcdLt {x y M : Nat} (hx : x < M) (hy : y < M) : Nat.gcd x y < M := by
 by_cases h : x = 0
 ·
  subst h
  rw [Nat.gcd_zero_left]
  exact hy
 ·
  exact Nat.lt_of_le_of_lt (Nat.gcd_le_left y (by omega)) hx
theorem gcdPos {x y : Nat} (hy : 0 < y) : 0 < Nat.gcd x y := Nat.gcd_pos_of_pos_right x hy
theorem divLt {x y M : Nat} (hx : x < M) : x / y < M := Nat.lt_of_le_of_lt (Nat.div_le_self _ _) hx
theorem ne_len {B n : Nat} (hB : 1 < B) (h : 0 < n) : 0 < (dig B n).length := List.length_pos_iff.2 (dig_ne hB (by omega))
theorem nOne : Ev (fun k => za7.f k) (dig 18446744073709551616 1) := Ev.bind (F := fun k => zb0.f k 1) (nOf 1 (by omega)) (Ev.const _)
theorem nLowest {x y m : Nat} (hy : 0 < y) (hx : x < 18446744073709551616 ^ m) (hyl : y < 18446744073709551616 ^ m) (hm : m ≤ 100000) : Ev (fun k => za3.f k (dig 18446744073709551616 x) (dig 18446744073709551616 y)) (dig 18446744073709551616 (x / Nat.gcd x y), dig 18446744073709551616 (y / Nat.gcd x y)) := by
 have hg := gcdLt hx hyl
 exact Ev.bind (nGcd x y (Le_lt hx hm) (Le_lt hyl hm)) (Ev.bind (nDivMod x _ (gcdPos hy) (Le_lt hx hm) (Le_lt hg hm)) (Ev.bind (nDivMod y _ (gcdPos hy) (Le_lt hyl hm) (Le_lt hg hm)) (Ev.const _)))
theorem nRof {x y m : Nat} (hy : 0 < y) (hx : x < 18446744073709551616 ^ m) (hyl : y < 18446744073709551616 ^ m) (hm : m ≤ 100000) : Ev (fun k => ratio_Of.f k (dig 18446744073709551616 x) (dig 18446744073709551616 y)) (dig 18446744073709551616 (x / Nat.gcd x y), dig 18446744073709551616 (y / Nat.gcd x y), 0) := by
 have := ne_len (B := 18446744073709551616) (by decide) hy
 exact Ev.neg (by omega) (Ev.bind (nLowest hy hx hyl hm) (Ev.const _))
theorem nFloor {x y m : Nat} (hy : 0 < y) (hx : x < 18446744073709551616 ^ m) (hyl : y < 18446744073709551616 ^ m) (hm : m ≤ 100000) : Ev (fun k => za9.f k (dig 18446744073709551616 x) (dig 18446744073709551616 y)) (dig 18446744073709551616 (x / y)) :=
 Ev.bind (nDivMod x y hy (Le_lt hx hm) (Le_lt hyl hm)) (Ev.const _)
theorem sgn_zero {x y : Nat} : sgn x y = 0 ↔ x = y := by
 unfold sgn
 constructor
 ·
  intro h
  by_cases e : x = y
  ·
   exact e
  ·
   rw [if_neg e] at h
   split at h <;> simp at h
 ·
  intro h
  rw [if_pos h]
theorem nRGood {x y m : Nat} (hx : x < 18446744073709551616 ^ m) (hy : y < 18446744073709551616 ^ m) (hm : m ≤ 100000) (hpos : 0 < y) : Ev (fun k => za6.f k (dig 18446744073709551616 x) (dig 18446744073709551616 y)) (decide (Nat.gcd x y = 1)) := by
 have hl := ne_len (B := 18446744073709551616) (by decide) hpos
 have l1 : (dig 18446744073709551616 x).length ≤ m := dig_length (by decide) m x hx
 have l2 : (dig 18446744073709551616 y).length ≤ m := dig_length (by decide) m y hy
 have g1 := nGood (dig 18446744073709551616 x) (by omega)
 have g2 := nGood (dig 18446744073709551616 y) (by omega)
 rw [goodB_dig] at g1 g2
 refine Ev.plain g1 (Ev.pos rfl (Ev.plain g2 (Ev.pos rfl (Ev.pos (by omega) (Ev.bind (nGcd x y (Le_lt hx hm) (Le_lt hy hm)) (Ev.bind nOne (Ev.plain (nCmp _ 1) ?_)))))))
 have : (sgn (Nat.gcd x y) 1 == 0) = decide (Nat.gcd x y = 1) := by
  by_cases e : Nat.gcd x y = 1
  ·
   rw [decide_eq_true e, beq_iff_eq, sgn_zero]
   exact e
  ·
   rw [decide_eq_false e, beq_eq_false_iff_ne]
   intro h
   exact e (sgn_zero.1 h)
 rw [this]
 exact Ev.const _
theorem mx0 (n : Int) : mx n 0 = ((n.toNat : Nat) : Int) := by
 unfold mx
 omega
theorem nRint (n : Int) (h : n < 9223372036854775808) : Ev (fun k => zbr.f k n) (dig 18446744073709551616 n.toNat, dig 18446744073709551616 1) := by
 have h1 : IntKind.u64.wrap (mx n 0) = ((n.toNat : Nat) : Int) := by rw [mx0, u64s (by omega) (by omega)]
 have h2 : Ev (fun k => zb0.f k (IntKind.u64.wrap (mx n 0))) (dig 18446744073709551616 n.toNat) := by
  rw [h1]
  exact nOf _ (by omega)
 exact Ev.bind h2 (Ev.bind nOne (Ev.const _))
theorem low_rat {x y : Nat} (hy : 0 < y) : x / Nat.gcd x y = (mkRat (x : Int) y).num.toNat ∧ y / Nat.gcd x y = (mkRat (x : Int) y).den := by
 rw [Rat.num_mkRat, Rat.den_mkRat, if_neg (by omega), if_neg (by omega), Int.natAbs_natCast, Nat.gcd_comm y x]
 refine ⟨?_, rfl⟩
 rw [← Int.natCast_ediv, Int.toNat_natCast]
def Bd (r : Rat) (m : Nat) : Prop := 0 ≤ r ∧ r.num.toNat < 18446744073709551616 ^ m ∧ r.den < 18446744073709551616 ^ m
theorem mkRat_nonneg (x y : Nat) : 0 ≤ mkRat (x : Int) y := by
 rw [← Rat.num_nonneg, Rat.num_mkRat]
 split
 ·
  exact Int.le_refl _
 ·
  exact Int.ediv_nonneg (Int.natCast_nonneg _) (Int.natCast_nonneg _)
theorem Bd.mk {x y m : Nat} (hy : 0 < y) (hx : x < 18446744073709551616 ^ m) (hyl : y < 18446744073709551616 ^ m) : Bd (mkRat (x : Int) y) m := by
 obtain ⟨h1, h2⟩ := low_rat (x := x) hy
 refine ⟨mkRat_nonneg x y, ?_, ?_⟩
 ·
  rw [← h1]
  exact divLt hx
 ·
  rw [← h2]
  exact divLt hyl
theorem nnum {r : Rat} (h : 0 ≤ r) : ((r.num.toNat : Nat) : Int) = r.num := Int.toNat_of_nonneg (Rat.num_nonneg.2 h)
theorem mul_rat {r s : Rat} (hr : 0 ≤ r) (hs : 0 ≤ s) : mkRat ((r.num.toNat * s.num.toNat : Nat) : Int) (r.den * s.den) = r * s := by
 rw [Rat.mul_def', Int.natCast_mul, nnum hr, nnum hs]
theorem add_rat {r s : Rat} (hr : 0 ≤ r) (hs : 0 ≤ s) : mkRat ((r.num.toNat * s.den + s.num.toNat * r.den : Nat) : Int) (r.den * s.den) = r + s := by
 rw [Rat.add_def', Int.natCast_add, Int.natCast_mul, Int.natCast_mul, nnum hr, nnum hs]
theorem le_rat {r s : Rat} (hr : 0 ≤ r) (hs : 0 ≤ s) : s.num.toNat * r.den ≤ r.num.toNat * s.den ↔ s ≤ r := by
 rw [Rat.le_iff, ← nnum hr, ← nnum hs, ← Int.natCast_mul, ← Int.natCast_mul, Int.ofNat_le, Int.toNat_natCast, Int.toNat_natCast]
theorem lt_rat {r s : Rat} (hr : 0 ≤ r) (hs : 0 ≤ s) : r.num.toNat * s.den < s.num.toNat * r.den ↔ r < s := by
 rw [Rat.lt_iff, ← nnum hr, ← nnum hs, ← Int.natCast_mul, ← Int.natCast_mul, Int.ofNat_lt, Int.toNat_natCast, Int.toNat_natCast]
theorem eq_rat {r s : Rat} (hr : 0 ≤ r) (hs : 0 ≤ s) : r.num.toNat * s.den = s.num.toNat * r.den ↔ r = s := by
 rw [Rat.eq_iff_mul_eq_mul, ← nnum hr, ← nnum hs, ← Int.natCast_mul, ← Int.natCast_mul, Int.ofNat_inj, Int.toNat_natCast, Int.toNat_natCast]
def cmpR (r s : Rat) : Int := if r = s then 0 else if r < s then -1 else 1
theorem sgn_rat {r s : Rat} (hr : 0 ≤ r) (hs : 0 ≤ s) : sgn (r.num.toNat * s.den) (s.num.toNat * r.den) = cmpR r s := by
 unfold sgn cmpR
 by_cases h1 : r = s
 ·
  rw [if_pos ((eq_rat hr hs).2 h1), if_pos h1]
 ·
  rw [if_neg (fun h => h1 ((eq_rat hr hs).1 h)), if_neg h1]
  by_cases h2 : r < s
  ·
   rw [if_pos ((lt_rat hr hs).2 h2), if_pos h2]
  ·
   rw [if_neg (fun h => h2 ((lt_rat hr hs).1 h)), if_neg h2]
theorem Bd.mul {r s : Rat} {m n : Nat} (hr : Bd r m) (hs : Bd s n) : Bd (r * s) (m + n) := by
 have := Bd.mk (x := r.num.toNat * s.num.toNat) (y := r.den * s.den) (m := m + n) (Nat.mul_pos r.den_pos s.den_pos) (W_mul hr.2.1 hs.2.1) (W_mul hr.2.2 hs.2.2)
 rw [mul_rat hr.1 hs.1] at this
 exact this
theorem Bd.add {r s : Rat} {m n : Nat} (hr : Bd r m) (hs : Bd s n) : Bd (r + s) (m + n + 1) := by
 have h1 := W_mul hr.2.1 hs.2.2
 have h2 := W_mul hs.2.1 hr.2.2
 rw [Nat.add_comm n m] at h2
 have := Bd.mk (x := r.num.toNat * s.den + s.num.toNat * r.den) (y := r.den * s.den) (m := m + n + 1) (Nat.mul_pos r.den_pos s.den_pos) (W_add h1 h2) (W_le (W_mul hr.2.2 hs.2.2) (by omega))
 rw [add_rat hr.1 hs.1] at this
 exact this
theorem rat_gcd (r : Rat) (h : 0 ≤ r) : Nat.gcd r.num.toNat r.den = 1 := by
 have := r.reduced
 have e : r.num.natAbs = r.num.toNat := by
  have := Rat.num_nonneg.2 h
  omega
 rw [e] at this
 exact this
theorem qOf {x y m : Nat} (hy : 0 < y) (hx : x < 18446744073709551616 ^ m) (hyl : y < 18446744073709551616 ^ m) (hm : m ≤ 100000) : Ev (fun k => ratio_Of.f k (dig 18446744073709551616 x) (dig 18446744073709551616 y)) (dig 18446744073709551616 (mkRat (x : Int) y).num.toNat, dig 18446744073709551616 (mkRat (x : Int) y).den, 0) := by
 obtain ⟨h1, h2⟩ := low_rat (x := x) hy
 have := nRof hy hx hyl hm
 rw [h1, h2] at this
 exact this
theorem qLow {x y m : Nat} (hy : 0 < y) (hx : x < 18446744073709551616 ^ m) (hyl : y < 18446744073709551616 ^ m) (hm : m ≤ 100000) : Ev (fun k => za3.f k (dig 18446744073709551616 x) (dig 18446744073709551616 y)) (dig 18446744073709551616 (mkRat (x : Int) y).num.toNat, dig 18446744073709551616 (mkRat (x : Int) y).den) := by
 obtain ⟨h1, h2⟩ := low_rat (x := x) hy
 have := nLowest hy hx hyl hm
 rw [h1, h2] at this
 exact this
theorem qMul {r s : Rat} {m n : Nat} (hr : Bd r m) (hs : Bd s n) (h : m + n ≤ 100000) : Ev (fun k => zbk.f k (dig 18446744073709551616 r.num.toNat) (dig 18446744073709551616 r.den) (dig 18446744073709551616 s.num.toNat) (dig 18446744073709551616 s.den)) (dig 18446744073709551616 (r * s).num.toNat, dig 18446744073709551616 (r * s).den) := by
 have := qLow (x := r.num.toNat * s.num.toNat) (y := r.den * s.den) (Nat.mul_pos r.den_pos s.den_pos) (W_mul hr.2.1 hs.2.1) (W_mul hr.2.2 hs.2.2) h
 rw [mul_rat hr.1 hs.1] at this
 exact Ev.bind (nMul _ _ (Le_lt hr.2.1 (by omega)) (Le_lt hs.2.1 (by omega))) (Ev.bind (nMul _ _ (Le_lt hr.2.2 (by omega)) (Le_lt hs.2.2 (by omega))) (Ev.bind this (Ev.const _)))
theorem qCross {r s : Rat} {m n : Nat} (hr : Bd r m) (hs : Bd s n) (h : m + n ≤ 90000) : Ev (fun k => za5.f k (dig 18446744073709551616 r.num.toNat) (dig 18446744073709551616 r.den) (dig 18446744073709551616 s.num.toNat) (dig 18446744073709551616 s.den)) (dig 18446744073709551616 (r.num.toNat * s.den), dig 18446744073709551616 (s.num.toNat * r.den), dig 18446744073709551616 (r.den * s.den)) :=
 Ev.bind (nMul _ _ (Le_lt hr.2.1 (by omega)) (Le_lt hs.2.2 (by omega))) (Ev.bind (nMul _ _ (Le_lt hs.2.1 (by omega)) (Le_lt hr.2.2 (by omega))) (Ev.bind (nMul _ _ (Le_lt hr.2.2 (by omega)) (Le_lt hs.2.2 (by omega))) (Ev.const _)))
theorem qCmp {r s : Rat} {m n : Nat} (hr : Bd r m) (hs : Bd s n) (h : m + n ≤ 90000) : Ev (fun k => zb6.f k (dig 18446744073709551616 r.num.toNat) (dig 18446744073709551616 r.den) (dig 18446744073709551616 s.num.toNat) (dig 18446744073709551616 s.den)) (cmpR r s) := by
 have := nCmp (r.num.toNat * s.den) (s.num.toNat * r.den)
 rw [sgn_rat hr.1 hs.1] at this
 exact Ev.bind (qCross hr hs h) (Ev.plain this (Ev.const _))
theorem qGood {r : Rat} {m : Nat} (hr : Bd r m) (h : m ≤ 90000) : Ev (fun k => za6.f k (dig 18446744073709551616 r.num.toNat) (dig 18446744073709551616 r.den)) true := by
 have := nRGood hr.2.1 hr.2.2 (by omega) r.den_pos
 rw [decide_eq_true (rat_gcd r hr.1)] at this
 exact this
theorem Bd.nat {n m : Nat} (h : n < 18446744073709551616 ^ m) (hm : 1 ≤ m) : Bd (n : Rat) m := ⟨by
  have := mkRat_nonneg n 1
  rw [Rat.mkRat_eq_div] at this
  rw [← Rat.num_nonneg]
  simp, by simpa using h, by
  rw [Rat.den_natCast]
  exact Nat.lt_of_lt_of_le (by decide : 1 < 18446744073709551616) (by
   have := Nat.pow_le_pow_right (n := 18446744073709551616) (by decide) hm
   rw [Nat.pow_one] at this
   exact this)⟩
theorem qInt (n : Int) (h : n < 9223372036854775808) : Ev (fun k => zbr.f k n) (dig 18446744073709551616 ((n.toNat : Nat) : Rat).num.toNat, dig 18446744073709551616 ((n.toNat : Nat) : Rat).den) := by
 have := nRint n h
 rw [Rat.num_natCast, Rat.den_natCast, Int.toNat_natCast]
 exact this
end Go.Proofs.YtfjkamhcabckeaaDoor.P
end
