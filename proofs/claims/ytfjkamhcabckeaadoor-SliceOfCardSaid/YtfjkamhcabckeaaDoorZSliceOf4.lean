-- Written by a program of this session (wip/tools/shake.py) out of its own texts and of the kit's printed ones; not trusted: Lean checks it.
import Derived.Test.YtfjkamhcabckeaaDoorZSliceOf3
set_option maxHeartbeats 8000000
set_option maxRecDepth 100000
set_option linter.unusedVariables false
set_option linter.unusedSimpArgs false
section
namespace Go.Proofs.YtfjkamhcabckeaaDoor.P
open Go.RowKit Go.Proofs.YtfjkamhcabckeaaDoorW.PrintWords Go.Proofs.YtfjkamhcabckeaaDoorW.PrintLast Go.Proofs.YtfjkamhcabckeaaDoorW.PrintMore
attribute [local go_sem] max2_int min2_int max_two min_two zc9 zdb max_four min_four
mutual
def za7.j0 : Nat → ByteArray → List Int → Int → List Int → Int → Option (List Int × List Int × Int)
 | 0, _, _, _, _, _ => none
 | k + 1, x0, x7, x8, x9, x10 => if x8 = 0 then (if x10 = 0 then (za7.j1 k x0 x7 x9 ((x9.length : Int) == 0)) else (za7.j1 k x0 x7 x9 true)) else (za7.j1 k x0 x7 x9 true)
def za7.j1 : Nat → ByteArray → List Int → List Int → Bool → Option (List Int × List Int × Int)
 | 0, _, _, _, _ => none
 | k + 1, x0, x7, x9, x40 => if x40 = true then (some (([] : List Int), ([] : List Int), 17)) else ((zbd.f k x7 x9).bind fun bt1000 => ((za2.f k bt1000.1 bt1000.2).bind fun t1007 => (if t1007.toList = x0.toList then (some (bt1000.1, bt1000.2, 0)) else (some (([] : List Int), ([] : List Int), 17)))))
end
def za7.f (k : Nat) (a0 : ByteArray) : Option (List Int × List Int × Int) := (strings_Cut.f a0 (⟨#[47]⟩ : ByteArray)).bind fun bt986 => ((zcf.f k bt986.1).bind fun bt989 => ((zbm.f k).bind fun t993 => (if bt986.2.2 = true then ((zcf.f k bt986.2.1).bind fun bt996 => (za7.j0 k a0 bt989.1 bt989.2 bt996.1 bt996.2)) else (za7.j0 k a0 bt989.1 bt989.2 t993 0))))
theorem za7.zco : ∀ k, (∀ y0 y1 y2 y3 y4, LeO (za7.j0 k y0 y1 y2 y3 y4) (za7.j0 (k + 1) y0 y1 y2 y3 y4)) ∧ (∀ y0 y1 y2 y3, LeO (za7.j1 k y0 y1 y2 y3) (za7.j1 (k + 1) y0 y1 y2 y3))
 | 0 => ⟨fun _ _ _ _ _ r h => by simp [za7.j0] at h, fun _ _ _ _ r h => by simp [za7.j1] at h⟩
 | k + 1 => by
  obtain ⟨ih0, ih1⟩ := za7.zco k
  refine ⟨?_, ?_⟩
  ·
   intro y0 y1 y2 y3 y4
   unfold za7.j0
   repeat' first
   | (with_reducible exact ih0 _ _ _ _ _)
   | (with_reducible exact ih1 _ _ _ _)
   | (with_reducible exact zcf.mono _ _)
   | (with_reducible exact za2.mono _ _ _)
   | (with_reducible exact zbd.mono _ _ _)
   | (with_reducible exact zbm.mono _)
   | (with_reducible exact LeO.refl _)
   | (with_reducible exact LeO.none _)
   | (with_reducible refine LeO.ite ?_ ?_)
   | (with_reducible refine LeO.bind ?_ (fun _ => ?_))
   | exact ih0 _ _ _ _ _
   | exact ih1 _ _ _ _
   | exact zcf.mono _ _
   | exact za2.mono _ _ _
   | exact zbd.mono _ _ _
   | exact zbm.mono _
   | exact LeO.none _
   | refine LeO.ite ?_ ?_
   | refine LeO.bind ?_ (fun _ => ?_)
  ·
   intro y0 y1 y2 y3
   unfold za7.j1
   repeat' first
   | (with_reducible exact ih0 _ _ _ _ _)
   | (with_reducible exact ih1 _ _ _ _)
   | (with_reducible exact zcf.mono _ _)
   | (with_reducible exact za2.mono _ _ _)
   | (with_reducible exact zbd.mono _ _ _)
   | (with_reducible exact zbm.mono _)
   | (with_reducible exact LeO.refl _)
   | (with_reducible exact LeO.none _)
   | (with_reducible refine LeO.ite ?_ ?_)
   | (with_reducible refine LeO.bind ?_ (fun _ => ?_))
   | exact ih0 _ _ _ _ _
   | exact ih1 _ _ _ _
   | exact zcf.mono _ _
   | exact za2.mono _ _ _
   | exact zbd.mono _ _ _
   | exact zbm.mono _
   | exact LeO.none _
   | refine LeO.ite ?_ ?_
   | refine LeO.bind ?_ (fun _ => ?_)
theorem za7.mono : ∀ a0 k, LeO (za7.f k a0) (za7.f (k + 1) a0) := by
 intro a0 k
 obtain ⟨ih0, ih1⟩ := za7.zco k
 unfold za7.f
 repeat' first
   | (with_reducible exact ih0 _ _ _ _ _)
   | (with_reducible exact ih1 _ _ _ _)
   | (with_reducible exact zcf.mono _ _)
   | (with_reducible exact za2.mono _ _ _)
   | (with_reducible exact zbd.mono _ _ _)
   | (with_reducible exact zbm.mono _)
   | (with_reducible exact LeO.refl _)
   | (with_reducible exact LeO.none _)
   | (with_reducible refine LeO.ite ?_ ?_)
   | (with_reducible refine LeO.bind ?_ (fun _ => ?_))
   | exact ih0 _ _ _ _ _
   | exact ih1 _ _ _ _
   | exact zcf.mono _ _
   | exact za2.mono _ _ _
   | exact zbd.mono _ _ _
   | exact zbm.mono _
   | exact LeO.none _
   | refine LeO.ite ?_ ?_
   | refine LeO.bind ?_ (fun _ => ?_)
theorem za7.calls (k : Nat) (a0 : ByteArray) (r1 : List Int) (r2 : List Int) (r3 : Int) (w : World) (hG : Glob w) (h : za7.f k a0 = some (r1, r2, r3)) :
  Calls Tryd.prog 40 #[.string a0] w fun e w' => ∃ v0_ v1_ : Value, e = .returned (.tuple #[.agg #[v0_, v1_], .int .i64 r3]) ∧ Kd.V (Kd.int .u64) 57 w' w.heap.size (fun k_ => (w.heap.size ≤ k_)) v0_ r1 ∧ Kd.V (Kd.int .u64) 57 w' w.heap.size (fun k_ => (w.heap.size ≤ k_)) v1_ r2 ∧ Below w.heap.size w w' := by
 have hu28 := Tryd.underlying28
 have HG := zA hG
 clear hG
 have HB := zA (Below.refl w.heap.size w)
 have H : ((strings_Cut.f a0 (⟨#[47]⟩ : ByteArray)).bind fun bt986 => ((zcf.f k bt986.1).bind fun bt989 => ((zbm.f k).bind fun t993 => (if bt986.2.2 = true then ((zcf.f k bt986.2.1).bind fun bt996 => (za7.j0 k a0 bt989.1 bt989.2 bt996.1 bt996.2)) else (za7.j0 k a0 bt989.1 bt989.2 t993 0))))) = some (r1, r2, r3) := h
 clear h
 replace H := zO H
 obtain ⟨⟨t986, t987, t988⟩, A20, H⟩ := H
 try dsimp only at H
 have A2 := zA A20
 clear A20
 replace H := zO H
 obtain ⟨⟨t989, t992⟩, A30, H⟩ := H
 try dsimp only at H
 have A3 := zA A30
 clear A30
 replace H := zO H
 obtain ⟨t993, A40, H⟩ := H
 try dsimp only at H
 have A4 := zA A40
 clear A40
 have HC5 := zA H
 clear H
 go_enter Tryd.func40, Tryd.ntmps40
 go_upto_if 24 with (first | ((with_reducible refine zbe (N := 2) rfl ?_); (try (refine gate_guard (by rfl) ?_; dsimp only)); refine zbj ?hg (N := 2) ?hd (cs := #[.slice none 0 0, .slice none 0 0]) (t := 28) ?hr ?_; (case hd => rfl); (case hg => rfl); (case hr => first | (go_simp; done) | (go_simp; rfl)); intro gb985 hg w6 hbox hb; have n0_ := zA (zaa (zB HB) hb); have n1_ := zA (hbox); have n2_ := zA ((by rw [hg]; exact (za (zB HB)) : w.heap.size ≤ gb985)); have n3_ := zA ((by rw [hg]; exact (za (zB HB)) : w.heap.size ≤ gb985)); clear HB; have HB := n0_; have BK985 := n1_; have GW985 := n2_; have GE985 := n3_; clear n0_ n1_ n2_ n3_ hb hbox hg) | ((with_reducible refine zad (f := 67) rfl ?_); refine za0 (some 14) rfl rfl Tryd.func67 (by kernel_rfl) rfl #[.string a0, .string (⟨#[47]⟩ : ByteArray)] rfl (zE) ?_; (with_reducible refine (strings_Cut.calls a0 (⟨#[47]⟩ : ByteArray) t986 t987 t988 _ ?side1 A2.out).mono ?_); (case side1 => exact Glob.below HG.out (zB HB)); rintro e w' ⟨rfl, ⟨nd, rfl⟩⟩; refine ⟨_, rfl, ?_⟩) | ((with_reducible refine zad (f := 68) rfl ?_); refine za0 (some 20) rfl rfl Tryd.func68 (by kernel_rfl) rfl #[.string t986] rfl (zE) ?_; (with_reducible refine (zcf.calls k t986 t989 t992 _ A3.out).mono ?_); rintro e w7 ⟨v990, rfl, ho0, hb⟩; refine ⟨_, rfl, ?_⟩; have n0_ := zA (Kd.zba (Kd.zao (ok' := fun k_ => (w.heap.size ≤ k_) ∧ k_ ≠ gb985) ho0 (fun k_ hk_ => ⟨(Nat.le_trans (za (zB HB)) hk_), (Kd.freshB (g := gb985) (o := .cells #[.slice none 0 0, .slice none 0 0] 28 (0, 0)) (zK BK985) k_ hk_)⟩)) (za (zB HB))); have n1_ := zA (zae (g := gb985) (o := .cells #[.slice none 0 0, .slice none 0 0] 28 (0, 0)) (zK BK985) hb); have n2_ := zA (zaa (zB HB) hb); clear BK985 HB; have HO991 := n0_; have BK985 := n1_; have HB := n2_; clear n0_ n1_ n2_; (try clear hb); (try clear hb2); (try clear hk); (try clear hi); (try clear ho0)) | ((with_reducible refine zad (f := 54) rfl ?_); refine za0 (some 23) rfl rfl Tryd.func54 (by kernel_rfl) rfl #[] rfl (zE) ?_; (with_reducible refine (zbm.calls k  t993 _ A4.out).mono ?_); rintro e w8 ⟨v994, rfl, ho0, hb⟩; refine ⟨_, rfl, ?_⟩; have n0_ := zA (Kd.zav (zV HO991) hb); have n1_ := zA (Kd.zba (Kd.zao (ok' := fun k_ => (w.heap.size ≤ k_) ∧ k_ ≠ gb985) ho0 (fun k_ hk_ => ⟨(Nat.le_trans (za (zB HB)) hk_), (Kd.freshB (g := gb985) (o := .cells #[.slice none 0 0, .slice none 0 0] 28 (0, 0)) (zK BK985) k_ hk_)⟩)) (za (zB HB))); have n2_ := zA (zae (g := gb985) (o := .cells #[.slice none 0 0, .slice none 0 0] 28 (0, 0)) (zK BK985) hb); have n3_ := zA (zaa (zB HB) hb); clear HO991 BK985 HB; have HO991 := n0_; have HO995 := n1_; have BK985 := n2_; have HB := n3_; clear n0_ n1_ n2_ n3_; (try clear hb); (try clear hb2); (try clear hk); (try clear hi); (try clear ho0)))
 (try simp only [Act.put, zs1, zs2, zs3])
 go_cut [9, 10] (fun v9 v10 wc => ∃ (kq : Nat) (x9_4 : List Int) (x10_4 : Int), v10 = .int .i64 x10_4 ∧ Aside0 (za7.j0 kq a0 t989 t992 x9_4 x10_4 = some (r1, r2, r3)) ∧ Aside0 (kq ≤ k) ∧ Aside0 (Kd.V (Kd.int .u64) 57 wc w.heap.size (fun k_ => (w.heap.size ≤ k_) ∧ k_ ≠ gb985) v990 t989) ∧ Aside0 (Kd.V (Kd.int .u64) 57 wc w.heap.size (fun k_ => (w.heap.size ≤ k_) ∧ k_ ≠ gb985) v9 x9_4) ∧ Aside0 (wc.heap[gb985]? = some (.cells #[(.slice none 0 0), (.slice none 0 0)] 28 (0, 0))) ∧ Aside0 (Below w.heap.size w wc))
 case first =>
  have H := HC5.out
  clear HC5
  by_cases c9 : t988 = true
  ·
   subst c9
   rw [if_pos rfl] at H
   replace H := zO H
   obtain ⟨⟨t996, t999⟩, A100, H⟩ := H
   try dsimp only at H
   have A10 := zA A100
   clear A100
   have H' := zA H
   clear H
   go_wp2_with (first | ((with_reducible refine zad (f := 68) rfl ?_); refine za0 (some 27) rfl rfl Tryd.func68 (by kernel_rfl) rfl #[.string t987] rfl (zE) ?_; (with_reducible refine (zcf.calls k t987 t996 t999 _ A10.out).mono ?_); rintro e w11 ⟨v997, rfl, ho0, hb⟩; refine ⟨_, rfl, ?_⟩; have n0_ := zA (Kd.zav (zV HO991) hb); have n1_ := zA (Kd.zav (zV HO995) hb); have n2_ := zA (Kd.zba (Kd.zao (ok' := fun k_ => (w.heap.size ≤ k_) ∧ k_ ≠ gb985) ho0 (fun k_ hk_ => ⟨(Nat.le_trans (za (zB HB)) hk_), (Kd.freshB (g := gb985) (o := .cells #[.slice none 0 0, .slice none 0 0] 28 (0, 0)) (zK BK985) k_ hk_)⟩)) (za (zB HB))); have n3_ := zA (zae (g := gb985) (o := .cells #[.slice none 0 0, .slice none 0 0] 28 (0, 0)) (zK BK985) hb); have n4_ := zA (zaa (zB HB) hb); clear HO991 HO995 BK985 HB; have HO991 := n0_; have HO995 := n1_; have HO998 := n2_; have BK985 := n3_; have HB := n4_; clear n0_ n1_ n2_ n3_ n4_; (try clear hb); (try clear hb2); (try clear hk); (try clear hi); (try clear ho0)))
   go_meet
   case rel => exact ⟨_, (t996), (t999), (zF), H', ⟨by first | omega | exact Nat.le_refl _⟩, ⟨zV HO991⟩, ⟨zV HO998⟩, ⟨zK BK985⟩, ⟨zB HB⟩⟩
  ·
   replace c9 := Bool.eq_false_iff.mpr c9
   subst c9
   rw [if_neg (show ¬ (false = true) by decide)] at H
   have H' := zA H
   clear H
   go_wp2
   go_meet
   case rel => exact ⟨_, (t993), (0), (zF), H', ⟨by first | omega | exact Nat.le_refl _⟩, ⟨zV HO991⟩, ⟨zV HO995⟩, ⟨zK BK985⟩, ⟨zB HB⟩⟩
 case rest =>
  clear HC5
  try clear p2
  try clear c4
  try clear c5
  try clear c6
  try clear p6
  try clear c9
  obtain ⟨kq, x9_4, x10_4, rfl, HA, HJ4, HO_7, HO_9, BK985, HB⟩ := hcut
  cases kq with
  | zero => exact absurd HA.out (by simp [za7.j0])
  | succ kj4 =>
   have H := HA.out
   clear HA
   simp only [za7.j0] at H
   have HC12 := zA H
   clear H
   go_upto_region 7 with (fail)
   go_cut [40] (fun v40 wc => ∃ (kq : Nat) (x40_11 : Bool), v40 = .bool x40_11 ∧ Aside0 (za7.j1 kq a0 t989 x9_4 x40_11 = some (r1, r2, r3)) ∧ Aside0 (kq ≤ kj4) ∧ Aside0 (Kd.V (Kd.int .u64) 57 wc w.heap.size (fun k_ => (w.heap.size ≤ k_) ∧ k_ ≠ gb985) v990 t989) ∧ Aside0 (Kd.V (Kd.int .u64) 57 wc w.heap.size (fun k_ => (w.heap.size ≤ k_) ∧ k_ ≠ gb985) u9 x9_4) ∧ Aside0 (wc.heap[gb985]? = some (.cells #[(.slice none 0 0), (.slice none 0 0)] 28 (0, 0))) ∧ Aside0 (Below w.heap.size w wc))
   case first =>
    have H := HC12.out
    clear HC12
    by_cases c13 : t992 = 0
    ·
     rw [if_pos c13] at H
     have c13b0 : (t992 == 0) = true := beq_iff_eq.mpr c13
     have c13b1 : (t992 != 0) = false := bne_eq_false_iff_eq.mpr c13
     clear c13
     (first | rw [c13b0] | (simp only [i64_w, i32_w]; rw [c13b0]) | skip)
     by_cases c14 : x10_4 = 0
     ·
      rw [if_pos c14] at H
      have c14b0 : (x10_4 == 0) = true := beq_iff_eq.mpr c14
      have c14b1 : (x10_4 != 0) = false := bne_eq_false_iff_eq.mpr c14
      clear c14
      have H' := zA H
      clear H
      obtain ⟨Ao15, co15, eo15⟩ := Kd.za9 HO_9.out
      subst eo15
      go_wp2
      go_meet
      case rel => exact ⟨_, (((x9_4.length : Int) == 0)), (zF), H', ⟨by have := HJ4.out; first | omega | exact Nat.le_refl _⟩, ⟨zV HO_7⟩, ⟨zV HO_9⟩, ⟨zK BK985⟩, ⟨zB HB⟩⟩
     ·
      rw [if_neg c14] at H
      have c14b0 : (x10_4 == 0) = false := beq_eq_false_iff_ne.mpr c14
      have c14b1 : (x10_4 != 0) = true := bne_iff_ne.mpr c14
      have H' := zA H
      clear H
      go_wp2
      go_meet
      case rel => exact ⟨_, (true), (zF), H', ⟨by have := HJ4.out; first | omega | exact Nat.le_refl _⟩, ⟨zV HO_7⟩, ⟨zV HO_9⟩, ⟨zK BK985⟩, ⟨zB HB⟩⟩
    ·
     rw [if_neg c13] at H
     have c13b0 : (t992 == 0) = false := beq_eq_false_iff_ne.mpr c13
     have c13b1 : (t992 != 0) = true := bne_iff_ne.mpr c13
     (first | rw [c13b0] | (simp only [i64_w, i32_w]; rw [c13b0]) | skip)
     have H' := zA H
     clear H
     go_wp2
     go_meet
     case rel => exact ⟨_, (true), (zF), H', ⟨by have := HJ4.out; first | omega | exact Nat.le_refl _⟩, ⟨zV HO_7⟩, ⟨zV HO_9⟩, ⟨zK BK985⟩, ⟨zB HB⟩⟩
   case rest =>
    clear HC12
    try clear c1
    try clear p2
    try clear c4
    try clear c5
    try clear c6
    try clear p6
    try clear c9
    try clear c13
    try clear c13b0
    try clear c13b1
    try clear c14
    try clear c14b0
    try clear c14b1
    try clear p2
    try clear p6
    obtain ⟨kq, x40_11, rfl, HA, HJ11, HO_7, HO_9, BK985, HB⟩ := hcut
    cases kq with
    | zero => exact absurd HA.out (by simp [za7.j1])
    | succ kj11 =>
     have H := HA.out
     clear HA
     simp only [za7.j1] at H
     by_cases c16 : x40_11 = true
     ·
      subst c16
      rw [if_pos rfl] at H
      simp only [Option.some.injEq, Prod.mk.injEq] at H
      obtain ⟨rfl, rfl, rfl⟩ := H
      have hcz17_0 : wc.cell? ⟨gb985, 0, none⟩ = some (.slice none 0 0) := (zac BK985.out 0).trans rfl
      have hcz17_1 : wc.cell? ⟨gb985, 1, none⟩ = some (.slice none 0 0) := (zac BK985.out 1).trans rfl
      have hfz17_0 := zan BK985.out 0
      have hfz17_1 := zan BK985.out 1
      go_wp2
      refine bodyPost_ret (results_ct rfl _ _ gb985 28 #[.slice none 0 0, .slice none 0 0] (0, 0) _ rfl (by (with_reducible repeat (first | refine zai ?_ _ | refine zak ?_ | refine zah ?_ _)); refine zbv (cs := #[.slice none 0 0, .slice none 0 0]) ?_ 1 _ rfl; (with_reducible repeat (first | refine zai ?_ _ | refine zak ?_ | refine zah ?_ _)); refine zbv (cs := #[.slice none 0 0, .slice none 0 0]) ?_ 0 _ rfl; (with_reducible repeat (first | refine zai ?_ _ | refine zak ?_ | refine zah ?_ _)); exact BK985.out) Tryd.underlying28 rfl (by kernel_rfl)) rfl ?_
      exact ⟨_, _, zW, Kd.V_nil _ _ _ _ _, Kd.V_nil _ _ _ _ _, zB HB⟩
     ·
      replace c16 := Bool.eq_false_iff.mpr c16
      subst c16
      rw [if_neg (show ¬ (false = true) by decide)] at H
      replace H := zO H
      obtain ⟨⟨t1000, t1003⟩, A180, H⟩ := H
      try dsimp only at H
      have A18 := zA A180
      clear A180
      replace H := zO H
      obtain ⟨t1007, A190, H⟩ := H
      try dsimp only at H
      have A19 := zA A190
      clear A190
      by_cases c20 : t1007.toList = a0.toList
      ·
       rw [if_pos c20] at H
       have c20b0 : (t1007.toList == a0.toList) = true := beq_iff_eq.mpr c20
       have c20b1 : (t1007.toList != a0.toList) = false := bne_eq_false_iff_eq.mpr c20
       clear c20
       simp only [Option.some.injEq, Prod.mk.injEq] at H
       obtain ⟨rfl, rfl, rfl⟩ := H
       obtain ⟨Ao21, co21, eo21⟩ := Kd.za9 HO_7.out
       subst eo21
       obtain ⟨Ao22, co22, eo22⟩ := Kd.za9 HO_9.out
       subst eo22
       go_wp2_with (first | ((with_reducible refine zad (f := 58) rfl ?_); refine za0 (some 44) rfl rfl Tryd.func58 (by kernel_rfl) rfl #[.slice Ao21 t989.length co21, .slice Ao22 x9_4.length co22] rfl (zE) ?_; (with_reducible refine (zbd.calls kj11 _ _ t989 _ _ x9_4 t1000 t1003 _ ?side1 ?side2 ?side3 ?side4 A18.out).mono ?_); (case side1 => exact zJ (Kd.zam HO_7.out).2.2); (case side2 => exact (Kd.zam HO_7.out).2.1); (case side3 => exact zJ (Kd.zam HO_9.out).2.2); (case side4 => exact (Kd.zam HO_9.out).2.1); rintro e w23 ⟨v1001, v1004, rfl, ho0, ho1, hb⟩; refine ⟨_, rfl, ?_⟩; have n0_ := zA (Kd.zav (zV HO_7) hb); have n1_ := zA (Kd.zav (zV HO_9) hb); have n2_ := zA (Kd.zba (Kd.zao (ok' := fun k_ => (w.heap.size ≤ k_) ∧ k_ ≠ gb985) ho0 (fun k_ hk_ => ⟨(Nat.le_trans (za (zB HB)) hk_), (Kd.freshB (g := gb985) (o := .cells #[.slice none 0 0, .slice none 0 0] 28 (0, 0)) (zK BK985) k_ hk_)⟩)) (za (zB HB))); have n3_ := zA (Kd.zba (Kd.zao (ok' := fun k_ => (w.heap.size ≤ k_) ∧ k_ ≠ gb985) ho1 (fun k_ hk_ => ⟨(Nat.le_trans (za (zB HB)) hk_), (Kd.freshB (g := gb985) (o := .cells #[.slice none 0 0, .slice none 0 0] 28 (0, 0)) (zK BK985) k_ hk_)⟩)) (za (zB HB))); have n4_ := zA (zae (g := gb985) (o := .cells #[.slice none 0 0, .slice none 0 0] 28 (0, 0)) (zK BK985) hb); have n5_ := zA (zaa (zB HB) hb); clear HO_7 HO_9 BK985 HB; have HO_7 := n0_; have HO_9 := n1_; have HO1002 := n2_; have HO1005 := n3_; have BK985 := n4_; have HB := n5_; clear n0_ n1_ n2_ n3_ n4_ n5_; (try clear hb); (try clear hb2); (try clear hk); (try clear hi); (try clear ho0); (try clear ho1)) | ((with_reducible refine zbe (N := 11) rfl ?_); (try (refine gate_guard (by rfl) ?_; dsimp only)); refine zbj ?hg (N := 11) ?hd (cs := #[.slice none 0 0, .slice none 0 0]) (t := 28) ?hr ?_; (case hd => rfl); (case hg => rfl); (case hr => first | (go_simp; done) | (go_simp; rfl)); intro gb1006 hg w24 hbox hb; have n0_ := zA (Kd.zav (Kd.zct (zV HO_7) gb1006 (Nat.le_of_eq hg.symm)) hb); have n1_ := zA (Kd.zav (Kd.zct (zV HO_9) gb1006 (Nat.le_of_eq hg.symm)) hb); have n2_ := zA (Kd.zav (Kd.zct (zV HO1002) gb1006 (Nat.le_of_eq hg.symm)) hb); have n3_ := zA (Kd.zav (Kd.zct (zV HO1005) gb1006 (Nat.le_of_eq hg.symm)) hb); have n4_ := zA (zae (g := gb985) (o := .cells #[.slice none 0 0, .slice none 0 0] 28 (0, 0)) (zK BK985) hb); have n5_ := zA (zaa (zB HB) hb); have n6_ := zA (hbox); have n7_ := zA ((by rw [hg]; exact (za (zB HB)) : w.heap.size ≤ gb1006)); have n8_ := zA ((by rw [hg]; exact (za (zB HB)) : w.heap.size ≤ gb1006)); have n9_ := zA ((by rw [hg]; exact Nat.ne_of_lt (zcl (g := gb985) (o := .cells #[.slice none 0 0, .slice none 0 0] 28 (0, 0)) (zK BK985)) : gb985 ≠ gb1006)); have n10_ := zA ((by rw [hg]; exact Nat.ne_of_gt (zcl (g := gb985) (o := .cells #[.slice none 0 0, .slice none 0 0] 28 (0, 0)) (zK BK985)) : gb1006 ≠ gb985)); clear HO_7 HO_9 HO1002 HO1005 BK985 HB; have HO_7 := n0_; have HO_9 := n1_; have HO1002 := n2_; have HO1005 := n3_; have BK985 := n4_; have HB := n5_; have BK1006 := n6_; have GW1006 := n7_; have GE1006 := n8_; have NB985_1006 := n9_; have NB1006_985 := n10_; clear n0_ n1_ n2_ n3_ n4_ n5_ n6_ n7_ n8_ n9_ n10_ hb hbox hg; obtain ⟨Ao25, co25, eo25⟩ := Kd.za9 HO1002.out; subst eo25; have hnb26 := NB1006_985.out; have hnc26 := NB985_1006.out; have hcz27_0 : w24.cell? ⟨gb1006, 0, none⟩ = some (.slice none 0 0) := (zac BK1006.out 0).trans rfl; have hcz27_1 : w24.cell? ⟨gb1006, 1, none⟩ = some (.slice none 0 0) := (zac BK1006.out 1).trans rfl; have hfz27_0 := zan BK1006.out 0; have hfz27_1 := zan BK1006.out 1; obtain ⟨Ao28, co28, eo28⟩ := Kd.za9 HO1005.out; subst eo28) | ((with_reducible refine zad (f := 41) rfl ?_); refine za0 (some 46) rfl rfl Tryd.func41 (by kernel_rfl) rfl #[.agg #[.slice Ao25 t1000.length co25, .slice Ao28 t1003.length co28]] rfl (zE) ?_; (with_reducible refine (za2.calls kj11 _ _ t1000 _ _ t1003 t1007 _ ?side1 ?side2 ?side3 ?side4 ?side5 A19.out).mono ?_); (case side1 => refine (Kd.zam (e := 57) (base := w.heap.size) (ok := fun k_ => (((w.heap.size ≤ k_) ∧ k_ ≠ gb985) ∧ k_ ≠ gb1006)) (n := t1000.length) (c := co25) ?_).2.2; exact (by (with_reducible repeat (first | apply Kd.zbr | apply Kd.zbq | apply Kd.zbx)); exact (Kd.zao (Kd.V_far (p := ⟨gb1006, 1, none⟩) (Kd.V_far (p := ⟨gb1006, 0, none⟩) (Kd.zao HO1002.out (fun k_ hk => (⟨hk, hk.2⟩ : _ ∧ k_ ≠ gb1006))) (fun _ hk => hk.2) (.slice Ao25 t1000.length co25)) (fun _ hk => hk.2) (.slice Ao28 t1003.length co28)) (fun _ h_ => h_.1)))); (case side2 => exact (Kd.zam HO1002.out).2.1); (case side3 => refine (Kd.zam (e := 57) (base := w.heap.size) (ok := fun k_ => (((w.heap.size ≤ k_) ∧ k_ ≠ gb985) ∧ k_ ≠ gb1006)) (n := t1003.length) (c := co28) ?_).2.2; exact (by (with_reducible repeat (first | apply Kd.zbr | apply Kd.zbq | apply Kd.zbx)); exact (Kd.zao (Kd.V_far (p := ⟨gb1006, 1, none⟩) (Kd.V_far (p := ⟨gb1006, 0, none⟩) (Kd.zao HO1005.out (fun k_ hk => (⟨hk, hk.2⟩ : _ ∧ k_ ≠ gb1006))) (fun _ hk => hk.2) (.slice Ao25 t1000.length co25)) (fun _ hk => hk.2) (.slice Ao28 t1003.length co28)) (fun _ h_ => h_.1)))); (case side4 => exact (Kd.zam HO1005.out).2.1); (case side5 => exact Glob.below HG.out (zB HB)); rintro e w29 ⟨rfl, hb⟩; refine ⟨_, rfl, ?_⟩; have n0_ := zA (Kd.zav (by (with_reducible repeat (first | apply Kd.zbr | apply Kd.zbq | apply Kd.zbx)); exact (Kd.zao (Kd.V_far (p := ⟨gb1006, 1, none⟩) (Kd.V_far (p := ⟨gb1006, 0, none⟩) (Kd.zao HO_7.out (fun k_ hk => (⟨hk, hk.2⟩ : _ ∧ k_ ≠ gb1006))) (fun _ hk => hk.2) (.slice Ao25 t1000.length co25)) (fun _ hk => hk.2) (.slice Ao28 t1003.length co28)) (fun _ h_ => h_.1))) hb); have n1_ := zA (Kd.zav (by (with_reducible repeat (first | apply Kd.zbr | apply Kd.zbq | apply Kd.zbx)); exact (Kd.zao (Kd.V_far (p := ⟨gb1006, 1, none⟩) (Kd.V_far (p := ⟨gb1006, 0, none⟩) (Kd.zao HO_9.out (fun k_ hk => (⟨hk, hk.2⟩ : _ ∧ k_ ≠ gb1006))) (fun _ hk => hk.2) (.slice Ao25 t1000.length co25)) (fun _ hk => hk.2) (.slice Ao28 t1003.length co28)) (fun _ h_ => h_.1))) hb); have n2_ := zA (Kd.zav (by (with_reducible repeat (first | apply Kd.zbr | apply Kd.zbq | apply Kd.zbx)); exact (Kd.zao (Kd.V_far (p := ⟨gb1006, 1, none⟩) (Kd.V_far (p := ⟨gb1006, 0, none⟩) (Kd.zao HO1002.out (fun k_ hk => (⟨hk, hk.2⟩ : _ ∧ k_ ≠ gb1006))) (fun _ hk => hk.2) (.slice Ao25 t1000.length co25)) (fun _ hk => hk.2) (.slice Ao28 t1003.length co28)) (fun _ h_ => h_.1))) hb); have n3_ := zA (Kd.zav (by (with_reducible repeat (first | apply Kd.zbr | apply Kd.zbq | apply Kd.zbx)); exact (Kd.zao (Kd.V_far (p := ⟨gb1006, 1, none⟩) (Kd.V_far (p := ⟨gb1006, 0, none⟩) (Kd.zao HO1005.out (fun k_ hk => (⟨hk, hk.2⟩ : _ ∧ k_ ≠ gb1006))) (fun _ hk => hk.2) (.slice Ao25 t1000.length co25)) (fun _ hk => hk.2) (.slice Ao28 t1003.length co28)) (fun _ h_ => h_.1))) hb); have n4_ := zA (zae (g := gb985) (o := .cells #[.slice none 0 0, .slice none 0 0] 28 (0, 0)) (by (with_reducible repeat (first | refine zai ?_ _ | refine zak ?_ | refine zah ?_ _)); refine zcn ?_ NB985_1006.out _; (with_reducible repeat (first | refine zai ?_ _ | refine zak ?_ | refine zah ?_ _)); refine zcn ?_ NB985_1006.out _; (with_reducible repeat (first | refine zai ?_ _ | refine zak ?_ | refine zah ?_ _)); exact BK985.out) hb); have n5_ := zA (zae (g := gb1006) (o := .cells #[.slice Ao25 t1000.length co25, .slice Ao28 t1003.length co28] 28 (0, 0)) (by (with_reducible repeat (first | refine zai ?_ _ | refine zak ?_ | refine zah ?_ _)); refine zbv (cs := #[.slice Ao25 t1000.length co25, .slice none 0 0]) ?_ 1 _ rfl; (with_reducible repeat (first | refine zai ?_ _ | refine zak ?_ | refine zah ?_ _)); refine zbv (cs := #[.slice none 0 0, .slice none 0 0]) ?_ 0 _ rfl; (with_reducible repeat (first | refine zai ?_ _ | refine zak ?_ | refine zah ?_ _)); exact BK1006.out) hb); have n6_ := zA (zaa (zB HB) hb); clear HO_7 HO_9 HO1002 HO1005 BK985 BK1006 HB; have HO_7 := n0_; have HO_9 := n1_; have HO1002 := n2_; have HO1005 := n3_; have BK985 := n4_; have BK1006 := n5_; have HB := n6_; clear n0_ n1_ n2_ n3_ n4_ n5_ n6_; (try clear hb); (try clear hb2); (try clear hk); (try clear hi); have hcz30_0 : w29.cell? ⟨gb1006, 0, none⟩ = some (.slice Ao25 t1000.length co25) := (zac BK1006.out 0).trans rfl; have hcz30_1 : w29.cell? ⟨gb1006, 1, none⟩ = some (.slice Ao28 t1003.length co28) := (zac BK1006.out 1).trans rfl; have hfz30_0 := zan BK1006.out 0; have hfz30_1 := zan BK1006.out 1; have hcz31_0 : w29.cell? ⟨gb985, 0, none⟩ = some (.slice none 0 0) := (zac BK985.out 0).trans rfl; have hcz31_1 : w29.cell? ⟨gb985, 1, none⟩ = some (.slice none 0 0) := (zac BK985.out 1).trans rfl; have hfz31_0 := zan BK985.out 0; have hfz31_1 := zan BK985.out 1))
       refine bodyPost_ret (results_ct rfl _ _ gb985 28 #[.slice Ao25 t1000.length co25, .slice Ao28 t1003.length co28] (0, 0) _ rfl (by (with_reducible repeat (first | refine zai ?_ _ | refine zak ?_ | refine zah ?_ _)); refine zbv (cs := #[.slice Ao25 t1000.length co25, .slice none 0 0]) ?_ 1 _ rfl; (with_reducible repeat (first | refine zai ?_ _ | refine zak ?_ | refine zah ?_ _)); refine zbv (cs := #[.slice none 0 0, .slice none 0 0]) ?_ 0 _ rfl; (with_reducible repeat (first | refine zai ?_ _ | refine zak ?_ | refine zah ?_ _)); exact BK985.out) Tryd.underlying28 rfl (by kernel_rfl)) rfl ?_
       exact ⟨_, _, zW, by (with_reducible repeat (first | apply Kd.zbr | apply Kd.zbq | apply Kd.zbx)); exact Kd.zao (Kd.V_far (p := ⟨gb985, 1, none⟩) (Kd.V_far (p := ⟨gb985, 0, none⟩) (Kd.zao HO1002.out (fun k_ hk => (⟨hk, hk.1.2⟩ : _ ∧ k_ ≠ gb985))) (fun _ hk => hk.2) (.slice Ao25 t1000.length co25)) (fun _ hk => hk.2) (.slice Ao28 t1003.length co28)) (fun _ hk => hk.1.1.1), by (with_reducible repeat (first | apply Kd.zbr | apply Kd.zbq | apply Kd.zbx)); exact Kd.zao (Kd.V_far (p := ⟨gb985, 1, none⟩) (Kd.V_far (p := ⟨gb985, 0, none⟩) (Kd.zao HO1005.out (fun k_ hk => (⟨hk, hk.1.2⟩ : _ ∧ k_ ≠ gb985))) (fun _ hk => hk.2) (.slice Ao25 t1000.length co25)) (fun _ hk => hk.2) (.slice Ao28 t1003.length co28)) (fun _ hk => hk.1.1.1), zB HB⟩
      ·
       rw [if_neg c20] at H
       have c20b0 : (t1007.toList == a0.toList) = false := beq_eq_false_iff_ne.mpr c20
       have c20b1 : (t1007.toList != a0.toList) = true := bne_iff_ne.mpr c20
       simp only [Option.some.injEq, Prod.mk.injEq] at H
       obtain ⟨rfl, rfl, rfl⟩ := H
       obtain ⟨Ao32, co32, eo32⟩ := Kd.za9 HO_7.out
       subst eo32
       obtain ⟨Ao33, co33, eo33⟩ := Kd.za9 HO_9.out
       subst eo33
       go_wp2_with (first | ((with_reducible refine zad (f := 58) rfl ?_); refine za0 (some 44) rfl rfl Tryd.func58 (by kernel_rfl) rfl #[.slice Ao32 t989.length co32, .slice Ao33 x9_4.length co33] rfl (zE) ?_; (with_reducible refine (zbd.calls kj11 _ _ t989 _ _ x9_4 t1000 t1003 _ ?side1 ?side2 ?side3 ?side4 A18.out).mono ?_); (case side1 => exact zJ (Kd.zam HO_7.out).2.2); (case side2 => exact (Kd.zam HO_7.out).2.1); (case side3 => exact zJ (Kd.zam HO_9.out).2.2); (case side4 => exact (Kd.zam HO_9.out).2.1); rintro e w34 ⟨v1001, v1004, rfl, ho0, ho1, hb⟩; refine ⟨_, rfl, ?_⟩; have n0_ := zA (Kd.zav (zV HO_7) hb); have n1_ := zA (Kd.zav (zV HO_9) hb); have n2_ := zA (Kd.zba (Kd.zao (ok' := fun k_ => (w.heap.size ≤ k_) ∧ k_ ≠ gb985) ho0 (fun k_ hk_ => ⟨(Nat.le_trans (za (zB HB)) hk_), (Kd.freshB (g := gb985) (o := .cells #[.slice none 0 0, .slice none 0 0] 28 (0, 0)) (zK BK985) k_ hk_)⟩)) (za (zB HB))); have n3_ := zA (Kd.zba (Kd.zao (ok' := fun k_ => (w.heap.size ≤ k_) ∧ k_ ≠ gb985) ho1 (fun k_ hk_ => ⟨(Nat.le_trans (za (zB HB)) hk_), (Kd.freshB (g := gb985) (o := .cells #[.slice none 0 0, .slice none 0 0] 28 (0, 0)) (zK BK985) k_ hk_)⟩)) (za (zB HB))); have n4_ := zA (zae (g := gb985) (o := .cells #[.slice none 0 0, .slice none 0 0] 28 (0, 0)) (zK BK985) hb); have n5_ := zA (zaa (zB HB) hb); clear HO_7 HO_9 BK985 HB; have HO_7 := n0_; have HO_9 := n1_; have HO1002 := n2_; have HO1005 := n3_; have BK985 := n4_; have HB := n5_; clear n0_ n1_ n2_ n3_ n4_ n5_; (try clear hb); (try clear hb2); (try clear hk); (try clear hi); (try clear ho0); (try clear ho1)) | ((with_reducible refine zbe (N := 11) rfl ?_); (try (refine gate_guard (by rfl) ?_; dsimp only)); refine zbj ?hg (N := 11) ?hd (cs := #[.slice none 0 0, .slice none 0 0]) (t := 28) ?hr ?_; (case hd => rfl); (case hg => rfl); (case hr => first | (go_simp; done) | (go_simp; rfl)); intro gb1006 hg w35 hbox hb; have n0_ := zA (Kd.zav (Kd.zct (zV HO_7) gb1006 (Nat.le_of_eq hg.symm)) hb); have n1_ := zA (Kd.zav (Kd.zct (zV HO_9) gb1006 (Nat.le_of_eq hg.symm)) hb); have n2_ := zA (Kd.zav (Kd.zct (zV HO1002) gb1006 (Nat.le_of_eq hg.symm)) hb); have n3_ := zA (Kd.zav (Kd.zct (zV HO1005) gb1006 (Nat.le_of_eq hg.symm)) hb); have n4_ := zA (zae (g := gb985) (o := .cells #[.slice none 0 0, .slice none 0 0] 28 (0, 0)) (zK BK985) hb); have n5_ := zA (zaa (zB HB) hb); have n6_ := zA (hbox); have n7_ := zA ((by rw [hg]; exact (za (zB HB)) : w.heap.size ≤ gb1006)); have n8_ := zA ((by rw [hg]; exact (za (zB HB)) : w.heap.size ≤ gb1006)); have n9_ := zA ((by rw [hg]; exact Nat.ne_of_lt (zcl (g := gb985) (o := .cells #[.slice none 0 0, .slice none 0 0] 28 (0, 0)) (zK BK985)) : gb985 ≠ gb1006)); have n10_ := zA ((by rw [hg]; exact Nat.ne_of_gt (zcl (g := gb985) (o := .cells #[.slice none 0 0, .slice none 0 0] 28 (0, 0)) (zK BK985)) : gb1006 ≠ gb985)); clear HO_7 HO_9 HO1002 HO1005 BK985 HB; have HO_7 := n0_; have HO_9 := n1_; have HO1002 := n2_; have HO1005 := n3_; have BK985 := n4_; have HB := n5_; have BK1006 := n6_; have GW1006 := n7_; have GE1006 := n8_; have NB985_1006 := n9_; have NB1006_985 := n10_; clear n0_ n1_ n2_ n3_ n4_ n5_ n6_ n7_ n8_ n9_ n10_ hb hbox hg; obtain ⟨Ao36, co36, eo36⟩ := Kd.za9 HO1002.out; subst eo36; have hnb37 := NB1006_985.out; have hnc37 := NB985_1006.out; have hcz38_0 : w35.cell? ⟨gb1006, 0, none⟩ = some (.slice none 0 0) := (zac BK1006.out 0).trans rfl; have hcz38_1 : w35.cell? ⟨gb1006, 1, none⟩ = some (.slice none 0 0) := (zac BK1006.out 1).trans rfl; have hfz38_0 := zan BK1006.out 0; have hfz38_1 := zan BK1006.out 1; obtain ⟨Ao39, co39, eo39⟩ := Kd.za9 HO1005.out; subst eo39) | ((with_reducible refine zad (f := 41) rfl ?_); refine za0 (some 46) rfl rfl Tryd.func41 (by kernel_rfl) rfl #[.agg #[.slice Ao36 t1000.length co36, .slice Ao39 t1003.length co39]] rfl (zE) ?_; (with_reducible refine (za2.calls kj11 _ _ t1000 _ _ t1003 t1007 _ ?side1 ?side2 ?side3 ?side4 ?side5 A19.out).mono ?_); (case side1 => refine (Kd.zam (e := 57) (base := w.heap.size) (ok := fun k_ => (((w.heap.size ≤ k_) ∧ k_ ≠ gb985) ∧ k_ ≠ gb1006)) (n := t1000.length) (c := co36) ?_).2.2; exact (by (with_reducible repeat (first | apply Kd.zbr | apply Kd.zbq | apply Kd.zbx)); exact (Kd.zao (Kd.V_far (p := ⟨gb1006, 1, none⟩) (Kd.V_far (p := ⟨gb1006, 0, none⟩) (Kd.zao HO1002.out (fun k_ hk => (⟨hk, hk.2⟩ : _ ∧ k_ ≠ gb1006))) (fun _ hk => hk.2) (.slice Ao36 t1000.length co36)) (fun _ hk => hk.2) (.slice Ao39 t1003.length co39)) (fun _ h_ => h_.1)))); (case side2 => exact (Kd.zam HO1002.out).2.1); (case side3 => refine (Kd.zam (e := 57) (base := w.heap.size) (ok := fun k_ => (((w.heap.size ≤ k_) ∧ k_ ≠ gb985) ∧ k_ ≠ gb1006)) (n := t1003.length) (c := co39) ?_).2.2; exact (by (with_reducible repeat (first | apply Kd.zbr | apply Kd.zbq | apply Kd.zbx)); exact (Kd.zao (Kd.V_far (p := ⟨gb1006, 1, none⟩) (Kd.V_far (p := ⟨gb1006, 0, none⟩) (Kd.zao HO1005.out (fun k_ hk => (⟨hk, hk.2⟩ : _ ∧ k_ ≠ gb1006))) (fun _ hk => hk.2) (.slice Ao36 t1000.length co36)) (fun _ hk => hk.2) (.slice Ao39 t1003.length co39)) (fun _ h_ => h_.1)))); (case side4 => exact (Kd.zam HO1005.out).2.1); (case side5 => exact Glob.below HG.out (zB HB)); rintro e w40 ⟨rfl, hb⟩; refine ⟨_, rfl, ?_⟩; have n0_ := zA (Kd.zav (by (with_reducible repeat (first | apply Kd.zbr | apply Kd.zbq | apply Kd.zbx)); exact (Kd.zao (Kd.V_far (p := ⟨gb1006, 1, none⟩) (Kd.V_far (p := ⟨gb1006, 0, none⟩) (Kd.zao HO_7.out (fun k_ hk => (⟨hk, hk.2⟩ : _ ∧ k_ ≠ gb1006))) (fun _ hk => hk.2) (.slice Ao36 t1000.length co36)) (fun _ hk => hk.2) (.slice Ao39 t1003.length co39)) (fun _ h_ => h_.1))) hb); have n1_ := zA (Kd.zav (by (with_reducible repeat (first | apply Kd.zbr | apply Kd.zbq | apply Kd.zbx)); exact (Kd.zao (Kd.V_far (p := ⟨gb1006, 1, none⟩) (Kd.V_far (p := ⟨gb1006, 0, none⟩) (Kd.zao HO_9.out (fun k_ hk => (⟨hk, hk.2⟩ : _ ∧ k_ ≠ gb1006))) (fun _ hk => hk.2) (.slice Ao36 t1000.length co36)) (fun _ hk => hk.2) (.slice Ao39 t1003.length co39)) (fun _ h_ => h_.1))) hb); have n2_ := zA (Kd.zav (by (with_reducible repeat (first | apply Kd.zbr | apply Kd.zbq | apply Kd.zbx)); exact (Kd.zao (Kd.V_far (p := ⟨gb1006, 1, none⟩) (Kd.V_far (p := ⟨gb1006, 0, none⟩) (Kd.zao HO1002.out (fun k_ hk => (⟨hk, hk.2⟩ : _ ∧ k_ ≠ gb1006))) (fun _ hk => hk.2) (.slice Ao36 t1000.length co36)) (fun _ hk => hk.2) (.slice Ao39 t1003.length co39)) (fun _ h_ => h_.1))) hb); have n3_ := zA (Kd.zav (by (with_reducible repeat (first | apply Kd.zbr | apply Kd.zbq | apply Kd.zbx)); exact (Kd.zao (Kd.V_far (p := ⟨gb1006, 1, none⟩) (Kd.V_far (p := ⟨gb1006, 0, none⟩) (Kd.zao HO1005.out (fun k_ hk => (⟨hk, hk.2⟩ : _ ∧ k_ ≠ gb1006))) (fun _ hk => hk.2) (.slice Ao36 t1000.length co36)) (fun _ hk => hk.2) (.slice Ao39 t1003.length co39)) (fun _ h_ => h_.1))) hb); have n4_ := zA (zae (g := gb985) (o := .cells #[.slice none 0 0, .slice none 0 0] 28 (0, 0)) (by (with_reducible repeat (first | refine zai ?_ _ | refine zak ?_ | refine zah ?_ _)); refine zcn ?_ NB985_1006.out _; (with_reducible repeat (first | refine zai ?_ _ | refine zak ?_ | refine zah ?_ _)); refine zcn ?_ NB985_1006.out _; (with_reducible repeat (first | refine zai ?_ _ | refine zak ?_ | refine zah ?_ _)); exact BK985.out) hb); have n5_ := zA (zae (g := gb1006) (o := .cells #[.slice Ao36 t1000.length co36, .slice Ao39 t1003.length co39] 28 (0, 0)) (by (with_reducible repeat (first | refine zai ?_ _ | refine zak ?_ | refine zah ?_ _)); refine zbv (cs := #[.slice Ao36 t1000.length co36, .slice none 0 0]) ?_ 1 _ rfl; (with_reducible repeat (first | refine zai ?_ _ | refine zak ?_ | refine zah ?_ _)); refine zbv (cs := #[.slice none 0 0, .slice none 0 0]) ?_ 0 _ rfl; (with_reducible repeat (first | refine zai ?_ _ | refine zak ?_ | refine zah ?_ _)); exact BK1006.out) hb); have n6_ := zA (zaa (zB HB) hb); clear HO_7 HO_9 HO1002 HO1005 BK985 BK1006 HB; have HO_7 := n0_; have HO_9 := n1_; have HO1002 := n2_; have HO1005 := n3_; have BK985 := n4_; have BK1006 := n5_; have HB := n6_; clear n0_ n1_ n2_ n3_ n4_ n5_ n6_; (try clear hb); (try clear hb2); (try clear hk); (try clear hi); have hcz41_0 : w40.cell? ⟨gb985, 0, none⟩ = some (.slice none 0 0) := (zac BK985.out 0).trans rfl; have hcz41_1 : w40.cell? ⟨gb985, 1, none⟩ = some (.slice none 0 0) := (zac BK985.out 1).trans rfl; have hfz41_0 := zan BK985.out 0; have hfz41_1 := zan BK985.out 1))
       refine bodyPost_ret (results_ct rfl _ _ gb985 28 #[.slice none 0 0, .slice none 0 0] (0, 0) _ rfl (by (with_reducible repeat (first | refine zai ?_ _ | refine zak ?_ | refine zah ?_ _)); refine zbv (cs := #[.slice none 0 0, .slice none 0 0]) ?_ 1 _ rfl; (with_reducible repeat (first | refine zai ?_ _ | refine zak ?_ | refine zah ?_ _)); refine zbv (cs := #[.slice none 0 0, .slice none 0 0]) ?_ 0 _ rfl; (with_reducible repeat (first | refine zai ?_ _ | refine zak ?_ | refine zah ?_ _)); exact BK985.out) Tryd.underlying28 rfl (by kernel_rfl)) rfl ?_
       exact ⟨_, _, zW, Kd.V_nil _ _ _ _ _, Kd.V_nil _ _ _ _ _, zB HB⟩
def zb8.f (a0 : Int) : Option (Bool) := if a0 ≥ 1 then (some (decide (a0 ≤ 1000))) else (some false)
theorem zb8.calls (a0 : Int) (r : Bool) (w : World) (h : zb8.f a0 = some r) :
  Calls Tryd.prog 71 #[.int .i64 a0] w fun e w' => e = .returned (.bool r) ∧ Drawn0 w w' := by
 have H : (if a0 ≥ 1 then (some (decide (a0 ≤ 1000))) else (some false)) = some r := h
 clear h
 by_cases c2 : a0 ≥ 1
 ·
  rw [if_pos c2] at H
  have c2b0 : decide (1 ≤ a0) = true := decide_eq_true c2
  clear c2
  obtain rfl := Option.some.inj H
  go_enter Tryd.func71, Tryd.ntmps71
  go_wp2
  go_ret
  exact ⟨zF, by repeat (first | exact Drawn0.refl _ | apply Drawn0.step)⟩
 ·
  rw [if_neg c2] at H
  have c2b0 : decide (1 ≤ a0) = false := decide_eq_false c2
  clear c2
  obtain rfl := Option.some.inj H
  go_enter Tryd.func71, Tryd.ntmps71
  go_wp2
  go_ret
  exact ⟨zF, by repeat (first | exact Drawn0.refl _ | apply Drawn0.step)⟩
def nat_Small.f (l0 : List Int) : Option (Int × Bool) := if (l0.length : Int) > 1 then (some (0, false)) else ((zcd.f l0 0).bind fun t1131 => (if t1131 > 4611686018427387904 then (some (0, false)) else ((zcd.f l0 0).bind fun t1132 => (some (wrap64 (t1132), true)))))
theorem nat_Small.calls (A0 : Option Addr) (c0 : Nat) (l0 : List Int) (r1 : Int) (r2 : Bool) (w : World) (hr0 : Kd.C (Kd.int .u64) w A0 l0.length l0) (hc0 : l0.length ≤ c0) (h : nat_Small.f l0 = some (r1, r2)) :
  Calls Tryd.prog 72 #[.slice A0 l0.length c0] w fun e w' => e = .returned (.tuple #[.int .i64 r1, .bool r2]) ∧ Drawn0 w w' := by
 have HR0 := zA hr0
 have HC0 := zA hc0
 clear hr0 hc0
 have H : (if (l0.length : Int) > 1 then (some (0, false)) else ((zcd.f l0 0).bind fun t1131 => (if t1131 > 4611686018427387904 then (some (0, false)) else ((zcd.f l0 0).bind fun t1132 => (some (wrap64 (t1132), true)))))) = some (r1, r2) := h
 clear h
 by_cases c2 : (l0.length : Int) > 1
 ·
  rw [if_pos c2] at H
  have c2b0 : decide (1 < (l0.length : Int)) = true := decide_eq_true c2
  have c2b1 : decide (1 < l0.length) = true := decide_eq_true (by omega)
  clear c2
  simp only [Option.some.injEq, Prod.mk.injEq] at H
  obtain ⟨rfl, rfl⟩ := H
  go_enter Tryd.func72, Tryd.ntmps72
  go_wp2
  go_ret2
  exact ⟨zF, by repeat (first | exact Drawn0.refl _ | apply Drawn0.step)⟩
 ·
  rw [if_neg c2] at H
  have c2b0 : decide (1 < (l0.length : Int)) = false := decide_eq_false c2
  have c2b1 : decide (1 < l0.length) = false := decide_eq_false (by omega)
  clear c2
  replace H := zO H
  obtain ⟨t1131, A30, H⟩ := H
  try dsimp only at H
  have A3 := zA A30
  clear A30
  by_cases c4 : t1131 > 4611686018427387904
  ·
   rw [if_pos c4] at H
   have c4b0 : decide (4611686018427387904 < t1131) = true := decide_eq_true c4
   clear c4
   simp only [Option.some.injEq, Prod.mk.injEq] at H
   obtain ⟨rfl, rfl⟩ := H
   go_enter Tryd.func72, Tryd.ntmps72
   go_wp2_with (first | (go_at_call 89; (with_reducible refine (zcd.calls _ _ l0 0 t1131 _ ?side1 ?side2 A3.out).mono ?_); (case side1 => repeat (first | exact HR0.out | (with_reducible refine Kd.zc5 ?_ _) | (with_reducible refine Kd.C_drewN ?_ _) | (with_reducible refine Kd.C_drew ?_))); (case side2 => exact HC0.out); rintro e w' ⟨rfl, ⟨nd, rfl⟩⟩))
   go_ret2
   exact ⟨zF, by repeat (first | exact Drawn0.refl _ | apply Drawn0.step)⟩
  ·
   rw [if_neg c4] at H
   have c4b0 : decide (4611686018427387904 < t1131) = false := decide_eq_false c4
   clear c4
   replace H := zO H
   obtain ⟨t1132, A50, H⟩ := H
   try dsimp only at H
   have A5 := zA A50
   clear A50
   simp only [Option.some.injEq, Prod.mk.injEq] at H
   obtain ⟨rfl, rfl⟩ := H
   go_enter Tryd.func72, Tryd.ntmps72
   go_wp2_with (first | (go_at_call 89; (with_reducible refine (zcd.calls _ _ l0 0 t1131 _ ?side1 ?side2 A3.out).mono ?_); (case side1 => repeat (first | exact HR0.out | (with_reducible refine Kd.zc5 ?_ _) | (with_reducible refine Kd.C_drewN ?_ _) | (with_reducible refine Kd.C_drew ?_))); (case side2 => exact HC0.out); rintro e w' ⟨rfl, ⟨nd, rfl⟩⟩) | ((with_reducible refine zad (f := 89) rfl ?_); refine za0 (some 13) rfl rfl Tryd.func89 (by kernel_rfl) rfl #[.slice A0 l0.length c0, .int .i64 0] rfl (zE) ?_; (with_reducible refine (zcd.calls _ _ l0 0 t1132 _ ?side1 ?side2 A5.out).mono ?_); (case side1 => repeat (first | exact HR0.out | (with_reducible refine Kd.zc5 ?_ _) | (with_reducible refine Kd.C_drewN ?_ _) | (with_reducible refine Kd.C_drew ?_))); (case side2 => exact HC0.out); rintro e w' ⟨rfl, ⟨nd, rfl⟩⟩; refine ⟨_, rfl, ?_⟩))
   go_ret2
   exact ⟨zF, by repeat (first | exact Drawn0.refl _ | apply Drawn0.step)⟩
def zcw.f (l0 : List Int) : Option (Bool) := if (l0.length : Int) = 0 then (some true) else (if 0 ≤ (wrap64 ((l0.length : Int) - 1)) then (if (wrap64 ((l0.length : Int) - 1)) < (l0.length : Int) then (some ((rd l0 (wrap64 ((l0.length : Int) - 1))) != 0)) else (none)) else (none))
theorem zcw.calls (A0 : Option Addr) (c0 : Nat) (l0 : List Int) (r : Bool) (w : World) (hr0 : Kd.C (Kd.int .u64) w A0 l0.length l0) (hc0 : l0.length ≤ c0) (h : zcw.f l0 = some r) :
  Calls Tryd.prog 51 #[.slice A0 l0.length c0] w fun e w' => e = .returned (.bool r) ∧ Drawn0 w w' := by
 have HR0 := zA hr0
 have HC0 := zA hc0
 clear hr0 hc0
 have H : (if (l0.length : Int) = 0 then (some true) else (if 0 ≤ (wrap64 ((l0.length : Int) - 1)) then (if (wrap64 ((l0.length : Int) - 1)) < (l0.length : Int) then (some ((rd l0 (wrap64 ((l0.length : Int) - 1))) != 0)) else (none)) else (none))) = some r := h
 clear h
 by_cases c2 : (l0.length : Int) = 0
 ·
  rw [if_pos c2] at H
  have c2b0 : ((l0.length : Int) == 0) = true := beq_iff_eq.mpr c2
  have c2b1 : ((l0.length : Int) != 0) = false := bne_eq_false_iff_eq.mpr c2
  clear c2
  obtain rfl := Option.some.inj H
  go_enter Tryd.func51, Tryd.ntmps51
  go_wp2
  go_ret
  exact ⟨zF, by repeat (first | exact Drawn0.refl _ | apply Drawn0.step)⟩
 ·
  rw [if_neg c2] at H
  have c2b0 : ((l0.length : Int) == 0) = false := beq_eq_false_iff_ne.mpr c2
  have c2b1 : ((l0.length : Int) != 0) = true := bne_iff_ne.mpr c2
  have c2b2 : ¬ (l0 = []) := fun h_ => c2 (by rw [h_]; rfl)
  obtain ⟨ji3, hji3⟩ : ∃ j_ : Int, (wrap64 ((l0.length : Int) - 1)) = j_ := ⟨_, rfl⟩
  replace H : (if 0 ≤ (ji3) then (if (ji3) < (l0.length : Int) then (some ((rd l0 (ji3)) != 0)) else (none)) else (none)) = some r := by first | (rw [hji3] at H; exact H) | (simp only [hji3] at H ⊢; exact H)
  have hji3w : (IntKind.i64.wrap ((l0.length : Int) - 1)) = ji3 := (i64_w _).trans hji3
  by_cases c4 : 0 ≤ (ji3)
  ·
   rw [if_pos c4] at H
   have c4b0 : decide (0 ≤ (ji3)) = true := decide_eq_true c4
   clear c4
   by_cases c5 : (ji3) < (l0.length : Int)
   ·
    rw [if_pos c5] at H
    have c5b0 : decide ((ji3) < (l0.length : Int)) = true := decide_eq_true c5
    clear c5
    obtain rfl := Option.some.inj H
    have p261 : 0 ≤ ((ji3) : Int) := of_decide_eq_true (by first | (with_reducible assumption) | assumption)
    have q261 : (ji3) < (l0.length : Int) := of_decide_eq_true (by first | (with_reducible assumption) | assumption)
    obtain ⟨ad261, e261, hx261_0⟩ := Kd.at_int HR0.out (ji3) p261 q261
    cases e261
    replace p261 := eq_true p261
    replace q261 := eq_true q261
    go_enter Tryd.func51, Tryd.ntmps51
    go_wp2
    go_ret
    exact ⟨by first | rfl | (simp; done) | (simp only [← hji3] <;> (first | rfl | simp)) | (simp [*]; done), by repeat (first | exact Drawn0.refl _ | apply Drawn0.step)⟩
   ·
    rw [if_neg c5] at H
    exact absurd H (by simp)
  ·
   rw [if_neg c4] at H
   exact absurd H (by simp)
def zbk.f (k : Nat) (l0_0 : List Int) (l0_1 : List Int) : Option (Bool) := (zcw.f l0_0).bind fun t263 => (if t263 = true then ((zcw.f l0_1).bind fun t264 => (if t264 = true then (if (l0_1.length : Int) > 0 then ((zb5.f k l0_0 l0_1).bind fun t265 => ((zbm.f k).bind fun t268 => ((zcr.f t265 t268).bind fun t271 => (some (t271 == 0))))) else (some false)) else (some false))) else (some false))
theorem zbk.mono : ∀ a0 a1 k, LeO (zbk.f k a0 a1) (zbk.f (k + 1) a0 a1) := by
 intro a0 a1 k
 unfold zbk.f
 repeat' first
   | (with_reducible exact zb5.mono _ _ _)
   | (with_reducible exact zbm.mono _)
   | (with_reducible exact LeO.refl _)
   | (with_reducible exact LeO.none _)
   | (with_reducible refine LeO.ite ?_ ?_)
   | (with_reducible refine LeO.bind ?_ (fun _ => ?_))
   | exact zb5.mono _ _ _
   | exact zbm.mono _
   | exact LeO.none _
   | refine LeO.ite ?_ ?_
   | refine LeO.bind ?_ (fun _ => ?_)
theorem zbk.calls (k : Nat) (A0_0 : Option Addr) (c0_0 : Nat) (l0_0 : List Int) (A0_1 : Option Addr) (c0_1 : Nat) (l0_1 : List Int) (r : Bool) (w : World) (hr0_0 : Kd.C (Kd.int .u64) w A0_0 l0_0.length l0_0) (hc0_0 : l0_0.length ≤ c0_0) (hr0_1 : Kd.C (Kd.int .u64) w A0_1 l0_1.length l0_1) (hc0_1 : l0_1.length ≤ c0_1) (h : zbk.f k l0_0 l0_1 = some r) :
  Calls Tryd.prog 16 #[.agg #[.slice A0_0 l0_0.length c0_0, .slice A0_1 l0_1.length c0_1]] w fun e w' => e = .returned (.bool r) ∧ Below w.heap.size w w' := by
 have hu28 := Tryd.underlying28
 have HR0_0 := zA hr0_0
 have HC0_0 := zA hc0_0
 clear hr0_0 hc0_0
 have HR0_1 := zA hr0_1
 have HC0_1 := zA hc0_1
 clear hr0_1 hc0_1
 have HB := zA (Below.refl w.heap.size w)
 have H : ((zcw.f l0_0).bind fun t263 => (if t263 = true then ((zcw.f l0_1).bind fun t264 => (if t264 = true then (if (l0_1.length : Int) > 0 then ((zb5.f k l0_0 l0_1).bind fun t265 => ((zbm.f k).bind fun t268 => ((zcr.f t265 t268).bind fun t271 => (some (t271 == 0))))) else (some false)) else (some false))) else (some false))) = some r := h
 clear h
 replace H := zO H
 obtain ⟨t263, A20, H⟩ := H
 try dsimp only at H
 have A2 := zA A20
 clear A20
 by_cases c3 : t263 = true
 ·
  subst c3
  rw [if_pos rfl] at H
  replace H := zO H
  obtain ⟨t264, A40, H⟩ := H
  try dsimp only at H
  have A4 := zA A40
  clear A40
  by_cases c5 : t264 = true
  ·
   subst c5
   rw [if_pos rfl] at H
   by_cases c6 : (l0_1.length : Int) > 0
   ·
    rw [if_pos c6] at H
    have c6b0 : decide (0 < (l0_1.length : Int)) = true := decide_eq_true c6
    have c6b1 : decide (0 < l0_1.length) = true := decide_eq_true (by omega)
    clear c6
    replace H := zO H
    obtain ⟨t265, A70, H⟩ := H
    try dsimp only at H
    have A7 := zA A70
    clear A70
    replace H := zO H
    obtain ⟨t268, A80, H⟩ := H
    try dsimp only at H
    have A8 := zA A80
    clear A80
    replace H := zO H
    obtain ⟨t271, A90, H⟩ := H
    try dsimp only at H
    have A9 := zA A90
    clear A90
    obtain rfl := Option.some.inj H
    go_enter Tryd.func16, Tryd.ntmps16
    go_wp2_with (first | ((with_reducible refine zbe (N := 1) rfl ?_); (try (refine gate_guard (by rfl) ?_; dsimp only)); refine zbj ?hg (N := 1) ?hd (cs := #[.slice A0_0 l0_0.length c0_0, .slice A0_1 l0_1.length c0_1]) (t := 28) ?hr ?_; (case hd => rfl); (case hg => rfl); (case hr => first | (go_simp; done) | (go_simp; rfl)); intro gb262 hg w10 hbox hb; have n0_ := zA (zaa (zB HB) hb); have n1_ := zA (hbox); have n2_ := zA ((by rw [hg]; exact (za (zB HB)) : w.heap.size ≤ gb262)); have n3_ := zA ((by rw [hg]; exact (za (zB HB)) : w.heap.size ≤ gb262)); clear HB; have HB := n0_; have BK262 := n1_; have GW262 := n2_; have GE262 := n3_; clear n0_ n1_ n2_ n3_ hb hbox hg; have hcz11_0 : w10.cell? ⟨gb262, 0, none⟩ = some (.slice A0_0 l0_0.length c0_0) := (zac BK262.out 0).trans rfl; have hcz11_1 : w10.cell? ⟨gb262, 1, none⟩ = some (.slice A0_1 l0_1.length c0_1) := (zac BK262.out 1).trans rfl; have hfz11_0 := zan BK262.out 0; have hfz11_1 := zan BK262.out 1) | ((with_reducible refine zad (f := 51) rfl ?_); refine za0 (some 5) rfl rfl Tryd.func51 (by kernel_rfl) rfl #[.slice A0_0 l0_0.length c0_0] rfl (zE) ?_; (with_reducible refine (zcw.calls _ _ l0_0 true _ ?side1 ?side2 A2.out).mono ?_); (case side1 => exact zJ (Kd.za4 HR0_0.out HB.out)); (case side2 => exact HC0_0.out); rintro e w' ⟨rfl, ⟨nd, rfl⟩⟩; refine ⟨_, rfl, ?_⟩) | (go_at_call 51; (with_reducible refine (zcw.calls _ _ l0_1 true _ ?side1 ?side2 A4.out).mono ?_); (case side1 => exact zJ (Kd.za4 HR0_1.out (zB HB))); (case side2 => exact HC0_1.out); rintro e w' ⟨rfl, ⟨nd, rfl⟩⟩) | (go_at_call 53; (with_reducible refine (zb5.calls k _ _ l0_0 (fun k_ => k_ < w.heap.size) _ _ l0_1 t265 _ ?side1 ?side2 ?side3 A7.out).mono ?_); (case side1 => exact zJ (Kd.za4 HR0_0.out (zB HB))); (case side2 => exact HC0_0.out); (case side3 => exact Kd.V_mk HC0_1.out (Kd.F_below (Kd.C_F (Kd.heap_int .u64) HR0_1.out) (zB HB))); rintro e w12 ⟨v266, rfl, ho0, hb⟩; have n0_ := zA (Kd.zbw (Kd.zbn (ok' := fun k_ => True) ho0 (fun _ hk_ => trivial)) (za (zB HB))); have n1_ := zA (zae (g := gb262) (o := .cells #[.slice A0_0 l0_0.length c0_0, .slice A0_1 l0_1.length c0_1] 28 (0, 0)) (zK BK262) hb); have n2_ := zA (zaa (zB HB) hb); clear BK262 HB; have HO267 := n0_; have BK262 := n1_; have HB := n2_; clear n0_ n1_ n2_; (try clear hb); (try clear hb2); (try clear hk); (try clear hi); (try clear ho0)) | (go_at_call 54; (with_reducible refine (zbm.calls k  t268 _ A8.out).mono ?_); rintro e w13 ⟨v269, rfl, ho0, hb⟩; have n0_ := zA (Kd.zbo (zR HO267) hb); have n1_ := zA (Kd.zba (Kd.zao (ok' := fun k_ => some k_ ≠ (v266 : Value).ownBlock ∧ k_ ≠ gb262) ho0 (fun k_ hk_ => ⟨(Kd.fresh' (Kd.R_lt (zR HO267)) k_ hk_), (Kd.freshB (g := gb262) (o := .cells #[.slice A0_0 l0_0.length c0_0, .slice A0_1 l0_1.length c0_1] 28 (0, 0)) (zK BK262) k_ hk_)⟩)) (za (zB HB))); have n2_ := zA (zae (g := gb262) (o := .cells #[.slice A0_0 l0_0.length c0_0, .slice A0_1 l0_1.length c0_1] 28 (0, 0)) (zK BK262) hb); have n3_ := zA (zaa (zB HB) hb); clear HO267 BK262 HB; have HO267 := n0_; have HO270 := n1_; have BK262 := n2_; have HB := n3_; clear n0_ n1_ n2_ n3_; (try clear hb); (try clear hb2); (try clear hk); (try clear hi); (try clear ho0); obtain ⟨Ao14, co14, eo14⟩ := Kd.zbp HO267.out; subst eo14; obtain ⟨Ao15, co15, eo15⟩ := Kd.za9 HO270.out; subst eo15) | (go_at_call 52; (with_reducible refine (zcr.calls _ _ t265 _ _ t268 t271 _ ?side1 ?side2 ?side3 ?side4 A9.out).mono ?_); (case side1 => exact zJ (Kd.zaz HO267.out).2.2); (case side2 => exact (Kd.zaz HO267.out).2.1); (case side3 => exact zJ (Kd.zam HO270.out).2.2); (case side4 => exact (Kd.zam HO270.out).2.1); rintro e w16 ⟨rfl, hb⟩; have n0_ := zA (Kd.zbo (zR HO267) hb); have n1_ := zA (Kd.zav (zV HO270) hb); have n2_ := zA (zae (g := gb262) (o := .cells #[.slice A0_0 l0_0.length c0_0, .slice A0_1 l0_1.length c0_1] 28 (0, 0)) (zK BK262) hb); have n3_ := zA (zaa (zB HB) hb); clear HO267 HO270 BK262 HB; have HO267 := n0_; have HO270 := n1_; have BK262 := n2_; have HB := n3_; clear n0_ n1_ n2_ n3_; (try clear hb); (try clear hb2); (try clear hk); (try clear hi)))
    go_ret
    exact ⟨zW, zB HB⟩
   ·
    rw [if_neg c6] at H
    have c6b0 : decide (0 < (l0_1.length : Int)) = false := decide_eq_false c6
    have c6b1 : decide (0 < l0_1.length) = false := decide_eq_false (by omega)
    clear c6
    obtain rfl := Option.some.inj H
    go_enter Tryd.func16, Tryd.ntmps16
    go_wp2_with (first | ((with_reducible refine zbe (N := 1) rfl ?_); (try (refine gate_guard (by rfl) ?_; dsimp only)); refine zbj ?hg (N := 1) ?hd (cs := #[.slice A0_0 l0_0.length c0_0, .slice A0_1 l0_1.length c0_1]) (t := 28) ?hr ?_; (case hd => rfl); (case hg => rfl); (case hr => first | (go_simp; done) | (go_simp; rfl)); intro gb262 hg w17 hbox hb; have n0_ := zA (zaa (zB HB) hb); have n1_ := zA (hbox); have n2_ := zA ((by rw [hg]; exact (za (zB HB)) : w.heap.size ≤ gb262)); have n3_ := zA ((by rw [hg]; exact (za (zB HB)) : w.heap.size ≤ gb262)); clear HB; have HB := n0_; have BK262 := n1_; have GW262 := n2_; have GE262 := n3_; clear n0_ n1_ n2_ n3_ hb hbox hg; have hcz18_0 : w17.cell? ⟨gb262, 0, none⟩ = some (.slice A0_0 l0_0.length c0_0) := (zac BK262.out 0).trans rfl; have hcz18_1 : w17.cell? ⟨gb262, 1, none⟩ = some (.slice A0_1 l0_1.length c0_1) := (zac BK262.out 1).trans rfl; have hfz18_0 := zan BK262.out 0; have hfz18_1 := zan BK262.out 1) | ((with_reducible refine zad (f := 51) rfl ?_); refine za0 (some 5) rfl rfl Tryd.func51 (by kernel_rfl) rfl #[.slice A0_0 l0_0.length c0_0] rfl (zE) ?_; (with_reducible refine (zcw.calls _ _ l0_0 true _ ?side1 ?side2 A2.out).mono ?_); (case side1 => exact zJ (Kd.za4 HR0_0.out HB.out)); (case side2 => exact HC0_0.out); rintro e w' ⟨rfl, ⟨nd, rfl⟩⟩; refine ⟨_, rfl, ?_⟩) | (go_at_call 51; (with_reducible refine (zcw.calls _ _ l0_1 true _ ?side1 ?side2 A4.out).mono ?_); (case side1 => exact zJ (Kd.za4 HR0_1.out (zB HB))); (case side2 => exact HC0_1.out); rintro e w' ⟨rfl, ⟨nd, rfl⟩⟩))
    go_ret
    exact ⟨zW, zB HB⟩
  ·
   replace c5 := Bool.eq_false_iff.mpr c5
   subst c5
   rw [if_neg (show ¬ (false = true) by decide)] at H
   obtain rfl := Option.some.inj H
   go_enter Tryd.func16, Tryd.ntmps16
   go_wp2_with (first | ((with_reducible refine zbe (N := 1) rfl ?_); (try (refine gate_guard (by rfl) ?_; dsimp only)); refine zbj ?hg (N := 1) ?hd (cs := #[.slice A0_0 l0_0.length c0_0, .slice A0_1 l0_1.length c0_1]) (t := 28) ?hr ?_; (case hd => rfl); (case hg => rfl); (case hr => first | (go_simp; done) | (go_simp; rfl)); intro gb262 hg w19 hbox hb; have n0_ := zA (zaa (zB HB) hb); have n1_ := zA (hbox); have n2_ := zA ((by rw [hg]; exact (za (zB HB)) : w.heap.size ≤ gb262)); have n3_ := zA ((by rw [hg]; exact (za (zB HB)) : w.heap.size ≤ gb262)); clear HB; have HB := n0_; have BK262 := n1_; have GW262 := n2_; have GE262 := n3_; clear n0_ n1_ n2_ n3_ hb hbox hg; have hcz20_0 : w19.cell? ⟨gb262, 0, none⟩ = some (.slice A0_0 l0_0.length c0_0) := (zac BK262.out 0).trans rfl; have hcz20_1 : w19.cell? ⟨gb262, 1, none⟩ = some (.slice A0_1 l0_1.length c0_1) := (zac BK262.out 1).trans rfl; have hfz20_0 := zan BK262.out 0; have hfz20_1 := zan BK262.out 1) | ((with_reducible refine zad (f := 51) rfl ?_); refine za0 (some 5) rfl rfl Tryd.func51 (by kernel_rfl) rfl #[.slice A0_0 l0_0.length c0_0] rfl (zE) ?_; (with_reducible refine (zcw.calls _ _ l0_0 true _ ?side1 ?side2 A2.out).mono ?_); (case side1 => exact zJ (Kd.za4 HR0_0.out HB.out)); (case side2 => exact HC0_0.out); rintro e w' ⟨rfl, ⟨nd, rfl⟩⟩; refine ⟨_, rfl, ?_⟩) | (go_at_call 51; (with_reducible refine (zcw.calls _ _ l0_1 false _ ?side1 ?side2 A4.out).mono ?_); (case side1 => exact zJ (Kd.za4 HR0_1.out (zB HB))); (case side2 => exact HC0_1.out); rintro e w' ⟨rfl, ⟨nd, rfl⟩⟩))
   go_ret
   exact ⟨zW, zB HB⟩
 ·
  replace c3 := Bool.eq_false_iff.mpr c3
  subst c3
  rw [if_neg (show ¬ (false = true) by decide)] at H
  obtain rfl := Option.some.inj H
  go_enter Tryd.func16, Tryd.ntmps16
  go_wp2_with (first | ((with_reducible refine zbe (N := 1) rfl ?_); (try (refine gate_guard (by rfl) ?_; dsimp only)); refine zbj ?hg (N := 1) ?hd (cs := #[.slice A0_0 l0_0.length c0_0, .slice A0_1 l0_1.length c0_1]) (t := 28) ?hr ?_; (case hd => rfl); (case hg => rfl); (case hr => first | (go_simp; done) | (go_simp; rfl)); intro gb262 hg w21 hbox hb; have n0_ := zA (zaa (zB HB) hb); have n1_ := zA (hbox); have n2_ := zA ((by rw [hg]; exact (za (zB HB)) : w.heap.size ≤ gb262)); have n3_ := zA ((by rw [hg]; exact (za (zB HB)) : w.heap.size ≤ gb262)); clear HB; have HB := n0_; have BK262 := n1_; have GW262 := n2_; have GE262 := n3_; clear n0_ n1_ n2_ n3_ hb hbox hg; have hcz22_0 : w21.cell? ⟨gb262, 0, none⟩ = some (.slice A0_0 l0_0.length c0_0) := (zac BK262.out 0).trans rfl; have hcz22_1 : w21.cell? ⟨gb262, 1, none⟩ = some (.slice A0_1 l0_1.length c0_1) := (zac BK262.out 1).trans rfl; have hfz22_0 := zan BK262.out 0; have hfz22_1 := zan BK262.out 1) | ((with_reducible refine zad (f := 51) rfl ?_); refine za0 (some 5) rfl rfl Tryd.func51 (by kernel_rfl) rfl #[.slice A0_0 l0_0.length c0_0] rfl (zE) ?_; (with_reducible refine (zcw.calls _ _ l0_0 false _ ?side1 ?side2 A2.out).mono ?_); (case side1 => exact zJ (Kd.za4 HR0_0.out HB.out)); (case side2 => exact HC0_0.out); rintro e w' ⟨rfl, ⟨nd, rfl⟩⟩; refine ⟨_, rfl, ?_⟩))
  go_ret
  exact ⟨zW, zB HB⟩
def zat.l0 : Nat → Int → List Int → Option (List Int)
 | 0, _, _ => none
 | k + 1, x0, x3 => if x0 > 0 then (if x3.length < 17592186044416 then (zat.l0 k (wrap64 (Int.tdiv x0 10000)) (x3 ++ [Int.tmod x0 10000])) else (none)) else (some x3)
def zat.f (k : Nat) (a0 : Int) : Option (List Int) := zat.l0 k a0 ([] : List Int)
theorem zat.calls (k : Nat) (a0 : Int) (r : List Int) (w : World) (h : zat.f k a0 = some r) :
  Calls Tryd.prog 20 #[.int .i64 a0] w fun e w' => ∃ v0_ : Value, e = .returned (v0_) ∧ Kd.R (Kd.int .i64) 3 w' w.heap.size (fun _ => True) v0_ r ∧ Below w.heap.size w w' := by
 have HB := zA (Below.refl w.heap.size w)
 have H : (zat.l0 k a0 ([] : List Int)) = some r := h
 clear h
 have H' := zA H
 clear H
 go_enter Tryd.func20, Tryd.ntmps20
 go_wp2
 go_loopg [0, 3] k (fun kq v0 v3 w' => ∃ (x0_1 : Int) (x3_1 : List Int), v0 = .int .i64 x0_1 ∧ Aside0 (zat.l0 kq x0_1 x3_1 = some r) ∧ Aside0 (kq ≤ k) ∧ Aside0 (Kd.R (Kd.int .i64) 3 w' w.heap.size (fun _ => True) v3 x3_1) ∧ Aside0 (Below w.heap.size w w'))
 case atStart => exact ⟨(a0), (([] : List Int)), (zF), H', ⟨Nat.le_refl _⟩, ⟨by first | exact Kd.R_nil _ _ _ _ _ | exact Kd.N_nil _ _ _ _ _ | exact Kd.V_nil _ _ _ _ _ | exact Kd.Q_nil _ _ _ _ _ | exact Kd.S_nil _ _ _ _ _⟩, ⟨zB HB⟩⟩
 case round =>
  clear H'
  obtain ⟨x0_1, x3_1, rfl, HA, HK1, HO_3, HB⟩ := hrel
  cases gk with
  | zero => exact absurd HA.out (by simp [zat.l0])
  | succ k1 =>
   have H := HA.out
   clear HA
   simp only [zat.l0] at H
   by_cases c2 : x0_1 > 0
   ·
    rw [if_pos c2] at H
    have c2b0 : decide (0 < x0_1) = true := decide_eq_true c2
    clear c2
    by_cases c3 : x3_1.length < 17592186044416
    ·
     rw [if_pos c3] at H
     have LMc3 := zA c3
     clear c3
     obtain ⟨y272, hy272⟩ : ∃ y_ : List Int, y_ = (x3_1 ++ [Int.tmod x0_1 10000]) := ⟨_, rfl⟩
     replace H : (zat.l0 k1 (wrap64 (Int.tdiv x0_1 10000)) y272) = some r := by first | (rw [hy272]; with_reducible exact H) | (have H2_ := (Option.bind_some _ _).symm.trans H; rw [hy272]; with_reducible exact H2_) | (have H2_ := (Option.bind_some _ _).symm.trans H; with_reducible exact H2_) | with_reducible exact H | (rw [hy272]; exact H) | exact H
     have Ny272 := zA hy272
     clear hy272
     have H' := zA H
     clear H
     go_wp2_with (first | ((with_reducible refine zb2 (b := .append) (xs := #[.tmp 6, .tmp 9]) rfl ?_); at_builtin; refine Kd.zcy (Kd.int .i64) (w0 := w) w.heap.size rfl (.tmp 6) (.tmp 9) 31 3 (.int .i64 0) 8 rfl Tryd.underlying31 info3 rfl (by decide) (by omega) u3 x3_1 (Int.tmod x0_1 10000) [.int .i64 (Int.tmod x0_1 10000)] (fun _ => True) (fun _ => False) rfl rfl ?aP (fun _ hk => hk.elim) ?aF ?aO ?aB ?aS ?aL ?_; (case aP => exact rfl); (case aB => exact (zB HB)); (case aF => exact (fun _ _ => trivial)); (case aO => exact (zR HO_3)); (case aS => exact (za (zB HB))); (case aL => have := LMc3.out; omega); intro v273 w4 ho hb hg hat; rw [← Ny272.out] at ho; have n0_ := zA (hb); have n1_ := zA (ho); clear HB HO_3; have HB := n0_; have HO274 := n1_; clear n0_ n1_ ho hb hg hat))
     go_roundg k1
     case measure => have := HK1.out; omega
     case rel => exact ⟨(wrap64 (Int.tdiv x0_1 10000)), (y272), (zF), H', ⟨by have := HK1.out; omega⟩, ⟨zR HO274⟩, ⟨zB HB⟩⟩
    ·
     rw [if_neg c3] at H
     exact absurd H (by simp)
   ·
    rw [if_neg c2] at H
    have c2b0 : decide (0 < x0_1) = false := decide_eq_false c2
    clear c2
    obtain rfl := Option.some.inj H
    go_wp2
    go_ret
    exact ⟨_, zW, zR HO_3, zB HB⟩
def zb6.f (l0 : List Int) (a1 : Int) : Option (Int) := if a1 < (l0.length : Int) then (if 0 ≤ a1 then (some (rd l0 a1)) else (none)) else (some 0)
theorem zb6.calls (A0 : Option Addr) (c0 : Nat) (l0 : List Int) (a1 : Int) (r : Int) (w : World) (hr0 : Kd.C (Kd.int .i64) w A0 l0.length l0) (hc0 : l0.length ≤ c0) (h : zb6.f l0 a1 = some r) :
  Calls Tryd.prog 82 #[.slice A0 l0.length c0, .int .i64 a1] w fun e w' => e = .returned (.int .i64 r) ∧ Drawn0 w w' := by
 have HR0 := zA hr0
 have HC0 := zA hc0
 clear hr0 hc0
 have H : (if a1 < (l0.length : Int) then (if 0 ≤ a1 then (some (rd l0 a1)) else (none)) else (some 0)) = some r := h
 clear h
 by_cases c3 : a1 < (l0.length : Int)
 ·
  rw [if_pos c3] at H
  have c3b0 : decide (a1 < (l0.length : Int)) = true := decide_eq_true c3
  clear c3
  by_cases c4 : 0 ≤ a1
  ·
   rw [if_pos c4] at H
   have c4b0 : decide (0 ≤ a1) = true := decide_eq_true c4
   clear c4
   obtain rfl := Option.some.inj H
   have p275 : 0 ≤ (a1 : Int) := of_decide_eq_true (by first | (with_reducible assumption) | assumption)
   have q275 : a1 < (l0.length : Int) := of_decide_eq_true (by first | (with_reducible assumption) | assumption)
   obtain ⟨ad275, e275, hx275_0⟩ := Kd.at_int HR0.out a1 p275 q275
   cases e275
   replace p275 := eq_true p275
   replace q275 := eq_true q275
   go_enter Tryd.func82, Tryd.ntmps82
   go_wp2
   go_ret
   exact ⟨zF, by repeat (first | exact Drawn0.refl _ | apply Drawn0.step)⟩
  ·
   rw [if_neg c4] at H
   exact absurd H (by simp)
 ·
  rw [if_neg c3] at H
  have c3b0 : decide (a1 < (l0.length : Int)) = false := decide_eq_false c3
  clear c3
  obtain rfl := Option.some.inj H
  go_enter Tryd.func82, Tryd.ntmps82
  go_wp2
  go_ret
  exact ⟨zF, by repeat (first | exact Drawn0.refl _ | apply Drawn0.step)⟩
def zaq.l0 : Nat → List Int → Int → Option (List Int)
 | 0, _, _ => none
 | k + 1, x0, x3 => if x3 > 0 then (if 0 ≤ (wrap64 (x3 - 1)) then (if (wrap64 (x3 - 1)) < (x0.length : Int) then (if (rd x0 (wrap64 (x3 - 1))) = 0 then (zaq.l0 k x0 (wrap64 (x3 - 1))) else (if 0 ≤ x3 then (if x3 ≤ (x0.length : Int) then (some (x0.take (x3 : Int).toNat)) else (none)) else (none))) else (none)) else (none)) else (if 0 ≤ x3 then (if x3 ≤ (x0.length : Int) then (some (x0.take (x3 : Int).toNat)) else (none)) else (none))
def zaq.f (k : Nat) (l0 : List Int) : Option (List Int) := zaq.l0 k l0 (l0.length : Int)
theorem zaq.calls (k : Nat) (P0_ : Nat → Prop) (u9000_ : Value) (l0 : List Int) (r : List Int) (w0 w : World) (hB : Below w0.heap.size w0 w) (ho0 : Kd.R (Kd.int .i64) 3 w w0.heap.size P0_ u9000_ l0) (h : zaq.f k l0 = some r) :
  Calls Tryd.prog 83 #[u9000_] w fun e w' => ∃ v0_ : Value, e = .returned (v0_) ∧ Kd.R (Kd.int .i64) 3 w' w0.heap.size (fun k_ => (P0_ k_ ∨ w.heap.size ≤ k_)) v0_ r ∧ Below w0.heap.size w0 w' ∧ Kept w w' (fun k_ => P0_ k_) := by
 have HO0 := zA (show Kd.R (Kd.int .i64) 3 w w0.heap.size (fun k_ => (P0_ k_ ∨ w.heap.size ≤ k_)) u9000_ l0 from Kd.zbn ho0 (fun k_ hk => (.inl hk)))
 have HK := zA (Kept.refl w (fun k_ => P0_ k_))
 have HW0 := zA hB.size
 have HB := zA hB
 clear hB
 have H : (zaq.l0 k l0 (l0.length : Int)) = some r := h
 clear h
 have H' := zA H
 clear H
 obtain ⟨Ao2, co2, eo2⟩ := Kd.zbp HO0.out
 subst eo2
 go_enter Tryd.func83, Tryd.ntmps83
 go_wp2
 go_loopg [3] k (fun kq v3 w' => ∃ (x3_1 : Int), v3 = .int .i64 x3_1 ∧ Aside0 (zaq.l0 kq l0 x3_1 = some r) ∧ Aside0 (kq ≤ k) ∧ Aside0 (Kd.R (Kd.int .i64) 3 w' w0.heap.size (fun k_ => (P0_ k_ ∨ w.heap.size ≤ k_)) (.slice Ao2 l0.length co2) l0) ∧ Aside0 (Kept w w' (fun k_ => P0_ k_)) ∧ Aside0 (Below w0.heap.size w0 w'))
 case atStart => exact ⟨((l0.length : Int)), (zF), H', ⟨Nat.le_refl _⟩, ⟨zR HO0⟩, ⟨by repeat (first | (with_reducible first | exact HK.out | apply Kept.alloc | apply Kept.drewN | apply Kept.drew) | exact HK.out)⟩, ⟨zB HB⟩⟩
 case round =>
  clear H'
  try clear p2
  obtain ⟨x3_1, rfl, HA, HK1, HO_0, HK, HB⟩ := hrel
  cases gk with
  | zero => exact absurd HA.out (by simp [zaq.l0])
  | succ k1 =>
   have H := HA.out
   clear HA
   simp only [zaq.l0] at H
   by_cases c3 : x3_1 > 0
   ·
    rw [if_pos c3] at H
    have c3b0 : decide (0 < x3_1) = true := decide_eq_true c3
    clear c3
    obtain ⟨ji4, hji4⟩ : ∃ j_ : Int, (wrap64 (x3_1 - 1)) = j_ := ⟨_, rfl⟩
    replace H : (if 0 ≤ (ji4) then (if (ji4) < (l0.length : Int) then (if (rd l0 (ji4)) = 0 then (zaq.l0 k1 l0 ji4) else (if 0 ≤ x3_1 then (if x3_1 ≤ (l0.length : Int) then (some (l0.take (x3_1 : Int).toNat)) else (none)) else (none))) else (none)) else (none)) = some r := by first | (rw [hji4] at H; exact H) | (simp only [hji4] at H ⊢; exact H)
    have hji4w : (IntKind.i64.wrap (x3_1 - 1)) = ji4 := (i64_w _).trans hji4
    by_cases c5 : 0 ≤ (ji4)
    ·
     rw [if_pos c5] at H
     have c5b0 : decide (0 ≤ (ji4)) = true := decide_eq_true c5
     clear c5
     by_cases c6 : (ji4) < (l0.length : Int)
     ·
      rw [if_pos c6] at H
      have c6b0 : decide ((ji4) < (l0.length : Int)) = true := decide_eq_true c6
      clear c6
      by_cases c7 : (rd l0 (ji4)) = 0
      ·
       rw [if_pos c7] at H
       have c7b0 : ((rd l0 (ji4)) == 0) = true := beq_iff_eq.mpr c7
       have c7b1 : ((rd l0 (ji4)) != 0) = false := bne_eq_false_iff_eq.mpr c7
       clear c7
       have H' := zA H
       clear H
       have p281 : 0 ≤ ((ji4) : Int) := of_decide_eq_true (by first | (with_reducible assumption) | assumption)
       have q281 : (ji4) < (l0.length : Int) := of_decide_eq_true (by first | (with_reducible assumption) | assumption)
       obtain ⟨ad281, e281, hx281_0⟩ := Kd.at_int (Kd.zaz HO_0.out).2.2 (ji4) p281 q281
       cases e281
       replace p281 := eq_true p281
       replace q281 := eq_true q281
       go_wp2
       go_roundg k1
       case measure => have := HK1.out; omega
       case rel => exact ⟨(ji4), (by first | rfl | (simp; done) | (simp only [← hji4] <;> (first | rfl | simp)) | (simp [*]; done)), H', ⟨by have := HK1.out; omega⟩, ⟨zR HO_0⟩, ⟨by repeat (first | (with_reducible first | exact HK.out | apply Kept.alloc | apply Kept.drewN | apply Kept.drew) | exact HK.out)⟩, ⟨zB HB⟩⟩
      ·
       rw [if_neg c7] at H
       have c7b0 : ((rd l0 (ji4)) == 0) = false := beq_eq_false_iff_ne.mpr c7
       have c7b1 : ((rd l0 (ji4)) != 0) = true := bne_iff_ne.mpr c7
       by_cases c8 : 0 ≤ x3_1
       ·
        rw [if_pos c8] at H
        have c8b0 := eq_true c8
        have c8b1 : decide (0 ≤ x3_1) = true := decide_eq_true c8
        clear c8
        by_cases c9 : x3_1 ≤ (l0.length : Int)
        ·
         rw [if_pos c9] at H
         have c9b0 := eq_true c9
         have c9b1 : decide (x3_1 ≤ (l0.length : Int)) = true := decide_eq_true c9
         clear c9
         obtain ⟨y282, hy282⟩ : ∃ y_ : List Int, y_ = (l0.take (x3_1 : Int).toNat) := ⟨_, rfl⟩
         replace H : (some y282) = some r := by first | (rw [hy282]; with_reducible exact H) | (have H2_ := (Option.bind_some _ _).symm.trans H; rw [hy282]; with_reducible exact H2_) | (have H2_ := (Option.bind_some _ _).symm.trans H; with_reducible exact H2_) | with_reducible exact H | (rw [hy282]; exact H) | exact H
         have Ny282 := zA hy282
         clear hy282
         obtain rfl := Option.some.inj H
         have p281 : 0 ≤ ((ji4) : Int) := of_decide_eq_true (by first | (with_reducible assumption) | assumption)
         have q281 : (ji4) < (l0.length : Int) := of_decide_eq_true (by first | (with_reducible assumption) | assumption)
         obtain ⟨ad281, e281, hx281_0⟩ := Kd.at_int (Kd.zaz HO_0.out).2.2 (ji4) p281 q281
         cases e281
         replace p281 := eq_true p281
         replace q281 := eq_true q281
         have q10 : (x3_1 : Int) ≤ ((l0.length : Int) : Int) := of_decide_eq_true (by first | (with_reducible assumption) | assumption)
         obtain ⟨i010, hi010, _, hsz10, _⟩ := info_parts info3
         have hcut10 := cut_to (P := Tryd.prog) 31 3 .i64 Tryd.underlying31 hi010 (some ad281) l0.length co2 x3_1 (of_decide_eq_true (by first | (with_reducible assumption) | assumption)) q10 (Kd.zaz HO_0.out).2.1
         have hr10 := Kd.R_take (m := (x3_1 : Int).toNat) HO_0.out (by omega)
         have hy10 : y282.length = (x3_1 : Int).toNat := (by rw [Ny282.out, List.length_take]; omega)
         rw [← Ny282.out] at hr10
         rw [← hy10] at hr10 hcut10
         clear hy10 hi010 hsz10 HO_0
         have HO284 := zA hr10
         clear hr10
         replace q10 := eq_true q10
         go_wp2
         go_ret
         exact ⟨_, by first | rfl | (simp [zb0, zb1] <;> rfl) | (simp only [← hji4]; first | rfl | (simp [zb0, zb1] <;> rfl)) | (simp [*, zb0, zb1] <;> rfl), zR HO284, zB HB, by repeat (first | (with_reducible first | exact HK.out | apply Kept.alloc | apply Kept.drewN | apply Kept.drew) | exact HK.out)⟩
        ·
         rw [if_neg c9] at H
         exact absurd H (by simp)
       ·
        rw [if_neg c8] at H
        exact absurd H (by simp)
     ·
      rw [if_neg c6] at H
      exact absurd H (by simp)
    ·
     rw [if_neg c5] at H
     exact absurd H (by simp)
   ·
    rw [if_neg c3] at H
    have c3b0 : decide (0 < x3_1) = false := decide_eq_false c3
    clear c3
    by_cases c11 : 0 ≤ x3_1
    ·
     rw [if_pos c11] at H
     have c11b0 := eq_true c11
     have c11b1 : decide (0 ≤ x3_1) = true := decide_eq_true c11
     clear c11
     by_cases c12 : x3_1 ≤ (l0.length : Int)
     ·
      rw [if_pos c12] at H
      have c12b0 := eq_true c12
      have c12b1 : decide (x3_1 ≤ (l0.length : Int)) = true := decide_eq_true c12
      clear c12
      obtain ⟨y285, hy285⟩ : ∃ y_ : List Int, y_ = (l0.take (x3_1 : Int).toNat) := ⟨_, rfl⟩
      replace H : (some y285) = some r := by first | (rw [hy285]; with_reducible exact H) | (have H2_ := (Option.bind_some _ _).symm.trans H; rw [hy285]; with_reducible exact H2_) | (have H2_ := (Option.bind_some _ _).symm.trans H; with_reducible exact H2_) | with_reducible exact H | (rw [hy285]; exact H) | exact H
      have Ny285 := zA hy285
      clear hy285
      obtain rfl := Option.some.inj H
      have q13 : (x3_1 : Int) ≤ ((l0.length : Int) : Int) := of_decide_eq_true (by first | (with_reducible assumption) | assumption)
      obtain ⟨i013, hi013, _, hsz13, _⟩ := info_parts info3
      have hcut13 := cut_to (P := Tryd.prog) 31 3 .i64 Tryd.underlying31 hi013 Ao2 l0.length co2 x3_1 (of_decide_eq_true (by first | (with_reducible assumption) | assumption)) q13 (Kd.zaz HO_0.out).2.1
      have hr13 := Kd.R_take (m := (x3_1 : Int).toNat) HO_0.out (by omega)
      have hy13 : y285.length = (x3_1 : Int).toNat := (by rw [Ny285.out, List.length_take]; omega)
      rw [← Ny285.out] at hr13
      rw [← hy13] at hr13 hcut13
      clear hy13 hi013 hsz13 HO_0
      have HO287 := zA hr13
      clear hr13
      replace q13 := eq_true q13
      go_wp2
      go_ret
      exact ⟨_, zW, zR HO287, zB HB, by repeat (first | (with_reducible first | exact HK.out | apply Kept.alloc | apply Kept.drewN | apply Kept.drew) | exact HK.out)⟩
     ·
      rw [if_neg c12] at H
      exact absurd H (by simp)
    ·
     rw [if_neg c11] at H
     exact absurd H (by simp)
mutual
def zaf.l0 : Nat → List Int → List Int → List Int → Int → Int → Option (List Int)
 | 0, _, _, _, _, _ => none
 | k + 1, x0, x1, x5, x17, x18 => if x18 < x17 then (zaf.l1 k x0 x1 x5 x18 0 x17 x18 (x1.length : Int) 0) else ((zaq.f k x5).bind fun t291 => (some t291))
def zaf.l1 : Nat → List Int → List Int → List Int → Int → Int → Int → Int → Int → Int → Option (List Int)
 | 0, _, _, _, _, _, _, _, _, _ => none
 | k + 1, x0, x1, x5, x6, x7, x17, x18, x22, x23 => if x23 < x22 then (if 0 ≤ (wrap64 (x6 + x23)) then (if (wrap64 (x6 + x23)) < (x5.length : Int) then (if 0 ≤ x6 then (if x6 < (x0.length : Int) then (if 0 ≤ x23 then (if x23 < (x1.length : Int) then (zaf.l1 k x0 x1 (x5.set ((wrap64 (x6 + x23)) : Int).toNat (Int.tmod (wrap64 ((wrap64 ((rd x5 (wrap64 (x6 + x23))) + (wrap64 ((rd x0 x6) * (rd x1 x23))))) + x7)) 10000)) x6 (wrap64 (Int.tdiv (wrap64 ((wrap64 ((rd x5 (wrap64 (x6 + x23))) + (wrap64 ((rd x0 x6) * (rd x1 x23))))) + x7)) 10000)) x17 x18 x22 (wrap64 (x23 + 1))) else (none)) else (none)) else (none)) else (none)) else (none)) else (none)) else (if 0 ≤ (wrap64 (x6 + (x1.length : Int))) then (if (wrap64 (x6 + (x1.length : Int))) < (x5.length : Int) then (zaf.l0 k x0 x1 (x5.set ((wrap64 (x6 + (x1.length : Int))) : Int).toNat (wrap64 ((rd x5 (wrap64 (x6 + (x1.length : Int)))) + x7))) x17 (wrap64 (x18 + 1))) else (none)) else (none))
end
def zaf.f (k : Nat) (l0 : List Int) (l1 : List Int) : Option (List Int) := if 0 ≤ (wrap64 ((l0.length : Int) + (l1.length : Int))) then (if (wrap64 ((l0.length : Int) + (l1.length : Int)) : Int).toNat ≤ 35184372088832 then (zaf.l0 k l0 l1 (List.replicate (wrap64 ((l0.length : Int) + (l1.length : Int)) : Int).toNat 0) (l0.length : Int) 0) else (none)) else (none)
theorem zaf.calls (k : Nat) (A0 : Option Addr) (c0 : Nat) (l0 : List Int) (A1 : Option Addr) (c1 : Nat) (l1 : List Int) (r : List Int) (w : World) (hr0 : Kd.C (Kd.int .i64) w A0 l0.length l0) (hc0 : l0.length ≤ c0) (hr1 : Kd.C (Kd.int .i64) w A1 l1.length l1) (hc1 : l1.length ≤ c1) (h : zaf.f k l0 l1 = some r) :
  Calls Tryd.prog 56 #[.slice A0 l0.length c0, .slice A1 l1.length c1] w fun e w' => ∃ v0_ : Value, e = .returned (v0_) ∧ Kd.R (Kd.int .i64) 3 w' w.heap.size (fun _ => True) v0_ r ∧ Below w.heap.size w w' := by
 have HR0 := zA hr0
 have HC0 := zA hc0
 clear hr0 hc0
 have HR1 := zA hr1
 have HC1 := zA hc1
 clear hr1 hc1
 have HB := zA (Below.refl w.heap.size w)
 have H : (if 0 ≤ (wrap64 ((l0.length : Int) + (l1.length : Int))) then (if (wrap64 ((l0.length : Int) + (l1.length : Int)) : Int).toNat ≤ 35184372088832 then (zaf.l0 k l0 l1 (List.replicate (wrap64 ((l0.length : Int) + (l1.length : Int)) : Int).toNat 0) (l0.length : Int) 0) else (none)) else (none)) = some r := h
 clear h
 obtain ⟨ji3, hji3⟩ : ∃ j_ : Int, (wrap64 ((l0.length : Int) + (l1.length : Int))) = j_ := ⟨_, rfl⟩
 replace H : (if 0 ≤ (ji3) then (if (ji3 : Int).toNat ≤ 35184372088832 then (zaf.l0 k l0 l1 (List.replicate (ji3 : Int).toNat 0) (l0.length : Int) 0) else (none)) else (none)) = some r := by first | (rw [hji3] at H; exact H) | (simp only [hji3] at H ⊢; exact H)
 have hji3w : (IntKind.i64.wrap ((l0.length : Int) + (l1.length : Int))) = ji3 := (i64_w _).trans hji3
 by_cases c4 : 0 ≤ (ji3)
 ·
  rw [if_pos c4] at H
  have c4b0 := eq_true c4
  have c4b1 : decide (0 ≤ (ji3)) = true := decide_eq_true c4
  clear c4
  by_cases c5 : (ji3 : Int).toNat ≤ 35184372088832
  ·
   rw [if_pos c5] at H
   have c5b0 := eq_true c5
   have c5b1 : decide ((ji3 : Int).toNat ≤ 35184372088832) = true := decide_eq_true c5
   clear c5
   obtain ⟨y288, hy288⟩ : ∃ y_ : List Int, y_ = (List.replicate (ji3 : Int).toNat 0) := ⟨_, rfl⟩
   replace H : (zaf.l0 k l0 l1 y288 (l0.length : Int) 0) = some r := by first | (rw [hy288]; with_reducible exact H) | (have H2_ := (Option.bind_some _ _).symm.trans H; rw [hy288]; with_reducible exact H2_) | (have H2_ := (Option.bind_some _ _).symm.trans H; with_reducible exact H2_) | with_reducible exact H | (rw [hy288]; exact H) | exact H
   have Ny288 := zA hy288
   clear hy288
   have H' := zA H
   clear H
   go_enter Tryd.func56, Tryd.ntmps56
   go_wp2_with (first | ((with_reducible refine zbe (N := 15) rfl ?_); refine Kd.R_make (Kd.int .i64) _ 3 rfl (N := 15) rfl 31 _ _ rfl ji3 rfl rfl Tryd.underlying31 (.int .i64 0) 8 info3 rfl (by decide) (by omega) 0 (ok := fun _ => True) (okp := fun _ => True) rfl (fun _ hk => hk) trivial (of_decide_eq_true (by first | (with_reducible assumption) | assumption)) (Nat.le_trans (Nat.mul_le_mul_right _ (of_decide_eq_true (by first | (with_reducible assumption) | assumption) : ji3.toNat ≤ 35184372088832)) (by omega)) (Below.refl _ _) (Nat.le_refl _) ?_; intro v289 w6 ho7 hb hg_ hnew_; clear hg_ hnew_; (first | rw [← Ny288.out] at ho7 | (simp only [Int.reduceToNat] at ho7; rw [← Ny288.out] at ho7)); have n0_ := zA (Kd.zbw ho7 (za (zB HB))); have n1_ := zA (zaa (zB HB) hb); clear HB; have HO290 := n0_; have HB := n1_; clear n0_ n1_ hb ho7))
   repeat (go_quiet (first | ((with_reducible refine zbe (N := 15) rfl ?_); refine Kd.R_make (Kd.int .i64) _ 3 rfl (N := 15) rfl 31 _ _ rfl ji3 rfl rfl Tryd.underlying31 (.int .i64 0) 8 info3 rfl (by decide) (by omega) 0 (ok := fun _ => True) (okp := fun _ => True) rfl (fun _ hk => hk) trivial (of_decide_eq_true (by first | (with_reducible assumption) | assumption)) (Nat.le_trans (Nat.mul_le_mul_right _ (of_decide_eq_true (by first | (with_reducible assumption) | assumption) : ji3.toNat ≤ 35184372088832)) (by omega)) (Below.refl _ _) (Nat.le_refl _) ?_; intro v289 w6 ho7 hb hg_ hnew_; clear hg_ hnew_; (first | rw [← Ny288.out] at ho7 | (simp only [Int.reduceToNat] at ho7; rw [← Ny288.out] at ho7)); have n0_ := zA (Kd.zbw ho7 (za (zB HB))); have n1_ := zA (zaa (zB HB) hb); clear HB; have HO290 := n0_; have HB := n1_; clear n0_ n1_ hb ho7)); try go_wp2_with (first | ((with_reducible refine zbe (N := 15) rfl ?_); refine Kd.R_make (Kd.int .i64) _ 3 rfl (N := 15) rfl 31 _ _ rfl ji3 rfl rfl Tryd.underlying31 (.int .i64 0) 8 info3 rfl (by decide) (by omega) 0 (ok := fun _ => True) (okp := fun _ => True) rfl (fun _ hk => hk) trivial (of_decide_eq_true (by first | (with_reducible assumption) | assumption)) (Nat.le_trans (Nat.mul_le_mul_right _ (of_decide_eq_true (by first | (with_reducible assumption) | assumption) : ji3.toNat ≤ 35184372088832)) (by omega)) (Below.refl _ _) (Nat.le_refl _) ?_; intro v289 w6 ho7 hb hg_ hnew_; clear hg_ hnew_; (first | rw [← Ny288.out] at ho7 | (simp only [Int.reduceToNat] at ho7; rw [← Ny288.out] at ho7)); have n0_ := zA (Kd.zbw ho7 (za (zB HB))); have n1_ := zA (zaa (zB HB) hb); clear HB; have HO290 := n0_; have HB := n1_; clear n0_ n1_ hb ho7)))
   go_loopg [18] k (fun kq v18 w' => ∃ (x5_1 : List Int) (x18_1 : Int), v18 = .int .i64 x18_1 ∧ Aside0 (zaf.l0 kq l0 l1 x5_1 (l0.length : Int) x18_1 = some r) ∧ Aside0 (kq ≤ k) ∧ Aside0 (Kd.R (Kd.int .i64) 3 w' w.heap.size (fun _ => True) v289 x5_1) ∧ Aside0 (Below w.heap.size w w'))
   case atStart => exact ⟨(y288), (0), (zF), H', ⟨Nat.le_refl _⟩, ⟨zR HO290⟩, ⟨zB HB⟩⟩
   case round =>
    clear H'
    try clear c1
    try clear p2
    try clear c4
    try clear c4b0
    try clear c4b1
    try clear c5
    try clear c5b0
    try clear c5b1
    try clear p6
    obtain ⟨x5_1, x18_1, rfl, HA, HK1, HO_5, HB⟩ := hrel
    cases gk with
    | zero => exact absurd HA.out (by simp [zaf.l0])
    | succ k1 =>
     have H := HA.out
     clear HA
     simp only [zaf.l0] at H
     by_cases c8 : x18_1 < (l0.length : Int)
     ·
      rw [if_pos c8] at H
      have c8b0 : decide (x18_1 < (l0.length : Int)) = true := decide_eq_true c8
      clear c8
      have H' := zA H
      clear H
      go_wp2
      repeat (go_quiet (fail); try go_wp2)
      go_loopg [7, 23] k1 (fun kq v7 v23 w' => ∃ (x5_2 : List Int) (x7_2 : Int) (x23_2 : Int), v7 = .int .i64 x7_2 ∧ v23 = .int .i64 x23_2 ∧ Aside0 (zaf.l1 kq l0 l1 x5_2 x18_1 x7_2 (l0.length : Int) x18_1 (l1.length : Int) x23_2 = some r) ∧ Aside0 (kq ≤ k1) ∧ Aside0 (Kd.R (Kd.int .i64) 3 w' w.heap.size (fun _ => True) v289 x5_2) ∧ Aside0 (Below w.heap.size w w'))
      case atStart => exact ⟨(x5_1), (0), (0), (zF), (zF), H', ⟨Nat.le_refl _⟩, ⟨zR HO_5⟩, ⟨zB HB⟩⟩
      case round =>
       clear H'
       try clear c1
       try clear p2
       try clear c4
       try clear c4b0
       try clear c4b1
       try clear c5
       try clear c5b0
       try clear c5b1
       try clear p6
       try clear c8
       try clear c8b0
       try clear p2
       try clear p6
       obtain ⟨x5_2, x7_2, x23_2, rfl, rfl, HA, HK2, HO_5, HB⟩ := hrel
       cases gk with
       | zero => exact absurd HA.out (by simp [zaf.l1])
       | succ k2 =>
        have H := HA.out
        clear HA
        simp only [zaf.l1] at H
        by_cases c9 : x23_2 < (l1.length : Int)
        ·
         rw [if_pos c9] at H
         have c9b0 : decide (x23_2 < (l1.length : Int)) = true := decide_eq_true c9
         clear c9
         obtain ⟨ji10, hji10⟩ : ∃ j_ : Int, (wrap64 (x18_1 + x23_2)) = j_ := ⟨_, rfl⟩
         replace H : (if 0 ≤ (ji10) then (if (ji10) < (x5_2.length : Int) then (if 0 ≤ x18_1 then (if x18_1 < (l0.length : Int) then (if 0 ≤ x23_2 then (if x23_2 < (l1.length : Int) then (zaf.l1 k2 l0 l1 (x5_2.set ((ji10) : Int).toNat (Int.tmod (wrap64 ((wrap64 ((rd x5_2 (ji10)) + (wrap64 ((rd l0 x18_1) * (rd l1 x23_2))))) + x7_2)) 10000)) x18_1 (wrap64 (Int.tdiv (wrap64 ((wrap64 ((rd x5_2 (ji10)) + (wrap64 ((rd l0 x18_1) * (rd l1 x23_2))))) + x7_2)) 10000)) (l0.length : Int) x18_1 (l1.length : Int) (wrap64 (x23_2 + 1))) else (none)) else (none)) else (none)) else (none)) else (none)) else (none)) = some r := by first | (rw [hji10] at H; exact H) | (simp only [hji10] at H ⊢; exact H)
         have hji10w : (IntKind.i64.wrap (x18_1 + x23_2)) = ji10 := (i64_w _).trans hji10
         by_cases c11 : 0 ≤ (ji10)
         ·
          rw [if_pos c11] at H
          have c11b0 : decide (0 ≤ (ji10)) = true := decide_eq_true c11
          clear c11
          by_cases c12 : (ji10) < (x5_2.length : Int)
          ·
           rw [if_pos c12] at H
           have c12b0 : decide ((ji10) < (x5_2.length : Int)) = true := decide_eq_true c12
           clear c12
           by_cases c13 : 0 ≤ x18_1
           ·
            rw [if_pos c13] at H
            have c13b0 : decide (0 ≤ x18_1) = true := decide_eq_true c13
            clear c13
            by_cases c14 : x18_1 < (l0.length : Int)
            ·
             rw [if_pos c14] at H
             have c14b0 : decide (x18_1 < (l0.length : Int)) = true := decide_eq_true c14
             clear c14
             by_cases c15 : 0 ≤ x23_2
             ·
              rw [if_pos c15] at H
              have c15b0 : decide (0 ≤ x23_2) = true := decide_eq_true c15
              clear c15
              by_cases c16 : x23_2 < (l1.length : Int)
              ·
               rw [if_pos c16] at H
               have c16b0 : decide (x23_2 < (l1.length : Int)) = true := decide_eq_true c16
               clear c16
               obtain ⟨y297, hy297⟩ : ∃ y_ : List Int, y_ = (x5_2.set ((ji10) : Int).toNat (Int.tmod (wrap64 ((wrap64 ((rd x5_2 (ji10)) + (wrap64 ((rd l0 x18_1) * (rd l1 x23_2))))) + x7_2)) 10000)) := ⟨_, rfl⟩
               replace H : (zaf.l1 k2 l0 l1 y297 x18_1 (wrap64 (Int.tdiv (wrap64 ((wrap64 ((rd x5_2 (ji10)) + (wrap64 ((rd l0 x18_1) * (rd l1 x23_2))))) + x7_2)) 10000)) (l0.length : Int) x18_1 (l1.length : Int) (wrap64 (x23_2 + 1))) = some r := by first | (rw [hy297]; with_reducible exact H) | (have H2_ := (Option.bind_some _ _).symm.trans H; rw [hy297]; with_reducible exact H2_) | (have H2_ := (Option.bind_some _ _).symm.trans H; with_reducible exact H2_) | with_reducible exact H | (rw [hy297]; exact H) | exact H
               have Ny297 := zA hy297
               clear hy297
               have H' := zA H
               clear H
               obtain ⟨Ao18, co18, eo18⟩ := Kd.zbp HO_5.out
               subst eo18
               have p294 : 0 ≤ ((ji10) : Int) := of_decide_eq_true (by first | (with_reducible assumption) | assumption)
               have q294 : (ji10) < (x5_2.length : Int) := of_decide_eq_true (by first | (with_reducible assumption) | assumption)
               obtain ⟨ad294, e294, hx294_0⟩ := Kd.at_int (Kd.zaz HO_5.out).2.2 (ji10) p294 q294
               cases e294
               replace p294 := eq_true p294
               replace q294 := eq_true q294
               have p295 : 0 ≤ (x18_1 : Int) := of_decide_eq_true (by first | (with_reducible assumption) | assumption)
               have q295 : x18_1 < (l0.length : Int) := of_decide_eq_true (by first | (with_reducible assumption) | assumption)
               obtain ⟨ad295, e295, hx295_0⟩ := Kd.at_int HR0.out x18_1 p295 q295
               cases e295
               replace hx295_0 := (HB.out.cell (World.block_lt_of_cell? w _ hx295_0)).trans hx295_0
               replace p295 := eq_true p295
               replace q295 := eq_true q295
               have p296 : 0 ≤ (x23_2 : Int) := of_decide_eq_true (by first | (with_reducible assumption) | assumption)
               have q296 : x23_2 < (l1.length : Int) := of_decide_eq_true (by first | (with_reducible assumption) | assumption)
               obtain ⟨ad296, e296, hx296_0⟩ := Kd.at_int HR1.out x23_2 p296 q296
               cases e296
               replace hx296_0 := (HB.out.cell (World.block_lt_of_cell? w _ hx296_0)).trans hx296_0
               replace p296 := eq_true p296
               replace q296 := eq_true q296
               have p17 : 0 ≤ ((ji10) : Int) := of_decide_eq_true (by first | (with_reducible assumption) | assumption)
               have q17 : ((ji10) : Int) < ((x5_2.length : Int) : Int) := of_decide_eq_true (by first | (with_reducible assumption) | assumption)
               obtain ⟨go17, co17, eo17, gb17, gl17, cl17, HG17⟩ := Kd.R_form HO_5.out (by omega)
               (first | cases eo17 | (injection eo17 with ea_ en_ ec_; (first | subst ea_ | (injection ea_ with ea_; subst ea_)); subst ec_; clear en_))
               have GB17 := zA gb17
               have GG17 := zA HG17
               clear gb17 gl17 HG17
               (first | simp only [add_plain] at hx294_0 | skip)
               obtain ⟨hx17_0, hf17_0⟩ := Kd.zc1 0 HO_5.out ((ji10) : Int) p17 q17
               replace p17 := eq_true p17
               replace q17 := eq_true q17
               have HP19 := Kd.R_putg HO_5.out ((ji10) : Int) (Int.tmod (wrap64 ((wrap64 ((rd x5_2 (ji10)) + (wrap64 ((rd l0 x18_1) * (rd l1 x23_2))))) + x7_2)) 10000)
               go_wp2_with (first | ((with_reducible refine zc3 (t := 3) (p := 50) rfl ?_); (try (rw [drewN_self wr]; generalize hq_ : World.drewN wr _ = wr; have n0_ := zA (Kd.R_at hq_ HO_5.out); have n1_ := zA (below_at hq_ HB.out); clear hq_ HO_5 HB; have HO_5 := n0_; have HB := n1_; clear n0_ n1_; (try (have HP19 := Kd.R_putg HO_5.out ((ji10) : Int) (Int.tmod (wrap64 ((wrap64 ((rd x5_2 (ji10)) + (wrap64 ((rd l0 x18_1) * (rd l1 x23_2))))) + x7_2)) 10000))); (try (obtain ⟨hx17_0, hf17_0⟩ := Kd.zc1 0 HO_5.out ((ji10) : Int) (of_eq_true p17) (of_eq_true q17))))); refine zcx (t := 3) (p := 50) (v := ?vo_w20) (w1 := (wr.setCell ⟨go17, ((ji10) : Int).toNat, none⟩ (.int .i64 (Int.tmod (wrap64 ((wrap64 ((rd x5_2 (ji10)) + (wrap64 ((rd l0 x18_1) * (rd l1 x23_2))))) + x7_2)) 10000)))) ?hg ?ho ?hn ?hr ?_; (case ho => rfl); (case hg => rfl); (case hn => rfl); (case hr => first | (go_simp; done) | (go_simp; rfl)); intro w20 hw; have hg : wr.grownBy w20 (some go17) := (by rw [hw]; exact HP19.2); have hp_ : Kd.R (Kd.int .i64) 3 w20 w.heap.size (fun _ => True) (.slice (some ⟨go17, 0, none⟩) x5_2.length co18) y297 := (by rw [hw, Ny297.out]; exact HP19.1); clear HP19; have n0_ := zA (hp_); have n1_ := zA ((by rw [hw]; exact zc7 (HB.out) GB17.out : Below w.heap.size w w20)); clear HO_5 HB; have HO_5 := n0_; have HB := n1_; clear n0_ n1_ hg hw hp_))
               repeat (go_quiet (first | ((with_reducible refine zc3 (t := 3) (p := 50) rfl ?_); (try (rw [drewN_self wr]; generalize hq_ : World.drewN wr _ = wr; have n0_ := zA (Kd.R_at hq_ HO_5.out); have n1_ := zA (below_at hq_ HB.out); clear hq_ HO_5 HB; have HO_5 := n0_; have HB := n1_; clear n0_ n1_; (try (have HP19 := Kd.R_putg HO_5.out ((ji10) : Int) (Int.tmod (wrap64 ((wrap64 ((rd x5_2 (ji10)) + (wrap64 ((rd l0 x18_1) * (rd l1 x23_2))))) + x7_2)) 10000))); (try (obtain ⟨hx17_0, hf17_0⟩ := Kd.zc1 0 HO_5.out ((ji10) : Int) (of_eq_true p17) (of_eq_true q17))))); refine zcx (t := 3) (p := 50) (v := ?vo_w20) (w1 := (wr.setCell ⟨go17, ((ji10) : Int).toNat, none⟩ (.int .i64 (Int.tmod (wrap64 ((wrap64 ((rd x5_2 (ji10)) + (wrap64 ((rd l0 x18_1) * (rd l1 x23_2))))) + x7_2)) 10000)))) ?hg ?ho ?hn ?hr ?_; (case ho => rfl); (case hg => rfl); (case hn => rfl); (case hr => first | (go_simp; done) | (go_simp; rfl)); intro w20 hw; have hg : wr.grownBy w20 (some go17) := (by rw [hw]; exact HP19.2); have hp_ : Kd.R (Kd.int .i64) 3 w20 w.heap.size (fun _ => True) (.slice (some ⟨go17, 0, none⟩) x5_2.length co18) y297 := (by rw [hw, Ny297.out]; exact HP19.1); clear HP19; have n0_ := zA (hp_); have n1_ := zA ((by rw [hw]; exact zc7 (HB.out) GB17.out : Below w.heap.size w w20)); clear HO_5 HB; have HO_5 := n0_; have HB := n1_; clear n0_ n1_ hg hw hp_)); try go_wp2_with (first | ((with_reducible refine zc3 (t := 3) (p := 50) rfl ?_); (try (rw [drewN_self wr]; generalize hq_ : World.drewN wr _ = wr; have n0_ := zA (Kd.R_at hq_ HO_5.out); have n1_ := zA (below_at hq_ HB.out); clear hq_ HO_5 HB; have HO_5 := n0_; have HB := n1_; clear n0_ n1_; (try (have HP19 := Kd.R_putg HO_5.out ((ji10) : Int) (Int.tmod (wrap64 ((wrap64 ((rd x5_2 (ji10)) + (wrap64 ((rd l0 x18_1) * (rd l1 x23_2))))) + x7_2)) 10000))); (try (obtain ⟨hx17_0, hf17_0⟩ := Kd.zc1 0 HO_5.out ((ji10) : Int) (of_eq_true p17) (of_eq_true q17))))); refine zcx (t := 3) (p := 50) (v := ?vo_w20) (w1 := (wr.setCell ⟨go17, ((ji10) : Int).toNat, none⟩ (.int .i64 (Int.tmod (wrap64 ((wrap64 ((rd x5_2 (ji10)) + (wrap64 ((rd l0 x18_1) * (rd l1 x23_2))))) + x7_2)) 10000)))) ?hg ?ho ?hn ?hr ?_; (case ho => rfl); (case hg => rfl); (case hn => rfl); (case hr => first | (go_simp; done) | (go_simp; rfl)); intro w20 hw; have hg : wr.grownBy w20 (some go17) := (by rw [hw]; exact HP19.2); have hp_ : Kd.R (Kd.int .i64) 3 w20 w.heap.size (fun _ => True) (.slice (some ⟨go17, 0, none⟩) x5_2.length co18) y297 := (by rw [hw, Ny297.out]; exact HP19.1); clear HP19; have n0_ := zA (hp_); have n1_ := zA ((by rw [hw]; exact zc7 (HB.out) GB17.out : Below w.heap.size w w20)); clear HO_5 HB; have HO_5 := n0_; have HB := n1_; clear n0_ n1_ hg hw hp_)))
               go_roundg k2
               case measure => have := HK1.out; have := HK2.out; omega
               case rel => exact ⟨(y297), (wrap64 (Int.tdiv (wrap64 ((wrap64 ((rd x5_2 (ji10)) + (wrap64 ((rd l0 x18_1) * (rd l1 x23_2))))) + x7_2)) 10000)), (wrap64 (x23_2 + 1)), (by first | rfl | (simp; done) | (simp only [← hji10] <;> (first | rfl | simp)) | (simp [*]; done)), (zF), H', ⟨by have := HK1.out; have := HK2.out; omega⟩, ⟨zR HO_5⟩, ⟨zB HB⟩⟩
              ·
               rw [if_neg c16] at H
               exact absurd H (by simp)
             ·
              rw [if_neg c15] at H
              exact absurd H (by simp)
            ·
             rw [if_neg c14] at H
             exact absurd H (by simp)
           ·
            rw [if_neg c13] at H
            exact absurd H (by simp)
          ·
           rw [if_neg c12] at H
           exact absurd H (by simp)
         ·
          rw [if_neg c11] at H
          exact absurd H (by simp)
        ·
         rw [if_neg c9] at H
         have c9b0 : decide (x23_2 < (l1.length : Int)) = false := decide_eq_false c9
         clear c9
         obtain ⟨ji21, hji21⟩ : ∃ j_ : Int, (wrap64 (x18_1 + (l1.length : Int))) = j_ := ⟨_, rfl⟩
         replace H : (if 0 ≤ (ji21) then (if (ji21) < (x5_2.length : Int) then (zaf.l0 k2 l0 l1 (x5_2.set ((ji21) : Int).toNat (wrap64 ((rd x5_2 (ji21)) + x7_2))) (l0.length : Int) (wrap64 (x18_1 + 1))) else (none)) else (none)) = some r := by first | (rw [hji21] at H; exact H) | (simp only [hji21] at H ⊢; exact H)
         have hji21w : (IntKind.i64.wrap (x18_1 + (l1.length : Int))) = ji21 := (i64_w _).trans hji21
         by_cases c22 : 0 ≤ (ji21)
         ·
          rw [if_pos c22] at H
          have c22b0 : decide (0 ≤ (ji21)) = true := decide_eq_true c22
          clear c22
          by_cases c23 : (ji21) < (x5_2.length : Int)
          ·
           rw [if_pos c23] at H
           have c23b0 : decide ((ji21) < (x5_2.length : Int)) = true := decide_eq_true c23
           clear c23
           obtain ⟨y299, hy299⟩ : ∃ y_ : List Int, y_ = (x5_2.set ((ji21) : Int).toNat (wrap64 ((rd x5_2 (ji21)) + x7_2))) := ⟨_, rfl⟩
           replace H : (zaf.l0 k2 l0 l1 y299 (l0.length : Int) (wrap64 (x18_1 + 1))) = some r := by first | (rw [hy299]; with_reducible exact H) | (have H2_ := (Option.bind_some _ _).symm.trans H; rw [hy299]; with_reducible exact H2_) | (have H2_ := (Option.bind_some _ _).symm.trans H; with_reducible exact H2_) | with_reducible exact H | (rw [hy299]; exact H) | exact H
           have Ny299 := zA hy299
           clear hy299
           have H' := zA H
           clear H
           obtain ⟨Ao25, co25, eo25⟩ := Kd.zbp HO_5.out
           subst eo25
           have p298 : 0 ≤ ((ji21) : Int) := of_decide_eq_true (by first | (with_reducible assumption) | assumption)
           have q298 : (ji21) < (x5_2.length : Int) := of_decide_eq_true (by first | (with_reducible assumption) | assumption)
           obtain ⟨ad298, e298, hx298_0⟩ := Kd.at_int (Kd.zaz HO_5.out).2.2 (ji21) p298 q298
           cases e298
           replace p298 := eq_true p298
           replace q298 := eq_true q298
           have p24 : 0 ≤ ((ji21) : Int) := of_decide_eq_true (by first | (with_reducible assumption) | assumption)
           have q24 : ((ji21) : Int) < ((x5_2.length : Int) : Int) := of_decide_eq_true (by first | (with_reducible assumption) | assumption)
           obtain ⟨go24, co24, eo24, gb24, gl24, cl24, HG24⟩ := Kd.R_form HO_5.out (by omega)
           (first | cases eo24 | (injection eo24 with ea_ en_ ec_; (first | subst ea_ | (injection ea_ with ea_; subst ea_)); subst ec_; clear en_))
           have GB24 := zA gb24
           have GG24 := zA HG24
           clear gb24 gl24 HG24
           (first | simp only [add_plain] at hx298_0 | skip)
           obtain ⟨hx24_0, hf24_0⟩ := Kd.zc1 0 HO_5.out ((ji21) : Int) p24 q24
           replace p24 := eq_true p24
           replace q24 := eq_true q24
           have HP26 := Kd.R_putg HO_5.out ((ji21) : Int) (wrap64 ((rd x5_2 (ji21)) + x7_2))
           go_wp2_with (first | ((with_reducible refine zc3 (t := 3) (p := 68) rfl ?_); (try (rw [drewN_self wr]; generalize hq_ : World.drewN wr _ = wr; have n0_ := zA (Kd.R_at hq_ HO_5.out); have n1_ := zA (below_at hq_ HB.out); clear hq_ HO_5 HB; have HO_5 := n0_; have HB := n1_; clear n0_ n1_; (try (have HP26 := Kd.R_putg HO_5.out ((ji21) : Int) (wrap64 ((rd x5_2 (ji21)) + x7_2)))); (try (obtain ⟨hx24_0, hf24_0⟩ := Kd.zc1 0 HO_5.out ((ji21) : Int) (of_eq_true p24) (of_eq_true q24))))); refine zcx (t := 3) (p := 68) (v := ?vo_w27) (w1 := (wr.setCell ⟨go24, ((ji21) : Int).toNat, none⟩ (.int .i64 (wrap64 ((rd x5_2 (ji21)) + x7_2))))) ?hg ?ho ?hn ?hr ?_; (case ho => rfl); (case hg => rfl); (case hn => rfl); (case hr => first | (go_simp; done) | (go_simp; rfl)); intro w27 hw; have hg : wr.grownBy w27 (some go24) := (by rw [hw]; exact HP26.2); have hp_ : Kd.R (Kd.int .i64) 3 w27 w.heap.size (fun _ => True) (.slice (some ⟨go24, 0, none⟩) x5_2.length co25) y299 := (by rw [hw, Ny299.out]; exact HP26.1); clear HP26; have n0_ := zA (hp_); have n1_ := zA ((by rw [hw]; exact zc7 (HB.out) GB24.out : Below w.heap.size w w27)); clear HO_5 HB; have HO_5 := n0_; have HB := n1_; clear n0_ n1_ hg hw hp_))
           repeat (go_quiet (first | ((with_reducible refine zc3 (t := 3) (p := 68) rfl ?_); (try (rw [drewN_self wr]; generalize hq_ : World.drewN wr _ = wr; have n0_ := zA (Kd.R_at hq_ HO_5.out); have n1_ := zA (below_at hq_ HB.out); clear hq_ HO_5 HB; have HO_5 := n0_; have HB := n1_; clear n0_ n1_; (try (have HP26 := Kd.R_putg HO_5.out ((ji21) : Int) (wrap64 ((rd x5_2 (ji21)) + x7_2)))); (try (obtain ⟨hx24_0, hf24_0⟩ := Kd.zc1 0 HO_5.out ((ji21) : Int) (of_eq_true p24) (of_eq_true q24))))); refine zcx (t := 3) (p := 68) (v := ?vo_w27) (w1 := (wr.setCell ⟨go24, ((ji21) : Int).toNat, none⟩ (.int .i64 (wrap64 ((rd x5_2 (ji21)) + x7_2))))) ?hg ?ho ?hn ?hr ?_; (case ho => rfl); (case hg => rfl); (case hn => rfl); (case hr => first | (go_simp; done) | (go_simp; rfl)); intro w27 hw; have hg : wr.grownBy w27 (some go24) := (by rw [hw]; exact HP26.2); have hp_ : Kd.R (Kd.int .i64) 3 w27 w.heap.size (fun _ => True) (.slice (some ⟨go24, 0, none⟩) x5_2.length co25) y299 := (by rw [hw, Ny299.out]; exact HP26.1); clear HP26; have n0_ := zA (hp_); have n1_ := zA ((by rw [hw]; exact zc7 (HB.out) GB24.out : Below w.heap.size w w27)); clear HO_5 HB; have HO_5 := n0_; have HB := n1_; clear n0_ n1_ hg hw hp_)); try go_wp2_with (first | ((with_reducible refine zc3 (t := 3) (p := 68) rfl ?_); (try (rw [drewN_self wr]; generalize hq_ : World.drewN wr _ = wr; have n0_ := zA (Kd.R_at hq_ HO_5.out); have n1_ := zA (below_at hq_ HB.out); clear hq_ HO_5 HB; have HO_5 := n0_; have HB := n1_; clear n0_ n1_; (try (have HP26 := Kd.R_putg HO_5.out ((ji21) : Int) (wrap64 ((rd x5_2 (ji21)) + x7_2)))); (try (obtain ⟨hx24_0, hf24_0⟩ := Kd.zc1 0 HO_5.out ((ji21) : Int) (of_eq_true p24) (of_eq_true q24))))); refine zcx (t := 3) (p := 68) (v := ?vo_w27) (w1 := (wr.setCell ⟨go24, ((ji21) : Int).toNat, none⟩ (.int .i64 (wrap64 ((rd x5_2 (ji21)) + x7_2))))) ?hg ?ho ?hn ?hr ?_; (case ho => rfl); (case hg => rfl); (case hn => rfl); (case hr => first | (go_simp; done) | (go_simp; rfl)); intro w27 hw; have hg : wr.grownBy w27 (some go24) := (by rw [hw]; exact HP26.2); have hp_ : Kd.R (Kd.int .i64) 3 w27 w.heap.size (fun _ => True) (.slice (some ⟨go24, 0, none⟩) x5_2.length co25) y299 := (by rw [hw, Ny299.out]; exact HP26.1); clear HP26; have n0_ := zA (hp_); have n1_ := zA ((by rw [hw]; exact zc7 (HB.out) GB24.out : Below w.heap.size w w27)); clear HO_5 HB; have HO_5 := n0_; have HB := n1_; clear n0_ n1_ hg hw hp_)))
           go_roundg k2
           case measure => have := HK1.out; have := HK2.out; omega
           case rel => exact ⟨(y299), (wrap64 (x18_1 + 1)), (zF), H', ⟨by have := HK1.out; have := HK2.out; omega⟩, ⟨zR HO_5⟩, ⟨zB HB⟩⟩
          ·
           rw [if_neg c23] at H
           exact absurd H (by simp)
         ·
          rw [if_neg c22] at H
          exact absurd H (by simp)
     ·
      rw [if_neg c8] at H
      have c8b0 : decide (x18_1 < (l0.length : Int)) = false := decide_eq_false c8
      clear c8
      replace H := zO H
      obtain ⟨t291, A280, H⟩ := H
      try dsimp only at H
      have A28 := zA A280
      clear A280
      obtain rfl := Option.some.inj H
      obtain ⟨Ao29, co29, eo29⟩ := Kd.zbp HO_5.out
      subst eo29
      go_wp2_with (first | (go_at_call 83; (with_reducible refine (zaq.calls k1 (fun k_ => some k_ = (.slice Ao29 x5_1.length co29 : Value).ownBlock) (.slice Ao29 x5_1.length co29) x5_1 t291 w _ ?side1 ?side2 A28.out).mono ?_); (case side1 => repeat (first | (with_reducible first | exact HB.out | apply zbt | apply zbg | apply zbl) | exact HB.out)); (case side2 => exact Kd.zc4 rfl HO_5.out); rintro e w30 ⟨v292, rfl, ho0, hb, hkp⟩; have n0_ := zA (Kd.zbn (ok' := fun k_ => True) ho0 (fun k_ hk_ => trivial)); have n1_ := zA (hb); clear HB HO_5; have HO293 := n0_; have HB := n1_; clear n0_ n1_; (try clear hb); (try clear hkp); (try clear ho0)))
      repeat (go_quiet (first | (go_at_call 83; (with_reducible refine (zaq.calls k1 (fun k_ => some k_ = (.slice Ao29 x5_1.length co29 : Value).ownBlock) (.slice Ao29 x5_1.length co29) x5_1 t291 w _ ?side1 ?side2 A28.out).mono ?_); (case side1 => repeat (first | (with_reducible first | exact HB.out | apply zbt | apply zbg | apply zbl) | exact HB.out)); (case side2 => exact Kd.zc4 rfl HO_5.out); rintro e w30 ⟨v292, rfl, ho0, hb, hkp⟩; have n0_ := zA (Kd.zbn (ok' := fun k_ => True) ho0 (fun k_ hk_ => trivial)); have n1_ := zA (hb); clear HB HO_5; have HO293 := n0_; have HB := n1_; clear n0_ n1_; (try clear hb); (try clear hkp); (try clear ho0))); try go_wp2_with (first | (go_at_call 83; (with_reducible refine (zaq.calls k1 (fun k_ => some k_ = (.slice Ao29 x5_1.length co29 : Value).ownBlock) (.slice Ao29 x5_1.length co29) x5_1 t291 w _ ?side1 ?side2 A28.out).mono ?_); (case side1 => repeat (first | (with_reducible first | exact HB.out | apply zbt | apply zbg | apply zbl) | exact HB.out)); (case side2 => exact Kd.zc4 rfl HO_5.out); rintro e w30 ⟨v292, rfl, ho0, hb, hkp⟩; have n0_ := zA (Kd.zbn (ok' := fun k_ => True) ho0 (fun k_ hk_ => trivial)); have n1_ := zA (hb); clear HB HO_5; have HO293 := n0_; have HB := n1_; clear n0_ n1_; (try clear hb); (try clear hkp); (try clear ho0))))
      go_ret
      exact ⟨_, by first | rfl | (simp [zb0, zb1] <;> rfl) | (simp only [← hji3]; first | rfl | (simp [zb0, zb1] <;> rfl)) | (simp [*, zb0, zb1] <;> rfl), zR HO293, zB HB⟩
  ·
   rw [if_neg c5] at H
   exact absurd H (by simp)
 ·
  rw [if_neg c4] at H
  exact absurd H (by simp)
def zax.l0 : Nat → List Int → List Int → Int → Option (Int)
 | 0, _, _, _ => none
 | k + 1, x0, x1, x5 => if x5 ≥ 0 then (if 0 ≤ x5 then (if x5 < (x0.length : Int) then (if x5 < (x1.length : Int) then (if (rd x0 x5) < (rd x1 x5) then (some (-1)) else (if (rd x0 x5) > (rd x1 x5) then (some 1) else (zax.l0 k x0 x1 (wrap64 (x5 - 1))))) else (none)) else (none)) else (none)) else (some 0)
def zax.f (k : Nat) (l0 : List Int) (l1 : List Int) : Option (Int) := if (l0.length : Int) = (l1.length : Int) then (zax.l0 k l0 l1 (wrap64 ((l0.length : Int) - 1))) else (if (l0.length : Int) < (l1.length : Int) then (some (-1)) else (some 1))
theorem zax.calls (k : Nat) (A0 : Option Addr) (c0 : Nat) (l0 : List Int) (A1 : Option Addr) (c1 : Nat) (l1 : List Int) (r : Int) (w : World) (hr0 : Kd.C (Kd.int .i64) w A0 l0.length l0) (hc0 : l0.length ≤ c0) (hr1 : Kd.C (Kd.int .i64) w A1 l1.length l1) (hc1 : l1.length ≤ c1) (h : zax.f k l0 l1 = some r) :
  Calls Tryd.prog 18 #[.slice A0 l0.length c0, .slice A1 l1.length c1] w fun e w' => e = .returned (.int .i64 r) ∧ Drawn0 w w' := by
 have HR0 := zA hr0
 have HC0 := zA hc0
 clear hr0 hc0
 have HR1 := zA hr1
 have HC1 := zA hc1
 clear hr1 hc1
 have H : (if (l0.length : Int) = (l1.length : Int) then (zax.l0 k l0 l1 (wrap64 ((l0.length : Int) - 1))) else (if (l0.length : Int) < (l1.length : Int) then (some (-1)) else (some 1))) = some r := h
 clear h
 by_cases c3 : (l0.length : Int) = (l1.length : Int)
 ·
  rw [if_pos c3] at H
  have c3b0 : ((l0.length : Int) == (l1.length : Int)) = true := beq_iff_eq.mpr c3
  have c3b1 : ((l0.length : Int) != (l1.length : Int)) = false := bne_eq_false_iff_eq.mpr c3
  have c3b2 : (l0.length == l1.length) = true := by first | simpa using c3 | (simp at c3 ⊢; omega)
  clear c3
  have H' := zA H
  clear H
  go_enter Tryd.func18, Tryd.ntmps18
  go_wp2
  repeat (go_quiet (fail); try go_wp2)
  go_loopg [5] k (fun kq v5 w' => ∃ (x5_1 : Int), v5 = .int .i64 x5_1 ∧ Aside0 (zax.l0 kq l0 l1 x5_1 = some r) ∧ Aside0 (kq ≤ k) ∧ Drawn0 w w')
  case atStart => exact ⟨(wrap64 ((l0.length : Int) - 1)), (zF), H', ⟨Nat.le_refl _⟩, by repeat (first | exact Drawn0.refl _ | apply Drawn0.step)⟩
  case round =>
   clear H'
   try clear c1
   try clear p2
   try clear c3
   try clear c3b0
   try clear c3b1
   try clear c3b2
   obtain ⟨x5_1, rfl, HA, HK1, ⟨m1, rfl⟩⟩ := hrel
   cases gk with
   | zero => exact absurd HA.out (by simp [zax.l0])
   | succ k1 =>
    have H := HA.out
    clear HA
    simp only [zax.l0] at H
    by_cases c4 : x5_1 ≥ 0
    ·
     rw [if_pos c4] at H
     have c4b0 : decide (0 ≤ x5_1) = true := decide_eq_true c4
     clear c4
     by_cases c5 : 0 ≤ x5_1
     ·
      rw [if_pos c5] at H
      have c5b0 : decide (0 ≤ x5_1) = true := decide_eq_true c5
      clear c5
      by_cases c6 : x5_1 < (l0.length : Int)
      ·
       rw [if_pos c6] at H
       have c6b0 : decide (x5_1 < (l0.length : Int)) = true := decide_eq_true c6
       clear c6
       by_cases c7 : x5_1 < (l1.length : Int)
       ·
        rw [if_pos c7] at H
        have c7b0 : decide (x5_1 < (l1.length : Int)) = true := decide_eq_true c7
        clear c7
        by_cases c8 : (rd l0 x5_1) < (rd l1 x5_1)
        ·
         rw [if_pos c8] at H
         have c8b0 : decide ((rd l0 x5_1) < (rd l1 x5_1)) = true := decide_eq_true c8
         clear c8
         obtain rfl := Option.some.inj H
         have p313 : 0 ≤ (x5_1 : Int) := of_decide_eq_true (by first | (with_reducible assumption) | assumption)
         have q313 : x5_1 < (l0.length : Int) := of_decide_eq_true (by first | (with_reducible assumption) | assumption)
         obtain ⟨ad313, e313, hx313_0⟩ := Kd.at_int HR0.out x5_1 p313 q313
         cases e313
         replace p313 := eq_true p313
         replace q313 := eq_true q313
         have p314 : 0 ≤ (x5_1 : Int) := of_decide_eq_true (by first | (with_reducible assumption) | assumption)
         have q314 : x5_1 < (l1.length : Int) := of_decide_eq_true (by first | (with_reducible assumption) | assumption)
         obtain ⟨ad314, e314, hx314_0⟩ := Kd.at_int HR1.out x5_1 p314 q314
         cases e314
         replace p314 := eq_true p314
         replace q314 := eq_true q314
         go_wp2
         repeat (go_quiet (fail); try go_wp2)
         go_ret
         exact ⟨zF, by repeat (first | exact Drawn0.refl _ | apply Drawn0.step)⟩
        ·
         rw [if_neg c8] at H
         have c8b0 : decide ((rd l0 x5_1) < (rd l1 x5_1)) = false := decide_eq_false c8
         clear c8
         by_cases c9 : (rd l0 x5_1) > (rd l1 x5_1)
         ·
          rw [if_pos c9] at H
          have c9b0 : decide ((rd l1 x5_1) < (rd l0 x5_1)) = true := decide_eq_true c9
          clear c9
          obtain rfl := Option.some.inj H
          have p313 : 0 ≤ (x5_1 : Int) := of_decide_eq_true (by first | (with_reducible assumption) | assumption)
          have q313 : x5_1 < (l0.length : Int) := of_decide_eq_true (by first | (with_reducible assumption) | assumption)
          obtain ⟨ad313, e313, hx313_0⟩ := Kd.at_int HR0.out x5_1 p313 q313
          cases e313
          replace p313 := eq_true p313
          replace q313 := eq_true q313
          have p314 : 0 ≤ (x5_1 : Int) := of_decide_eq_true (by first | (with_reducible assumption) | assumption)
          have q314 : x5_1 < (l1.length : Int) := of_decide_eq_true (by first | (with_reducible assumption) | assumption)
          obtain ⟨ad314, e314, hx314_0⟩ := Kd.at_int HR1.out x5_1 p314 q314
          cases e314
          replace p314 := eq_true p314
          replace q314 := eq_true q314
          have p315 : 0 ≤ (x5_1 : Int) := of_decide_eq_true (by first | (with_reducible assumption) | assumption)
          have q315 : x5_1 < (l0.length : Int) := of_decide_eq_true (by first | (with_reducible assumption) | assumption)
          obtain ⟨ad315, e315, hx315_0⟩ := Kd.at_int HR0.out x5_1 p315 q315
          obtain rfl : ad313 = ad315 := (by injection e315)
          replace p315 := eq_true p315
          replace q315 := eq_true q315
          have p316 : 0 ≤ (x5_1 : Int) := of_decide_eq_true (by first | (with_reducible assumption) | assumption)
          have q316 : x5_1 < (l1.length : Int) := of_decide_eq_true (by first | (with_reducible assumption) | assumption)
          obtain ⟨ad316, e316, hx316_0⟩ := Kd.at_int HR1.out x5_1 p316 q316
          obtain rfl : ad314 = ad316 := (by injection e316)
          replace p316 := eq_true p316
          replace q316 := eq_true q316
          go_wp2
          repeat (go_quiet (fail); try go_wp2)
          go_ret
          exact ⟨zF, by repeat (first | exact Drawn0.refl _ | apply Drawn0.step)⟩
         ·
          rw [if_neg c9] at H
          have c9b0 : decide ((rd l1 x5_1) < (rd l0 x5_1)) = false := decide_eq_false c9
          clear c9
          have H' := zA H
          clear H
          have p313 : 0 ≤ (x5_1 : Int) := of_decide_eq_true (by first | (with_reducible assumption) | assumption)
          have q313 : x5_1 < (l0.length : Int) := of_decide_eq_true (by first | (with_reducible assumption) | assumption)
          obtain ⟨ad313, e313, hx313_0⟩ := Kd.at_int HR0.out x5_1 p313 q313
          cases e313
          replace p313 := eq_true p313
          replace q313 := eq_true q313
          have p314 : 0 ≤ (x5_1 : Int) := of_decide_eq_true (by first | (with_reducible assumption) | assumption)
          have q314 : x5_1 < (l1.length : Int) := of_decide_eq_true (by first | (with_reducible assumption) | assumption)
          obtain ⟨ad314, e314, hx314_0⟩ := Kd.at_int HR1.out x5_1 p314 q314
          cases e314
          replace p314 := eq_true p314
          replace q314 := eq_true q314
          have p315 : 0 ≤ (x5_1 : Int) := of_decide_eq_true (by first | (with_reducible assumption) | assumption)
          have q315 : x5_1 < (l0.length : Int) := of_decide_eq_true (by first | (with_reducible assumption) | assumption)
          obtain ⟨ad315, e315, hx315_0⟩ := Kd.at_int HR0.out x5_1 p315 q315
          obtain rfl : ad313 = ad315 := (by injection e315)
          replace p315 := eq_true p315
          replace q315 := eq_true q315
          have p316 : 0 ≤ (x5_1 : Int) := of_decide_eq_true (by first | (with_reducible assumption) | assumption)
          have q316 : x5_1 < (l1.length : Int) := of_decide_eq_true (by first | (with_reducible assumption) | assumption)
          obtain ⟨ad316, e316, hx316_0⟩ := Kd.at_int HR1.out x5_1 p316 q316
          obtain rfl : ad314 = ad316 := (by injection e316)
          replace p316 := eq_true p316
          replace q316 := eq_true q316
          go_wp2
          repeat (go_quiet (fail); try go_wp2)
          go_roundg k1
          case measure => have := HK1.out; omega
          case rel => exact ⟨(wrap64 (x5_1 - 1)), (zF), H', ⟨by have := HK1.out; omega⟩, by repeat (first | exact Drawn0.refl _ | apply Drawn0.step)⟩
       ·
        rw [if_neg c7] at H
        exact absurd H (by simp)
      ·
       rw [if_neg c6] at H
       exact absurd H (by simp)
     ·
      rw [if_neg c5] at H
      exact absurd H (by simp)
    ·
     rw [if_neg c4] at H
     have c4b0 : decide (0 ≤ x5_1) = false := decide_eq_false c4
     clear c4
     obtain rfl := Option.some.inj H
     go_wp2
     repeat (go_quiet (fail); try go_wp2)
     go_ret
     exact ⟨zF, by repeat (first | exact Drawn0.refl _ | apply Drawn0.step)⟩
 ·
  rw [if_neg c3] at H
  have c3b0 : ((l0.length : Int) == (l1.length : Int)) = false := beq_eq_false_iff_ne.mpr c3
  have c3b1 : ((l0.length : Int) != (l1.length : Int)) = true := bne_iff_ne.mpr c3
  have c3b2 : (l0.length == l1.length) = false := by first | simpa using c3 | (simp at c3 ⊢; omega)
  by_cases c10 : (l0.length : Int) < (l1.length : Int)
  ·
   rw [if_pos c10] at H
   have c10b0 : decide ((l0.length : Int) < (l1.length : Int)) = true := decide_eq_true c10
   have c10b1 : decide (l0.length < l1.length) = true := decide_eq_true (Int.ofNat_lt.mp c10)
   clear c10
   obtain rfl := Option.some.inj H
   go_enter Tryd.func18, Tryd.ntmps18
   go_wp2
   repeat (go_quiet (fail); try go_wp2)
   go_ret
   exact ⟨zF, by repeat (first | exact Drawn0.refl _ | apply Drawn0.step)⟩
  ·
   rw [if_neg c10] at H
   have c10b0 : decide ((l0.length : Int) < (l1.length : Int)) = false := decide_eq_false c10
   have c10b1 : decide (l0.length < l1.length) = false := decide_eq_false (fun h => c10 (Int.ofNat_lt.mpr h))
   clear c10
   obtain rfl := Option.some.inj H
   go_enter Tryd.func18, Tryd.ntmps18
   go_wp2
   repeat (go_quiet (fail); try go_wp2)
   go_ret
   exact ⟨zF, by repeat (first | exact Drawn0.refl _ | apply Drawn0.step)⟩
def zce.f (k : Nat) (a0 : Int) : Option (List Int × List Int) := (zcp.f k (IntKind.u64.wrap (mx a0 0))).bind fun t410 => ((zbm.f k).bind fun t413 => (some (t410, t413)))
theorem zce.mono : ∀ a0 k, LeO (zce.f k a0) (zce.f (k + 1) a0) := by
 intro a0 k
 unfold zce.f
 repeat' first
   | (with_reducible exact zcp.mono _ _)
   | (with_reducible exact zbm.mono _)
   | (with_reducible exact LeO.refl _)
   | (with_reducible exact LeO.none _)
   | (with_reducible refine LeO.ite ?_ ?_)
   | (with_reducible refine LeO.bind ?_ (fun _ => ?_))
   | exact zcp.mono _ _
   | exact zbm.mono _
   | exact LeO.none _
   | refine LeO.ite ?_ ?_
   | refine LeO.bind ?_ (fun _ => ?_)
theorem zce.calls (k : Nat) (a0 : Int) (r1 : List Int) (r2 : List Int) (w : World) (h : zce.f k a0 = some (r1, r2)) :
  Calls Tryd.prog 22 #[.int .i64 a0] w fun e w' => ∃ v0_ v1_ : Value, e = .returned (.agg #[v0_, v1_]) ∧ Kd.V (Kd.int .u64) 57 w' w.heap.size (fun k_ => (w.heap.size ≤ k_)) v0_ r1 ∧ Kd.V (Kd.int .u64) 57 w' w.heap.size (fun k_ => (w.heap.size ≤ k_)) v1_ r2 ∧ Below w.heap.size w w' := by
 have hu28 := Tryd.underlying28
 have HB := zA (Below.refl w.heap.size w)
 have H : ((zcp.f k (IntKind.u64.wrap (mx a0 0))).bind fun t410 => ((zbm.f k).bind fun t413 => (some (t410, t413)))) = some (r1, r2) := h
 clear h
 obtain ⟨ji2, hji2⟩ : ∃ j_ : Int, (mx a0 0) = j_ := ⟨_, rfl⟩
 replace H : ((zcp.f k (IntKind.u64.wrap (ji2))).bind fun t410 => ((zbm.f k).bind fun t413 => (some (t410, t413)))) = some (r1, r2) := by first | (rw [hji2] at H; exact H) | (simp only [hji2] at H ⊢; exact H)
 (try (have hji2l : 0 ≤ ji2 := by (rw [← hji2]; unfold mx; (repeat' split) <;> omega)))
 (try (have hji2m : 0 ≤ ji2 := by omega))
 have hji2_ : (if a0 < 0 then 0 else a0) = ji2 := hji2
 (try (have hji2n_ := hji2_; simp only [Int.ofNat_lt] at hji2n_))
 replace H := zO H
 obtain ⟨t410, A30, H⟩ := H
 try dsimp only at H
 have A3 := zA A30
 clear A30
 replace H := zO H
 obtain ⟨t413, A40, H⟩ := H
 try dsimp only at H
 have A4 := zA A40
 clear A40
 simp only [Option.some.injEq, Prod.mk.injEq] at H
 obtain ⟨rfl, rfl⟩ := H
 go_enter Tryd.func22, Tryd.ntmps22
 go_wp2_with (first | ((with_reducible refine zbe (N := 2) rfl ?_); refine zbj ?hg (N := 2) ?hd (cs := #[.slice none 0 0, .slice none 0 0]) (t := 28) ?hr ?_; (case hd => rfl); (case hg => rfl); (case hr => first | (go_simp; done) | (go_simp; rfl)); intro gb409 hg w5 hbox hb; have n0_ := zA (zaa (zB HB) hb); have n1_ := zA (hbox); have n2_ := zA ((by rw [hg]; exact (za (zB HB)) : w.heap.size ≤ gb409)); have n3_ := zA ((by rw [hg]; exact (za (zB HB)) : w.heap.size ≤ gb409)); clear HB; have HB := n0_; have BK409 := n1_; have GW409 := n2_; have GE409 := n3_; clear n0_ n1_ n2_ n3_ hb hbox hg) | ((with_reducible refine zad (f := 36) rfl ?_); refine za0 (some 6) rfl rfl Tryd.func36 (by kernel_rfl) rfl #[.int .u64 (IntKind.u64.wrap (ji2))] rfl (by (try simp only [List.map_toArray, List.map_cons, List.map_nil]); first | done | (simp only [hji2]; rfl) | rfl | (simp only [List.length_drop, List.length_take]; rfl) | ((simp [Act.eval, wrap64]) <;> omega) | ((simp [Act.eval, wrap64, IntKind.wrap, IntKind.bits, IntKind.signed]) <;> omega)) ?_; (with_reducible refine (zcp.calls k (IntKind.u64.wrap (ji2)) t410 _ A3.out).mono ?_); rintro e w6 ⟨v411, rfl, ho0, hb⟩; refine ⟨_, rfl, ?_⟩; have n0_ := zA (Kd.zba (Kd.zao (ok' := fun k_ => (w.heap.size ≤ k_) ∧ k_ ≠ gb409) ho0 (fun k_ hk_ => ⟨(Nat.le_trans (za (zB HB)) hk_), (Kd.freshB (g := gb409) (o := .cells #[.slice none 0 0, .slice none 0 0] 28 (0, 0)) (zK BK409) k_ hk_)⟩)) (za (zB HB))); have n1_ := zA (zae (g := gb409) (o := .cells #[.slice none 0 0, .slice none 0 0] 28 (0, 0)) (zK BK409) hb); have n2_ := zA (zaa (zB HB) hb); clear BK409 HB; have HO412 := n0_; have BK409 := n1_; have HB := n2_; clear n0_ n1_ n2_; (try clear hb); (try clear hb2); (try clear hk); (try clear hi); (try clear ho0)) | ((with_reducible refine zad (f := 54) rfl ?_); refine za0 (some 7) rfl rfl Tryd.func54 (by kernel_rfl) rfl #[] rfl (zE) ?_; (with_reducible refine (zbm.calls k  t413 _ A4.out).mono ?_); rintro e w7 ⟨v414, rfl, ho0, hb⟩; refine ⟨_, rfl, ?_⟩; have n0_ := zA (Kd.zav (zV HO412) hb); have n1_ := zA (Kd.zba (Kd.zao (ok' := fun k_ => (w.heap.size ≤ k_) ∧ k_ ≠ gb409) ho0 (fun k_ hk_ => ⟨(Nat.le_trans (za (zB HB)) hk_), (Kd.freshB (g := gb409) (o := .cells #[.slice none 0 0, .slice none 0 0] 28 (0, 0)) (zK BK409) k_ hk_)⟩)) (za (zB HB))); have n2_ := zA (zae (g := gb409) (o := .cells #[.slice none 0 0, .slice none 0 0] 28 (0, 0)) (zK BK409) hb); have n3_ := zA (zaa (zB HB) hb); clear HO412 BK409 HB; have HO412 := n0_; have HO415 := n1_; have BK409 := n2_; have HB := n3_; clear n0_ n1_ n2_ n3_; (try clear hb); (try clear hb2); (try clear hk); (try clear hi); (try clear ho0); obtain ⟨Ao8, co8, eo8⟩ := Kd.za9 HO415.out; subst eo8; obtain ⟨Ao9, co9, eo9⟩ := Kd.za9 HO412.out; subst eo9; have hcz10_0 : w7.cell? ⟨gb409, 0, none⟩ = some (.slice none 0 0) := (zac BK409.out 0).trans rfl; have hcz10_1 : w7.cell? ⟨gb409, 1, none⟩ = some (.slice none 0 0) := (zac BK409.out 1).trans rfl; have hfz10_0 := zan BK409.out 0; have hfz10_1 := zan BK409.out 1))
 refine bodyPost_ret (results_cell_row rfl _ _ gb409 28 #[.slice Ao9 t410.length co9, .slice Ao8 t413.length co8] (0, 0) _ rfl (by (with_reducible repeat (first | refine zai ?_ _ | refine zak ?_ | refine zah ?_ _)); refine zbv (cs := #[.slice Ao9 t410.length co9, .slice none 0 0]) ?_ 1 _ rfl; (with_reducible repeat (first | refine zai ?_ _ | refine zak ?_ | refine zah ?_ _)); refine zbv (cs := #[.slice none 0 0, .slice none 0 0]) ?_ 0 _ rfl; (with_reducible repeat (first | refine zai ?_ _ | refine zak ?_ | refine zah ?_ _)); exact BK409.out) Tryd.underlying28 rfl (by kernel_rfl)) rfl ?_
 exact ⟨_, _, by first | rfl | (simp [zb0, zb1] <;> rfl) | (simp only [← hji2]; first | rfl | (simp [zb0, zb1] <;> rfl)) | (simp [*, zb0, zb1] <;> rfl), by (with_reducible repeat (first | apply Kd.zbr | apply Kd.zbq | apply Kd.zbx)); exact Kd.zao (Kd.V_far (p := ⟨gb409, 1, none⟩) (Kd.V_far (p := ⟨gb409, 0, none⟩) (Kd.zao HO412.out (fun k_ hk => (⟨hk, hk.2⟩ : _ ∧ k_ ≠ gb409))) (fun _ hk => hk.2) (.slice Ao9 t410.length co9)) (fun _ hk => hk.2) (.slice Ao8 t413.length co8)) (fun _ hk => hk.1.1), by (with_reducible repeat (first | apply Kd.zbr | apply Kd.zbq | apply Kd.zbx)); exact Kd.zao (Kd.V_far (p := ⟨gb409, 1, none⟩) (Kd.V_far (p := ⟨gb409, 0, none⟩) (Kd.zao HO415.out (fun k_ hk => (⟨hk, hk.2⟩ : _ ∧ k_ ≠ gb409))) (fun _ hk => hk.2) (.slice Ao9 t410.length co9)) (fun _ hk => hk.2) (.slice Ao8 t413.length co8)) (fun _ hk => hk.1.1), zB HB⟩
def zcc.f (k : Nat) (l0_0 : List Int) (l0_1 : List Int) (l1_0 : List Int) (l1_1 : List Int) : Option (List Int × List Int) := (za5.f k l0_0 l1_0).bind fun t566 => ((za5.f k l0_1 l1_1).bind fun t569 => ((zbd.f k t566 t569).bind fun bt572 => (some (bt572.1, bt572.2))))
theorem zcc.mono : ∀ a0 a1 a2 a3 k, LeO (zcc.f k a0 a1 a2 a3) (zcc.f (k + 1) a0 a1 a2 a3) := by
 intro a0 a1 a2 a3 k
 unfold zcc.f
 repeat' first
   | (with_reducible exact za5.mono _ _ _)
   | (with_reducible exact zbd.mono _ _ _)
   | (with_reducible exact LeO.refl _)
   | (with_reducible exact LeO.none _)
   | (with_reducible refine LeO.ite ?_ ?_)
   | (with_reducible refine LeO.bind ?_ (fun _ => ?_))
   | exact za5.mono _ _ _
   | exact zbd.mono _ _ _
   | exact LeO.none _
   | refine LeO.ite ?_ ?_
   | refine LeO.bind ?_ (fun _ => ?_)
def zcc.T1 : Bool × List (List Nat × List Nat) := (true, [([], []), ([0], [0]), ([], []), ([2], [2]), ([1, 3], [1, 3]), ([], []), ([5], [5]), ([], []), ([7], [7]), ([6, 8, 4], [6, 8]), ([4, 9, 9], [4, 9]), ([10, 10, 0, 1, 2, 3, 4, 5, 6, 7, 8, 9, 10], [10])])
def zcc.B1 : List Nat := [0, 1, 0, 4, 15, 0, 32, 0, 128, 511, 1023, 2047]
theorem zcc.tab1 : rtab .any (opsOf Tryd.f29 1) = zcc.T1 := by kernel_rfl
theorem zcc.bits1 : waitsOk zcc.T1.2 zcc.B1 = true := by kernel_rfl
theorem zcc.calls (k : Nat) (A0_0 : Option Addr) (c0_0 : Nat) (l0_0 : List Int) (A0_1 : Option Addr) (c0_1 : Nat) (l0_1 : List Int) (A1_0 : Option Addr) (c1_0 : Nat) (l1_0 : List Int) (A1_1 : Option Addr) (c1_1 : Nat) (l1_1 : List Int) (r1 : List Int) (r2 : List Int) (w : World) (hr0_0 : Kd.C (Kd.int .u64) w A0_0 l0_0.length l0_0) (hc0_0 : l0_0.length ≤ c0_0) (hr0_1 : Kd.C (Kd.int .u64) w A0_1 l0_1.length l0_1) (hc0_1 : l0_1.length ≤ c0_1) (hr1_0 : Kd.C (Kd.int .u64) w A1_0 l1_0.length l1_0) (hc1_0 : l1_0.length ≤ c1_0) (hr1_1 : Kd.C (Kd.int .u64) w A1_1 l1_1.length l1_1) (hc1_1 : l1_1.length ≤ c1_1) (h : zcc.f k l0_0 l0_1 l1_0 l1_1 = some (r1, r2)) :
  Calls Tryd.prog 29 #[.agg #[.slice A0_0 l0_0.length c0_0, .slice A0_1 l0_1.length c0_1], .agg #[.slice A1_0 l1_0.length c1_0, .slice A1_1 l1_1.length c1_1]] w fun e w' => ∃ v0_ v1_ : Value, e = .returned (.agg #[v0_, v1_]) ∧ Kd.V (Kd.int .u64) 57 w' w.heap.size (fun k_ => (w.heap.size ≤ k_)) v0_ r1 ∧ Kd.V (Kd.int .u64) 57 w' w.heap.size (fun k_ => (w.heap.size ≤ k_)) v1_ r2 ∧ Below w.heap.size w w' := by
 have hu28 := Tryd.underlying28
 have HR0_0 := zA hr0_0
 have HC0_0 := zA hc0_0
 clear hr0_0 hc0_0
 have HR0_1 := zA hr0_1
 have HC0_1 := zA hc0_1
 clear hr0_1 hc0_1
 have HR1_0 := zA hr1_0
 have HC1_0 := zA hc1_0
 clear hr1_0 hc1_0
 have HR1_1 := zA hr1_1
 have HC1_1 := zA hc1_1
 clear hr1_1 hc1_1
 have HB := zA (Below.refl w.heap.size w)
 have H : ((za5.f k l0_0 l1_0).bind fun t566 => ((za5.f k l0_1 l1_1).bind fun t569 => ((zbd.f k t566 t569).bind fun bt572 => (some (bt572.1, bt572.2))))) = some (r1, r2) := h
 clear h
 replace H := zO H
 obtain ⟨t566, A30, H⟩ := H
 try dsimp only at H
 have A3 := zA A30
 clear A30
 replace H := zO H
 obtain ⟨t569, A40, H⟩ := H
 try dsimp only at H
 have A4 := zA A40
 clear A40
 replace H := zO H
 obtain ⟨⟨t572, t575⟩, A50, H⟩ := H
 try dsimp only at H
 have A5 := zA A50
 clear A50
 simp only [Option.some.injEq, Prod.mk.injEq] at H
 obtain ⟨rfl, rfl⟩ := H
 go_enter Tryd.func29, Tryd.ntmps29
 try go_wp2_with (first | ((with_reducible refine zbe (N := 2) rfl ?_); refine zbj ?hg (N := 2) ?hd (cs := #[.slice A0_0 l0_0.length c0_0, .slice A0_1 l0_1.length c0_1]) (t := 28) ?hr ?_; (case hd => rfl); (case hg => rfl); (case hr => first | (go_simp; done) | (go_simp; rfl)); intro gb563 hg w6 hbox hb; have n0_ := zA (zaa (zB HB) hb); have n1_ := zA (hbox); have n2_ := zA ((by rw [hg]; exact (za (zB HB)) : w.heap.size ≤ gb563)); have n3_ := zA ((by rw [hg]; exact (za (zB HB)) : w.heap.size ≤ gb563)); clear HB; have HB := n0_; have BK563 := n1_; have GW563 := n2_; have GE563 := n3_; clear n0_ n1_ n2_ n3_ hb hbox hg) | ((with_reducible refine zbe (N := 3) rfl ?_); refine zbj ?hg (N := 3) ?hd (cs := #[.slice A1_0 l1_0.length c1_0, .slice A1_1 l1_1.length c1_1]) (t := 28) ?hr ?_; (case hd => rfl); (case hg => rfl); (case hr => first | (go_simp; done) | (go_simp; rfl)); intro gb564 hg w7 hbox hb; have n0_ := zA (zae (g := gb563) (o := .cells #[.slice A0_0 l0_0.length c0_0, .slice A0_1 l0_1.length c0_1] 28 (0, 0)) (zK BK563) hb); have n1_ := zA (zaa (zB HB) hb); have n2_ := zA (hbox); have n3_ := zA ((by rw [hg]; exact (za (zB HB)) : w.heap.size ≤ gb564)); have n4_ := zA ((by rw [hg]; exact (za (zB HB)) : w.heap.size ≤ gb564)); have n5_ := zA ((by rw [hg]; exact Nat.ne_of_lt (zcl (g := gb563) (o := .cells #[.slice A0_0 l0_0.length c0_0, .slice A0_1 l0_1.length c0_1] 28 (0, 0)) (zK BK563)) : gb563 ≠ gb564)); have n6_ := zA ((by rw [hg]; exact Nat.ne_of_gt (zcl (g := gb563) (o := .cells #[.slice A0_0 l0_0.length c0_0, .slice A0_1 l0_1.length c0_1] 28 (0, 0)) (zK BK563)) : gb564 ≠ gb563)); clear BK563 HB; have BK563 := n0_; have HB := n1_; have BK564 := n2_; have GW564 := n3_; have GE564 := n4_; have NB563_564 := n5_; have NB564_563 := n6_; clear n0_ n1_ n2_ n3_ n4_ n5_ n6_ hb hbox hg) | ((with_reducible refine zbe (N := 4) rfl ?_); refine zbj ?hg (N := 4) ?hd (cs := #[.slice none 0 0, .slice none 0 0]) (t := 28) ?hr ?_; (case hd => rfl); (case hg => rfl); (case hr => first | (go_simp; done) | (go_simp; rfl)); intro gb565 hg w8 hbox hb; have n0_ := zA (zae (g := gb563) (o := .cells #[.slice A0_0 l0_0.length c0_0, .slice A0_1 l0_1.length c0_1] 28 (0, 0)) (zK BK563) hb); have n1_ := zA (zae (g := gb564) (o := .cells #[.slice A1_0 l1_0.length c1_0, .slice A1_1 l1_1.length c1_1] 28 (0, 0)) (zK BK564) hb); have n2_ := zA (zaa (zB HB) hb); have n3_ := zA (hbox); have n4_ := zA ((by rw [hg]; exact (za (zB HB)) : w.heap.size ≤ gb565)); have n5_ := zA ((by rw [hg]; exact (za (zB HB)) : w.heap.size ≤ gb565)); have n6_ := zA ((by rw [hg]; exact Nat.ne_of_lt (zcl (g := gb563) (o := .cells #[.slice A0_0 l0_0.length c0_0, .slice A0_1 l0_1.length c0_1] 28 (0, 0)) (zK BK563)) : gb563 ≠ gb565)); have n7_ := zA ((by rw [hg]; exact Nat.ne_of_gt (zcl (g := gb563) (o := .cells #[.slice A0_0 l0_0.length c0_0, .slice A0_1 l0_1.length c0_1] 28 (0, 0)) (zK BK563)) : gb565 ≠ gb563)); have n8_ := zA ((by rw [hg]; exact Nat.ne_of_lt (zcl (g := gb564) (o := .cells #[.slice A1_0 l1_0.length c1_0, .slice A1_1 l1_1.length c1_1] 28 (0, 0)) (zK BK564)) : gb564 ≠ gb565)); have n9_ := zA ((by rw [hg]; exact Nat.ne_of_gt (zcl (g := gb564) (o := .cells #[.slice A1_0 l1_0.length c1_0, .slice A1_1 l1_1.length c1_1] 28 (0, 0)) (zK BK564)) : gb565 ≠ gb564)); clear BK563 BK564 HB; have BK563 := n0_; have BK564 := n1_; have HB := n2_; have BK565 := n3_; have GW565 := n4_; have GE565 := n5_; have NB563_565 := n6_; have NB565_563 := n7_; have NB564_565 := n8_; have NB565_564 := n9_; clear n0_ n1_ n2_ n3_ n4_ n5_ n6_ n7_ n8_ n9_ hb hbox hg))
 have n0_ := zA (zak BK563.out)
 have n1_ := zA (zak BK564.out)
 have n2_ := zA (zak BK565.out)
 have n3_ := zA (zbl HB.out)
 clear BK563 BK564 BK565 HB
 have BK563 := n0_
 have BK564 := n1_
 have BK565 := n2_
 have HB := n3_
 clear n0_ n1_ n2_ n3_
 refine start_ (n := 12) (S := fun w' => w'.cell? ⟨gb563, 0, none⟩ = some (.slice A0_0 l0_0.length c0_0) ∧ w'.cell? ⟨gb563, 1, none⟩ = some (.slice A0_1 l0_1.length c0_1) ∧ w'.cell? ⟨gb564, 0, none⟩ = some (.slice A1_0 l1_0.length c1_0) ∧ w'.cell? ⟨gb564, 1, none⟩ = some (.slice A1_1 l1_1.length c1_1)) (ds := []) #[false, false, false, false, false, false, false, false, false, false, false, false] (by kernel_rfl) rfl rfl ⟨(zac BK563.out 0).trans rfl, (zac BK563.out 1).trans rfl, (zac BK564.out 0).trans rfl, (zac BK564.out 1).trans rfl⟩ (fun hHeld => ?_); refine zcz zcc.tab1 zcc.bits1 (fun HT_ HW_ => ?_)
 generalize w8.drew = w9 at BK563 BK564 BK565 HB hHeld ⊢
 refine pure_ (i := 0) (N := some 5) (v := ?_) (a' := ?_) #[true, false, false, false, false, false, false, false, false, false, false, false] rfl rfl (za3 HT_.out (by kernel_rfl)) (fun _ _ _ h => h) (Or.inl ⟨by rfl, ?_⟩) ?_ ?_
 rotate_left
 ·
  intro w'
  go_simp
  with_reducible rfl
 rotate_left
 ·
  simp only [Act.put, zs1, zs2, zs3, i64_w, i32_w]
  rfl
 refine pure_ (i := 2) (N := some 7) (v := ?_) (a' := ?_) #[true, false, true, false, false, false, false, false, false, false, false, false] rfl rfl (za3 HT_.out (by kernel_rfl)) (fun _ _ _ h => h) (Or.inl ⟨by rfl, ?_⟩) ?_ ?_
 rotate_left
 ·
  intro w'
  go_simp
  with_reducible rfl
 rotate_left
 ·
  simp only [Act.put, zs1, zs2, zs3, i64_w, i32_w]
  rfl
 refine pure_ (i := 5) (N := some 10) (v := ?_) (a' := ?_) #[true, false, true, false, false, true, false, false, false, false, false, false] rfl rfl (za3 HT_.out (by kernel_rfl)) (fun _ _ _ h => h) (Or.inl ⟨by rfl, ?_⟩) ?_ ?_
 rotate_left
 ·
  intro w'
  go_simp
  with_reducible rfl
 rotate_left
 ·
  simp only [Act.put, zs1, zs2, zs3, i64_w, i32_w]
  rfl
 refine pure_ (i := 7) (N := some 12) (v := ?_) (a' := ?_) #[true, false, true, false, false, true, false, true, false, false, false, false] rfl rfl (za3 HT_.out (by kernel_rfl)) (fun _ _ _ h => h) (Or.inl ⟨by rfl, ?_⟩) ?_ ?_
 rotate_left
 ·
  intro w'
  go_simp
  with_reducible rfl
 rotate_left
 ·
  simp only [Act.put, zs1, zs2, zs3, i64_w, i32_w]
  rfl
 refine take_ (i := 1) (N := some 6) (v := ?_) (a' := ?_) #[true, true, true, false, false, true, false, true, false, false, false, false] rfl rfl (zch HT_.out HW_.out (by kernel_rfl)) (fun _ _ _ h => h) (Or.inl ⟨by rfl, ?_⟩) hHeld ?_ ?_
 rotate_left
 ·
  rintro w' ⟨s0, s1, s2, s3⟩
  go_simp
  with_reducible rfl
 rotate_left
 ·
  simp only [Act.put, zs1, zs2, zs3, i64_w, i32_w]
  rfl
 refine take_ (i := 3) (N := some 8) (v := ?_) (a' := ?_) #[true, true, true, true, false, true, false, true, false, false, false, false] rfl rfl (zch HT_.out HW_.out (by kernel_rfl)) (fun _ _ _ h => h) (Or.inl ⟨by rfl, ?_⟩) hHeld ?_ ?_
 rotate_left
 ·
  rintro w' ⟨s0, s1, s2, s3⟩
  go_simp
  with_reducible rfl
 rotate_left
 ·
  simp only [Act.put, zs1, zs2, zs3, i64_w, i32_w]
  rfl
 refine take_ (i := 6) (N := some 11) (v := ?_) (a' := ?_) #[true, true, true, true, false, true, true, true, false, false, false, false] rfl rfl (zch HT_.out HW_.out (by kernel_rfl)) (fun _ _ _ h => h) (Or.inl ⟨by rfl, ?_⟩) hHeld ?_ ?_
 rotate_left
 ·
  rintro w' ⟨s0, s1, s2, s3⟩
  go_simp
  with_reducible rfl
 rotate_left
 ·
  simp only [Act.put, zs1, zs2, zs3, i64_w, i32_w]
  rfl
 refine take_ (i := 8) (N := some 13) (v := ?_) (a' := ?_) #[true, true, true, true, false, true, true, true, true, false, false, false] rfl rfl (zch HT_.out HW_.out (by kernel_rfl)) (fun _ _ _ h => h) (Or.inl ⟨by rfl, ?_⟩) hHeld ?_ ?_
 rotate_left
 ·
  rintro w' ⟨s0, s1, s2, s3⟩
  go_simp
  with_reducible rfl
 rotate_left
 ·
  simp only [Act.put, zs1, zs2, zs3, i64_w, i32_w]
  rfl
 refine one_ (i := 4) (N := some 9) #[true, true, true, true, true, true, true, true, true, false, false, false] rfl rfl (zck HT_.out (by kernel_rfl)) (by decide) (fun K hK => ?_)
 refine goes_ Tryd.func61 (by kernel_rfl) rfl #[.slice A0_0 l0_0.length c0_0, .slice A1_0 l1_0.length c1_0] (by rfl) rfl rfl (zE) ?_
 with_reducible refine (za5.calls k _ _ l0_0 _ _ l1_0 t566 _ ?side1 ?side2 ?side3 ?side4 A3.out).mono ?_
 (case side1 => exact zJ (Kd.za4 HR0_0.out HB.out))
 (case side2 => exact HC0_0.out)
 (case side3 => exact zJ (Kd.za4 HR1_0.out HB.out))
 (case side4 => exact HC1_0.out)
 rintro e w10 ⟨v567, rfl, ho0, hb⟩
 refine ⟨_, rfl, ?_⟩
 have n0_ := zA (Kd.zba (Kd.zao (ok' := fun k_ => (w.heap.size ≤ k_) ∧ k_ ≠ gb563 ∧ k_ ≠ gb564 ∧ k_ ≠ gb565) ho0 (fun k_ hk_ => ⟨(Nat.le_trans (za (zB HB)) hk_), (Kd.freshB (g := gb563) (o := .cells #[.slice A0_0 l0_0.length c0_0, .slice A0_1 l0_1.length c0_1] 28 (0, 0)) (zK BK563) k_ hk_), (Kd.freshB (g := gb564) (o := .cells #[.slice A1_0 l1_0.length c1_0, .slice A1_1 l1_1.length c1_1] 28 (0, 0)) (zK BK564) k_ hk_), (Kd.freshB (g := gb565) (o := .cells #[.slice none 0 0, .slice none 0 0] 28 (0, 0)) (zK BK565) k_ hk_)⟩)) (za (zB HB)))
 have n1_ := zA (zae (g := gb563) (o := .cells #[.slice A0_0 l0_0.length c0_0, .slice A0_1 l0_1.length c0_1] 28 (0, 0)) (zK BK563) hb)
 have n2_ := zA (zae (g := gb564) (o := .cells #[.slice A1_0 l1_0.length c1_0, .slice A1_1 l1_1.length c1_1] 28 (0, 0)) (zK BK564) hb)
 have n3_ := zA (zae (g := gb565) (o := .cells #[.slice none 0 0, .slice none 0 0] 28 (0, 0)) (zK BK565) hb)
 have n4_ := zA (zaa (zB HB) hb)
 clear BK563 BK564 BK565 HB
 have HO568 := n0_
 have BK563 := n1_
 have BK564 := n2_
 have BK565 := n3_
 have HB := n4_
 clear n0_ n1_ n2_ n3_ n4_
 (try clear hb)
 (try clear hb2)
 (try clear hk)
 (try clear hi)
 (try clear ho0)
 refine hK.out _ _ ⟨(zac BK563.out 0).trans rfl, (zac BK563.out 1).trans rfl, (zac BK564.out 0).trans rfl, (zac BK564.out 1).trans rfl⟩ (fun hHeld => ?_)
 clear hK K
 refine norm_ (a' := ?_) ?_ ?_
 rotate_left
 ·
  show Act.put _ (some 9) _ = _
  simp only [Act.put, zs1, zs2, zs3, i64_w, i32_w]
  rfl
 refine one_ (i := 9) (N := some 14) #[true, true, true, true, true, true, true, true, true, true, false, false] rfl rfl (zck HT_.out (by kernel_rfl)) (by decide) (fun K hK => ?_)
 refine goes_ Tryd.func61 (by kernel_rfl) rfl #[.slice A0_1 l0_1.length c0_1, .slice A1_1 l1_1.length c1_1] (by rfl) rfl rfl (zE) ?_
 with_reducible refine (za5.calls k _ _ l0_1 _ _ l1_1 t569 _ ?side1 ?side2 ?side3 ?side4 A4.out).mono ?_
 (case side1 => exact zJ (Kd.za4 HR0_1.out HB.out))
 (case side2 => exact HC0_1.out)
 (case side3 => exact zJ (Kd.za4 HR1_1.out HB.out))
 (case side4 => exact HC1_1.out)
 rintro e w11 ⟨v570, rfl, ho0, hb⟩
 refine ⟨_, rfl, ?_⟩
 have n0_ := zA (Kd.zav (zV HO568) hb)
 have n1_ := zA (Kd.zba (Kd.zao (ok' := fun k_ => (w.heap.size ≤ k_) ∧ k_ ≠ gb563 ∧ k_ ≠ gb564 ∧ k_ ≠ gb565) ho0 (fun k_ hk_ => ⟨(Nat.le_trans (za (zB HB)) hk_), (Kd.freshB (g := gb563) (o := .cells #[.slice A0_0 l0_0.length c0_0, .slice A0_1 l0_1.length c0_1] 28 (0, 0)) (zK BK563) k_ hk_), (Kd.freshB (g := gb564) (o := .cells #[.slice A1_0 l1_0.length c1_0, .slice A1_1 l1_1.length c1_1] 28 (0, 0)) (zK BK564) k_ hk_), (Kd.freshB (g := gb565) (o := .cells #[.slice none 0 0, .slice none 0 0] 28 (0, 0)) (zK BK565) k_ hk_)⟩)) (za (zB HB)))
 have n2_ := zA (zae (g := gb563) (o := .cells #[.slice A0_0 l0_0.length c0_0, .slice A0_1 l0_1.length c0_1] 28 (0, 0)) (zK BK563) hb)
 have n3_ := zA (zae (g := gb564) (o := .cells #[.slice A1_0 l1_0.length c1_0, .slice A1_1 l1_1.length c1_1] 28 (0, 0)) (zK BK564) hb)
 have n4_ := zA (zae (g := gb565) (o := .cells #[.slice none 0 0, .slice none 0 0] 28 (0, 0)) (zK BK565) hb)
 have n5_ := zA (zaa (zB HB) hb)
 clear HO568 BK563 BK564 BK565 HB
 have HO568 := n0_
 have HO571 := n1_
 have BK563 := n2_
 have BK564 := n3_
 have BK565 := n4_
 have HB := n5_
 clear n0_ n1_ n2_ n3_ n4_ n5_
 (try clear hb)
 (try clear hb2)
 (try clear hk)
 (try clear hi)
 (try clear ho0)
 obtain ⟨Ao12, co12, eo12⟩ := Kd.za9 HO568.out
 (first | subst eo12 | (injection eo12 with f1_ f2_ f3_; have f4_ := f1_.symm; have f5_ := f3_.symm; clear f1_ f2_ f3_; subst f4_; subst f5_))
 obtain ⟨Ao13, co13, eo13⟩ := Kd.za9 HO571.out
 (first | subst eo13 | (injection eo13 with f1_ f2_ f3_; have f4_ := f1_.symm; have f5_ := f3_.symm; clear f1_ f2_ f3_; subst f4_; subst f5_))
 refine hK.out _ _ ⟨(zac BK563.out 0).trans rfl, (zac BK563.out 1).trans rfl, (zac BK564.out 0).trans rfl, (zac BK564.out 1).trans rfl⟩ (fun hHeld => ?_)
 clear hK K
 refine norm_ (a' := ?_) ?_ ?_
 rotate_left
 ·
  show Act.put _ (some 14) _ = _
  simp only [Act.put, zs1, zs2, zs3, i64_w, i32_w]
  rfl
 refine one_ (i := 10) (N := some 15) #[true, true, true, true, true, true, true, true, true, true, true, false] rfl rfl (zck HT_.out (by kernel_rfl)) (by decide) (fun K hK => ?_)
 refine goes_ Tryd.func58 (by kernel_rfl) rfl #[.slice Ao12 t566.length co12, .slice Ao13 t569.length co13] (by rfl) rfl rfl (zE) ?_
 with_reducible refine (zbd.calls k _ _ t566 _ _ t569 t572 t575 _ ?side1 ?side2 ?side3 ?side4 A5.out).mono ?_
 (case side1 => exact zJ (Kd.zam HO568.out).2.2)
 (case side2 => exact (Kd.zam HO568.out).2.1)
 (case side3 => exact zJ (Kd.zam HO571.out).2.2)
 (case side4 => exact (Kd.zam HO571.out).2.1)
 rintro e w14 ⟨v573, v576, rfl, ho0, ho1, hb⟩
 refine ⟨_, rfl, ?_⟩
 have n0_ := zA (Kd.zav (zV HO568) hb)
 have n1_ := zA (Kd.zav (zV HO571) hb)
 have n2_ := zA (Kd.zba (Kd.zao (ok' := fun k_ => (w.heap.size ≤ k_) ∧ k_ ≠ gb563 ∧ k_ ≠ gb564 ∧ k_ ≠ gb565) ho0 (fun k_ hk_ => ⟨(Nat.le_trans (za (zB HB)) hk_), (Kd.freshB (g := gb563) (o := .cells #[.slice A0_0 l0_0.length c0_0, .slice A0_1 l0_1.length c0_1] 28 (0, 0)) (zK BK563) k_ hk_), (Kd.freshB (g := gb564) (o := .cells #[.slice A1_0 l1_0.length c1_0, .slice A1_1 l1_1.length c1_1] 28 (0, 0)) (zK BK564) k_ hk_), (Kd.freshB (g := gb565) (o := .cells #[.slice none 0 0, .slice none 0 0] 28 (0, 0)) (zK BK565) k_ hk_)⟩)) (za (zB HB)))
 have n3_ := zA (Kd.zba (Kd.zao (ok' := fun k_ => (w.heap.size ≤ k_) ∧ k_ ≠ gb563 ∧ k_ ≠ gb564 ∧ k_ ≠ gb565) ho1 (fun k_ hk_ => ⟨(Nat.le_trans (za (zB HB)) hk_), (Kd.freshB (g := gb563) (o := .cells #[.slice A0_0 l0_0.length c0_0, .slice A0_1 l0_1.length c0_1] 28 (0, 0)) (zK BK563) k_ hk_), (Kd.freshB (g := gb564) (o := .cells #[.slice A1_0 l1_0.length c1_0, .slice A1_1 l1_1.length c1_1] 28 (0, 0)) (zK BK564) k_ hk_), (Kd.freshB (g := gb565) (o := .cells #[.slice none 0 0, .slice none 0 0] 28 (0, 0)) (zK BK565) k_ hk_)⟩)) (za (zB HB)))
 have n4_ := zA (zae (g := gb563) (o := .cells #[.slice A0_0 l0_0.length c0_0, .slice A0_1 l0_1.length c0_1] 28 (0, 0)) (zK BK563) hb)
 have n5_ := zA (zae (g := gb564) (o := .cells #[.slice A1_0 l1_0.length c1_0, .slice A1_1 l1_1.length c1_1] 28 (0, 0)) (zK BK564) hb)
 have n6_ := zA (zae (g := gb565) (o := .cells #[.slice none 0 0, .slice none 0 0] 28 (0, 0)) (zK BK565) hb)
 have n7_ := zA (zaa (zB HB) hb)
 clear HO568 HO571 BK563 BK564 BK565 HB
 have HO568 := n0_
 have HO571 := n1_
 have HO574 := n2_
 have HO577 := n3_
 have BK563 := n4_
 have BK564 := n5_
 have BK565 := n6_
 have HB := n7_
 clear n0_ n1_ n2_ n3_ n4_ n5_ n6_ n7_
 (try clear hb)
 (try clear hb2)
 (try clear hk)
 (try clear hi)
 (try clear ho0)
 (try clear ho1)
 obtain ⟨Ao15, co15, eo15⟩ := Kd.za9 HO574.out
 (first | subst eo15 | (injection eo15 with f1_ f2_ f3_; have f4_ := f1_.symm; have f5_ := f3_.symm; clear f1_ f2_ f3_; subst f4_; subst f5_))
 obtain ⟨Ao17, co17, eo17⟩ := Kd.za9 HO577.out
 (first | subst eo17 | (injection eo17 with f1_ f2_ f3_; have f4_ := f1_.symm; have f5_ := f3_.symm; clear f1_ f2_ f3_; subst f4_; subst f5_))
 refine hK.out _ _ ⟨(zac BK563.out 0).trans rfl, (zac BK563.out 1).trans rfl, (zac BK564.out 0).trans rfl, (zac BK564.out 1).trans rfl⟩ (fun hHeld => ?_)
 clear hK K
 refine norm_ (a' := ?_) ?_ ?_
 rotate_left
 ·
  show Act.put _ (some 15) _ = _
  simp only [Act.put, zs1, zs2, zs3, i64_w, i32_w]
  rfl
 refine one_ (i := 11) (N := none) #[true, true, true, true, true, true, true, true, true, true, true, true] rfl rfl (zck HT_.out (by kernel_rfl)) (by decide) (fun K hK => ?_)
 have hs16 : w14.cell? ⟨gb565, 0, none⟩ = some (.slice none 0 0) := (zac BK565.out 0).trans rfl
 have hfs16 := zan BK565.out 0
 have hns16_0 := NB563_565.out
 have hns16_1 := NB564_565.out
 have hms16_0 := NB565_563.out
 have hms16_1 := NB565_564.out
 have hs18 : w14.cell? ⟨gb565, 1, none⟩ = some (.slice none 0 0) := (zac BK565.out 1).trans rfl
 have hfs18 := zan BK565.out 1
 have hns18_0 := NB563_565.out
 have hns18_1 := NB564_565.out
 have hms18_0 := NB565_563.out
 have hms18_1 := NB565_564.out
 refine skip_ (w1 := ?_) (by rfl) rfl ?_ ?_
 rotate_left
 ·
  go_simp
  rfl
 refine hK.out _ _ ⟨((cell_far (p := ⟨gb565, _, none⟩) NB563_565.out _).trans (((cell_far (p := ⟨gb565, _, none⟩) NB563_565.out _).trans (hHeld.1)))), ((cell_far (p := ⟨gb565, _, none⟩) NB563_565.out _).trans (((cell_far (p := ⟨gb565, _, none⟩) NB563_565.out _).trans (hHeld.2.1)))), ((cell_far (p := ⟨gb565, _, none⟩) NB564_565.out _).trans (((cell_far (p := ⟨gb565, _, none⟩) NB564_565.out _).trans (hHeld.2.2.1)))), ((cell_far (p := ⟨gb565, _, none⟩) NB564_565.out _).trans (((cell_far (p := ⟨gb565, _, none⟩) NB564_565.out _).trans (hHeld.2.2.2))))⟩ (fun hHeld => ?_)
 clear hK K
 refine done_ (done_of HT_.out (by kernel_rfl)) ?_
 try go_wp2
 refine bodyPost_ret (results_cell_row rfl _ _ gb565 28 #[.slice Ao15 t572.length co15, .slice Ao17 t575.length co17] (0, 0) _ rfl (by (with_reducible repeat (first | refine zai ?_ _ | refine zak ?_ | refine zah ?_ _)); refine zbv (cs := #[.slice Ao15 t572.length co15, .slice none 0 0]) ?_ 1 _ rfl; (with_reducible repeat (first | refine zai ?_ _ | refine zak ?_ | refine zah ?_ _)); refine zbv (cs := #[.slice none 0 0, .slice none 0 0]) ?_ 0 _ rfl; (with_reducible repeat (first | refine zai ?_ _ | refine zak ?_ | refine zah ?_ _)); exact BK565.out) Tryd.underlying28 rfl (by kernel_rfl)) rfl ?_
 exact ⟨_, _, zW, by (with_reducible repeat (first | apply Kd.zbr | apply Kd.zbq | apply Kd.zbx)); exact Kd.zao (Kd.V_far (p := ⟨gb565, 1, none⟩) (Kd.V_far (p := ⟨gb565, 0, none⟩) (Kd.zao HO574.out (fun k_ hk => (⟨hk, hk.2.2.2⟩ : _ ∧ k_ ≠ gb565))) (fun _ hk => hk.2) (.slice Ao15 t572.length co15)) (fun _ hk => hk.2) (.slice Ao17 t575.length co17)) (fun _ hk => hk.1.1), by (with_reducible repeat (first | apply Kd.zbr | apply Kd.zbq | apply Kd.zbx)); exact Kd.zao (Kd.V_far (p := ⟨gb565, 1, none⟩) (Kd.V_far (p := ⟨gb565, 0, none⟩) (Kd.zao HO577.out (fun k_ hk => (⟨hk, hk.2.2.2⟩ : _ ∧ k_ ≠ gb565))) (fun _ hk => hk.2) (.slice Ao15 t572.length co15)) (fun _ hk => hk.2) (.slice Ao17 t575.length co17)) (fun _ hk => hk.1.1), zB HB⟩
end Go.Proofs.YtfjkamhcabckeaaDoor.P
end
