-- Written by a program of this session (wip/tools/shake.py) out of its own texts and of the kit's printed ones; not trusted: Lean checks it.
import Derived.Test.YtlmjdchcgfpngaaZTreeCounts2
set_option maxHeartbeats 8000000
set_option maxRecDepth 100000
set_option linter.unusedVariables false
set_option linter.unusedSimpArgs false
section
namespace Go.Proofs.Ytlmjdchcgfpngaa.P
open Go.RowKit Go.Proofs.YtlmjdchcgfpngaaW.PrintWords Go.Proofs.YtlmjdchcgfpngaaW.PrintLast Go.Proofs.YtlmjdchcgfpngaaW.PrintMore
attribute [local go_sem] zbq zbo max_two min_two zbh zbi zbp zbn
def zan.l0 : Nat → Int → Int → Int → Int → List (S84) → Option (Bool)
 | 0, _, _, _, _, _ => none
 | k + 1, x1, x2, x305000, x305001, x305002 => if x1 ≥ 0 then (if x1 = x2 then (some true) else ((zae.f k x305000 x305001 x305002 x1).bind fun t305 => (if 0 ≤ t305 then (if t305 < (x305002.length : Int) then (zan.l0 k ((rd_T84 x305002 t305).f1) x2 x305000 x305001 x305002) else (none)) else (none)))) else (some false)
def zan.f (k : Nat) (a0_0 : Int) (a0_1 : Int) (l0_2 : List (S84)) (a1 : Int) (a2 : Int) : Option (Bool) := zan.l0 k a1 a2 a0_0 a0_1 l0_2
def zan.T4 : Bool × List (List Nat × List Nat) := (true, [([], []), ([0], [0]), ([], []), ([], []), ([2, 3], [2, 3]), ([1, 4], [1, 4]), ([5], [5]), ([6], [6]), ([7, 4, 0, 1, 2, 3, 4, 5, 6, 7], [3, 7])])
def zan.B4 : List Nat := [0, 1, 0, 0, 12, 31, 63, 127, 255]
theorem zan.tab4 : rtab .any (opsOf Try.f58 4) = zan.T4 := by kernel_rfl
theorem zan.bits4 : waitsOk zan.T4.2 zan.B4 = true := by kernel_rfl
theorem zan.calls (k : Nat) (a0_0 : Int) (a0_1 : Int) (A0_2 : Option Addr) (c0_2 : Nat) (l0_2 : List (S84)) (a1 : Int) (a2 : Int) (r : Bool) (w : World) (hr0_2 : Kd.C k84 w A0_2 l0_2.length l0_2) (hc0_2 : l0_2.length ≤ c0_2) (h : zan.f k a0_0 a0_1 l0_2 a1 a2 = some r) :
  Calls Try.prog 58 #[.agg #[.int .i64 a0_0, .int .i64 a0_1, .slice A0_2 l0_2.length c0_2], .int .i64 a1, .int .i64 a2] w fun e w' => e = .returned (.bool r) ∧ Below w.heap.size w w' := by
 have hu44 := Try.underlying44
 have HR0_2 := zA hr0_2
 have HC0_2 := zA hc0_2
 clear hr0_2 hc0_2
 have HB := zA (Below.refl w.heap.size w)
 have H : (zan.l0 k a1 a2 a0_0 a0_1 l0_2) = some r := h
 clear h
 have H' := zA H
 clear H
 go_enter Try.func58, Try.ntmps58
 go_wp2_with (first | ((with_reducible refine za4 (N := 3) rfl ?_); refine zaz ?hg (N := 3) ?hd (cs := #[.int .i64 a0_0, .int .i64 a0_1, .slice A0_2 l0_2.length c0_2]) (t := 44) ?hr ?_; (case hd => rfl); (case hg => rfl); (case hr => first | (go_simp; done) | (go_simp; rfl)); intro gb304 hg w4 hbox hb; have n0_ := zA (zab (zB HB) hb); have n1_ := zA (hbox); have n2_ := zA ((by rw [hg]; exact (zad (zB HB)) : w.heap.size ≤ gb304)); have n3_ := zA ((by rw [hg]; exact (zad (zB HB)) : w.heap.size ≤ gb304)); clear HB; have HB := n0_; have BK304 := n1_; have GW304 := n2_; have GE304 := n3_; clear n0_ n1_ n2_ n3_ hb hbox hg))
 go_loopg [1] k (fun kq v1 w' => ∃ (x1_1 : Int), v1 = .int .i64 x1_1 ∧ Aside0 (zan.l0 kq x1_1 a2 a0_0 a0_1 l0_2 = some r) ∧ Aside0 (kq ≤ k) ∧ Aside0 (w'.heap[gb304]? = some (.cells #[.int .i64 a0_0, .int .i64 a0_1, (.slice A0_2 l0_2.length c0_2)] 44 (0, 0))) ∧ Aside0 (Below w.heap.size w w'))
 case atStart => exact ⟨(a1), (zF), H', ⟨Nat.le_refl _⟩, ⟨zK BK304⟩, ⟨zB HB⟩⟩
 case round =>
  clear H'
  try clear p2
  obtain ⟨x1_1, rfl, HA, HK1, BK304, HB⟩ := hrel
  cases gk with
  | zero => exact absurd HA.out (by simp [zan.l0])
  | succ k1 =>
   have H := HA.out
   clear HA
   simp only [zan.l0] at H
   by_cases c5 : x1_1 ≥ 0
   ·
    rw [if_pos c5] at H
    have c5b0 : decide (0 ≤ x1_1) = true := decide_eq_true c5
    clear c5
    by_cases c6 : x1_1 = a2
    ·
     rw [if_pos c6] at H
     have c6b0 : (x1_1 == a2) = true := beq_iff_eq.mpr c6
     have c6b1 : (x1_1 != a2) = false := bne_eq_false_iff_eq.mpr c6
     clear c6
     obtain rfl := Option.some.inj H
     go_wp2
     go_ret
     exact ⟨zW, zB HB⟩
    ·
     rw [if_neg c6] at H
     have c6b0 : (x1_1 == a2) = false := beq_eq_false_iff_ne.mpr c6
     have c6b1 : (x1_1 != a2) = true := bne_iff_ne.mpr c6
     replace H := zO H
     obtain ⟨t305, A70, H⟩ := H
     try dsimp only at H
     have A7 := zA A70
     clear A70
     by_cases c8 : 0 ≤ t305
     ·
      rw [if_pos c8] at H
      have c8b0 : decide (0 ≤ t305) = true := decide_eq_true c8
      clear c8
      by_cases c9 : t305 < (l0_2.length : Int)
      ·
       rw [if_pos c9] at H
       have c9b0 : decide (t305 < (l0_2.length : Int)) = true := decide_eq_true c9
       clear c9
       have H' := zA H
       clear H
       try go_wp2
       have n0_ := zA (zal BK304.out)
       have n1_ := zA (zbj HB.out)
       clear BK304 HB
       have BK304 := n0_
       have HB := n1_
       clear n0_ n1_
       have p306 : 0 ≤ (t305 : Int) := of_decide_eq_true (by first | (with_reducible assumption) | assumption)
       have q306 : t305 < (l0_2.length : Int) := of_decide_eq_true (by first | (with_reducible assumption) | assumption)
       obtain ⟨ad306, e306, hx306_0, hx306_1, hx306_2, hx306_3, hx306_4⟩ := at_T84 HR0_2.out t305 p306 q306
       have hw306_4 := hx306_4
       have hw306_3 := hx306_3
       have hw306_2 := hx306_2
       have hw306_1 := hx306_1
       have hw306_0 := hx306_0
       cases e306
       replace hx306_0 := (HB.out.cell (World.block_lt_of_cell? w _ hx306_0)).trans hx306_0
       replace hx306_1 := (HB.out.cell (World.block_lt_of_cell? w _ hx306_1)).trans hx306_1
       replace hx306_2 := (HB.out.cell (World.block_lt_of_cell? w _ hx306_2)).trans hx306_2
       replace hx306_3 := (HB.out.cell (World.block_lt_of_cell? w _ hx306_3)).trans hx306_3
       replace hx306_4 := (HB.out.cell (World.block_lt_of_cell? w _ hx306_4)).trans hx306_4
       replace p306 := eq_true p306
       replace q306 := eq_true q306
       refine start_ (n := 9) (S := fun w' => w'.cell? ⟨gb304, 0, none⟩ = some (.int .i64 a0_0) ∧ w'.cell? ⟨gb304, 1, none⟩ = some (.int .i64 a0_1) ∧ w'.cell? ⟨gb304, 2, none⟩ = some (.slice (some ad306) l0_2.length c0_2) ∧ w'.cell? (ad306.add ((t305).toNat * 5)) = some (.int .i64 ((rd_T84 l0_2 t305).f0)) ∧ w'.cell? ⟨(ad306.add ((t305).toNat * 5)).block, (ad306.add ((t305).toNat * 5)).off + 1, none⟩ = some (.int .i64 ((rd_T84 l0_2 t305).f1)) ∧ w'.cell? ⟨(ad306.add ((t305).toNat * 5)).block, (ad306.add ((t305).toNat * 5)).off + 2, none⟩ = some (.int .i64 ((rd_T84 l0_2 t305).f2)) ∧ w'.cell? ⟨(ad306.add ((t305).toNat * 5)).block, (ad306.add ((t305).toNat * 5)).off + 3, none⟩ = some (.int .i64 ((rd_T84 l0_2 t305).f3)) ∧ w'.cell? ⟨(ad306.add ((t305).toNat * 5)).block, (ad306.add ((t305).toNat * 5)).off + 4, none⟩ = some (.int .i64 ((rd_T84 l0_2 t305).f4))) (ds := []) #[false, false, false, false, false, false, false, false, false] (by kernel_rfl) rfl rfl ⟨(za BK304.out 0).trans rfl, (za BK304.out 1).trans rfl, (za BK304.out 2).trans rfl, ((HB.out.cell (World.block_lt_of_cell? w _ hw306_0)).trans hw306_0), ((HB.out.cell (World.block_lt_of_cell? w _ hw306_1)).trans hw306_1), ((HB.out.cell (World.block_lt_of_cell? w _ hw306_2)).trans hw306_2), ((HB.out.cell (World.block_lt_of_cell? w _ hw306_3)).trans hw306_3), ((HB.out.cell (World.block_lt_of_cell? w _ hw306_4)).trans hw306_4)⟩ (fun hHeld => ?_); refine zbl zan.tab4 zan.bits4 (fun HT_ HW_ => ?_)
       generalize wr.drew = w10 at BK304 HB hx306_0 hx306_1 hx306_2 hx306_3 hx306_4 hHeld ⊢
       refine pure_ (i := 0) (N := some 12) (v := ?_) (a' := ?_) #[true, false, false, false, false, false, false, false, false] rfl rfl (zas HT_.out (by kernel_rfl)) (fun _ _ _ h => h) (Or.inl ⟨by rfl, ?_⟩) ?_ ?_
       rotate_left
       ·
        intro w'
        go_simp
        with_reducible rfl
       rotate_left
       ·
        simp only [Act.put, zs1, zs2, zs3, i64_w, i32_w]
        rfl
       refine pure_ (i := 3) (N := some 15) (v := ?_) (a' := ?_) #[true, false, false, true, false, false, false, false, false] rfl rfl (zas HT_.out (by kernel_rfl)) (fun _ _ _ h => h) (Or.inl ⟨by rfl, ?_⟩) ?_ ?_
       rotate_left
       ·
        intro w'
        go_simp
        with_reducible rfl
       rotate_left
       ·
        simp only [Act.put, zs1, zs2, zs3, i64_w, i32_w]
        rfl
       refine take_ (i := 1) (N := some 13) (v := ?_) (a' := ?_) #[true, true, false, true, false, false, false, false, false] rfl rfl (za1 HT_.out HW_.out (by kernel_rfl)) (fun _ _ _ h => h) (Or.inl ⟨by rfl, ?_⟩) hHeld ?_ ?_
       rotate_left
       ·
        rintro w' ⟨s0, s1, s2, s3, s4, s5, s6, s7⟩
        go_simp
        with_reducible rfl
       rotate_left
       ·
        simp only [Act.put, zs1, zs2, zs3, i64_w, i32_w]
        rfl
       refine take_ (i := 2) (N := some 14) (v := ?_) (a' := ?_) #[true, true, true, true, false, false, false, false, false] rfl rfl (za1 HT_.out HW_.out (by kernel_rfl)) (fun _ _ _ h => h) (Or.inl ⟨by rfl, ?_⟩) hHeld ?_ ?_
       rotate_left
       ·
        rintro w' ⟨s0, s1, s2, s3, s4, s5, s6, s7⟩
        go_simp
        with_reducible rfl
       rotate_left
       ·
        simp only [Act.put, zs1, zs2, zs3, i64_w, i32_w]
        rfl
       refine one_ (i := 4) (N := some 16) #[true, true, true, true, true, false, false, false, false] rfl rfl (zbk HT_.out (by kernel_rfl)) (by decide) (fun K hK => ?_)
       refine goes_ Try.func55 (by kernel_rfl) rfl #[.agg #[.int .i64 a0_0, .int .i64 a0_1, .slice (some ad306) l0_2.length c0_2], .int .i64 x1_1] (by rfl) rfl rfl (zE) ?_
       with_reducible refine (zae.calls k1 a0_0 a0_1 _ _ l0_2 x1_1 t305 _ ?side1 ?side2 A7.out).mono ?_
       (case side1 => exact zJ (Kd.za3 HR0_2.out HB.out))
       (case side2 => exact HC0_2.out)
       rintro e w11 ⟨rfl, hb⟩
       refine ⟨_, rfl, ?_⟩
       have n0_ := zA (zam (g := gb304) (o := .cells #[.int .i64 a0_0, .int .i64 a0_1, .slice (some ad306) l0_2.length c0_2] 44 (0, 0)) (zK BK304) hb)
       have n1_ := zA (zab (zB HB) hb)
       clear BK304 HB
       have BK304 := n0_
       have HB := n1_
       clear n0_ n1_
       (try clear hb)
       (try clear hb2)
       (try clear hk)
       (try clear hi)
       refine hK.out _ _ ⟨(za BK304.out 0).trans rfl, (za BK304.out 1).trans rfl, (za BK304.out 2).trans rfl, ((HB.out.cell (World.block_lt_of_cell? w _ hw306_0)).trans hw306_0), ((HB.out.cell (World.block_lt_of_cell? w _ hw306_1)).trans hw306_1), ((HB.out.cell (World.block_lt_of_cell? w _ hw306_2)).trans hw306_2), ((HB.out.cell (World.block_lt_of_cell? w _ hw306_3)).trans hw306_3), ((HB.out.cell (World.block_lt_of_cell? w _ hw306_4)).trans hw306_4)⟩ (fun hHeld => ?_)
       clear hK K
       refine norm_ (a' := ?_) ?_ ?_
       rotate_left
       ·
        show Act.put _ (some 16) _ = _
        simp only [Act.put, zs1, zs2, zs3, i64_w, i32_w]
        rfl
       refine pure_ (i := 5) (N := some 17) (v := ?_) (a' := ?_) #[true, true, true, true, true, true, false, false, false] rfl rfl (zas HT_.out (by kernel_rfl)) (fun _ _ _ h => h) (Or.inl ⟨by rfl, ?_⟩) ?_ ?_
       rotate_left
       ·
        intro w'
        go_simp
        with_reducible rfl
       rotate_left
       ·
        simp only [Act.put, zs1, zs2, zs3, i64_w, i32_w]
        rfl
       refine pure_ (i := 6) (N := some 18) (v := ?_) (a' := ?_) #[true, true, true, true, true, true, true, false, false] rfl rfl (zas HT_.out (by kernel_rfl)) (fun _ _ _ h => h) (Or.inl ⟨by rfl, ?_⟩) ?_ ?_
       rotate_left
       ·
        intro w'
        go_simp
        with_reducible rfl
       rotate_left
       ·
        simp only [Act.put, zs1, zs2, zs3, i64_w, i32_w]
        rfl
       refine take_ (i := 7) (N := some 19) (v := ?_) (a' := ?_) #[true, true, true, true, true, true, true, true, false] rfl rfl (za1 HT_.out HW_.out (by kernel_rfl)) (fun _ _ _ h => h) (Or.inl ⟨by rfl, ?_⟩) hHeld ?_ ?_
       rotate_left
       ·
        rintro w' ⟨s0, s1, s2, s3, s4, s5, s6, s7⟩
        go_simp
        with_reducible rfl
       rotate_left
       ·
        simp only [Act.put, zs1, zs2, zs3, i64_w, i32_w]
        rfl
       refine pure_ (i := 8) (N := some 1) (v := ?_) (a' := ?_) #[true, true, true, true, true, true, true, true, true] rfl rfl (zas HT_.out (by kernel_rfl)) (fun _ _ _ h => h) (Or.inl ⟨by rfl, ?_⟩) ?_ ?_
       rotate_left
       ·
        intro w'
        go_simp
        with_reducible rfl
       rotate_left
       ·
        simp only [Act.put, zs1, zs2, zs3, i64_w, i32_w]
        rfl
       refine done_ (done_of HT_.out (by kernel_rfl)) ?_
       try go_wp2
       go_roundg k1
       case measure => have := HK1.out; omega
       case rel => exact ⟨((rd_T84 l0_2 t305).f1), (zF), H', ⟨by have := HK1.out; omega⟩, ⟨zK BK304⟩, ⟨zB HB⟩⟩
      ·
       rw [if_neg c9] at H
       exact absurd H (by simp)
     ·
      rw [if_neg c8] at H
      exact absurd H (by simp)
   ·
    rw [if_neg c5] at H
    have c5b0 : decide (0 ≤ x1_1) = false := decide_eq_false c5
    clear c5
    obtain rfl := Option.some.inj H
    go_wp2
    go_ret
    exact ⟨zW, zB HB⟩
def za7.f (a0_0 : Int) (a0_1 : Int) (l0_2 : List (S84)) (a1 : Int) (a2_0 : Int) (a2_1 : Int) (a2_2 : Int) (a2_3 : Int) (a2_4 : Int) : Option (Int × Int × (List (S84))) := (some (([] : List (S84)) : List (S84))).bind fun y310 => (if y310.length + l0_2.length < 3518437208883 then ((some (y310 ++ l0_2 : List (S84))).bind fun y313 => (if 0 ≤ a1 then (if a1 < (y313.length : Int) then (some (a0_0, a0_1, (y313.set (a1 : Int).toNat (⟨a2_0, a2_1, a2_2, a2_3, a2_4⟩ : S84)))) else (none)) else (none))) else (none))
theorem za7.calls (a0_0 : Int) (a0_1 : Int) (A0_2 : Option Addr) (c0_2 : Nat) (l0_2 : List (S84)) (a1 : Int) (a2_0 : Int) (a2_1 : Int) (a2_2 : Int) (a2_3 : Int) (a2_4 : Int) (r1 : Int) (r2 : Int) (r3 : List (S84)) (w : World) (hr0_2 : Kd.C k84 w A0_2 l0_2.length l0_2) (hc0_2 : l0_2.length ≤ c0_2) (h : za7.f a0_0 a0_1 l0_2 a1 a2_0 a2_1 a2_2 a2_3 a2_4 = some (r1, r2, r3)) :
  Calls Try.prog 59 #[.agg #[.int .i64 a0_0, .int .i64 a0_1, .slice A0_2 l0_2.length c0_2], .int .i64 a1, .agg #[.int .i64 a2_0, .int .i64 a2_1, .int .i64 a2_2, .int .i64 a2_3, .int .i64 a2_4]] w fun e w' => ∃ v2_ : Value, e = .returned (.agg #[.int .i64 r1, .int .i64 r2, v2_]) ∧ Kd.R k84 84 w' w.heap.size (fun _ => True) v2_ r3 ∧ Below w.heap.size w w' := by
 have hu44 := Try.underlying44
 have hu84 := Try.underlying84
 have HR0_2 := zA hr0_2
 have HC0_2 := zA hc0_2
 clear hr0_2 hc0_2
 have HB := zA (Below.refl w.heap.size w)
 have H : ((some (([] : List (S84)) : List (S84))).bind fun y310 => (if y310.length + l0_2.length < 3518437208883 then ((some (y310 ++ l0_2 : List (S84))).bind fun y313 => (if 0 ≤ a1 then (if a1 < (y313.length : Int) then (some (a0_0, a0_1, (y313.set (a1 : Int).toNat (⟨a2_0, a2_1, a2_2, a2_3, a2_4⟩ : S84)))) else (none)) else (none))) else (none))) = some (r1, r2, r3) := h
 clear h
 obtain ⟨y310, hy310⟩ : ∃ y_ : List (S84), y_ = (([] : List (S84))) := ⟨_, rfl⟩
 replace H : (if y310.length + l0_2.length < 3518437208883 then ((some (y310 ++ l0_2 : List (S84))).bind fun y313 => (if 0 ≤ a1 then (if a1 < (y313.length : Int) then (some (a0_0, a0_1, (y313.set (a1 : Int).toNat (⟨a2_0, a2_1, a2_2, a2_3, a2_4⟩ : S84)))) else (none)) else (none))) else (none)) = some (r1, r2, r3) := by first | (rw [hy310]; with_reducible exact H) | (have H2_ := (Option.bind_some _ _).symm.trans H; rw [hy310]; with_reducible exact H2_) | (have H2_ := (Option.bind_some _ _).symm.trans H; with_reducible exact H2_) | with_reducible exact H | (rw [hy310]; exact H) | exact H
 have Ny310 := zA hy310
 clear hy310
 by_cases c4 : y310.length + l0_2.length < 3518437208883
 ·
  rw [if_pos c4] at H
  have LMc4 := zA c4
  clear c4
  obtain ⟨y313, hy313⟩ : ∃ y_ : List (S84), y_ = (y310 ++ l0_2) := ⟨_, rfl⟩
  replace H : (if 0 ≤ a1 then (if a1 < (y313.length : Int) then (some (a0_0, a0_1, (y313.set (a1 : Int).toNat (⟨a2_0, a2_1, a2_2, a2_3, a2_4⟩ : S84)))) else (none)) else (none)) = some (r1, r2, r3) := by first | (rw [hy313]; with_reducible exact H) | (have H2_ := (Option.bind_some _ _).symm.trans H; rw [hy313]; with_reducible exact H2_) | (have H2_ := (Option.bind_some _ _).symm.trans H; with_reducible exact H2_) | with_reducible exact H | (rw [hy313]; exact H) | exact H
  have Ny313 := zA hy313
  clear hy313
  by_cases c5 : 0 ≤ a1
  ·
   rw [if_pos c5] at H
   have c5b0 : decide (0 ≤ a1) = true := decide_eq_true c5
   clear c5
   by_cases c6 : a1 < (y313.length : Int)
   ·
    rw [if_pos c6] at H
    have c6b0 : decide (a1 < (y313.length : Int)) = true := decide_eq_true c6
    clear c6
    obtain ⟨y316, hy316⟩ : ∃ y_ : List (S84), y_ = (y313.set (a1 : Int).toNat (⟨a2_0, a2_1, a2_2, a2_3, a2_4⟩ : S84)) := ⟨_, rfl⟩
    replace H : (some (a0_0, a0_1, y316)) = some (r1, r2, r3) := by first | (rw [hy316]; with_reducible exact H) | (have H2_ := (Option.bind_some _ _).symm.trans H; rw [hy316]; with_reducible exact H2_) | (have H2_ := (Option.bind_some _ _).symm.trans H; with_reducible exact H2_) | with_reducible exact H | (rw [hy316]; exact H) | exact H
    have Ny316 := zA hy316
    clear hy316
    simp only [Option.some.injEq, Prod.mk.injEq] at H
    obtain ⟨rfl, rfl, rfl⟩ := H
    go_enter Try.func59, Try.ntmps59
    go_wp2_with (first | ((with_reducible refine za4 (N := 3) rfl ?_); refine zaz ?hg (N := 3) ?hd (cs := #[.int .i64 a0_0, .int .i64 a0_1, .slice A0_2 l0_2.length c0_2]) (t := 44) ?hr ?_; (case hd => rfl); (case hg => rfl); (case hr => first | (go_simp; done) | (go_simp; rfl)); intro gb307 hg w8 hbox hb; have n0_ := zA (zab (zB HB) hb); have n1_ := zA (hbox); have n2_ := zA ((by rw [hg]; exact (zad (zB HB)) : w.heap.size ≤ gb307)); have n3_ := zA ((by rw [hg]; exact (zad (zB HB)) : w.heap.size ≤ gb307)); clear HB; have HB := n0_; have BK307 := n1_; have GW307 := n2_; have GE307 := n3_; clear n0_ n1_ n2_ n3_ hb hbox hg) | ((with_reducible refine za4 (N := 5) rfl ?_); refine zaz ?hg (N := 5) ?hd (cs := #[.int .i64 a2_0, .int .i64 a2_1, .int .i64 a2_2, .int .i64 a2_3, .int .i64 a2_4]) (t := 84) ?hr ?_; (case hd => rfl); (case hg => rfl); (case hr => first | (go_simp; done) | (go_simp; rfl)); intro gb308 hg w9 hbox hb; have n0_ := zA (zam (g := gb307) (o := .cells #[.int .i64 a0_0, .int .i64 a0_1, .slice A0_2 l0_2.length c0_2] 44 (0, 0)) (zK BK307) hb); have n1_ := zA (zab (zB HB) hb); have n2_ := zA (hbox); have n3_ := zA ((by rw [hg]; exact (zad (zB HB)) : w.heap.size ≤ gb308)); have n4_ := zA ((by rw [hg]; exact (zad (zB HB)) : w.heap.size ≤ gb308)); have n5_ := zA ((by rw [hg]; exact Nat.ne_of_lt (zao (g := gb307) (o := .cells #[.int .i64 a0_0, .int .i64 a0_1, .slice A0_2 l0_2.length c0_2] 44 (0, 0)) (zK BK307)) : gb307 ≠ gb308)); have n6_ := zA ((by rw [hg]; exact Nat.ne_of_gt (zao (g := gb307) (o := .cells #[.int .i64 a0_0, .int .i64 a0_1, .slice A0_2 l0_2.length c0_2] 44 (0, 0)) (zK BK307)) : gb308 ≠ gb307)); clear BK307 HB; have BK307 := n0_; have HB := n1_; have BK308 := n2_; have GW308 := n3_; have GE308 := n4_; have NB307_308 := n5_; have NB308_307 := n6_; clear n0_ n1_ n2_ n3_ n4_ n5_ n6_ hb hbox hg) | ((with_reducible refine za4 (N := 6) rfl ?_); refine zaz ?hg (N := 6) ?hd (cs := #[.int .i64 0, .int .i64 0, .slice none 0 0]) (t := 44) ?hr ?_; (case hd => rfl); (case hg => rfl); (case hr => first | (go_simp; done) | (go_simp; rfl)); intro gb309 hg w10 hbox hb; have n0_ := zA (zam (g := gb307) (o := .cells #[.int .i64 a0_0, .int .i64 a0_1, .slice A0_2 l0_2.length c0_2] 44 (0, 0)) (zK BK307) hb); have n1_ := zA (zam (g := gb308) (o := .cells #[.int .i64 a2_0, .int .i64 a2_1, .int .i64 a2_2, .int .i64 a2_3, .int .i64 a2_4] 84 (0, 0)) (zK BK308) hb); have n2_ := zA (zab (zB HB) hb); have n3_ := zA (hbox); have n4_ := zA ((by rw [hg]; exact (zad (zB HB)) : w.heap.size ≤ gb309)); have n5_ := zA ((by rw [hg]; exact (zad (zB HB)) : w.heap.size ≤ gb309)); have n6_ := zA ((by rw [hg]; exact Nat.ne_of_lt (zao (g := gb307) (o := .cells #[.int .i64 a0_0, .int .i64 a0_1, .slice A0_2 l0_2.length c0_2] 44 (0, 0)) (zK BK307)) : gb307 ≠ gb309)); have n7_ := zA ((by rw [hg]; exact Nat.ne_of_gt (zao (g := gb307) (o := .cells #[.int .i64 a0_0, .int .i64 a0_1, .slice A0_2 l0_2.length c0_2] 44 (0, 0)) (zK BK307)) : gb309 ≠ gb307)); have n8_ := zA ((by rw [hg]; exact Nat.ne_of_lt (zao (g := gb308) (o := .cells #[.int .i64 a2_0, .int .i64 a2_1, .int .i64 a2_2, .int .i64 a2_3, .int .i64 a2_4] 84 (0, 0)) (zK BK308)) : gb308 ≠ gb309)); have n9_ := zA ((by rw [hg]; exact Nat.ne_of_gt (zao (g := gb308) (o := .cells #[.int .i64 a2_0, .int .i64 a2_1, .int .i64 a2_2, .int .i64 a2_3, .int .i64 a2_4] 84 (0, 0)) (zK BK308)) : gb309 ≠ gb308)); clear BK307 BK308 HB; have BK307 := n0_; have BK308 := n1_; have HB := n2_; have BK309 := n3_; have GW309 := n4_; have GE309 := n5_; have NB307_309 := n6_; have NB309_307 := n7_; have NB308_309 := n8_; have NB309_308 := n9_; clear n0_ n1_ n2_ n3_ n4_ n5_ n6_ n7_ n8_ n9_ hb hbox hg) | ((with_reducible refine za4 (N := 8) rfl ?_); refine Kd.R_lit k84 _ 84 ?hg (N := 8) ?hd (xs := ([] : List (S84))) (inner := []) (ok := fun _ => True) (okp := fun _ => True) ?hr ?hp (fun _ hk => hk) trivial (Below.refl _ _) (Nat.le_refl _) (by simp) ?_; (case hd => rfl); (case hg => rfl); (case hr => first | (go_simp; done) | (go_simp; rfl)); (case hp => exact (Reps.none _ _)); intro v311 w11 ho12 hb hg_ hnew_; clear hg_ hnew_; (first | rw [← Ny310.out] at ho12 | (simp only [Int.reduceToNat] at ho12; rw [← Ny310.out] at ho12)); have n0_ := zA (Kd.R_lower (Kd.R_newB ho12 (g := gb308) (o := .cells #[.int .i64 a2_0, .int .i64 a2_1, .int .i64 a2_2, .int .i64 a2_3, .int .i64 a2_4] 84 (0, 0)) (zK BK308)) (zad (zB HB))); have n1_ := zA (zam (g := gb307) (o := .cells #[.int .i64 a0_0, .int .i64 a0_1, .slice A0_2 l0_2.length c0_2] 44 (0, 0)) (zK BK307) hb); have n2_ := zA (zam (g := gb308) (o := .cells #[.int .i64 a2_0, .int .i64 a2_1, .int .i64 a2_2, .int .i64 a2_3, .int .i64 a2_4] 84 (0, 0)) (zK BK308) hb); have n3_ := zA (zam (g := gb309) (o := .cells #[.int .i64 0, .int .i64 0, .slice none 0 0] 44 (0, 0)) (zK BK309) hb); have n4_ := zA (zab (zB HB) hb); clear BK307 BK308 BK309 HB; have HO312 := n0_; have BK307 := n1_; have BK308 := n2_; have BK309 := n3_; have HB := n4_; clear n0_ n1_ n2_ n3_ n4_ hb ho12; have hnb13 := NB307_308.out; have hnc13 := NB308_307.out; have hnb14 := NB307_309.out; have hnc14 := NB309_307.out; have hcz15_0 : w11.cell? ⟨gb307, 0, none⟩ = some (.int .i64 a0_0) := (za BK307.out 0).trans rfl; have hcz15_1 : w11.cell? ⟨gb307, 1, none⟩ = some (.int .i64 a0_1) := (za BK307.out 1).trans rfl; have hcz15_2 : w11.cell? ⟨gb307, 2, none⟩ = some (.slice A0_2 l0_2.length c0_2) := (za BK307.out 2).trans rfl; have hfz15_0 := zaa BK307.out 0; have hfz15_1 := zaa BK307.out 1; have hfz15_2 := zaa BK307.out 2) | ((with_reducible refine gate_builtin (b := .append) (xs := #[.tmp 8, .tmp 10]) rfl ?_); at_builtin; refine Kd.R_append_rows k84 (w0 := w) w.heap.size rfl (.tmp 8) (.tmp 10) 42 84 (.agg #[(.int .i64 0), (.int .i64 0), (.int .i64 0), (.int .i64 0), (.int .i64 0)]) 40 rfl Try.underlying42 info84 rfl (by decide) (by omega) v311 y310 l0_2 _ _ _ (fun k_ => k_ ≠ gb308) (fun _ => False) rfl rfl ?aO ?aR (fun _ _ h => h) (fun _ h => h.elim) ?aF ?aB ?aS ?aL ?_; (case aR => exact zJ (Kd.za3 HR0_2.out HB.out)); (case aB => exact (zB HB)); (case aF => exact (fun k_ hk => Kd.freshB (g := gb308) (o := .cells #[.int .i64 a2_0, .int .i64 a2_1, .int .i64 a2_2, .int .i64 a2_3, .int .i64 a2_4] 84 (0, 0)) (zK BK308) k_ hk)); (case aO => exact (by (with_reducible repeat (first | apply Kd.zbt | apply Kd.zbu | apply Kd.R_drew)); exact Kd.zbf HO312.out (fun _ hk => hk.2))); (case aS => exact (zad (zB HB))); (case aL => have := LMc4.out; omega); intro v314 w16 ho hb hg hat; rw [← Ny313.out] at ho; have n0_ := zA (za8 (g := gb307) (o := .cells #[.int .i64 a0_0, .int .i64 a0_1, .slice A0_2 l0_2.length c0_2] 44 (0, 0)) (zK BK307) hg (Kd.R_ne HO312.out BK307.out (by decide))); have n1_ := zA (za8 (g := gb308) (o := .cells #[.int .i64 a2_0, .int .i64 a2_1, .int .i64 a2_2, .int .i64 a2_3, .int .i64 a2_4] 84 (0, 0)) (zK BK308) hg (Kd.R_away HO312.out (fun _ hk => hk.2))); have n2_ := zA (za8 (g := gb309) (o := .cells #[.int .i64 0, .int .i64 0, .slice none 0 0] 44 (0, 0)) (zK BK309) hg (Kd.R_ne HO312.out BK309.out (by decide))); have n3_ := zA (hb); have n4_ := zA (ho); clear BK307 BK308 BK309 HB HO312; have BK307 := n0_; have BK308 := n1_; have BK309 := n2_; have HB := n3_; have HO315 := n4_; clear n0_ n1_ n2_ n3_ n4_ ho hb hg hat; have hnb17 := NB308_309.out; have hnc17 := NB309_308.out; have hcz18_0 : w16.cell? ⟨gb308, 0, none⟩ = some (.int .i64 a2_0) := (za BK308.out 0).trans rfl; have hcz18_1 : w16.cell? ⟨gb308, 1, none⟩ = some (.int .i64 a2_1) := (za BK308.out 1).trans rfl; have hcz18_2 : w16.cell? ⟨gb308, 2, none⟩ = some (.int .i64 a2_2) := (za BK308.out 2).trans rfl; have hcz18_3 : w16.cell? ⟨gb308, 3, none⟩ = some (.int .i64 a2_3) := (za BK308.out 3).trans rfl; have hcz18_4 : w16.cell? ⟨gb308, 4, none⟩ = some (.int .i64 a2_4) := (za BK308.out 4).trans rfl; have hfz18_0 := zaa BK308.out 0; have hfz18_1 := zaa BK308.out 1; have hfz18_2 := zaa BK308.out 2; have hfz18_3 := zaa BK308.out 3; have hfz18_4 := zaa BK308.out 4; have p7 : 0 ≤ (a1 : Int) := of_decide_eq_true (by first | (with_reducible assumption) | assumption); have q7 : (a1 : Int) < ((y313.length : Int) : Int) := of_decide_eq_true (by first | (with_reducible assumption) | assumption); obtain ⟨go7, co7, eo7, gb7, gl7, cl7, HG7⟩ := Kd.R_form HO315.out (by omega); (first | cases eo7 | (injection eo7 with ea_ en_ ec_; (first | subst ea_ | (injection ea_ with ea_; subst ea_)); subst ec_; clear en_)); have GB7 := zA gb7; have GG7 := zA HG7; clear gb7 gl7 HG7; obtain ⟨ce7, hcl7, hM7, hcc7, hfr7⟩ := Kd.R_elem HO315.out z84 (a1 : Int) p7 q7; obtain rfl := k84_openM hM7; have hx7_0 : w16.cell? ⟨go7, (a1 : Int).toNat * 5, none⟩ = some (.int .i64 ((rd_T84 y313 a1).f0)) := hcc7 0 _ rfl; have hx7_1 : w16.cell? ⟨go7, (a1 : Int).toNat * 5 + 1, none⟩ = some (.int .i64 ((rd_T84 y313 a1).f1)) := hcc7 1 _ rfl; have hx7_2 : w16.cell? ⟨go7, (a1 : Int).toNat * 5 + 2, none⟩ = some (.int .i64 ((rd_T84 y313 a1).f2)) := hcc7 2 _ rfl; have hx7_3 : w16.cell? ⟨go7, (a1 : Int).toNat * 5 + 3, none⟩ = some (.int .i64 ((rd_T84 y313 a1).f3)) := hcc7 3 _ rfl; have hx7_4 : w16.cell? ⟨go7, (a1 : Int).toNat * 5 + 4, none⟩ = some (.int .i64 ((rd_T84 y313 a1).f4)) := hcc7 4 _ rfl; have hf7_0 : w16.frozen? ⟨go7, (a1 : Int).toNat * 5, none⟩ = false := hfr7 0; have hf7_1 : w16.frozen? ⟨go7, (a1 : Int).toNat * 5 + 1, none⟩ = false := hfr7 1; have hf7_2 : w16.frozen? ⟨go7, (a1 : Int).toNat * 5 + 2, none⟩ = false := hfr7 2; have hf7_3 : w16.frozen? ⟨go7, (a1 : Int).toNat * 5 + 3, none⟩ = false := hfr7 3; have hf7_4 : w16.frozen? ⟨go7, (a1 : Int).toNat * 5 + 4, none⟩ = false := hfr7 4; clear hcl7 hcc7 hfr7 hM7; replace p7 := eq_true p7; replace q7 := eq_true q7; have HX19 := zA (show Kd.R k84 84 w16 w.heap.size (fun k_ => k_ ≠ gb308) (.slice (some ⟨go7, 0, none⟩) y313.length co7) y313 from (zR HO315)); obtain ⟨ce19, hcl19, hM19, hcc19, hfr19⟩ := Kd.R_elem HX19.out z84 (a1 : Int) (of_decide_eq_true (by first | (with_reducible assumption) | assumption)) (by have h_ : (a1 : Int) < ((y313.length : Int) : Int) := of_decide_eq_true (by first | (with_reducible assumption) | assumption); first | exact h_ | (have e_ := (Kd.R_reads' HO315.out).1; omega) | simpa using h_); obtain rfl := k84_openM hM19; have HP19 := Kd.R_seg HX19.out (a1 : Int) (of_decide_eq_true (by first | (with_reducible assumption) | assumption)) (by have h_ : (a1 : Int) < ((y313.length : Int) : Int) := of_decide_eq_true (by first | (with_reducible assumption) | assumption); first | exact h_ | (have e_ := (Kd.R_reads' HO315.out).1; omega) | simpa using h_) (seg := [.int .i64 a2_0, .int .i64 a2_1, .int .i64 a2_2, .int .i64 a2_3, .int .i64 a2_4]) (j := 0) hcl19 hcc19 (show 5 ≤ 5 from by decide) (x' := (⟨a2_0, a2_1, a2_2, a2_3, a2_4⟩ : S84)) (k84_mkM _ _ _ (⟨a2_0, a2_1, a2_2, a2_3, a2_4⟩ : S84) ) (fun _ hk => hk); have hx19_0 := hcc19 0 _ rfl; (try simp only [show (k84).sz = 5 from rfl, Nat.mul_one, Nat.add_zero] at hx19_0); have hf19_0 := hfr19 0; (try simp only [show (k84).sz = 5 from rfl, Nat.mul_one, Nat.add_zero] at hf19_0); have hx19_1 := hcc19 1 _ rfl; (try simp only [show (k84).sz = 5 from rfl, Nat.mul_one, Nat.add_zero] at hx19_1); have hf19_1 := hfr19 1; (try simp only [show (k84).sz = 5 from rfl, Nat.mul_one, Nat.add_zero] at hf19_1); have hx19_2 := hcc19 2 _ rfl; (try simp only [show (k84).sz = 5 from rfl, Nat.mul_one, Nat.add_zero] at hx19_2); have hf19_2 := hfr19 2; (try simp only [show (k84).sz = 5 from rfl, Nat.mul_one, Nat.add_zero] at hf19_2); have hx19_3 := hcc19 3 _ rfl; (try simp only [show (k84).sz = 5 from rfl, Nat.mul_one, Nat.add_zero] at hx19_3); have hf19_3 := hfr19 3; (try simp only [show (k84).sz = 5 from rfl, Nat.mul_one, Nat.add_zero] at hf19_3); have hx19_4 := hcc19 4 _ rfl; (try simp only [show (k84).sz = 5 from rfl, Nat.mul_one, Nat.add_zero] at hx19_4); have hf19_4 := hfr19 4; (try simp only [show (k84).sz = 5 from rfl, Nat.mul_one, Nat.add_zero] at hf19_4); clear hcl19 hcc19 hfr19 hM19) | ((with_reducible refine gate_store (t := 84) (p := 15) rfl ?_); refine store_event (t := 84) (p := 15) (v := ?vo_w20) (w1 := (((((w16.setCell ⟨go7, (a1 : Int).toNat * 5, none⟩ (.int .i64 a2_0)).setCell ⟨go7, (a1 : Int).toNat * 5 + 1, none⟩ (.int .i64 a2_1)).setCell ⟨go7, (a1 : Int).toNat * 5 + 2, none⟩ (.int .i64 a2_2)).setCell ⟨go7, (a1 : Int).toNat * 5 + 3, none⟩ (.int .i64 a2_3)).setCell ⟨go7, (a1 : Int).toNat * 5 + 4, none⟩ (.int .i64 a2_4))) ?hg ?ho ?hn ?hr ?_; (case ho => rfl); (case hg => rfl); (case hn => rfl); (case hr => first | (go_simp; done) | (go_simp; rfl)); intro w20 hw; have hg : w16.grownBy w20 (some go7) := (by rw [hw]; exact HP19.2); have hp_ : Kd.R k84 84 w20 w.heap.size (fun k_ => k_ ≠ gb308) (.slice (some ⟨go7, 0, none⟩) y313.length co7) y316 := (by rw [hw, Ny316.out]; exact HP19.1); clear HP19; have n0_ := zA (za8 (g := gb307) (o := .cells #[.int .i64 a0_0, .int .i64 a0_1, .slice A0_2 l0_2.length c0_2] 44 (0, 0)) (zK BK307) hg (Kd.R_ne HO315.out BK307.out (by decide))); have n1_ := zA (za8 (g := gb308) (o := .cells #[.int .i64 a2_0, .int .i64 a2_1, .int .i64 a2_2, .int .i64 a2_3, .int .i64 a2_4] 84 (0, 0)) (zK BK308) hg (Kd.R_away HO315.out (fun _ hk => hk))); have n2_ := zA (za8 (g := gb309) (o := .cells #[.int .i64 0, .int .i64 0, .slice none 0 0] 44 (0, 0)) (zK BK309) hg (Kd.R_ne HO315.out BK309.out (by decide))); have n3_ := zA (hp_); have n4_ := zA ((by rw [hw]; exact below_set (below_set (below_set (below_set (below_set (HB.out) GB7.out) GB7.out) GB7.out) GB7.out) GB7.out : Below w.heap.size w w20)); clear BK307 BK308 BK309 HO315 HB; have BK307 := n0_; have BK308 := n1_; have BK309 := n2_; have HO315 := n3_; have HB := n4_; clear n0_ n1_ n2_ n3_ n4_ hg hw hp_; have hcz21_0 : w20.cell? ⟨gb307, 0, none⟩ = some (.int .i64 a0_0) := (za BK307.out 0).trans rfl; have hcz21_1 : w20.cell? ⟨gb307, 1, none⟩ = some (.int .i64 a0_1) := (za BK307.out 1).trans rfl; have hcz21_2 : w20.cell? ⟨gb307, 2, none⟩ = some (.slice A0_2 l0_2.length c0_2) := (za BK307.out 2).trans rfl; have hfz21_0 := zaa BK307.out 0; have hfz21_1 := zaa BK307.out 1; have hfz21_2 := zaa BK307.out 2; have hcz22_0 : w20.cell? ⟨gb309, 0, none⟩ = some (.int .i64 0) := (za BK309.out 0).trans rfl; have hcz22_1 : w20.cell? ⟨gb309, 1, none⟩ = some (.int .i64 0) := (za BK309.out 1).trans rfl; have hcz22_2 : w20.cell? ⟨gb309, 2, none⟩ = some (.slice none 0 0) := (za BK309.out 2).trans rfl; have hfz22_0 := zaa BK309.out 0; have hfz22_1 := zaa BK309.out 1; have hfz22_2 := zaa BK309.out 2))
    refine bodyPost_ret (results_cell_row rfl _ _ gb309 44 #[.int .i64 a0_0, .int .i64 a0_1, .slice (some ⟨go7, 0, none⟩) y313.length co7] (0, 0) _ rfl (by (with_reducible repeat (first | refine zak ?_ _ | refine zal ?_ | refine zac ?_ _)); refine zar (cs := #[.int .i64 a0_0, .int .i64 a0_1, .slice none 0 0]) ?_ 2 _ rfl; (with_reducible repeat (first | refine zak ?_ _ | refine zal ?_ | refine zac ?_ _)); refine zar (cs := #[.int .i64 a0_0, .int .i64 0, .slice none 0 0]) ?_ 1 _ rfl; (with_reducible repeat (first | refine zak ?_ _ | refine zal ?_ | refine zac ?_ _)); refine zar (cs := #[.int .i64 0, .int .i64 0, .slice none 0 0]) ?_ 0 _ rfl; (with_reducible repeat (first | refine zak ?_ _ | refine zal ?_ | refine zac ?_ _)); exact BK309.out) Try.underlying44 rfl (by kernel_rfl)) rfl ?_
    exact ⟨_, zW, by (with_reducible repeat (first | apply Kd.zbt | apply Kd.zbu | apply Kd.R_drew)); exact Kd.zbf (Kd.R_far (p := ⟨gb309, 2, none⟩) (Kd.R_far (p := ⟨gb309, 1, none⟩) (Kd.R_far (p := ⟨gb309, 0, none⟩) (Kd.R_types HO315.out BK309.out (by decide)) (fun _ hk => hk.2) (.int .i64 a0_0)) (fun _ hk => hk.2) (.int .i64 a0_1)) (fun _ hk => hk.2) (.slice (some ⟨go7, 0, none⟩) y313.length co7)) (fun _ hk => trivial), zB HB⟩
   ·
    rw [if_neg c6] at H
    exact absurd H (by simp)
  ·
   rw [if_neg c5] at H
   exact absurd H (by simp)
 ·
  rw [if_neg c4] at H
  exact absurd H (by simp)
def zai.l0 : Nat → List Int → Int → Int → Int → Option (Int)
 | 0, _, _, _, _ => none
 | k + 1, x0, x1, x7, x8 => if x8 < x7 then (if 0 ≤ x8 then (if x8 < (x0.length : Int) then (if x1 = (rd x0 x8) then (some x8) else (zai.l0 k x0 x1 x7 (wrap64 (x8 + 1)))) else (none)) else (none)) else (some (-1))
def zai.f (k : Nat) (l0 : List Int) (a1 : Int) : Option (Int) := zai.l0 k l0 a1 (l0.length : Int) 0
theorem zai.calls (k : Nat) (A0 : Option Addr) (c0 : Nat) (l0 : List Int) (a1 : Int) (r : Int) (w : World) (hr0 : Kd.C (Kd.int .i64) w A0 l0.length l0) (hc0 : l0.length ≤ c0) (h : zai.f k l0 a1 = some r) :
  Calls Try.prog 62 #[.slice A0 l0.length c0, .int .i64 a1] w fun e w' => e = .returned (.int .i64 r) ∧ Drawn0 w w' := by
 have HR0 := zA hr0
 have HC0 := zA hc0
 clear hr0 hc0
 have H : (zai.l0 k l0 a1 (l0.length : Int) 0) = some r := h
 clear h
 have H' := zA H
 clear H
 go_enter Try.func62, Try.ntmps62
 go_wp2
 go_loopg [8] k (fun kq v8 w' => ∃ (x8_1 : Int), v8 = .int .i64 x8_1 ∧ Aside0 (zai.l0 kq l0 a1 (l0.length : Int) x8_1 = some r) ∧ Aside0 (kq ≤ k) ∧ Drawn0 w w')
 case atStart => exact ⟨(0), (zF), H', ⟨Nat.le_refl _⟩, by repeat (first | exact Drawn0.refl _ | apply Drawn0.step)⟩
 case round =>
  clear H'
  try clear p2
  obtain ⟨x8_1, rfl, HA, HK1, ⟨m1, rfl⟩⟩ := hrel
  cases gk with
  | zero => exact absurd HA.out (by simp [zai.l0])
  | succ k1 =>
   have H := HA.out
   clear HA
   simp only [zai.l0] at H
   by_cases c3 : x8_1 < (l0.length : Int)
   ·
    rw [if_pos c3] at H
    have c3b0 : decide (x8_1 < (l0.length : Int)) = true := decide_eq_true c3
    clear c3
    by_cases c4 : 0 ≤ x8_1
    ·
     rw [if_pos c4] at H
     have c4b0 : decide (0 ≤ x8_1) = true := decide_eq_true c4
     clear c4
     by_cases c5 : x8_1 < (l0.length : Int)
     ·
      rw [if_pos c5] at H
      have c5b0 : decide (x8_1 < (l0.length : Int)) = true := decide_eq_true c5
      clear c5
      by_cases c6 : a1 = (rd l0 x8_1)
      ·
       rw [if_pos c6] at H
       have c6b0 : (a1 == (rd l0 x8_1)) = true := beq_iff_eq.mpr c6
       have c6b1 : (a1 != (rd l0 x8_1)) = false := bne_eq_false_iff_eq.mpr c6
       clear c6
       obtain rfl := Option.some.inj H
       have p101 : 0 ≤ (x8_1 : Int) := of_decide_eq_true (by first | (with_reducible assumption) | assumption)
       have q101 : x8_1 < (l0.length : Int) := of_decide_eq_true (by first | (with_reducible assumption) | assumption)
       obtain ⟨ad101, e101, hx101_0⟩ := Kd.at_int HR0.out x8_1 p101 q101
       cases e101
       replace p101 := eq_true p101
       replace q101 := eq_true q101
       go_wp2
       go_ret
       exact ⟨zF, by repeat (first | exact Drawn0.refl _ | apply Drawn0.step)⟩
      ·
       rw [if_neg c6] at H
       have c6b0 : (a1 == (rd l0 x8_1)) = false := beq_eq_false_iff_ne.mpr c6
       have c6b1 : (a1 != (rd l0 x8_1)) = true := bne_iff_ne.mpr c6
       have H' := zA H
       clear H
       have p101 : 0 ≤ (x8_1 : Int) := of_decide_eq_true (by first | (with_reducible assumption) | assumption)
       have q101 : x8_1 < (l0.length : Int) := of_decide_eq_true (by first | (with_reducible assumption) | assumption)
       obtain ⟨ad101, e101, hx101_0⟩ := Kd.at_int HR0.out x8_1 p101 q101
       cases e101
       replace p101 := eq_true p101
       replace q101 := eq_true q101
       go_wp2
       go_roundg k1
       case measure => have := HK1.out; omega
       case rel => exact ⟨(wrap64 (x8_1 + 1)), (zF), H', ⟨by have := HK1.out; omega⟩, by repeat (first | exact Drawn0.refl _ | apply Drawn0.step)⟩
     ·
      rw [if_neg c5] at H
      exact absurd H (by simp)
    ·
     rw [if_neg c4] at H
     exact absurd H (by simp)
   ·
    rw [if_neg c3] at H
    have c3b0 : decide (x8_1 < (l0.length : Int)) = false := decide_eq_false c3
    clear c3
    obtain rfl := Option.some.inj H
    go_wp2
    go_ret
    exact ⟨zF, by repeat (first | exact Drawn0.refl _ | apply Drawn0.step)⟩
def Ev {α : Type} (F : Nat → Option α) (r : α) : Prop := ∃ K, ∀ k, K ≤ k → F k = some r
theorem Ev.const {α : Type} (r : α) : Ev (fun _ => some r) r := ⟨0, fun _ _ => rfl⟩
theorem Ev.congr {α : Type} {F G : Nat → Option α} {r : α} (h : ∀ k, F k = G k) (hg : Ev G r) : Ev F r := by
 obtain ⟨K, hK⟩ := hg
 exact ⟨K, fun k hk => (h k).trans (hK k hk)⟩
theorem Ev.step {α : Type} {F G : Nat → Option α} {r : α} (h : ∀ k, F (k + 1) = G k) (hg : Ev G r) : Ev F r := by
 obtain ⟨K, hK⟩ := hg
 refine ⟨K + 1, fun k hk => ?_⟩
 obtain ⟨m, rfl⟩ : ∃ m, k = m + 1 := ⟨k - 1, by omega⟩
 exact (h m).trans (hK m (by omega))
theorem Ev.bind {α β : Type} {F : Nat → Option α} {G : Nat → α → Option β} {x : α} {r : β} (hf : Ev F x) (hg : Ev (fun k => G k x) r) : Ev (fun k => (F k).bind (G k)) r := by
 obtain ⟨K, hK⟩ := hf
 obtain ⟨L, hL⟩ := hg
 refine ⟨K + L, fun k hk => ?_⟩
 show (F k).bind (G k) = some r
 rw [hK k (by omega)]
 exact hL k (by omega)
theorem Ev.get {α : Type} {F : Nat → Option α} {r : α} (h : Ev F r) : ∃ k, F k = some r := by
 obtain ⟨K, hK⟩ := h
 exact ⟨K, hK K (Nat.le_refl _)⟩
theorem w64s {x : Int} (h0 : -9223372036854775808 ≤ x) (h1 : x < 9223372036854775808) : wrap64 x = x := by unfold wrap64; omega
def val (B : Nat) : List Int → Nat
 | [] => 0
 | x :: xs => x.toNat + B * val B xs
def Dig (B : Nat) (l : List Int) : Prop := ∀ x ∈ l, 0 ≤ x ∧ x < (B : Int)
theorem Dig.cons {B : Nat} {x : Int} {l : List Int} (h : Dig B (x :: l)) : (0 ≤ x ∧ x < (B : Int)) ∧ Dig B l := ⟨h x (by simp), fun y hy => h y (by simp [hy])⟩
theorem Dig.mk {B : Nat} {x : Int} {l : List Int} (h0 : 0 ≤ x) (h1 : x < (B : Int)) (h : Dig B l) : Dig B (x :: l) := by
 intro y hy
 rcases List.mem_cons.1 hy with rfl | hy
 ·
  exact ⟨h0, h1⟩
 ·
  exact h y hy
theorem Dig.nil (B : Nat) : Dig B [] := by intro x hx; cases hx
theorem Dig.app {B : Nat} {a b : List Int} (ha : Dig B a) (hb : Dig B b) : Dig B (a ++ b) := by
 intro x hx
 rcases List.mem_append.1 hx with h | h
 ·
  exact ha x h
 ·
  exact hb x h
def V (B : Nat) (l : List Int) (i : Nat) : Nat := val B (l.drop i)
theorem V_end (B : Nat) {l : List Int} {i : Nat} (h : l.length ≤ i) : V B l i = 0 := by
 unfold V
 rw [List.drop_eq_nil_of_le h]
 rfl
theorem V_step (B : Nat) (l : List Int) (i : Nat) : V B l i = (l.getD i 0).toNat + B * V B l (i + 1) := by
 by_cases h : i < l.length
 ·
  unfold V
  rw [List.drop_eq_getElem_cons h, val, List.getD_eq_getElem?_getD, List.getElem?_eq_getElem h]
  rfl
 ·
  rw [V_end B (by omega), V_end B (by omega), List.getD_eq_getElem?_getD, List.getElem?_eq_none (by omega)]
  rfl
theorem Dig.get {B : Nat} (hB : 0 < B) {l : List Int} (h : Dig B l) (i : Nat) : 0 ≤ l.getD i 0 ∧ l.getD i 0 < (B : Int) := by
 by_cases hi : i < l.length
 ·
  rw [List.getD_eq_getElem?_getD, List.getElem?_eq_getElem hi]
  exact h _ (List.getElem_mem hi)
 ·
  rw [List.getD_eq_getElem?_getD, List.getElem?_eq_none (by omega)]
  simp
  omega
theorem rd_nat (l : List Int) (i : Nat) : rd l (i : Int) = l.getD i 0 := by
 unfold rd
 simp
theorem wadd1 (i : Nat) (h : i < 4611686018427387904) : wrap64 ((i : Int) + 1) = ((i + 1 : Nat) : Int) := by rw [w64s (by omega) (by omega)]; omega
theorem wsub1 (i : Nat) (h : i < 4611686018427387904) (h0 : 0 < i) : wrap64 ((i : Int) - 1) = ((i - 1 : Nat) : Int) := by rw [w64s (by omega) (by omega)]; omega
def TabAt (w : World) (b s : Nat) (l : List Int) (last : Int) : Prop :=
 b ≠ s ∧ w.heap[b]? = some (.cells #[.slice (some ⟨s, 0, none⟩) l.length l.length, .int .i64 last] 94 (0, 0)) ∧ w.heap[s]? = some (.cells (l.map (Value.int .i64)).toArray 3 (0, 0)) ∧ l.length ≤ 64
theorem made_map (m : Nat) : madeCells #[.int .i64 0] m = ((List.replicate m (0 : Int)).map (Value.int .i64)).toArray := by
 apply Array.ext
 ·
  simp [size_madeCells]
 ·
  intro i h1 h2
  simp [madeCells, Nat.mod_one]
theorem table_New_ok (m : Nat) (h1 : 1 ≤ m) (h2 : m ≤ 64) (w : World) :
  Calls Try.prog 22 #[.int .i64 (m : Int)] w fun e w' => ∃ b s, e = .returned (.tuple #[.pointer (some ⟨b, 0, none⟩), .int .i64 0]) ∧ w.heap.size ≤ b ∧ w.heap.size ≤ s ∧ TabAt w' b s (List.replicate m 0) 0 ∧ Below w.heap.size w w' := by
 have d1 : decide ((m : Int) < 1) = false := decide_eq_false (by omega)
 have d2 : decide ((m : Int) > 64) = false := decide_eq_false (by omega)
 have hmk := print_make (P := Try.prog) 38 3 .i64 8 Try.underlying38 (by kernel_rfl) (by decide) m (by omega)
 go_enter Try.func22, Try.ntmps22
 go_wp2_with fail
 go_ret2
 refine ⟨w.heap.size + 1, w.heap.size, by simp, by omega, Nat.le_refl _, ⟨by omega, ?_, ?_, by simpa using h2⟩, zaf (zaf (Below.refl _ _) _) _⟩
 ·
  have := za5 (w.alloc (.cells (madeCells #[.int .i64 0] m) 3)) (.cells #[.slice (some ⟨w.heap.size, 0, none⟩) m m, .int .i64 0] 94)
  rw [show (w.alloc (.cells (madeCells #[.int .i64 0] m) 3)).heap.size = w.heap.size + 1 by simp] at this
  rw [List.length_replicate]
  exact this
 ·
  have := zac (za5 w (.cells (madeCells #[.int .i64 0] m) 3)) (.cells #[.slice (some ⟨w.heap.size, 0, none⟩) m m, .int .i64 0] 94)
  rw [made_map m] at this
  rw [made_map m]
  exact this
theorem TabAt.mem {w : World} {b s : Nat} {l : List Int} {last : Int} (h : TabAt w b s l last) : Kd.C (Kd.int .i64) w (some ⟨s, 0, none⟩) l.length l := by
 refine ⟨rfl, by have := h.2.2.2; omega, fun _ => ⟨_, rfl, fun j p hj => ⟨[.int .i64 p], rfl, rfl, fun i u hu => ?_⟩⟩⟩
 match i, hu with
 | 0, hu =>
  have e : (Addr.add ⟨s, 0, none⟩ (j * (Kd.int .i64).sz + 0)) = ⟨s, j, none⟩ := by
   show (Addr.add ⟨s, 0, none⟩ (j * 1 + 0)) = _
   rw [Nat.mul_one, Nat.add_zero, add_plain]
  rw [e, za h.2.2.1 j]
  simp [hj]
  simpa using hu
theorem TabAt.below {w w' : World} {b s n : Nat} {l : List Int} {last : Int} (h : TabAt w b s l last) (hb : Below n w w') (h1 : b < n) (h2 : s < n) : TabAt w' b s l last :=
 ⟨h.1, (hb.block b h1).trans h.2.1, (hb.block s h2).trans h.2.2.1, h.2.2.2⟩
theorem TabAt.lt {w : World} {b s : Nat} {l : List Int} {last : Int} (h : TabAt w b s l last) : b < w.heap.size ∧ s < w.heap.size := ⟨zao h.2.1, zao h.2.2.1⟩
theorem TabAt.keep {w w' : World} {b s : Nat} {l : List Int} {last : Int} (h : TabAt w b s l last) (hb : Below w.heap.size w w') : TabAt w' b s l last := h.below hb h.lt.1 h.lt.2
theorem TabAt.set {w : World} {b s : Nat} {l : List Int} {last : Int} (h : TabAt w b s l last) (i : Nat) (x : Int) : TabAt (w.setCell ⟨s, i, none⟩ (.int .i64 x)) b s (l.set i x) last := by
 refine ⟨h.1, ?_, ?_, by rw [List.length_set]; exact h.2.2.2⟩
 ·
  rw [Below.heap_setCell _ _ _ _ h.1, h.2.1, List.length_set]
 ·
  rw [blk_set h.2.2.1]
  simp [List.map_set]
theorem TabAt.push {w : World} {b s : Nat} {l : List Int} {last : Int} (h : TabAt w b s l last) (x : Int) : TabAt (w.setCell ⟨b, 1, none⟩ (.int .i64 x)) b s l x := by
 refine ⟨h.1, ?_, ?_, h.2.2.2⟩
 ·
  rw [blk_set h.2.1]
  rfl
 ·
  rw [Below.heap_setCell _ _ _ _ (fun e => h.1 e.symm), h.2.2.1]
theorem TabAt.facts {w : World} {b s : Nat} {l : List Int} {last : Int} (h : TabAt w b s l last) :
  w.cell? ⟨b, 0, none⟩ = some (.slice (some ⟨s, 0, none⟩) l.length l.length) ∧ w.cell? ⟨b, 1, none⟩ = some (.int .i64 last) ∧ w.frozen? ⟨b, 1, none⟩ = false ∧ ∀ i : Nat, w.frozen? ⟨s, i, none⟩ = false :=
 ⟨(za h.2.1 0).trans rfl, (za h.2.1 1).trans rfl, zaa h.2.1 1, fun i => zaa h.2.2.1 i⟩
theorem TabAt.drew {w : World} {b s : Nat} {l : List Int} {last : Int} (h : TabAt w b s l last) : TabAt w.drew b s l last := h
theorem TabAt.slot {w : World} {b s : Nat} {l : List Int} {last : Int} (h : TabAt w b s l last) {i : Nat} (hi : i < l.length) : w.cell? ⟨s, i, none⟩ = some (.int .i64 (l.getD i 0)) := by
 rw [za h.2.2.1 i]
 simp [hi]
theorem table_Add_full {w : World} {b s : Nat} {l : List Int} {last : Int} (k : Nat) (r : Int) (h : TabAt w b s l last) (hx : zai.f k l 0 = some r) (hr : r < 0 ∨ 0 ≤ r ∧ last = 2147483648) :
  Calls Try.prog 50 #[.pointer (some ⟨b, 0, none⟩)] w fun e w' => e = .returned (.tuple #[.int .i64 0, .int .i64 0, .int .i64 6]) ∧ Drawn0 w w' := by
 have H := Aside0.mk h
 have HX := Aside0.mk hx
 obtain ⟨f0, f1, f2, f3⟩ := h.facts
 clear h hx f3
 go_enter Try.func50, Try.ntmps50
 go_wp2_with fail
 go_at_call 62
 refine (zai.calls k _ _ l 0 _ _ H.out.mem (Nat.le_refl _) HX.out).mono ?_
 rintro e w1 ⟨rfl, hd⟩
 have D1 := Aside0.mk hd
 have H1 := Aside0.mk (H.out.keep hd.below)
 obtain ⟨g0, g1, g2, g3⟩ := H1.out.facts
 clear hd f0 f1 f2 g3
 rcases hr with hr | ⟨hr, rfl⟩
 ·
  have d1 : decide (r < 0) = true := decide_eq_true hr
  go_wp2_with fail
  go_ret3
  exact ⟨rfl, D1.out⟩
 ·
  have d1 : decide (r < 0) = false := decide_eq_false (by omega)
  go_wp2_with fail
  go_ret3
  exact ⟨rfl, D1.out⟩
theorem table_Slot_ok {w : World} {b s : Nat} {l : List Int} {last : Int} (k : Nat) (r x : Int) (h : TabAt w b s l last) (hx : zai.f k l x = some r) (hr : 0 ≤ r) (h0 : x ≠ 0) :
  Calls Try.prog 75 #[.pointer (some ⟨b, 0, none⟩), .int .i64 x] w fun e w' => e = .returned (.tuple #[.int .i64 r, .int .i64 0]) ∧ Drawn0 w w' := by
 have H := Aside0.mk h
 have HX := Aside0.mk hx
 obtain ⟨f0, f1, f2, f3⟩ := h.facts
 clear h hx f3
 go_enter Try.func75, Try.ntmps75
 go_wp2_with fail
 go_at_call 62
 refine (zai.calls k _ _ l x _ _ H.out.mem (Nat.le_refl _) HX.out).mono ?_
 rintro e w1 ⟨rfl, hd⟩
 have D1 := Aside0.mk hd
 clear hd f0 f1 f2
 have d1 : decide (r < 0) = false := decide_eq_false (by omega)
 have d2 : (x == 0) = false := by simpa using h0
 go_wp2_with fail
 go_ret2
 exact ⟨rfl, D1.out⟩
theorem TabAt.drawn {w w' : World} {b s : Nat} {l : List Int} {last : Int} (h : TabAt w b s l last) (hd : Drawn0 w w') : TabAt w' b s l last := h.keep hd.below
theorem Ev.pos_ {α : Type} {c : Prop} [Decidable c] {F G : Nat → Option α} {r : α} (hc : c) (h : Ev F r) : Ev (fun k => if c then F k else G k) r := Ev.congr (fun k => if_pos hc) h
theorem Ev.neg_ {α : Type} {c : Prop} [Decidable c] {F G : Nat → Option α} {r : α} (hc : ¬ c) (h : Ev G r) : Ev (fun k => if c then F k else G k) r := Ev.congr (fun k => if_neg hc) h
theorem index_step {l : List Int} {a r : Int} {j : Nat} (hl : l.length ≤ 1000) (hj : j < l.length) (hn : l.getD j 0 ≠ a) (h : Ev (fun k => zai.l0 k l a (l.length : Int) ((j + 1 : Nat) : Int)) r) : Ev (fun k => zai.l0 k l a (l.length : Int) (j : Int)) r := by
 refine Ev.step (fun _ => zai.l0.eq_2 ..) (Ev.pos_ (by omega) (Ev.pos_ (by omega) (Ev.pos_ (by omega) (Ev.neg_ ?_ ?_))))
 ·
  rw [rd_nat]
  exact fun e => hn e.symm
 ·
  rw [w64s (by omega) (by omega)]
  exact h
theorem index_first {l : List Int} {a : Int} {i : Nat} (hl : l.length ≤ 1000) (hi : i < l.length) (h : l.getD i 0 = a) (hb : ∀ j, j < i → l.getD j 0 ≠ a) : ∃ k, zai.f k l a = some (i : Int) := by
 have go : ∀ d j, j + d = i → Ev (fun k => zai.l0 k l a (l.length : Int) (j : Int)) (i : Int) := by
  intro d
  induction d with
  | zero =>
   intro j hj
   obtain rfl : j = i := by omega
   refine Ev.step (fun _ => zai.l0.eq_2 ..) (Ev.pos_ (by omega) (Ev.pos_ (by omega) (Ev.pos_ (by omega) (Ev.pos_ ?_ (Ev.const _)))))
   rw [rd_nat]
   exact h.symm
  | succ d ih =>
   intro j hj
   exact index_step hl (by omega) (hb j (by omega)) (ih (j + 1) (by omega))
 exact Ev.get (go i 0 (by omega))
theorem index_none {l : List Int} {a : Int} (hl : l.length ≤ 1000) (hb : ∀ j, j < l.length → l.getD j 0 ≠ a) : ∃ k, zai.f k l a = some (-1) := by
 have go : ∀ d j, j + d = l.length → Ev (fun k => zai.l0 k l a (l.length : Int) (j : Int)) (-1) := by
  intro d
  induction d with
  | zero =>
   intro j hj
   exact Ev.step (fun _ => zai.l0.eq_2 ..) (Ev.neg_ (by omega) (Ev.const _))
  | succ d ih =>
   intro j hj
   exact index_step hl (by omega) (hb j (by omega)) (ih (j + 1) (by omega))
 exact Ev.get (go l.length 0 (by omega))
theorem index_any {l : List Int} (a : Int) (hl : l.length ≤ 1000) : (∃ i k, i < l.length ∧ l.getD i 0 = a ∧ zai.f k l a = some ((i : Nat) : Int)) ∨ ∃ k, zai.f k l a = some (-1) ∧ ∀ j, j < l.length → l.getD j 0 ≠ a := by
 have go : ∀ d j, j + d = l.length → (∀ q, q < j → l.getD q 0 ≠ a) → (∃ i, i < l.length ∧ l.getD i 0 = a ∧ ∀ q, q < i → l.getD q 0 ≠ a) ∨ ∀ q, q < l.length → l.getD q 0 ≠ a := by
  intro d
  induction d with
  | zero =>
   intro j hj hb
   exact .inr fun q hq => hb q (by omega)
  | succ d ih =>
   intro j hj hb
   by_cases h : l.getD j 0 = a
   ·
    exact .inl ⟨j, by omega, h, hb⟩
   ·
    refine ih (j + 1) (by omega) fun q hq => ?_
    by_cases e : q = j
    ·
     rw [e]
     exact h
    ·
     exact hb q (by omega)
 rcases go l.length 0 (by omega) (fun q hq => absurd hq (by omega)) with ⟨i, hi, h, hb⟩ | hn
 ·
  obtain ⟨k, hk⟩ := index_first hl hi h hb
  exact .inl ⟨i, k, hi, h, hk⟩
 ·
  obtain ⟨k, hk⟩ := index_none hl hn
  exact .inr ⟨k, hk, hn⟩
theorem filter_set : ∀ (l : List Int) (i : Nat) (x : Int), i < l.length → l.getD i 0 = 0 → x ≠ 0 → ((l.set i x).filter fun y => !(y == 0)).Perm (x :: l.filter fun y => !(y == 0))
 | [], i, x, h, _, _ => absurd h (by simp)
 | a :: l, 0, x, h, h0, hx => by
  simp only [List.getD_cons_zero] at h0
  subst h0
  rw [List.set_cons_zero, List.filter_cons, if_pos (by simpa using hx), List.filter_cons, if_neg (by simp)]
 | a :: l, i + 1, x, h, h0, hx => by
  rw [List.getD_cons_succ] at h0
  have ih := filter_set l i x (by simpa using h) h0 hx
  rw [List.set_cons_succ, List.filter_cons, List.filter_cons]
  split
  ·
   exact (List.Perm.cons a ih).trans (List.Perm.swap x a _)
  ·
   exact ih
theorem set_set_self (l : List Int) (i : Nat) (hi : i < l.length) : (l.set i 0).set i (l.getD i 0) = l := by
 rw [List.set_set]
 refine List.ext_getElem (by simp) fun j h1 h2 => ?_
 rw [List.getElem_set]
 split
 ·
  rename_i e
  subst e
  simp [h2]
 ·
  rfl
def TabF (w : World) (b s room : Nat) (last : Int) (ids : List Int) : Prop :=
 ∃ l, TabAt w b s l last ∧ l.length = room ∧ (l.filter fun y => !(y == 0)).Perm ids
theorem TabF.lt {w : World} {b s room : Nat} {last : Int} {ids : List Int} (h : TabF w b s room last ids) : b < w.heap.size ∧ s < w.heap.size := by
 obtain ⟨l, h, _⟩ := h
 exact h.lt
theorem TabF.ne {w : World} {b s room : Nat} {last : Int} {ids : List Int} (h : TabF w b s room last ids) : b ≠ s := by
 obtain ⟨l, h, _⟩ := h
 exact h.1
theorem TabF.blocks {w w' : World} {b s room : Nat} {last : Int} {ids : List Int} (h : TabF w b s room last ids) (h1 : w'.heap[b]? = w.heap[b]?) (h2 : w'.heap[s]? = w.heap[s]?) : TabF w' b s room last ids := by
 obtain ⟨l, ⟨g1, g2, g3, g4⟩, hl, hp⟩ := h
 exact ⟨l, ⟨g1, h1.trans g2, h2.trans g3, g4⟩, hl, hp⟩
theorem tabF_New (m : Nat) (h1 : 1 ≤ m) (h2 : m ≤ 64) (w : World) :
  Calls Try.prog 22 #[.int .i64 (m : Int)] w fun e w' => ∃ b s, e = .returned (.tuple #[.pointer (some ⟨b, 0, none⟩), .int .i64 0]) ∧ w.heap.size ≤ b ∧ w.heap.size ≤ s ∧ TabF w' b s m 0 [] ∧ Below w.heap.size w w' := by
 refine (table_New_ok m h1 h2 w).mono ?_
 rintro e w' ⟨b, s, rfl, hb, hs, ht, hw⟩
 refine ⟨b, s, rfl, hb, hs, ⟨_, ht, by simp, ?_⟩, hw⟩
 rw [List.filter_eq_nil_iff.2 (fun x hx => by rw [List.eq_of_mem_replicate hx]; simp)]
theorem tabF_full {w : World} {b s room : Nat} {last : Int} {ids : List Int} (h : TabF w b s room last ids) (hl : ids.length = room) :
  Calls Try.prog 50 #[.pointer (some ⟨b, 0, none⟩)] w fun e w' => e = .returned (.tuple #[.int .i64 0, .int .i64 0, .int .i64 6]) ∧ Drawn0 w w' := by
 obtain ⟨l, ht, hlen, hp⟩ := h
 have h64 := ht.2.2.2
 rcases index_any (l := l) 0 (by omega) with ⟨i, k, hi, hx, hk⟩ | ⟨k, hk, hn⟩
 ·
  exfalso
  have h1 := hp.length_eq
  have h2 := (filter_set l i 1 hi hx (by omega)).length_eq
  have h3 := List.length_filter_le (fun y : Int => !(y == 0)) (l.set i 1)
  rw [List.length_set] at h3
  rw [List.length_cons] at h2
  omega
 ·
  exact table_Add_full k _ ht hk (.inl (by omega))
noncomputable def mkR {α : Type} (mk : α → Value) (v : Value) : Option (DataW α × List MemPlace) :=
 open Classical in if h : ∃ a, mk a = v then some (.held h.choose, []) else none
theorem mkR_mk {α : Type} {mk : α → Value} (hi : ∀ a b, mk a = mk b → a = b) (a : α) : mkR mk (mk a) = some (.held a, []) := by
 have h : ∃ b, mk b = mk a := ⟨a, rfl⟩
 unfold mkR
 rw [dif_pos h, hi _ _ h.choose_spec]
theorem mkR_inv {α : Type} {mk : α → Value} {v : Value} {y : DataW α × List MemPlace} (h : mkR mk v = some y) : ∃ a, v = mk a ∧ y = (.held a, []) := by
 unfold mkR at h
 split at h
 ·
  rename_i hx
  cases h
  exact ⟨_, hx.choose_spec.symm, rfl⟩
 ·
  cases h
def HoldsM {α : Type} (D : DataW α) (g : Int → Option α) : Prop :=
 ∀ k, (g k = none → Maps.has D (.int .i64 k) = false) ∧ ∀ a, g k = some a → ∀ z, D.atKey (.int .i64 k) z = .held a
theorem HoldsM.has {α : Type} {D : DataW α} {g : Int → Option α} (h : HoldsM D g) (k : Int) : Maps.has D (.int .i64 k) = (g k).isSome := by
 cases hg : g k with
 | none => exact (h k).1 hg
 | some a => exact Maps.has_true_of_atKey ((h k).2 a hg)
def MapAt {α : Type} (P : Program) (kt : TypeId) (mk : α → Value) (w : World) (b n : Nat) (g : Int → Option α) : Prop :=
 ∃ D : DataW α, w.ownsMap P kt (mkR mk) b n D ∧ HoldsM D g
section
variable {α : Type} {P : Program} {kt : TypeId} {mk : α → Value} {w : World} {b n : Nat} {g : Int → Option α}
theorem MapAt.lt (h : MapAt P kt mk w b n g) : b < w.heap.size := by
 obtain ⟨D, h, _⟩ := h
 exact h.lt
theorem MapAt.kept {w' : World} {row : Option Nat} (h : MapAt P kt mk w b n g) (hg : w.grownBy w' row) (hne : some b ≠ row) : MapAt P kt mk w' b n g := by
 obtain ⟨D, h, hd⟩ := h
 exact ⟨D, h.kept hg hne, hd⟩
theorem MapAt.below {w' : World} {m : Nat} (h : MapAt P kt mk w b n g) (hb : Below m w w') (hm : b < m) : MapAt P kt mk w' b n g := by
 obtain ⟨D, ⟨es, clock, h1, h2⟩, hd⟩ := h
 exact ⟨D, ⟨es, clock, (hb.block b hm).trans h1, h2⟩, hd⟩
theorem MapAt.keep {w' : World} (h : MapAt P kt mk w b n g) (hb : Below w.heap.size w w') : MapAt P kt mk w' b n g := h.below hb h.lt
theorem MapAt.mono {n' : Nat} (h : MapAt P kt mk w b n g) (hn : n ≤ n') : MapAt P kt mk w b n' g := by
 obtain ⟨D, h, hd⟩ := h
 exact ⟨D, h.mono hn, hd⟩
theorem MapAt.set {a : Addr} (h : MapAt P kt mk w b n g) (ha : b ≠ a.block) (u : Value) : MapAt P kt mk (w.setCell a u) b n g := by
 obtain ⟨D, h, hd⟩ := h
 exact ⟨D, h.setCell ha u, hd⟩
theorem MapAt.ext {g' : Int → Option α} (h : MapAt P kt mk w b n g) (e : ∀ k, g' k = g k) : MapAt P kt mk w b n g' := by
 rw [show g' = g from funext e]
 exact h
theorem MapAt.made (P : Program) (kt : TypeId) (mk : α → Value) (w : World) : MapAt P kt mk (w.alloc (.map #[] 0)) w.heap.size 0 (fun _ => none) :=
 ⟨_, World.ownsMap_made w P kt (mkR mk), fun k => ⟨fun _ => rfl, fun a h => by cases h⟩⟩
theorem mapTurned_below {w' : World} (h : w.mapTurned w' b) {m : Nat} (hm : m ≤ b) : Below m w w' := by
 have hg := h.grown
 obtain ⟨es, clock, es', clock', hb, rfl⟩ := h
 have := zao hb
 exact (Below.refl m w).grown hg (by omega) (fun k e => by cases e; exact hm)
theorem MapAt.look2 {t e : TypeId} {z : Value} {k : Int} (h : MapAt P kt mk w b n g) (hk : P.underlying kt = some (.int .i64)) (ht : P.underlying t = some (.map kt e)) (hz : (zeroValue e).run P w = .ok z w) (wf : (Lit.int .i64 k).wf = true) :
  (∀ a, g k = some a → (Instr.lookup t (.map (some b)) (.int .i64 k) true).run P w = .ok (.tuple #[mk a, .bool true]) w) ∧ (g k = none → (Instr.lookup t (.map (some b)) (.int .i64 k) true).run P w = .ok (.tuple #[z, .bool false]) w) := by
 obtain ⟨D, ⟨es, clock, hb, F, _, rfl⟩, hd⟩ := h
 rcases Maps.fit_look true (Maps.int_keyed hk) ht hz hb F (Maps.keyOf_int_mk hk wf) with ⟨hrun, _, hat⟩ | ⟨e0, y, _, _, hrun, hRv, hat, _⟩
 ·
  refine ⟨fun a ha => ?_, fun _ => hrun⟩
  have h1 := hd.has k
  rw [Maps.has_false_of_atKey hat, ha] at h1
  cases h1
 ·
  refine ⟨fun a ha => ?_, fun hn => ?_⟩
  ·
   obtain ⟨a', e1, e2⟩ := mkR_inv hRv
   have h2 := (hd k).2 a ha .nil
   rw [hat .nil, e2] at h2
   cases h2
   rw [e1] at hrun
   exact hrun
  ·
   have h1 := hd.has k
   rw [Maps.has_true_of_atKey hat, hn] at h1
   cases h1
theorem HoldsM.put {D : DataW α} (h : HoldsM D g) (hD : Maps.IsMap D) (k : Int) (a : α) : HoldsM (D.put (.int .i64 k) (.held a)) (fun j => if j = k then some a else g j) := by
 intro j
 by_cases e : j = k
 ·
  subst e
  refine ⟨fun hn => ?_, fun a' ha z => ?_⟩
  ·
   dsimp only at hn
   rw [if_pos rfl] at hn
   cases hn
  ·
   dsimp only at ha
   rw [if_pos rfl] at ha
   cases ha
   exact Maps.atKey_put_same hD (show WideAt.IsKeyLit (.int .i64 j) from trivial) _ _
 ·
  have hne : (Lit.int .i64 j) ≠ .int .i64 k := fun e1 => e (by cases e1; rfl)
  refine ⟨fun hn => ?_, fun a' ha z => ?_⟩
  ·
   dsimp only at hn
   rw [if_neg e] at hn
   rw [Maps.has_put_other hne]
   exact (h j).1 hn
  ·
   dsimp only at ha
   rw [if_neg e] at ha
   rw [Maps.atKey_put_other hne]
   exact (h j).2 a' ha z
theorem HoldsM.del {D : DataW α} (h : HoldsM D g) (k : Int) : HoldsM (D.del (.int .i64 k)) (fun j => if j = k then none else g j) := by
 intro j
 by_cases e : j = k
 ·
  subst e
  refine ⟨fun _ => Maps.has_del_same, fun a' ha z => ?_⟩
  dsimp only at ha
  rw [if_pos rfl] at ha
  cases ha
 ·
  have hne : (Lit.int .i64 j) ≠ .int .i64 k := fun e1 => e (by cases e1; rfl)
  refine ⟨fun hn => ?_, fun a' ha z => ?_⟩
  ·
   dsimp only at hn
   rw [if_neg e] at hn
   rw [Maps.has_del_other hne]
   exact (h j).1 hn
  ·
   dsimp only at ha
   rw [if_neg e] at ha
   rw [Maps.atKey_del_other hne]
   exact (h j).2 a' ha z
theorem MapAt.store {t e : TypeId} (h : MapAt P kt mk w b n g) (hi : ∀ a b, mk a = mk b → a = b) (hk : P.underlying kt = some (.int .i64)) (ht : P.underlying t = some (.map kt e)) (hn : n < maxLen) {k : Int} (wf : (Lit.int .i64 k).wf = true) (a : α) :
  ∃ w', (Instr.mapUpdate t (.map (some b)) (.int .i64 k) (mk a)).run P w = .ok () w' ∧ MapAt P kt mk w' b (n + 1) (fun j => if j = k then some a else g j) ∧ w.mapTurned w' b := by
 obtain ⟨D, h, hd⟩ := h
 obtain ⟨w', hrun, ho, ht'⟩ := h.store (Maps.int_keyed hk) ht hn (Maps.keyOf_int_mk hk wf) (mkR_mk hi a)
 exact ⟨w', hrun, ⟨_, ho, hd.put h.isMap k a⟩, ht'⟩
theorem MapAt.drop {t e : TypeId} (h : MapAt P kt mk w b n g) (hk : P.underlying kt = some (.int .i64)) (ht : P.underlying t = some (.map kt e)) {k : Int} (wf : (Lit.int .i64 k).wf = true) (ty : TypeId) :
  ∃ w', (Builtin.delete_ #[t, kt] ty #[.map (some b), .int .i64 k]).run P w = .ok (.tuple #[]) w' ∧ MapAt P kt mk w' b n (fun j => if j = k then none else g j) ∧ w.mapTurned w' b := by
 obtain ⟨D, h, hd⟩ := h
 obtain ⟨w', hrun, ho, ht'⟩ := h.drop (Maps.int_keyed hk) ht (Maps.keyOf_int_mk hk wf) ty
 exact ⟨w', hrun, ⟨_, ho, hd.del k⟩, ht'⟩
theorem MapAt.len {t e : TypeId} (h : MapAt P kt mk w b n g) (ht : P.underlying t = some (.map kt e)) (hk : P.underlying kt = some (.int .i64)) : ∃ m : Nat, m ≤ n ∧ (m = 0 ↔ ∀ k, g k = none) ∧ ∀ ty, (Builtin.len_ #[t] ty #[.map (some b)]).run P w = .ok (.int .i64 m) w := by
 obtain ⟨D, h, hd⟩ := h
 refine ⟨Maps.size D, h.size_le, ⟨fun e0 k => ?_, fun hn => ?_⟩, fun ty => h.len ht ty⟩
 ·
  obtain ⟨es, rfl⟩ := h.isMap
  have h1 := hd.has k
  rw [Maps.size_eq] at e0
  rw [List.length_eq_zero_iff.1 e0] at h1
  cases hg : g k with
  | none => rfl
  | some a =>
   rw [hg] at h1
   cases h1
 ·
  obtain ⟨es, e1, _, hp⟩ := h.entries (Maps.int_keyed hk)
  subst e1
  cases es with
  | nil => rfl
  | cons p r =>
   obtain ⟨es', clock, hb, F, hs, hD⟩ := h
   have h1 : p ∈ (es'.toList.map (WideElems.rg P kt (mkR mk))).foldr DataW.insert [] := by
    have : DataW.map (p :: r) = DataW.map ((es'.toList.map (WideElems.rg P kt (mkR mk))).foldr DataW.insert []) := hD
    injection this with this
    rw [← this]
    exact List.mem_cons_self
   obtain ⟨x, hx, rfl⟩ := List.mem_map.1 (mem_sorted.1 h1)
   obtain ⟨y, hy⟩ := F.reads x hx
   obtain ⟨k, _, e2, _⟩ := Maps.keyOf_int_inv hk (WideElems.rd_key hy)
   have h2 := hd.has k
   rw [hn k, Maps.has_eq, WideElems.rg_of hy] at h2
   rw [← e2] at h2
   simp [WideAt.sameKey_self (show WideAt.IsKeyLit y.1 by rw [e2]; trivial)] at h2
end
def RangeAt {α : Type} (P : Program) (kt : TypeId) (mk : α → Value) (w : World) (b r n : Nat) (g : Int → Option α) (left : Int → Bool) (cnt : Nat) : Prop :=
 ∃ (D : DataW α) (l : Lit → Bool), w.ranges P kt (mkR mk) b r n D l cnt ∧ HoldsM D g ∧ ∀ k, l (.int .i64 k) = left k
section
variable {α : Type} {P : Program} {kt : TypeId} {mk : α → Value} {w : World} {b r n cnt : Nat} {g : Int → Option α} {left : Int → Bool}
theorem RangeAt.owns (h : RangeAt P kt mk w b r n g left cnt) : MapAt P kt mk w b n g := by
 obtain ⟨D, l, h, hd, _⟩ := h
 exact ⟨D, h.owns, hd⟩
theorem RangeAt.lt (h : RangeAt P kt mk w b r n g left cnt) : r < w.heap.size := by
 obtain ⟨D, l, h, hd, _⟩ := h
 exact h.lt
theorem RangeAt.ne (h : RangeAt P kt mk w b r n g left cnt) : r ≠ b := by
 obtain ⟨D, l, h, hd, _⟩ := h
 exact h.ne
theorem RangeAt.below {w' : World} {m : Nat} (h : RangeAt P kt mk w b r n g left cnt) (hb : Below m w w') (h1 : b < m) (h2 : r < m) : RangeAt P kt mk w' b r n g left cnt := by
 obtain ⟨D, l, ⟨es, clock, since, seen, c0, e1, F, hs, hD, e2, rest⟩, hd⟩ := h
 exact ⟨D, l, ⟨es, clock, since, seen, c0, (hb.block b h1).trans e1, F, hs, hD, (hb.block r h2).trans e2, rest⟩, hd⟩
theorem RangeAt.keep {w' : World} (h : RangeAt P kt mk w b r n g left cnt) (hb : Below w.heap.size w w') : RangeAt P kt mk w' b r n g left cnt := h.below hb h.owns.lt h.lt
theorem RangeAt.set {a : Addr} (h : RangeAt P kt mk w b r n g left cnt) (h1 : b ≠ a.block) (h2 : r ≠ a.block) (u : Value) : RangeAt P kt mk (w.setCell a u) b r n g left cnt := by
 obtain ⟨D, l, ⟨es, clock, since, seen, c0, e1, F, hs, hD, e2, rest⟩, hd⟩ := h
 exact ⟨D, l, ⟨es, clock, since, seen, c0, by rw [Below.heap_setCell _ _ _ _ h1]; exact e1, F, hs, hD, by rw [Below.heap_setCell _ _ _ _ h2]; exact e2, rest⟩, hd⟩
theorem MapAt.range {t e : TypeId} (h : MapAt P kt mk w b n g) (hk : P.underlying kt = some (.int .i64)) (ht : P.underlying t = some (.map kt e)) :
  ∃ w' cnt, (Instr.range t (.map (some b))).run P w = .ok (.pointer (some ⟨w.heap.size, 0, none⟩)) w' ∧ RangeAt P kt mk w' b w.heap.size n g (fun k => (g k).isSome) cnt ∧ Below w.heap.size w w' ∧ cnt ≤ n := by
 obtain ⟨D, h, hd⟩ := h
 obtain ⟨w', hrun, hr, hg, _⟩ := h.range (Maps.int_keyed hk) ht
 exact ⟨w', _, hrun, ⟨D, _, hr, hd, fun k => hd.has k⟩, (Below.refl _ _).grown hg (Nat.le_refl _) (fun k e => by cases e), h.size_le⟩
theorem RangeAt.next (h : RangeAt P kt mk w b r n g left cnt) (hk : P.underlying kt = some (.int .i64)) (ty : TypeId) :
  (cnt = 0 ∧ (∀ k, left k = false) ∧ (Instr.next (.pointer (some ⟨r, 0, none⟩)) false ty).run P w = .ok (.tuple #[.bool false]) w) ∨
  ∃ k a w' cnt', (Lit.int .i64 k).wf = true ∧ left k = true ∧ g k = some a ∧ (Instr.next (.pointer (some ⟨r, 0, none⟩)) false ty).run P w = .ok (.tuple #[.bool true, .int .i64 k, mk a]) w' ∧
   RangeAt P kt mk w' b r n g (fun j => left j && !(j == k)) cnt' ∧ cnt' < cnt ∧ (∀ m, m ≤ r → Below m w w') ∧ (Instr.entry (.pointer (some ⟨r, 0, none⟩))).run P w' = .ok (.tuple #[.int .i64 k, mk a]) w' ∧ w.grownBy w' (some r) := by
 obtain ⟨D, l, h, hd, hl⟩ := h
 have hrl := h.lt
 rcases h.next (Maps.int_keyed hk) ty with ⟨h0, h1, hrun⟩ | ⟨key, v, kl, y, w', cnt', hkey, hlk, hv, hat, hrun, hrg, hlt, hgr, hsz, hen⟩
 ·
  exact .inl ⟨h0, fun k => by rw [← hl k]; exact h1 _, hrun⟩
 ·
  obtain ⟨k, rfl, rfl, wf⟩ := Maps.keyOf_int_inv hk hkey
  obtain ⟨a, rfl, rfl⟩ := mkR_inv hv
  refine .inr ⟨k, a, w', cnt', wf, by rw [← hl k]; exact hlk, ?_, hrun, ⟨D, _, hrg, hd, fun j => ?_⟩, hlt, fun m hm => (Below.refl m w).grown hgr (by omega) (fun k e => by cases e; exact hm), hen, hgr⟩
  ·
   cases hg : g k with
   | none =>
    have h1 := (hd k).1 hg
    rw [Maps.has_true_of_atKey hat] at h1
    cases h1
   | some a' =>
    have h1 := (hd k).2 a' hg .nil
    rw [hat .nil] at h1
    injection h1 with h1
    rw [h1]
  ·
   show (l (.int .i64 j) && !(Lit.int .i64 j).sameKey (.int .i64 k)) = _
   rw [hl j]
   have : (Lit.int .i64 j).sameKey (.int .i64 k) = (j == k) := by
    by_cases e : j = k
    ·
     subst e
     rw [WideAt.sameKey_self (show WideAt.IsKeyLit (.int .i64 j) from trivial)]
     simp
    ·
     rw [Maps.sameKey_ne (fun e1 => e (by cases e1; rfl))]
     simp [e]
   rw [this]
theorem RangeAt.store {t e : TypeId} (h : RangeAt P kt mk w b r n g left cnt) (hi : ∀ a b, mk a = mk b → a = b) (hk : P.underlying kt = some (.int .i64)) (ht : P.underlying t = some (.map kt e)) {k : Int} (wf : (Lit.int .i64 k).wf = true) (a : α) (hin : (g k).isSome = true) :
  ∃ w', (Instr.mapUpdate t (.map (some b)) (.int .i64 k) (mk a)).run P w = .ok () w' ∧ RangeAt P kt mk w' b r n (fun j => if j = k then some a else g j) left cnt ∧ w.mapTurned w' b := by
 have hne := h.ne
 obtain ⟨D, l, ⟨es, clock, since, seen, c0, hb, F, hs, rfl, hr, hold, hc, hl1, hl2, hsc, hsk⟩, hd, hl⟩ := h
 have K := Maps.int_keyed (P := P) (k := kt) (q := .i64) hk
 have hkey := Maps.keyOf_int_mk (P := P) (k := kt) (q := .i64) hk wf
 have hv := mkR_mk hi a
 rcases K.find w hkey es.toList F.keys with ⟨h1, h2⟩ | ⟨j, e0, h1, h2, h3⟩
 ·
  exfalso
  have h4 := hd.has k
  rw [hin] at h4
  obtain ⟨p, hp, hpk⟩ := List.any_eq_true.1 h4
  obtain ⟨x, hx, rfl⟩ := List.mem_map.1 (mem_sorted.1 hp)
  obtain ⟨y, hy⟩ := F.reads x hx
  rw [WideElems.rg_of hy] at hpk
  exact h2 x hx (K.inj (WideElems.rd_key hy) ((WideAt.sameKey_eq hpk) ▸ hkey))
 ·
  have hj : es[j]? = some e0 := by simpa using h2
  have hkeyf : ∀ e', es[j]? = some e' → ({ e' with key := .int .i64 k, val := mk a } : MapEntry).key = e'.key := fun e' he' => by rw [hj] at he'; cases he'; exact h3.symm
  have hlist : (es.modify j (fun e' => { e' with key := .int .i64 k, val := mk a })).toList = es.toList.set j { e0 with key := .int .i64 k, val := mk a } := by rw [Array.toList_modify, ChangeMaps.modify_eq_set _ _ _ _ h2]
  have hmem0 : e0 ∈ es.toList := List.mem_of_getElem? h2
  obtain ⟨y0, hy0⟩ := F.reads e0 hmem0
  have who : ∀ x ∈ es.toList.set j { e0 with key := .int .i64 k, val := mk a }, x = { e0 with key := .int .i64 k, val := mk a } ∨ (x ∈ es.toList ∧ x.key ≠ .int .i64 k) := by
   intro x hx
   obtain ⟨i, hi, ex⟩ := List.getElem_of_mem hx
   rw [List.getElem_set] at ex
   split at ex
   ·
    exact Or.inl ex.symm
   ·
    rename_i hne
    have hi' : i < es.toList.length := by simpa using hi
    refine Or.inr ⟨ex ▸ List.getElem_mem hi', ?_⟩
    rw [← h3]
    exact WideElems.other_key F h2 (by rw [List.getElem?_eq_getElem hi', ex]) (fun e1 => hne e1.symm)
  have hy1 := WideElems.rd_mk (born := e0.born) hkey hv
  have e00 : (WideElems.rg P kt (mkR mk) e0).1 = .int .i64 k := by
   rw [WideElems.rg_of hy0]
   have h5 := WideElems.rd_key hy0
   rw [h3, hkey] at h5
   exact (Option.some.inj h5).symm
  have keyEq : ∀ x ∈ es.toList.set j { e0 with key := .int .i64 k, val := mk a }, ∃ x0 ∈ es.toList, x0.born = x.born ∧ (WideElems.rg P kt (mkR mk) x).1 = (WideElems.rg P kt (mkR mk) x0).1 := by
   intro x hx
   rcases who x hx with rfl | ⟨hx', _⟩
   ·
    exact ⟨e0, hmem0, rfl, by rw [e00, WideElems.rg_of hy1]⟩
   ·
    exact ⟨x, hx', rfl, rfl⟩
  have keyEq2 : ∀ x0 ∈ es.toList, ∃ x ∈ es.toList.set j { e0 with key := .int .i64 k, val := mk a }, x.born = x0.born ∧ (WideElems.rg P kt (mkR mk) x).1 = (WideElems.rg P kt (mkR mk) x0).1 := by
   intro x0 hx0
   obtain ⟨i, hi, ex⟩ := List.getElem_of_mem hx0
   by_cases e1 : i = j
   ·
    subst e1
    have : x0 = e0 := by
     rw [List.getElem?_eq_getElem hi, ex] at h2
     exact Option.some.inj h2
    subst this
    exact ⟨{ x0 with key := .int .i64 k, val := mk a }, List.mem_set hi _, rfl, by rw [e00, WideElems.rg_of hy1]⟩
   ·
    refine ⟨x0, ?_, rfl, rfl⟩
    have : (es.toList.set j { e0 with key := .int .i64 k, val := mk a })[i]'(by simpa using hi) = x0 := by
     rw [List.getElem_set_ne (fun e2 => e1 e2.symm)]
     exact ex
    rw [← this]
    exact List.getElem_mem _
  have hF' : WideElems.Fit P kt (mkR mk) (es.modify j (fun e' => { e' with key := .int .i64 k, val := mk a })) clock := by
   refine ⟨by simpa using F.size, MapKept.stamped_modify F.stamped _ _ (fun _ _ => rfl) (fun e' _ he' => hkeyf e' he'), fun x hx => ?_⟩
   rw [hlist] at hx
   rcases who x hx with rfl | ⟨hx', hne⟩
   ·
    exact ⟨_, hy1⟩
   ·
    exact F.reads x hx'
  have hput : ((es.modify j (fun e' => { e' with key := .int .i64 k, val := mk a })).toList.map (WideElems.rg P kt (mkR mk))).foldr DataW.insert [] = ChangeMaps.putKey (.int .i64 k) (.held a) ((es.toList.map (WideElems.rg P kt (mkR mk))).foldr DataW.insert []) := by
   refine Maps.sorted_put K.one ⟨_, hkey⟩ (Maps.fit_keys F) (Maps.fit_apart K F) ?_
   rw [Maps.filter_one K F hkey h2 h3, hlist, List.map_set, WideElems.rg_of hy1]
   exact ChangeMaps.set_perm _ _ (by simpa using (List.getElem?_eq_some_iff.1 h2).1) _
  refine ⟨ChangeMaps.setBlock w b (.map (es.modify j (fun e' => { e' with key := .int .i64 k, val := mk a })) clock), ?_, ⟨_, l, ⟨_, clock, since, seen, c0, ChangeMaps.heap_setBlock_same hb _, hF', by simpa using hs, rfl, (ChangeMaps.heap_setBlock_other hb _ hne).trans hr, fun x hx => ?_, ?_, fun x hx => ?_, fun kl hkl => ?_, hsc, hsk⟩, ?_, hl⟩, ⟨es, clock, _, clock, hb, rfl⟩⟩
  ·
   simp [Instr.mapUpdate, run_underlying ht, MapKept.run_getObj_map hb, K.check w false hkey, h1, hj, h3, K.stays w hkey, MapKept.run_setObj_map _ hb, Result.andThen, ChangeMaps.setBlock]
  ·
   rw [hlist] at hx
   obtain ⟨x0, hx0, e1, _⟩ := keyEq x hx
   rw [← e1]
   exact hold x0 hx0
  ·
   rw [← hc]
   have e1 : ∀ a : Array MapEntry, (leftOf a seen).size = (a.toList.map (fun e => e.born)).countP (fun b => !seen.contains b) := fun a => by
    unfold leftOf
    rw [List.countP_map, ← Array.length_toList, Array.toList_filter, List.countP_eq_length_filter]
    rfl
   rw [e1, e1, hlist, List.map_set]
   congr 1
   have : (es.toList.map (fun e => e.born))[j]? = some e0.born := by rw [List.getElem?_map, h2]; rfl
   obtain ⟨hj2, hj3⟩ := List.getElem?_eq_some_iff.1 this
   show List.set _ j e0.born = _
   rw [← hj3]
   exact List.set_getElem_self hj2
  ·
   rw [hlist] at hx
   obtain ⟨x0, hx0, e1, e2⟩ := keyEq x hx
   rw [e2, hl1 x0 hx0, e1]
  ·
   obtain ⟨x0, hx0, e1⟩ := hl2 kl hkl
   obtain ⟨x, hx, _, e2⟩ := keyEq2 x0 hx0
   exact ⟨x, by rw [hlist]; exact hx, e2.trans e1⟩
  ·
   rw [hput]
   have := hd.put ⟨_, rfl⟩ k a
   rw [DataW.put_eq] at this
   exact this
end
def Ch (pr : Int → Option Int) : List Int → Int → Prop
 | [], id => id < 0
 | x :: c, id => x = id ∧ 0 ≤ id ∧ ∃ p, pr id = some p ∧ Ch pr c p
theorem Ch.uniq {pr : Int → Option Int} : ∀ {c c' : List Int} {id : Int}, Ch pr c id → Ch pr c' id → c = c'
 | [], [], _, _, _ => rfl
 | [], x :: c', id, h, h' => by
  obtain ⟨_, h2, _⟩ := h'
  have h1 : id < 0 := h
  omega
 | x :: c, [], id, h, h' => by
  obtain ⟨_, h2, _⟩ := h
  have h1 : id < 0 := h'
  omega
 | x :: c, y :: c', id, h, h' => by
  obtain ⟨rfl, _, p, hp, h1⟩ := h
  obtain ⟨rfl, _, p', hp', h2⟩ := h'
  rw [hp] at hp'
  cases hp'
  rw [Ch.uniq h1 h2]
theorem Ch.congr {pr pr' : Int → Option Int} : ∀ {c : List Int} {id : Int}, Ch pr c id → (∀ x ∈ c, pr' x = pr x) → Ch pr' c id
 | [], _, h, _ => h
 | x :: c, id, h, he => by
  obtain ⟨rfl, h0, p, hp, h1⟩ := h
  exact ⟨rfl, h0, p, (he x List.mem_cons_self).trans hp, Ch.congr h1 fun y hy => he y (List.mem_cons_of_mem _ hy)⟩
theorem Ch.mem {pr : Int → Option Int} : ∀ {c : List Int} {id x : Int}, Ch pr c id → x ∈ c → 0 ≤ x ∧ ∃ c1 c2, c = c1 ++ x :: c2 ∧ Ch pr (x :: c2) x
 | [], _, _, _, h => by cases h
 | y :: c, id, x, h, hx => by
  have h' := h
  obtain ⟨rfl, h0, p, hp, h1⟩ := h
  rcases List.mem_cons.1 hx with rfl | hx
  ·
   exact ⟨h0, [], c, rfl, h'⟩
  ·
   obtain ⟨g0, c1, c2, e, g1⟩ := Ch.mem h1 hx
   exact ⟨g0, y :: c1, c2, by rw [e]; rfl, g1⟩
theorem Ch.has {pr : Int → Option Int} {c : List Int} {id x : Int} (h : Ch pr c id) (hx : x ∈ c) : ∃ p, pr x = some p := by
 obtain ⟨_, _, _, _, _, _, p, hp, _⟩ := h.mem hx
 exact ⟨p, hp⟩
theorem Ch.nodup {pr : Int → Option Int} : ∀ {c : List Int} {id : Int}, Ch pr c id → c.Nodup
 | [], _, _ => List.nodup_nil
 | x :: c, id, h => by
  have h' := h
  obtain ⟨rfl, h0, p, hp, h1⟩ := h
  refine List.nodup_cons.2 ⟨fun hx => ?_, Ch.nodup h1⟩
  obtain ⟨_, c1, c2, e, h2⟩ := h1.mem hx
  have e2 := Ch.uniq h' h2
  have := congrArg List.length e2
  rw [e] at this
  simp at this
  omega
theorem Ch.head {pr : Int → Option Int} {c : List Int} {id : Int} (h : Ch pr c id) (h0 : 0 ≤ id) : ∃ c', c = id :: c' := by
 cases c with
 | nil => exact absurd h0 (by have : id < 0 := h; omega)
 | cons x c => exact ⟨c, by rw [h.1]⟩
theorem Ch.split {pr : Int → Option Int} {c : List Int} {id x : Int} (h : Ch pr c id) (hx : x ∈ c) {d : List Int} (hd : Ch pr d x) : ∃ c1, c = c1 ++ d ∧ x ∉ c1 := by
 obtain ⟨_, c1, c2, e, h2⟩ := h.mem hx
 obtain rfl := Ch.uniq hd h2
 refine ⟨c1, e, fun hc => ?_⟩
 have := h.nodup
 rw [e, List.nodup_append] at this
 exact this.2.2 x hc x List.mem_cons_self rfl
def fnd (L : List S84) (id : Int) : Option S84 := L.find? (fun g => g.f0 == id)
def Asc (L : List S84) : Prop := L.Pairwise (fun a b => a.f0 < b.f0)
def prt (L : List S84) (id : Int) : Option Int := (fnd L id).map (·.f1)
theorem za2 {L : List S84} {id : Int} {g : S84} (h : fnd L id = some g) : g ∈ L ∧ g.f0 = id := by
 refine ⟨List.mem_of_find?_eq_some h, ?_⟩
 have := List.find?_some h
 simpa using this
theorem fnd_none {L : List S84} {id : Int} (h : fnd L id = none) : ∀ g ∈ L, g.f0 ≠ id := by
 intro g hg e
 have := List.find?_eq_none.1 h g hg
 simp [e] at this
theorem Asc.inj {L : List S84} (h : Asc L) {x y : S84} (hx : x ∈ L) (hy : y ∈ L) (e : x.f0 = y.f0) : x = y := by
 induction L with
 | nil => cases hx
 | cons a L ih =>
  obtain ⟨h1, h2⟩ := List.pairwise_cons.1 h
  rcases List.mem_cons.1 hx with rfl | hx'
  ·
   rcases List.mem_cons.1 hy with rfl | hy'
   ·
    rfl
   ·
    have := h1 y (by assumption)
    omega
  ·
   rcases List.mem_cons.1 hy with rfl | hy
   ·
    have := h1 x (by assumption)
    omega
   ·
    exact ih h2 (by assumption) (by assumption)
theorem fnd_mem {L : List S84} (h : Asc L) {g : S84} (hg : g ∈ L) : fnd L g.f0 = some g := by
 cases hf : fnd L g.f0 with
 | none => exact absurd rfl (fnd_none hf g hg)
 | some y =>
  obtain ⟨h1, h2⟩ := za2 hf
  rw [h.inj h1 hg h2]
theorem prt_some {L : List S84} {id p : Int} (h : prt L id = some p) : ∃ g ∈ L, g.f0 = id ∧ g.f1 = p := by
 unfold prt at h
 cases hf : fnd L id with
 | none => rw [hf] at h; cases h
 | some g =>
  rw [hf] at h
  cases h
  obtain ⟨h1, h2⟩ := za2 hf
  exact ⟨g, h1, h2, rfl⟩
theorem prt_mem {L : List S84} (h : Asc L) {g : S84} (hg : g ∈ L) : prt L g.f0 = some g.f1 := by
 unfold prt
 rw [fnd_mem h hg]
 rfl
noncomputable def way (L : List S84) (id : Int) : List Int :=
 open Classical in if h : ∃ c, Ch (prt L) c id then h.choose else []
theorem way_eq {L : List S84} {id : Int} {c : List Int} (h : Ch (prt L) c id) : way L id = c := by
 have h1 : ∃ c, Ch (prt L) c id := ⟨c, h⟩
 unfold way
 rw [dif_pos h1]
 exact Ch.uniq h1.choose_spec h
theorem way_congr {L L' : List S84} (h : prt L = prt L') (id : Int) : way L id = way L' id := by
 unfold way
 rw [h]
noncomputable def act (L : List S84) (id : Int) : Int := (L.map fun g => if id ∈ way L g.f0 then g.f4 else 0).sum
def kid (L : List S84) (id : Int) : Int := ((L.filter fun g => g.f1 == id).length : Nat)
def GoodG (last : Int) (L : List S84) (g : S84) : Prop :=
 1 ≤ g.f0 ∧ g.f0 ≤ last ∧ (g.f1 = -1 ∨ 1 ≤ g.f1) ∧ (∃ c, Ch (prt L) c g.f0 ∧ c.length ≤ 8) ∧ (1 ≤ g.f2 ∧ g.f2 ≤ 10000) ∧ 0 ≤ g.f4 ∧ g.f4 ≤ g.f3 ∧ kid L g.f0 + g.f3 ≤ 32
def GoodF (room : Nat) (last : Int) (L : List S84) : Prop :=
 room ≤ 64 ∧ L.length ≤ room ∧ 0 ≤ last ∧ last < 100000 ∧ Asc L ∧ ∀ g ∈ L, GoodG last L g
theorem za9 (L : List S84) (id : Int) : 0 ≤ kid L id := Int.natCast_nonneg _
theorem kid_le (L : List S84) (id : Int) : kid L id ≤ L.length := by
 unfold kid
 have := List.length_filter_le (fun g : S84 => g.f1 == id) L
 omega
theorem GoodF.way {room : Nat} {last : Int} {L : List S84} (h : GoodF room last L) {g : S84} (hg : g ∈ L) : Ch (prt L) (way L g.f0) g.f0 ∧ (way L g.f0).length ≤ 8 := by
 obtain ⟨_, _, _, ⟨c, hc, hl⟩, _⟩ := h.2.2.2.2.2 g hg
 rw [way_eq hc]
 exact ⟨hc, hl⟩
theorem act_bounds {room : Nat} {last : Int} {L : List S84} (h : GoodF room last L) (id : Int) : 0 ≤ act L id ∧ act L id ≤ 2048 := by
 have key : ∀ M : List S84, (∀ g ∈ M, g ∈ L) → 0 ≤ (M.map fun g => if id ∈ P.way L g.f0 then g.f4 else 0).sum ∧ (M.map fun g => if id ∈ P.way L g.f0 then g.f4 else 0).sum ≤ 32 * (M.length : Int) := by
  intro M
  induction M with
  | nil => intro _; simp
  | cons g M ih =>
   intro hM
   obtain ⟨h1, h2⟩ := ih fun x hx => hM x (List.mem_cons_of_mem _ hx)
   obtain ⟨_, _, _, _, _, g4, g5, g6⟩ := h.2.2.2.2.2 g (hM g List.mem_cons_self)
   have := za9 L g.f0
   rw [List.map_cons, List.sum_cons, List.length_cons]
   split <;> constructor <;> push_cast <;> omega
 have := key L fun _ h => h
 have h1 := h.1
 have h2 := h.2.1
 unfold act
 omega
def kp : Kd Nat := Kd.scalar (fun k => Value.pointer (some ⟨k, 0, none⟩)) (fun _ => rfl)
def ptrO : Option Nat → Value
 | none => .pointer none
 | some b => .pointer (some ⟨b, 0, none⟩)
def PathAt (w : World) : List Nat → Prop
 | [] => True
 | b :: r => (∃ x0 x2 x3 x4 x5 x6, w.heap[b]? = some (.cells #[x0, ptrO r.head?, x2, x3, x4, x5, x6] 71 (0, 0))) ∧ PathAt w r
theorem PathAt.blocks {w w' : World} : ∀ {bs : List Nat}, PathAt w bs → (∀ b ∈ bs, w'.heap[b]? = w.heap[b]?) → PathAt w' bs
 | [], _, _ => trivial
 | b :: r, ⟨⟨x0, x2, x3, x4, x5, x6, h⟩, hr⟩, he => ⟨⟨x0, x2, x3, x4, x5, x6, (he b List.mem_cons_self).trans h⟩, hr.blocks fun c hc => he c (List.mem_cons_of_mem _ hc)⟩
theorem PathAt.lt {w : World} : ∀ {bs : List Nat}, PathAt w bs → ∀ b ∈ bs, b < w.heap.size
 | [], _, _, h => by cases h
 | b :: r, ⟨⟨_, _, _, _, _, _, h⟩, hr⟩, c, hc => by
  rcases List.mem_cons.1 hc with rfl | hc
  ·
   exact zao h
  ·
   exact hr.lt c hc
theorem PathAt.keep {w w' : World} {bs : List Nat} (h : PathAt w bs) (hb : Below w.heap.size w w') : PathAt w' bs := h.blocks fun b hm => hb.block b (h.lt b hm)
theorem info64 : (Try.prog.info? 64).map (fun i => (i.zero, i.size, i.bytes)) = some (some (.pointer none), 1, 8) := by kernel_rfl
theorem PathAt.tail {w : World} : ∀ {a r : List Nat}, PathAt w (a ++ r) → PathAt w r
 | [], _, h => h
 | _ :: a, _, h => PathAt.tail (a := a) h.2
theorem path_ok {w : World} {bs : List Nat} (h : PathAt w bs) (hl : bs.length ≤ 1000) :
  Calls Try.prog 25 #[ptrO bs.head?] w fun e w' => ∃ v, e = .returned v ∧ kp.R 64 w' w.heap.size (fun k => w.heap.size ≤ k) v bs ∧ Below w.heap.size w w' := by
 have H := Aside0.mk h
 clear h
 go_enter Try.func25, Try.ntmps25
 go_wp2_with fail
 go_loopg [0, 3] bs.length (fun gk v0 v3 w' => ∃ (a r : List Nat), bs = a ++ r ∧ r.length = gk ∧ v0 = ptrO r.head? ∧ Aside0 (kp.R 64 w' w.heap.size (fun k => w.heap.size ≤ k) v3 a) ∧ Aside0 (Below w.heap.size w w'))
 case atStart => exact ⟨[], bs, rfl, rfl, rfl, ⟨Kd.R_nil _ _ _ _ _⟩, ⟨Below.refl _ _⟩⟩
 case round =>
  obtain ⟨a, r, hbs, hr, rfl, HO, HW⟩ := hrel
  have HBS := Aside0.mk hbs
  have hal : a.length + r.length = bs.length := by rw [hbs, List.length_append]
  clear hbs
  cases r with
  | nil =>
   dsimp only [List.head?, ptrO]
   go_wp2_with fail
   go_ret
   exact ⟨_, rfl, by rw [HBS.out, List.append_nil]; exact HO.out, HW.out⟩
  | cons b r =>
   rw [List.length_cons] at hr hal
   obtain ⟨⟨x0, x2, x3, x4, x5, x6, hb⟩, _⟩ : PathAt wr (b :: r) := PathAt.tail (a := a) (by rw [← HBS.out]; exact H.out.keep HW.out)
   dsimp only [List.head?, ptrO]
   have hall : (a.length + 1) * 8 ≤ 140737488355328 := by omega
   have HALL := Aside0.mk hall
   have HB := Aside0.mk hb
   have hw := HW.out.size
   obtain ⟨g1, rfl⟩ : ∃ g1, gk = g1 + 1 := ⟨r.length, hr.symm⟩
   have hbne := Kd.R_lt HO.out
   have hbl := zao hb
   have hbb : b < w.heap.size := H.out.lt b (by rw [HBS.out]; simp)
   clear hb hall
   go_wp2_with (first | ((with_reducible refine gate_builtin (b := .append) (xs := #[.tmp 10, .tmp 12]) rfl ?_); at_builtin; refine Kd.R_append kp (w0 := w) w.heap.size rfl (.tmp 10) (.tmp 12) 67 64 (.pointer none) 8 rfl Try.underlying67 info64 rfl (by decide) (by omega) u3 a b [.pointer (some ⟨b, 0, none⟩)] (fun k_ => w.heap.size ≤ k_) (fun _ => False) rfl (by first | rfl | simp [Act.eval]) rfl (fun _ hk => hk.elim) (fun k_ hk => Nat.le_trans hw hk) HO.out HW.out hw HALL.out ?_; intro v9 w9 ho9 hb9 hg9 hat9; have HO9 := Aside0.mk ho9; have HB9 := Aside0.mk hb9; have he9 := (hg9.block _ hbl (fun e => Nat.not_le_of_lt hbb (Kd.R_base HO.out _ e.symm))).trans HB.out; have y0 : w9.cell? ⟨b, 1, none⟩ = some (ptrO r.head?) := (za he9 1).trans rfl; clear ho9 hb9 hg9 hat9 he9))
   go_roundg g1
   case measure => exact Nat.lt_succ_self _
   case rel => exact ⟨a ++ [b], r, by rw [HBS.out]; simp, by omega, by simp, HO9, HB9⟩
theorem kp_at {w : World} {A : Option Addr} {n : Nat} {xs : List Nat} (h : kp.C w A n xs) (i : Nat) (h1 : i < n) : ∃ ad, A = some ad ∧ w.cell? (ad.add i) = some (.pointer (some ⟨xs.getD i 0, 0, none⟩)) := by
 obtain ⟨ad, e, h2⟩ := ReadsOf.at_ (Kd.reads_of_C (enc := fun k : Nat => Value.pointer (some ⟨k, 0, none⟩)) (d := (0 : Nat)) (h1 := fun _ => rfl) h) (i : Int) (by omega) (by omega)
 refine ⟨ad, e, ?_⟩
 simpa [Int.toNat_natCast, rdOf] using h2
theorem kp_V {w : World} {base : Nat} {ok : Nat → Prop} {v : Value} {xs : List Nat} (h : kp.R 64 w base ok v xs) : ∃ A c, v = .slice A xs.length c ∧ xs.length ≤ c ∧ kp.C w A xs.length xs := by
 have hv := Kd.R_V (base' := 0) h
 obtain ⟨A, c, rfl⟩ := Kd.zbx h
 obtain ⟨_, h1, h2⟩ := Kd.zaw hv
 exact ⟨A, c, rfl, h1, h2⟩
theorem root_ok {w : World} {bs : List Nat} {b : Nat} (h : PathAt w bs) (hl : bs.length ≤ 1000) (hb : bs.getLast? = some b) :
  Calls Try.prog 27 #[ptrO bs.head?] w fun e w' => e = .returned (.pointer (some ⟨b, 0, none⟩)) ∧ Below w.heap.size w w' := by
 have H := Aside0.mk h
 have hne : 0 < bs.length := by
  cases bs with
  | nil => cases hb
  | cons _ _ => simp
 have hlast : bs.getD (bs.length - 1) 0 = b := by
  rw [List.getLast?_eq_getElem?] at hb
  rw [List.getD_eq_getElem?_getD, hb]
  rfl
 have HLT := Aside0.mk hlast
 clear h hb hlast
 go_enter Try.func27, Try.ntmps27
 go_wp2_with fail
 go_at_call 25
 refine (path_ok H.out hl).mono ?_
 rintro e w1 ⟨v, rfl, hr, hb1⟩
 obtain ⟨A, c, rfl, hc, hC⟩ := kp_V hr
 obtain ⟨ad, rfl, hx⟩ := kp_at hC (bs.length - 1) (by omega)
 rw [HLT.out] at hx
 have HB := Aside0.mk hb1
 have wl : wrap64 ((bs.length : Int) - 1) = ((bs.length - 1 : Nat) : Int) := wsub1 _ (by omega) hne
 have i1 : (0 : Int) ≤ ((bs.length - 1 : Nat) : Int) ∧ ((bs.length - 1 : Nat) : Int) < (bs.length : Int) := by omega
 clear hr hC hb1
 go_wp2_with fail
 go_ret
 exact ⟨rfl, HB.out⟩
def ixP (b : Nat) : List Nat → Nat → Int
 | [], _ => -1
 | x :: xs, i => if b = x then (i : Int) else ixP b xs (i + 1)
theorem ixP_mem (b : Nat) : ∀ (l : List Nat) (i : Nat), 0 ≤ ixP b l i ↔ b ∈ l
 | [], i => by simp [ixP]
 | x :: xs, i => by
  unfold ixP
  by_cases h : b = x
  ·
   rw [if_pos h]
   simp [h]
  ·
   rw [if_neg h, ixP_mem b xs (i + 1)]
   simp [h]
def Live (w : World) (b : Nat) : Prop := ∃ ca, w.heap[b]? = some (.cells ca 71 (0, 0))
theorem Live.keep {w w' : World} {b : Nat} (h : Live w b) (hb : Below w.heap.size w w') : Live w' b := by
 obtain ⟨ca, h⟩ := h
 exact ⟨ca, (hb.block b (zao h)).trans h⟩
theorem nodeInfo : ∃ j, Try.prog.info? 71 = some j ∧ j.size ≠ 0 := by
 cases h : Try.prog.info? 71 with
 | none =>
  have : (Try.prog.info? 71).isSome = true := by kernel_rfl
  rw [h] at this
  cases this
 | some j =>
  refine ⟨j, rfl, ?_⟩
  have h2 : (Try.prog.info? 71).map (·.size) = some 7 := by kernel_rfl
  rw [h] at h2
  have h3 : j.size = 7 := Option.some.inj h2
  rw [h3]
  decide
theorem ptr_equal {w : World} {a b : Nat} (ha : Live w a) (hb : Live w b) : (Op.equal 64 (.pointer (some ⟨a, 0, none⟩)) (.pointer (some ⟨b, 0, none⟩))).run Try.prog w = .ok (decide (a = b)) w := by
 obtain ⟨j, hte, hsz⟩ := nodeInfo
 obtain ⟨ca, ha⟩ := ha
 obtain ⟨cb, hb⟩ := hb
 by_cases h : a = b
 ·
  subst h
  have h1 : ∀ d : Nat, (Op.equalIn (d + 1) 64 (.pointer (some ⟨a, 0, none⟩)) (.pointer (some ⟨a, 0, none⟩))).run Try.prog w = .ok true w := fun d => by
   simp [Op.equalIn, run_underlying Try.underlying64, sizeOf, typeInfo, hte, run_sameAddr_same]
  simp [Op.equal, Op.maxDepth, h1 9999]
 ·
  have h1 : ∀ d : Nat, (Op.equalIn (d + 1) 64 (.pointer (some ⟨a, 0, none⟩)) (.pointer (some ⟨b, 0, none⟩))).run Try.prog w = .ok false w := fun d => by
   simp [Op.equalIn, run_underlying Try.underlying64, sizeOf, typeInfo, hte, hsz, run_sameAddr_other w (a := ⟨a, 0, none⟩) (b := ⟨b, 0, none⟩) (fun e => h (by injection e)) ha hb]
  simp [Op.equal, Op.maxDepth, h1 9999, h]
theorem ptr_eql {w : World} {a b : Nat} (ha : Live w a) (hb : Live w b) : (binOp .eql 64 (.pointer (some ⟨a, 0, none⟩)) (.pointer (some ⟨b, 0, none⟩))).run Try.prog w = .ok (.bool (decide (a = b))) w := by
 simp only [binOp]
 simp [ptr_equal ha hb]
theorem ptr_neq {w : World} {a b : Nat} (ha : Live w a) (hb : Live w b) : (binOp .neq 64 (.pointer (some ⟨a, 0, none⟩)) (.pointer (some ⟨b, 0, none⟩))).run Try.prog w = .ok (.bool (!decide (a = b))) w := by
 simp only [binOp]
 simp [ptr_equal ha hb]
theorem indexP_ok {w : World} {A : Option Addr} {c : Nat} {xs : List Nat} (b : Nat) (h : kp.C w A xs.length xs) (hl : xs.length ≤ 1000) (hb : Live w b) (hx : ∀ x ∈ xs, Live w x) :
  Calls Try.prog 63 #[.slice A xs.length c, .pointer (some ⟨b, 0, none⟩)] w fun e w' => e = .returned (.int .i64 (ixP b xs 0)) ∧ w' = w := by
 have H := Aside0.mk h
 have HLB := Aside0.mk hb
 have HLX := Aside0.mk hx
 clear h hb hx
 go_enter Try.func63, Try.ntmps63
 go_wp2_with fail
 go_loopg [8] xs.length (fun gk v8 w' => ∃ i : Nat, v8 = .int .i64 (i : Int) ∧ i + gk = xs.length ∧ ixP b (xs.drop i) i = ixP b xs 0 ∧ w' = w)
 case atStart => exact ⟨0, rfl, by omega, by rw [List.drop_zero], rfl⟩
 case round =>
  obtain ⟨i, rfl, hi, hz, rfl⟩ := hrel
  cases gk with
  | zero =>
   rw [List.drop_of_length_le (by omega)] at hz
   have d1 : decide ((i : Int) < (xs.length : Int)) = false := decide_eq_false (by omega)
   go_wp2_with fail
   go_ret
   exact ⟨by rw [← hz]; rfl, rfl⟩
  | succ g1 =>
   have d1 : decide ((i : Int) < (xs.length : Int)) = true := decide_eq_true (by omega)
   have d3 : 0 ≤ (i : Int) ∧ (i : Int) < (xs.length : Int) := by omega
   have hil : i < xs.length := by omega
   obtain ⟨ad, rfl, hx⟩ := kp_at H.out i hil
   rw [List.getD_eq_getElem?_getD, List.getElem?_eq_getElem hil, Option.getD_some] at hx
   rw [List.drop_eq_getElem_cons hil] at hz
   have HZ := Aside0.mk hz
   clear hz
   have heq := ptr_eql HLB.out (HLX.out _ (List.getElem_mem hil))
   by_cases h0 : b = xs[i]
   ·
    have hz := HZ.out
    rw [ixP, if_pos h0] at hz
    have HZ2 := Aside0.mk hz
    rw [decide_eq_true h0] at heq
    generalize xs[i] = y at hx heq
    clear hz h0
    go_wp2_with fail
    go_ret
    exact ⟨by first | rfl | (rw [HZ2.out]; rfl), rfl⟩
   ·
    have hz := HZ.out
    rw [ixP, if_neg h0] at hz
    have HZ2 := Aside0.mk hz
    rw [decide_eq_false h0] at heq
    generalize xs[i] = y at hx heq
    clear hz h0
    go_wp2_with fail
    have hgi : i + 1 + g1 = xs.length := by omega
    go_roundg g1
    case measure => exact Nat.lt_succ_self _
    case rel => exact ⟨i + 1, by go_num, hgi, HZ2.out, rfl⟩
theorem PathAt.live {w : World} : ∀ {bs : List Nat}, PathAt w bs → ∀ b ∈ bs, Live w b
 | [], _, _, h => by cases h
 | b :: r, ⟨⟨_, _, _, _, _, _, h⟩, hr⟩, c, hc => by
  rcases List.mem_cons.1 hc with rfl | hc
  ·
   exact ⟨_, h⟩
  ·
   exact hr.live c hc
theorem containsP_ok {w : World} {A : Option Addr} {c : Nat} {xs : List Nat} (b : Nat) (h : kp.C w A xs.length xs) (hl : xs.length ≤ 1000) (hb : Live w b) (hx : ∀ x ∈ xs, Live w x) :
  Calls Try.prog 51 #[.slice A xs.length c, .pointer (some ⟨b, 0, none⟩)] w fun e w' => e = .returned (.bool (decide (b ∈ xs))) ∧ w' = w := by
 have H := Aside0.mk h
 have HLB := Aside0.mk hb
 have HLX := Aside0.mk hx
 have HM := Aside0.mk (ixP_mem b xs 0)
 clear h hb hx
 go_enter Try.func51, Try.ntmps51
 go_wp2_with fail
 go_at_call 63
 refine (indexP_ok b H.out hl HLB.out HLX.out).mono ?_
 generalize ixP b xs 0 = r at HM
 rintro e w1 ⟨rfl, rfl⟩
 go_wp2_with fail
 go_ret
 refine ⟨?_, rfl⟩
 by_cases h : b ∈ xs
 ·
  have h1 := HM.out.2 h
  simp [h, h1]
 ·
  have h1 : ¬ 0 ≤ r := fun h2 => h (HM.out.1 h2)
  simp [h]
  omega
theorem below_ok {w : World} {bs : List Nat} {t : Nat} (h : PathAt w bs) (hl : bs.length ≤ 1000) (ht : Live w t) :
  Calls Try.prog 28 #[ptrO bs.head?, .pointer (some ⟨t, 0, none⟩)] w fun e w' => e = .returned (.bool (decide (t ∈ bs))) ∧ Below w.heap.size w w' := by
 have H := Aside0.mk h
 have HT := Aside0.mk ht
 clear h ht
 go_enter Try.func28, Try.ntmps28
 go_wp2_with fail
 go_at_call 25
 refine (path_ok H.out hl).mono ?_
 rintro e w1 ⟨v, rfl, hr, hb1⟩
 obtain ⟨A, c, rfl, hc, hC⟩ := kp_V hr
 have HB := Aside0.mk hb1
 have HC := Aside0.mk hC
 clear hr hC hb1
 go_wp2_with fail
 go_at_call 51
 refine (containsP_ok t HC.out hl (HT.out.keep HB.out) (fun x hx => (H.out.live x hx).keep HB.out)).mono ?_
 rintro e w2 ⟨rfl, rfl⟩
 go_wp2_with fail
 go_ret
 exact ⟨rfl, HB.out⟩
def Wr (S : Nat → Prop) (w w' : World) : Prop := Below 0 w w' ∧ ∀ i, i < w.heap.size → ¬ S i → w'.heap[i]? = w.heap[i]?
theorem Wr.of_below {S : Nat → Prop} {w w' : World} (h : Below w.heap.size w w') : Wr S w w' := ⟨h.mono (Nat.zero_le _), fun i hi _ => h.block i hi⟩
theorem Wr.refl (S : Nat → Prop) (w : World) : Wr S w w := Wr.of_below (Below.refl _ _)
theorem Wr.size {S : Nat → Prop} {w w' : World} (h : Wr S w w') : w.heap.size ≤ w'.heap.size := h.1.size
theorem Wr.mono {S S' : Nat → Prop} {w w' : World} (h : Wr S w w') (hs : ∀ k, S k → S' k) : Wr S' w w' := ⟨h.1, fun i hi hn => h.2 i hi fun hk => hn (hs i hk)⟩
theorem Wr.trans {S S2 : Nat → Prop} {w w1 w2 : World} (h : Wr S w w1) (h2 : Wr S2 w1 w2) (hs : ∀ k, S2 k → S k ∨ w.heap.size ≤ k) : Wr S w w2 :=
 ⟨h.1.trans h2.1, fun i hi hn => (h2.2 i (Nat.lt_of_lt_of_le hi h.size) fun hk => (hs i hk).elim hn (fun h => by omega)).trans (h.2 i hi hn)⟩
theorem Wr.step {S : Nat → Prop} {w w1 w2 : World} (h : Wr S w w1) (hb : Below w1.heap.size w1 w2) : Wr S w w2 := h.trans (Wr.of_below (S := fun _ => False) hb) fun _ hk => hk.elim
theorem Wr.set {S : Nat → Prop} {w w1 : World} (h : Wr S w w1) {p : Addr} (hp : S p.block ∨ w.heap.size ≤ p.block) (u : Value) : Wr S w (w1.setCell p u) :=
 ⟨h.1.setCell (Nat.zero_le _) u, fun i hi hn => by
  rw [Below.heap_setCell _ _ _ _ (fun e => by subst e; exact hp.elim hn fun h => by omega)]
  exact h.2 i hi hn⟩
theorem Wr.drew {S : Nat → Prop} {w w1 : World} (h : Wr S w w1) : Wr S w w1.drew := ⟨h.1.drew, h.2⟩
theorem Wr.turned {S : Nat → Prop} {w w1 w2 : World} {m : Nat} (h : Wr S w w1) (ht : w1.mapTurned w2 m) (hm : S m ∨ w.heap.size ≤ m) : Wr S w w2 :=
 ⟨h.1.trans (mapTurned_below ht (Nat.zero_le _)), fun i hi hn => by
  obtain ⟨es, clock, es', clock', hb, rfl⟩ := ht
  rw [ChangeMaps.heap_setBlock_other hb _ (fun e => by subst e; exact hm.elim hn fun h => by omega)]
  exact h.2 i hi hn⟩
theorem Wr.below {S : Nat → Prop} {w w' : World} (h : Wr S w w') {n : Nat} (hn : n ≤ w.heap.size) (hs : ∀ k, S k → n ≤ k) : Below n w w' :=
 ⟨h.1.os, h.1.tape, h.1.output, h.1.size, fun k hk => h.2 k (by omega) fun hx => by have := hs k hx; omega⟩
theorem fan_ok {w : World} {b : Nat} {x0 x1 x2 x4 x5 : Value} {m g : Int} (h : w.heap[b]? = some (.cells #[x0, x1, x2, .int .i64 m, x4, x5, .int .i64 g] 71 (0, 0))) (hs : 0 ≤ m ∧ m < 100000 ∧ 0 ≤ g ∧ g < 100000) :
  Calls Try.prog 26 #[.pointer (some ⟨b, 0, none⟩)] w fun e w' => e = .returned (.int .i64 (g + m)) ∧ Below w.heap.size w w' := by
 have c3 : w.cell? ⟨b, 3, none⟩ = some (.int .i64 m) := (za h 3).trans rfl
 have c6 : w.cell? ⟨b, 6, none⟩ = some (.int .i64 g) := (za h 6).trans rfl
 have wl : wrap64 (g + m) = g + m := w64s (by omega) (by omega)
 clear h
 go_enter Try.func26, Try.ntmps26
 go_wp2_with fail
 go_quiet (fail)
 go_wp2
 go_ret
 exact ⟨by simp [wl], zb (Below.refl _ _) _⟩
def Upd (more : Int) (w w' : World) (b : Nat) : Prop := ∀ x0 x1 x2 x3 x4 a x6, w.heap[b]? = some (.cells #[x0, x1, x2, x3, x4, .int .i64 a, x6] 71 (0, 0)) → w'.heap[b]? = some (.cells #[x0, x1, x2, x3, x4, .int .i64 (a + more), x6] 71 (0, 0))
theorem count_ok {w : World} {bs : List Nat} {more : Int} (h : PathAt w bs) (hl : bs.length ≤ 1000) (hn : bs.Nodup)
  (ha : ∀ b ∈ bs, ∃ x0 x1 x2 x3 x4 a x6, w.heap[b]? = some (.cells #[x0, x1, x2, x3, x4, .int .i64 a, x6] 71 (0, 0)) ∧ -1000000 < a + more ∧ a + more < 1000000) :
  Calls Try.prog 30 #[ptrO bs.head?, .int .i64 more] w fun e w' => e = .returned (.tuple #[]) ∧ (∀ b ∈ bs, Upd more w w' b) ∧ Wr (fun k => k ∈ bs) w w' := by
 have H := Aside0.mk h
 have HA := Aside0.mk ha
 have HN := Aside0.mk hn
 clear h ha hn
 go_enter Try.func30, Try.ntmps30
 go_wp2_with fail
 go_at_call 25
 refine (path_ok H.out hl).mono ?_
 rintro e w1 ⟨v, rfl, hr, hb1⟩
 obtain ⟨A, c, rfl, hc, hC⟩ := kp_V hr
 have HR := Aside0.mk hr
 have HB := Aside0.mk hb1
 clear hr hC hb1
 go_wp2_with fail
 go_loopg [9] bs.length (fun gk v9 w' => ∃ i : Nat, v9 = .int .i64 (i : Int) ∧ i + gk = bs.length ∧ Aside0 (kp.R 64 w' w.heap.size (fun k => w.heap.size ≤ k) (.slice A bs.length c) bs) ∧ Aside0 (∀ b ∈ bs.take i, Upd more w w' b) ∧ Aside0 (∀ b ∈ bs.drop i, w'.heap[b]? = w.heap[b]?) ∧ Aside0 (Wr (fun k => k ∈ bs) w w'))
 case atStart => exact ⟨0, by go_num, by omega, HR, ⟨fun b hb => by simp at hb⟩, ⟨fun b hb => HB.out.block b (H.out.lt b (List.mem_of_mem_drop hb))⟩, ⟨Wr.of_below HB.out⟩⟩
 case round =>
  obtain ⟨i, rfl, hi, HR1, HU, HD, HW⟩ := hrel
  cases gk with
  | zero =>
   have d1 : decide ((i : Int) < (bs.length : Int)) = false := decide_eq_false (by omega)
   go_wp2_with fail
   refine bodyPost_end (results_none (by kernel_rfl) _ _ _) rfl ?_
   refine ⟨rfl, ?_, HW.out⟩
   have := HU.out
   rw [List.take_of_length_le (by omega)] at this
   exact this
  | succ g1 =>
   have d1 : decide ((i : Int) < (bs.length : Int)) = true := decide_eq_true (by omega)
   have d3 : 0 ≤ (i : Int) ∧ (i : Int) < (bs.length : Int) := by omega
   have hil : i < bs.length := by omega
   obtain ⟨_, _, e1, _, hC⟩ := kp_V HR1.out
   cases e1
   obtain ⟨ad, rfl, hx⟩ := kp_at hC i hil
   rw [List.getD_eq_getElem?_getD, List.getElem?_eq_getElem hil, Option.getD_some] at hx
   have hmem : bs[i] ∈ bs := List.getElem_mem hil
   have hdr := HD.out
   rw [List.drop_eq_getElem_cons hil] at hdr
   obtain ⟨x0, x1, x2, x3, x4, a, x6, hw0, hlo, hhi⟩ := HA.out _ hmem
   have hwr := (hdr _ List.mem_cons_self).trans hw0
   have hnt : bs[i] ∉ bs.take i ∧ bs[i] ∉ bs.drop (i + 1) := by
    have h1 := HN.out
    have h2 : bs = bs.take i ++ bs[i] :: bs.drop (i + 1) := by rw [← List.drop_eq_getElem_cons hil, List.take_append_drop]
    rw [h2, List.nodup_append] at h1
    exact ⟨fun hm => h1.2.2 _ hm _ List.mem_cons_self rfl, (List.nodup_cons.1 h1.2.1).1⟩
   have htk : bs.take (i + 1) = bs.take i ++ [bs[i]] := List.take_succ_eq_append_getElem hil
   have hblt : bs[i] < w.heap.size := H.out.lt _ hmem
   generalize bs[i] = b at hx hdr hw0 hwr hnt htk hblt hmem
   have c5 : wr.cell? ⟨b, 5, none⟩ = some (.int .i64 a) := (za hwr 5).trans rfl
   have f5 := zaa hwr 5
   have wl : wrap64 (a + more) = a + more := w64s (by omega) (by omega)
   have hput : (wr.setCell ⟨b, 5, none⟩ (.int .i64 (a + more))).heap[b]? = some (.cells #[x0, x1, x2, x3, x4, .int .i64 (a + more), x6] 71 (0, 0)) := zar hwr 5 _ rfl
   have HR2 := Aside0.mk (Kd.R_far (p := ⟨b, 5, none⟩) HR1.out (fun k hk => by show k ≠ b; omega) (.int .i64 (a + more)))
   have HW2 : Aside0 (Wr (fun k => k ∈ bs) w (wr.setCell ⟨b, 5, none⟩ (.int .i64 (a + more)))) := ⟨HW.out.set (.inl hmem) _⟩
   have HU2 : Aside0 (∀ q ∈ bs.take (i + 1), Upd more w (wr.setCell ⟨b, 5, none⟩ (.int .i64 (a + more))) q) := ⟨fun q hq => by
    rw [htk] at hq
    rcases List.mem_append.1 hq with hq | hq
    ·
     intro y0 y1 y2 y3 y4 y y6 hy
     rw [Below.heap_setCell _ _ _ _ (fun e => by cases e; exact hnt.1 hq)]
     exact HU.out q hq _ _ _ _ _ _ _ hy
    ·
     obtain rfl := List.mem_singleton.1 hq
     intro y0 y1 y2 y3 y4 y y6 hy
     rw [hw0] at hy
     cases hy
     exact hput⟩
   have HD2 : Aside0 (∀ q ∈ bs.drop (i + 1), (wr.setCell ⟨b, 5, none⟩ (.int .i64 (a + more))).heap[q]? = w.heap[q]?) := ⟨fun q hq => by
    rw [Below.heap_setCell _ _ _ _ (fun e => by cases e; exact hnt.2 hq)]
    exact hdr q (List.mem_cons_of_mem _ hq)⟩
   clear hC hmem hdr hw0 hwr hnt htk hput
   go_wp2_with fail
   have hgi : i + 1 + g1 = bs.length := by omega
   have wi : wrap64 ((i : Int) + 1) = (i : Int) + 1 := w64s (by omega) (by omega)
   go_roundg g1
   case measure => exact Nat.lt_succ_self _
   case rel => exact ⟨i + 1, by go_num, hgi, HR2, HU2, HD2, HW2⟩
def Only (b s : Nat) (w w' : World) : Prop := w.heap.size ≤ w'.heap.size ∧ ∀ i, i < w.heap.size → i ≠ b → i ≠ s → w'.heap[i]? = w.heap[i]?
theorem Only.of_below {b s : Nat} {w w' : World} (h : Below w.heap.size w w') : Only b s w w' := ⟨h.size, fun i hi _ _ => h.block i hi⟩
theorem Only.set1 {b s : Nat} {w w' : World} (h : Only b s w w') (i : Nat) (v : Value) : Only b s w (w'.setCell ⟨b, i, none⟩ v) :=
 ⟨by rw [World.size_setCell]; exact h.1, fun j hj h1 h2 => by rw [Below.heap_setCell _ _ _ _ h1]; exact h.2 j hj h1 h2⟩
theorem Only.set2 {b s : Nat} {w w' : World} (h : Only b s w w') (i : Nat) (v : Value) : Only b s w (w'.setCell ⟨s, i, none⟩ v) :=
 ⟨by rw [World.size_setCell]; exact h.1, fun j hj h1 h2 => by rw [Below.heap_setCell _ _ _ _ h2]; exact h.2 j hj h1 h2⟩
theorem MapAt.only {α : Type} {P : Program} {kt : TypeId} {mk : α → Value} {w w' : World} {b s c n : Nat} {g : Int → Option α} (h : MapAt P kt mk w c n g) (ho : Only b s w w') (h1 : c ≠ b) (h2 : c ≠ s) : MapAt P kt mk w' c n g := by
 have hl := h.lt
 obtain ⟨D, ⟨es, clock, h3, h4⟩, hd⟩ := h
 exact ⟨D, ⟨es, clock, (ho.2 c hl h1 h2).trans h3, h4⟩, hd⟩
theorem table_Add_only {w : World} {b s : Nat} {l : List Int} {last : Int} (k i : Nat) (h : TabAt w b s l last) (hi : i < l.length) (hx : zai.f k l 0 = some (i : Int)) (h0 : 0 ≤ last) (h1 : last < 2147483648) :
  Calls Try.prog 50 #[.pointer (some ⟨b, 0, none⟩)] w fun e w' => e = .returned (.tuple #[.int .i64 (last + 1), .int .i64 (i : Int), .int .i64 0]) ∧ TabAt w' b s (l.set i (last + 1)) (last + 1) ∧ (∀ n, n ≤ b → n ≤ s → Below n w w') ∧ Only b s w w' := by
 have H := Aside0.mk h
 have HX := Aside0.mk hx
 obtain ⟨f0, f1, f2, f3⟩ := h.facts
 have d1 : decide ((i : Int) < 0) = false := decide_eq_false (by omega)
 have d2 : (last == 2147483648) = false := by simpa using (show last ≠ 2147483648 by omega)
 clear h hx f3
 go_enter Try.func50, Try.ntmps50
 go_wp2_with fail
 go_at_call 62
 refine (zai.calls k _ _ l 0 _ _ H.out.mem (Nat.le_refl _) HX.out).mono ?_
 rintro e w1 ⟨rfl, hd⟩
 have B1 := Aside0.mk hd.below
 have H1 := Aside0.mk (H.out.keep B1.out)
 obtain ⟨g0, g1, g2, g3⟩ := H1.out.facts
 clear hd f0 f1 f2 g3
 go_wp2_with fail
 have H2 := Aside0.mk (H1.out.push (last + 1))
 have B2 : Aside0 (∀ n, n ≤ b → n ≤ s → Below n w (w1.setCell ⟨b, 1, none⟩ (.int .i64 (last + 1)))) := ⟨fun n hb hs => (B1.out.mono (by have := H.out.lt; omega)).setCell hb _⟩
 have O2 : Aside0 (Only b s w (w1.setCell ⟨b, 1, none⟩ (.int .i64 (last + 1)))) := ⟨(Only.of_below B1.out).set1 _ _⟩
 generalize w1.setCell ⟨b, 1, none⟩ (.int .i64 (last + 1)) = W2 at H2 B2 O2 ⊢
 clear g0 g1 g2
 obtain ⟨g0, g1, g2, g3⟩ := H2.out.facts
 have g4 := g3 i
 clear g3
 have g5 := H2.out.slot hi
 go_region
 have H3 := Aside0.mk (H2.out.set i (last + 1)).drew
 have B3 : Aside0 (∀ n, n ≤ b → n ≤ s → Below n w (W2.setCell ⟨s, i, none⟩ (.int .i64 (last + 1))).drew) := ⟨fun n hb hs => ((B2.out n hb hs).setCell hs _).drew⟩
 have O3 : Aside0 (Only b s w (W2.setCell ⟨s, i, none⟩ (.int .i64 (last + 1))).drew) := ⟨O2.out.set2 _ _⟩
 generalize (W2.setCell ⟨s, i, none⟩ (.int .i64 (last + 1))).drew = W3 at H3 B3 O3 ⊢
 clear g0 g1 g2 g4 g5
 obtain ⟨g0, g1, g2, g3⟩ := H3.out.facts
 clear g3
 go_wp2
 go_ret3
 exact ⟨by simp, H3.out, B3.out, O3.out⟩
theorem table_Drop_only {w : World} {b s : Nat} {l : List Int} {last : Int} (k i : Nat) (x : Int) (h : TabAt w b s l last) (hi : i < l.length) (hx0 : x ≠ 0) (hx : zai.f k l x = some (i : Int)) :
  Calls Try.prog 57 #[.pointer (some ⟨b, 0, none⟩), .int .i64 x] w fun e w' => e = .returned (.int .i64 0) ∧ TabAt w' b s (l.set i 0) last ∧ (∀ n, n ≤ b → n ≤ s → Below n w w') ∧ Only b s w w' := by
 have H := Aside0.mk h
 have HX := Aside0.mk hx
 clear h hx
 go_enter Try.func57, Try.ntmps57
 go_wp2_with fail
 go_at_call 75
 refine (table_Slot_ok k (i : Int) x H.out HX.out (by omega) hx0).mono ?_
 rintro e w1 ⟨rfl, hd⟩
 have B1 := Aside0.mk hd.below
 have H1 := Aside0.mk (H.out.drawn hd)
 obtain ⟨g0, g1, g2, g3⟩ := H1.out.facts
 have g4 := g3 i
 have g5 := H1.out.slot hi
 clear hd g3
 go_wp2_with fail
 go_ret
 exact ⟨rfl, H1.out.set i 0, fun n hb hs => (B1.out.mono (by have := H.out.lt; omega)).setCell hs _, (Only.of_below B1.out).set2 _ _⟩
theorem Wr.of_only {b s : Nat} {w w' : World} (h1 : ∀ n, n ≤ b → n ≤ s → Below n w w') (h2 : Only b s w w') : Wr (fun k => k = b ∨ k = s) w w' :=
 ⟨h1 0 (Nat.zero_le _) (Nat.zero_le _), fun i hi hn => h2.2 i hi (fun e => hn (.inl e)) fun e => hn (.inr e)⟩
theorem tabF_AddW {w : World} {b s room : Nat} {last : Int} {ids : List Int} (h : TabF w b s room last ids) (hl : ids.length < room) (h0 : 0 ≤ last ∧ last < 2147483648) :
  Calls Try.prog 50 #[.pointer (some ⟨b, 0, none⟩)] w fun e w' => ∃ i : Nat, e = .returned (.tuple #[.int .i64 (last + 1), .int .i64 (i : Int), .int .i64 0]) ∧ TabF w' b s room (last + 1) (ids ++ [last + 1]) ∧ Wr (fun k => k = b ∨ k = s) w w' := by
 obtain ⟨l, ht, hlen, hp⟩ := h
 have h64 := ht.2.2.2
 rcases index_any (l := l) 0 (by omega) with ⟨i, k, hi, hx, hk⟩ | ⟨k, hk, hn⟩
 ·
  refine (table_Add_only k i ht hi hk h0.1 h0.2).mono ?_
  rintro e w' ⟨rfl, ht', hb, ho⟩
  refine ⟨i, rfl, ⟨_, ht', by rw [List.length_set]; exact hlen, ?_⟩, Wr.of_only hb ho⟩
  exact (filter_set l i _ hi hx (by omega)).trans ((List.Perm.cons _ hp).trans (List.perm_append_singleton _ _).symm)
 ·
  exfalso
  have := hp.length_eq
  rw [List.filter_eq_self.2 (fun x hx => by
   obtain ⟨j, hj, e⟩ := List.getElem_of_mem hx
   have := hn j hj
   rw [List.getD_eq_getElem?_getD, List.getElem?_eq_getElem hj] at this
   simpa [← e] using this)] at this
  omega
theorem tabF_DropW {w : World} {b s room : Nat} {last : Int} {ids : List Int} {x : Int} (h : TabF w b s room last ids) (hn : ids.Nodup) (hx : x ∈ ids) (h0 : x ≠ 0) :
  Calls Try.prog 57 #[.pointer (some ⟨b, 0, none⟩), .int .i64 x] w fun e w' => e = .returned (.int .i64 0) ∧ TabF w' b s room last (ids.filter fun y => !(y == x)) ∧ Wr (fun k => k = b ∨ k = s) w w' := by
 obtain ⟨l, ht, hlen, hp⟩ := h
 have h64 := ht.2.2.2
 have hm : x ∈ l := (List.mem_filter.1 (hp.mem_iff.2 hx)).1
 rcases index_any (l := l) x (by omega) with ⟨i, k, hi, hxi, hk⟩ | ⟨k, hk, hno⟩
 ·
  refine (table_Drop_only k i x ht hi h0 hk).mono ?_
  rintro e w' ⟨rfl, ht', hb, ho⟩
  refine ⟨rfl, ⟨_, ht', by rw [List.length_set]; exact hlen, ?_⟩, Wr.of_only hb ho⟩
  have h1 := filter_set (l.set i 0) i x (by rw [List.length_set]; exact hi) (by simp [hi]) h0
  rw [← hxi, set_set_self l i hi, hxi] at h1
  have h2 := (h1.symm.trans hp).filter fun y => !(y == x)
  rw [List.filter_cons, if_neg (by simp)] at h2
  refine List.Perm.trans (List.Perm.of_eq ?_) h2
  refine (List.filter_eq_self.2 fun y hy => ?_).symm
  have hnd : (x :: (l.set i 0).filter fun y => !(y == 0)).Nodup := (h1.symm.trans hp).nodup_iff.2 hn
  have := (List.nodup_cons.1 hnd).1
  simp
  rintro rfl
  exact this hy
 ·
  exfalso
  obtain ⟨j, hj, e⟩ := List.getElem_of_mem hm
  have := hno j hj
  rw [List.getD_eq_getElem?_getD, List.getElem?_eq_getElem hj] at this
  exact this (by simpa using e)
def setG (L : List S84) (id : Int) (h : S84 → S84) : List S84 := L.map fun g => if g.f0 = id then h g else g
theorem setG_len (L : List S84) (id : Int) (h : S84 → S84) : (setG L id h).length = L.length := List.length_map _
theorem setG_f0 {id : Int} {h : S84 → S84} (h0 : ∀ g, (h g).f0 = g.f0) (g : S84) : (if g.f0 = id then h g else g).f0 = g.f0 := by
 split
 ·
  exact h0 g
 ·
  rfl
theorem setG_ids {L : List S84} {id : Int} {h : S84 → S84} (h0 : ∀ g, (h g).f0 = g.f0) : (setG L id h).map (·.f0) = L.map (·.f0) := by
 unfold setG
 rw [List.map_map]
 exact List.map_congr_left fun g _ => setG_f0 h0 g
theorem Asc.setG {L : List S84} {id : Int} {h : S84 → S84} (h0 : ∀ g, (h g).f0 = g.f0) (hA : Asc L) : Asc (setG L id h) := by
 unfold Asc P.setG
 rw [List.pairwise_map]
 exact hA.imp fun {a b} hab => by rw [setG_f0 h0, setG_f0 h0]; exact hab
theorem fnd_setG {id : Int} {h : S84 → S84} (h0 : ∀ g, (h g).f0 = g.f0) : ∀ (L : List S84) (x : Int), fnd (setG L id h) x = (fnd L x).map fun g => if g.f0 = id then h g else g
 | [], _ => rfl
 | a :: L, x => by
  have ih := fnd_setG (id := id) h0 L x
  unfold fnd setG at ih ⊢
  rw [List.map_cons, List.find?_cons, List.find?_cons, setG_f0 h0]
  split
  ·
   rfl
  ·
   exact ih
theorem prt_setG {L : List S84} {id : Int} {h : S84 → S84} (h0 : ∀ g, (h g).f0 = g.f0) (h1 : ∀ g, (h g).f1 = g.f1) : prt (setG L id h) = prt L := by
 funext x
 unfold prt
 rw [fnd_setG h0, Option.map_map]
 cases fnd L x with
 | none => rfl
 | some g =>
  simp only [Option.map_some, Function.comp]
  split
  ·
   rw [h1]
  ·
   rfl
theorem kid_setG {L : List S84} {id : Int} {h : S84 → S84} (h1 : ∀ g, (h g).f1 = g.f1) (x : Int) : kid (setG L id h) x = kid L x := by
 unfold kid setG
 rw [List.filter_map, List.length_map]
 congr 2
 refine List.filter_congr fun g _ => ?_
 simp only [Function.comp]
 split
 ·
  rw [h1]
 ·
  rfl
theorem sum_setG {h : S84 → S84} (F : S84 → Int) : ∀ {L : List S84} {g : S84}, Asc L → g ∈ L → ((setG L g.f0 h).map F).sum = (L.map F).sum + (F (h g) - F g)
 | [], _, _, hg => by cases hg
 | a :: L, g, hA, hg => by
  obtain ⟨h1, h2⟩ := List.pairwise_cons.1 hA
  unfold setG
  rw [List.map_cons, List.map_cons, List.sum_cons, List.map_cons, List.sum_cons]
  rcases List.mem_cons.1 hg with rfl | hg
  ·
   rw [if_pos rfl]
   have : (L.map fun y => if y.f0 = g.f0 then h y else y) = L := by
    rw [List.map_congr_left (g := id)]
    ·
     simp
    ·
     intro y hy
     have := h1 y hy
     rw [if_neg (by omega)]
     rfl
   rw [this]
   omega
  ·
   have := h1 g hg
   rw [if_neg (by omega)]
   have ih := sum_setG (h := h) F h2 hg
   unfold setG at ih
   rw [ih]
   omega
theorem act_setG {L : List S84} {g : S84} {h : S84 → S84} (h0 : ∀ g, (h g).f0 = g.f0) (h1 : ∀ g, (h g).f1 = g.f1) (hA : Asc L) (hg : g ∈ L) (x : Int) :
  act (setG L g.f0 h) x = act L x + if x ∈ way L g.f0 then (h g).f4 - g.f4 else 0 := by
 have hw : ∀ id, way (setG L g.f0 h) id = way L id := fun id => way_congr (prt_setG h0 h1) id
 unfold act
 simp only [hw]
 rw [sum_setG (fun y => if x ∈ way L y.f0 then y.f4 else 0) hA hg]
 rw [h0]
 split <;> omega
theorem mem_setG {L : List S84} {id : Int} {h : S84 → S84} {y : S84} (hy : y ∈ setG L id h) : ∃ g ∈ L, y = if g.f0 = id then h g else g := by
 obtain ⟨g, hg, e⟩ := List.mem_map.1 hy
 exact ⟨g, hg, e.symm⟩
theorem GoodF.setG {room : Nat} {last : Int} {L : List S84} {g : S84} {h : S84 → S84} (hG : GoodF room last L) (hg : g ∈ L) (h0 : ∀ g, (h g).f0 = g.f0) (h1 : ∀ g, (h g).f1 = g.f1)
  (h2 : 1 ≤ (h g).f2 ∧ (h g).f2 ≤ 10000) (h3 : 0 ≤ (h g).f4) (h4 : (h g).f4 ≤ (h g).f3) (h5 : kid L g.f0 + (h g).f3 ≤ 32) : GoodF room last (P.setG L g.f0 h) := by
 obtain ⟨e1, e2, e3, e4, e5, e6⟩ := hG
 refine ⟨e1, by rw [setG_len]; exact e2, e3, e4, e5.setG h0, fun y hy => ?_⟩
 obtain ⟨z, hz, rfl⟩ := mem_setG hy
 have hp := prt_setG (L := L) (id := g.f0) h0 h1
 have hz' := e6 z hz
 unfold GoodG at hz' ⊢
 rw [setG_f0 h0, hp, kid_setG h1]
 by_cases e : z.f0 = g.f0
 ·
  obtain rfl := e5.inj hz hg e
  rw [if_pos rfl, h1]
  exact ⟨hz'.1, hz'.2.1, hz'.2.2.1, hz'.2.2.2.1, h2, h3, h4, h5⟩
 ·
  rw [if_neg e]
  exact hz'
theorem fnd_app {L : List S84} {a : S84} (hn : fnd L a.f0 = none) (x : Int) : fnd (L ++ [a]) x = if x = a.f0 then some a else fnd L x := by
 unfold fnd at hn ⊢
 rw [List.find?_append]
 by_cases e : x = a.f0
 ·
  rw [if_pos e, e, hn]
  simp
 ·
  rw [if_neg e]
  have : (a.f0 == x) = false := beq_eq_false_iff_ne.mpr fun h => e h.symm
  simp [this]
theorem Ch.app {L : List S84} {a : S84} (hn : fnd L a.f0 = none) {c : List Int} {id : Int} (h : Ch (prt L) c id) : Ch (prt (L ++ [a])) c id := by
 refine h.congr fun x hx => ?_
 obtain ⟨p, hp⟩ := h.has hx
 unfold prt
 rw [fnd_app hn, if_neg]
 rintro rfl
 unfold prt at hp
 rw [hn] at hp
 cases hp
theorem way_mem {L : List S84} {c : List Int} {id x : Int} (h : Ch (prt L) c id) (hx : x ∈ c) : ∃ g ∈ L, g.f0 = x := by
 obtain ⟨p, hp⟩ := h.has hx
 obtain ⟨g, hg, e, _⟩ := prt_some hp
 exact ⟨g, hg, e⟩
theorem fnd_fresh {room : Nat} {last : Int} {L : List S84} (hG : GoodF room last L) {x : Int} (hx : last < x) : fnd L x = none := by
 cases h : fnd L x with
 | none => rfl
 | some g =>
  obtain ⟨h1, h2⟩ := za2 h
  have := (hG.2.2.2.2.2 g h1).2.1
  omega
theorem par_in {room : Nat} {last : Int} {L : List S84} (hG : GoodF room last L) {g : S84} (hg : g ∈ L) (h : 0 ≤ g.f1) : ∃ p ∈ L, p.f0 = g.f1 := by
 obtain ⟨_, _, _, ⟨c, hc, _⟩, _⟩ := hG.2.2.2.2.2 g hg
 have h0 := (hG.2.2.2.2.2 g hg).1
 obtain ⟨c', rfl⟩ := hc.head (by omega)
 obtain ⟨_, _, p, hp, h1⟩ := hc
 rw [prt_mem hG.2.2.2.2.1 hg] at hp
 cases hp
 obtain ⟨c2, rfl⟩ := h1.head h
 exact way_mem h1 List.mem_cons_self
theorem act_app {room : Nat} {last : Int} {L : List S84} (hG : GoodF room last L) {a : S84} (hn : fnd L a.f0 = none) (h4 : a.f4 = 0) (x : Int) : act (L ++ [a]) x = act L x := by
 unfold act
 rw [List.map_append, List.sum_append]
 have h1 : (L.map fun g => if x ∈ way (L ++ [a]) g.f0 then g.f4 else 0) = L.map fun g => if x ∈ way L g.f0 then g.f4 else 0 := by
  refine List.map_congr_left fun g hg => ?_
  obtain ⟨hc, _⟩ := hG.way hg
  rw [way_eq (Ch.app hn hc)]
 rw [h1]
 simp [h4]
theorem kid_app (L : List S84) (a : S84) (x : Int) : kid (L ++ [a]) x = kid L x + if a.f1 = x then 1 else 0 := by
 unfold kid
 rw [List.filter_append, List.length_append]
 by_cases e : a.f1 = x
 ·
  simp [e]
 ·
  simp [e]
theorem kid_zero {L : List S84} {x : Int} (h : ∀ g ∈ L, g.f1 ≠ x) : kid L x = 0 := by
 unfold kid
 rw [List.filter_eq_nil_iff.2 fun g hg => by simpa using h g hg]
 rfl
theorem act_fresh {room : Nat} {last : Int} {L : List S84} (hG : GoodF room last L) {x : Int} (hx : last < x) : act L x = 0 := by
 unfold act
 have : (L.map fun g => if x ∈ way L g.f0 then g.f4 else 0) = L.map fun _ => 0 := by
  refine List.map_congr_left fun g hg => ?_
  rw [if_neg]
  intro hm
  obtain ⟨y, hy, e⟩ := way_mem (hG.way hg).1 hm
  have := (hG.2.2.2.2.2 y hy).2.1
  omega
 rw [this]
 clear this hG
 induction L with
 | nil => rfl
 | cons a L ih => rw [List.map_cons, List.sum_cons, ih]; rfl
theorem kid_fresh {room : Nat} {last : Int} {L : List S84} (hG : GoodF room last L) {x : Int} (hx : last < x) : kid L x = 0 := by
 refine kid_zero fun g hg e => ?_
 have h1 := hG.2.2.1
 obtain ⟨p, hp, e2⟩ := par_in hG hg (by omega)
 have := (hG.2.2.2.2.2 p hp).2.1
 omega
theorem Ch.new {L : List S84} {a : S84} (hn : fnd L a.f0 = none) (h0 : 0 ≤ a.f0) {c : List Int} (hc : Ch (prt L) c a.f1) : Ch (prt (L ++ [a])) (a.f0 :: c) a.f0 := by
 refine ⟨rfl, h0, a.f1, ?_, Ch.app hn hc⟩
 unfold prt
 rw [fnd_app hn, if_pos rfl]
 rfl
theorem GoodF.app {room : Nat} {last : Int} {L : List S84} {p wt : Int} (hG : GoodF room last L) (hl : L.length < room) (h9 : last < 99999) (hw : 1 ≤ wt ∧ wt ≤ 10000)
  (hp : p = -1 ∨ ∃ g ∈ L, g.f0 = p ∧ (P.way L p).length < 8 ∧ kid L p + g.f3 < 32) : GoodF room (last + 1) (L ++ [⟨last + 1, p, wt, 0, 0⟩]) := by
 have hn : fnd L (last + 1) = none := fnd_fresh hG (by omega)
 have hG' := hG
 obtain ⟨e1, e2, e3, e4, e5, e6⟩ := hG
 refine ⟨e1, by rw [List.length_append, List.length_singleton]; omega, by omega, by omega, ?_, fun y hy => ?_⟩
 ·
  refine List.pairwise_append.2 ⟨e5, List.pairwise_singleton _ _, fun x hx y hy => ?_⟩
  obtain rfl := List.mem_singleton.1 hy
  have := (e6 x hx).2.1
  dsimp only
  omega
 ·
  rcases List.mem_append.1 hy with hy | hy
  ·
   obtain ⟨g1, g2, g3, ⟨c, hc, hcl⟩, g5, g6, g7, g8⟩ := e6 y hy
   refine ⟨g1, by omega, g3, ⟨c, hc.app hn, hcl⟩, g5, g6, g7, ?_⟩
   rw [kid_app]
   dsimp only
   split
   ·
    rename_i e
    rcases hp with rfl | ⟨g, hg, e2, _, h2⟩
    ·
     omega
    ·
     obtain rfl := e5.inj hg hy (e2.trans e)
     rw [← e] at *
     omega
   ·
    omega
  ·
   obtain rfl := List.mem_singleton.1 hy
   have hk : kid (L ++ [⟨last + 1, p, wt, 0, 0⟩]) (last + 1) = 0 := by
    rw [kid_app, kid_fresh hG' (by omega)]
    dsimp only
    rw [if_neg]
    ·
     rfl
    ·
     rcases hp with rfl | ⟨g, hg, e, _⟩
     ·
      omega
     ·
      have := (e6 g hg).2.1
      omega
   refine ⟨by dsimp only; omega, Int.le_refl _, ?_, ?_, hw, Int.le_refl _, Int.le_refl _, by dsimp only; rw [hk]; decide⟩
   ·
    rcases hp with rfl | ⟨g, hg, rfl, _⟩
    ·
     exact .inl rfl
    ·
     exact .inr (e6 g hg).1
   ·
    rcases hp with rfl | ⟨g, hg, rfl, h1, _⟩
    ·
     exact ⟨[last + 1], Ch.new (a := ⟨last + 1, -1, wt, 0, 0⟩) hn (by dsimp only; omega) (c := []) (show (-1 : Int) < 0 by omega), by simp⟩
    ·
     exact ⟨(last + 1) ::  P.way L g.f0, Ch.new (a := ⟨last + 1, g.f0, wt, 0, 0⟩) hn (by dsimp only; omega) (hG'.way hg).1, by rw [List.length_cons]; omega⟩
theorem Ch.mid {pr : Int → Option Int} : ∀ {c : List Int} {id x : Int}, Ch pr c id → x ∈ c → x ≠ id → ∃ y ∈ c, pr y = some x
 | [], _, _, _, h, _ => by cases h
 | y :: c, id, x, h, hx, hne => by
  obtain ⟨rfl, h0, p, hp, h1⟩ := h
  rcases List.mem_cons.1 hx with rfl | hx
  ·
   exact absurd rfl hne
  ·
   by_cases e : x = p
   ·
    exact ⟨y, List.mem_cons_self, by rw [e]; exact hp⟩
   ·
    obtain ⟨z, hz, h2⟩ := Ch.mid h1 hx e
    exact ⟨z, List.mem_cons_of_mem _ hz, h2⟩
theorem kid_pos {L : List S84} {g : S84} (hg : g ∈ L) : 0 < kid L g.f1 := by
 unfold kid
 have : 0 < (L.filter fun y => y.f1 == g.f1).length := List.length_pos_of_mem (List.mem_filter.2 ⟨hg, by simp⟩)
 omega
def delG (L : List S84) (id : Int) : List S84 := L.filter fun y => !(y.f0 == id)
theorem fnd_del : ∀ (L : List S84) (id x : Int), fnd (delG L id) x = if x = id then none else fnd L x
 | [], _, x => by simp [fnd, delG]
 | a :: L, id, x => by
  have ih := fnd_del L id x
  unfold fnd delG at ih ⊢
  rw [List.filter_cons]
  by_cases e : a.f0 = id
  ·
   rw [if_neg (by simp [e]), ih]
   split
   ·
    rfl
   ·
    rename_i h
    rw [List.find?_cons]
    have : (a.f0 == x) = false := beq_eq_false_iff_ne.mpr (by omega)
    rw [this]
  ·
   rw [if_pos (by simp [e]), List.find?_cons, List.find?_cons, ih]
   by_cases e2 : a.f0 = x
   ·
    have : (a.f0 == x) = true := beq_iff_eq.mpr e2
    rw [this]
    dsimp only
    rw [if_neg (by omega)]
   ·
    have : (a.f0 == x) = false := beq_eq_false_iff_ne.mpr e2
    rw [this]
theorem way_leaf {room : Nat} {last : Int} {L : List S84} (hG : GoodF room last L) {id : Int} (hk : kid L id = 0) {y : S84} (hy : y ∈ L) (hne : y.f0 ≠ id) : id ∉ way L y.f0 := by
 intro hm
 obtain ⟨z, hz, h1⟩ := (hG.way hy).1.mid hm fun e => hne e.symm
 obtain ⟨q, hq, _, e⟩ := prt_some h1
 have := kid_pos hq
 rw [e] at this
 omega
theorem Ch.del {L : List S84} {id : Int} {c : List Int} {x : Int} (h : Ch (prt L) c x) (hn : id ∉ c) : Ch (prt (delG L id)) c x := by
 refine h.congr fun y hy => ?_
 unfold prt
 rw [fnd_del, if_neg fun (e : y = id) => hn (e ▸ hy)]
theorem mem_del {L : List S84} {id : Int} {y : S84} : y ∈ delG L id ↔ y ∈ L ∧ y.f0 ≠ id := by
 unfold delG
 rw [List.mem_filter]
 simp
theorem kid_del {L : List S84} (hA : Asc L) {g : S84} (hg : g ∈ L) (x : Int) : kid (delG L g.f0) x = kid L x - if g.f1 = x then 1 else 0 := by
 induction L with
 | nil => cases hg
 | cons a L ih =>
  obtain ⟨h1, h2⟩ := List.pairwise_cons.1 hA
  rcases List.mem_cons.1 hg with rfl | hg
  ·
   have hd : delG (g :: L) g.f0 = L := by
    unfold delG
    rw [List.filter_cons, if_neg (by simp)]
    refine List.filter_eq_self.2 fun y hy => ?_
    have := h1 y hy
    simp
    omega
   rw [hd]
   unfold kid
   rw [List.filter_cons]
   by_cases e : g.f1 = x
   ·
    rw [if_pos e, if_pos (by simp [e]), List.length_cons]
    omega
   ·
    rw [if_neg e, if_neg (by simp [e])]
    omega
  ·
   have := h1 g hg
   have ih := ih h2 hg
   unfold kid delG at ih ⊢
   rw [List.filter_cons, if_pos (by simp; omega), List.filter_cons, List.filter_cons]
   split
   ·
    rw [List.length_cons, List.length_cons]
    omega
   ·
    exact ih
theorem sum_del (F : S84 → Int) : ∀ {L : List S84} {g : S84}, Asc L → g ∈ L → F g = 0 → ((delG L g.f0).map F).sum = (L.map F).sum
 | [], _, _, hg, _ => by cases hg
 | a :: L, g, hA, hg, h0 => by
  obtain ⟨h1, h2⟩ := List.pairwise_cons.1 hA
  unfold delG
  rw [List.filter_cons]
  rcases List.mem_cons.1 hg with rfl | hg
  ·
   rw [if_neg (by simp), List.map_cons, List.sum_cons, h0, Int.zero_add]
   rw [List.filter_eq_self.2 fun y hy => by have := h1 y hy; simp; omega]
  ·
   have := h1 g hg
   rw [if_pos (by simp; omega), List.map_cons, List.map_cons, List.sum_cons, List.sum_cons]
   have ih := sum_del F h2 hg h0
   unfold delG at ih
   rw [ih]
theorem act_del {room : Nat} {last : Int} {L : List S84} (hG : GoodF room last L) {g : S84} (hg : g ∈ L) (hk : kid L g.f0 = 0) (h4 : g.f4 = 0) (x : Int) : act (delG L g.f0) x = act L x := by
 unfold act
 have h1 : ((delG L g.f0).map fun y => if x ∈ way (delG L g.f0) y.f0 then y.f4 else 0) = (delG L g.f0).map fun y => if x ∈ way L y.f0 then y.f4 else 0 := by
  refine List.map_congr_left fun y hy => ?_
  obtain ⟨hy1, hy2⟩ := mem_del.1 hy
  rw [way_eq (Ch.del (hG.way hy1).1 (way_leaf hG hk hy1 hy2))]
 rw [h1]
 refine sum_del (fun y => if x ∈ way L y.f0 then y.f4 else 0) hG.2.2.2.2.1 hg ?_
 show (if x ∈ way L g.f0 then g.f4 else 0) = 0
 split
 ·
  exact h4
 ·
  rfl
theorem GoodF.del {room : Nat} {last : Int} {L : List S84} (hG : GoodF room last L) {g : S84} (hg : g ∈ L) (hk : kid L g.f0 = 0) : GoodF room last (delG L g.f0) := by
 have hG' := hG
 obtain ⟨e1, e2, e3, e4, e5, e6⟩ := hG
 refine ⟨e1, Nat.le_trans (List.length_filter_le _ _) e2, e3, e4, e5.filter _, fun y hy => ?_⟩
 obtain ⟨hy1, hy2⟩ := mem_del.1 hy
 obtain ⟨g1, g2, g3, ⟨c, hc, hcl⟩, g5, g6, g7, g8⟩ := e6 y hy1
 refine ⟨g1, g2, g3, ⟨c, hc.del ?_, hcl⟩, g5, g6, g7, ?_⟩
 ·
  rw [← way_eq hc]
  exact way_leaf hG' hk hy1 hy2
 ·
  rw [kid_del e5 hg]
  split <;> omega
theorem del_ids (L : List S84) (id : Int) : (delG L id).map (·.f0) = (L.map (·.f0)).filter fun y => !(y == id) := by
 unfold delG
 rw [List.filter_map]
 rfl
def movG (L : List S84) (id p : Int) : List S84 := setG L id fun g => { g with f1 := p }
theorem prt_mov {L : List S84} {id p x : Int} (h : x ≠ id) : prt (movG L id p) x = prt L x := by
 unfold prt movG
 rw [fnd_setG (h := fun g => { g with f1 := p }) fun _ => rfl, Option.map_map]
 cases hf : fnd L x with
 | none => rfl
 | some g =>
  simp only [Option.map_some, Function.comp]
  rw [if_neg]
  rw [(za2 hf).2]
  exact h
theorem prt_mov_self {L : List S84} {id p : Int} {g : S84} (h : fnd L id = some g) : prt (movG L id p) id = some p := by
 unfold prt movG
 rw [fnd_setG (h := fun g => { g with f1 := p }) fun _ => rfl, h]
 simp only [Option.map_some]
 rw [if_pos (za2 h).2]
theorem Ch.mov_far {L : List S84} {id p : Int} {c : List Int} {x : Int} (h : Ch (prt L) c x) (hn : id ∉ c) : Ch (prt (movG L id p)) c x :=
 h.congr fun y hy => prt_mov fun e => hn (e ▸ hy)
theorem Ch.prepend {pr pr' : Int → Option Int} : ∀ {c1 d : List Int} {x y : Int} {d' : List Int}, Ch pr (c1 ++ y :: d) x → (∀ z ∈ c1, pr' z = pr z) → Ch pr' (y :: d') y → Ch pr' (c1 ++ y :: d') x
 | [], d, x, y, d', h, _, h' => by
  obtain ⟨rfl, _⟩ := h
  exact h'
 | z :: c1, d, x, y, d', h, he, h' => by
  obtain ⟨rfl, h0, p, hp, h1⟩ := h
  exact ⟨rfl, h0, p, (he z List.mem_cons_self).trans hp, Ch.prepend h1 (fun z hz => he z (List.mem_cons_of_mem _ hz)) h'⟩
theorem way_mov {room : Nat} {last : Int} {L : List S84} (hG : GoodF room last L) {g q y : S84} (hg : g ∈ L) (hq : q ∈ L) (hy : y ∈ L) (h0 : 0 ≤ g.f1) (hnl : g.f0 ∉ way L q.f0) :
  (g.f0 ∉ way L y.f0 ∧ Ch (prt (movG L g.f0 q.f0)) (way L y.f0) y.f0) ∨
  ∃ c1, way L y.f0 = c1 ++ g.f0 :: way L g.f1 ∧ Ch (prt (movG L g.f0 q.f0)) (c1 ++ g.f0 :: way L q.f0) y.f0 ∧
   ∀ x, (x ∈ c1 ∨ x = g.f0) → x ∉ way L g.f1 ∧ x ∉ way L q.f0 := by
 obtain ⟨hcy, _⟩ := hG.way hy
 obtain ⟨hcg, _⟩ := hG.way hg
 obtain ⟨hcq, _⟩ := hG.way hq
 have hgp := (hG.2.2.2.2.2 g hg).1
 by_cases hm : g.f0 ∈ way L y.f0
 ·
  refine .inr ?_
  obtain ⟨c2, hc2⟩ := hcg.head (by omega)
  have hcp : Ch (prt L) c2 g.f1 := by
   rw [hc2] at hcg
   obtain ⟨_, _, p, hp, h1⟩ := hcg
   rw [prt_mem hG.2.2.2.2.1 hg] at hp
   cases hp
   exact h1
  obtain ⟨c1, e1, hn1⟩ := hcy.split hm hcg
  rw [hc2] at e1
  have ew : way L g.f1 = c2 := way_eq hcp
  refine ⟨c1, by rw [ew]; exact e1, ?_, fun x hx => ?_⟩
  ·
   rw [e1] at hcy
   refine hcy.prepend (fun z hz => prt_mov fun e => hn1 (e ▸ hz)) ?_
   exact ⟨rfl, by omega, q.f0, prt_mov_self (fnd_mem hG.2.2.2.2.1 hg), hcq.mov_far hnl⟩
  ·
   have hnd := hcy.nodup
   rw [e1, List.nodup_append] at hnd
   have hnd2 := List.nodup_cons.1 hnd.2.1
   rw [ew]
   constructor
   ·
    rcases hx with hx | rfl
    ·
     exact fun h => hnd.2.2 x hx x (List.mem_cons_of_mem _ h) rfl
    ·
     exact hnd2.1
   ·
    rcases hx with hx | rfl
    ·
     intro h
     obtain ⟨_, d1, d2, e3, hd⟩ := hcy.mem (x := x) (by rw [e1]; exact List.mem_append_left _ hx)
     obtain ⟨_, d3, d4, e4, hd'⟩ := hcq.mem h
     obtain rfl : d4 = d2 := by
      have := Ch.uniq hd hd'
      injection this with _ h
      exact h.symm
     have hg2 : g.f0 ∈ x :: d4 := by
      have hsp := hcy.split (x := x) (d := x :: d4) (by rw [e1]; exact List.mem_append_left _ hx) hd
      obtain ⟨c3, e5, hn3⟩ := hsp
      rw [e1] at e5
      rcases List.append_eq_append_iff.1 e5 with ⟨m, e6, e7⟩ | ⟨m, e6, e7⟩
      ·
       exact absurd (by rw [e6]; exact List.mem_append_left _ hx) hn3
      ·
       rw [e7]
       simp
     exact hnl (by rw [e4]; exact List.mem_append_right _ hg2)
    ·
     exact hnl
 ·
  exact .inl ⟨hm, hcy.mov_far hm⟩
theorem sum_add3 (F F' : S84 → Int) (A : S84 → Int) : ∀ {L : List S84}, (∀ y ∈ L, F' y = F y + A y) → (L.map F').sum = (L.map F).sum + (L.map A).sum
 | [], _ => rfl
 | a :: L, h => by
  rw [List.map_cons, List.map_cons, List.map_cons, List.sum_cons, List.sum_cons, List.sum_cons, h a List.mem_cons_self, sum_add3 F F' A fun y hy => h y (List.mem_cons_of_mem _ hy)]
  omega
theorem sum_mul (F : S84 → Int) (k : Int) : ∀ L : List S84, (L.map fun y => F y * k).sum = (L.map F).sum * k
 | [] => by simp
 | a :: L => by rw [List.map_cons, List.map_cons, List.sum_cons, List.sum_cons, sum_mul F k L, Int.add_mul]
theorem mov_f4 {L : List S84} {id p : Int} (F : Int → Int → Int) : ((movG L id p).map fun y => F y.f0 y.f4) = L.map fun y => F y.f0 y.f4 := by
 unfold movG setG
 rw [List.map_map]
 refine List.map_congr_left fun y _ => ?_
 simp only [Function.comp]
 split <;> rfl
theorem act_mov {room : Nat} {last : Int} {L : List S84} (hG : GoodF room last L) {g q : S84} (hg : g ∈ L) (hq : q ∈ L) (h0 : 0 ≤ g.f1) (hnl : g.f0 ∉ way L q.f0) (x : Int) :
  act (movG L g.f0 q.f0) x = act L x + (if x ∈ way L q.f0 then act L g.f0 else 0) - if x ∈ way L g.f1 then act L g.f0 else 0 := by
 have hk : ∀ k : Int, k = (if x ∈ way L q.f0 then (1 : Int) else 0) - (if x ∈ way L g.f1 then 1 else 0) → act (movG L g.f0 q.f0) x = act L x + act L g.f0 * k := by
  intro k hk
  unfold act
  rw [mov_f4 (fun a b => if x ∈ way (movG L g.f0 q.f0) a then b else 0)]
  rw [sum_add3 (fun y => if x ∈ way L y.f0 then y.f4 else 0) _ (fun y => (if g.f0 ∈ way L y.f0 then y.f4 else 0) * k), sum_mul (fun y => if g.f0 ∈ way L y.f0 then y.f4 else 0)]
  intro y hy
  rcases way_mov hG hg hq hy h0 hnl with ⟨h1, h2⟩ | ⟨c1, h1, h2, h3⟩
  ·
   rw [way_eq h2, if_neg h1, Int.zero_mul, Int.add_zero]
  ·
   rw [way_eq h2, h1, hk]
   have hin : g.f0 ∈ c1 ++ g.f0 :: way L g.f1 := by simp
   rw [if_pos hin]
   simp only [List.mem_append, List.mem_cons]
   by_cases hx : x ∈ c1 ∨ x = g.f0
   ·
    obtain ⟨n1, n2⟩ := h3 x hx
    rw [if_neg n1, if_neg n2, if_pos (hx.elim .inl fun h => .inr (.inl h)), if_pos (hx.elim .inl fun h => .inr (.inl h))]
    omega
   ·
    have e1 : (x ∈ c1 ∨ x = g.f0 ∨ x ∈ way L q.f0) ↔ x ∈ way L q.f0 := ⟨fun h => h.elim (fun h => absurd (.inl h) hx) fun h => h.elim (fun h => absurd (.inr h) hx) fun h => h, fun h => .inr (.inr h)⟩
    have e2 : (x ∈ c1 ∨ x = g.f0 ∨ x ∈ way L g.f1) ↔ x ∈ way L g.f1 := ⟨fun h => h.elim (fun h => absurd (.inl h) hx) fun h => h.elim (fun h => absurd (.inr h) hx) fun h => h, fun h => .inr (.inr h)⟩
    simp only [e1, e2]
    split <;> split <;> omega
 rw [hk _ rfl]
 split <;> split <;> omega
theorem kid_mov {L : List S84} (hA : Asc L) {g : S84} (hg : g ∈ L) (p x : Int) : kid (movG L g.f0 p) x = kid L x + (if p = x then 1 else 0) - if g.f1 = x then 1 else 0 := by
 have key : ∀ M : List S84, ((M.filter fun y => y.f1 == x).length : Int) = (M.map fun y => if y.f1 = x then (1 : Int) else 0).sum := by
  intro M
  induction M with
  | nil => rfl
  | cons a M ih =>
   rw [List.filter_cons, List.map_cons, List.sum_cons, ← ih]
   by_cases e : a.f1 = x
   ·
    rw [if_pos (by simp [e]), if_pos e, List.length_cons]
    omega
   ·
    rw [if_neg (by simp [e]), if_neg e]
    omega
 unfold kid
 rw [key, key]
 unfold movG
 rw [sum_setG (fun y => if y.f1 = x then (1 : Int) else 0) hA hg]
 dsimp only
 omega
theorem GoodF.mov {room : Nat} {last : Int} {L : List S84} (hG : GoodF room last L) {g q : S84} (hg : g ∈ L) (hq : q ∈ L) (h0 : 0 ≤ g.f1) (hnl : g.f0 ∉ P.way L q.f0)
  (hd : ∀ y ∈ L, g.f0 ∈ P.way L y.f0 → ((P.way L y.f0).length : Int) - (P.way L g.f0).length + (P.way L q.f0).length + 1 ≤ 8) (hf : g.f1 ≠ q.f0 → kid L q.f0 + q.f3 < 32) : GoodF room last (movG L g.f0 q.f0) := by
 have hG' := hG
 obtain ⟨e1, e2, e3, e4, e5, e6⟩ := hG
 refine ⟨e1, by unfold movG; rw [setG_len]; exact e2, e3, e4, e5.setG fun _ => rfl, fun z hz => ?_⟩
 obtain ⟨y, hy, hzy⟩ := mem_setG hz
 have hz0 : z.f0 = y.f0 ∧ z.f2 = y.f2 ∧ z.f3 = y.f3 ∧ z.f4 = y.f4 ∧ (z.f1 = y.f1 ∨ z.f1 = q.f0) := by
  rw [hzy]
  split
  ·
   exact ⟨rfl, rfl, rfl, rfl, .inr rfl⟩
  ·
   exact ⟨rfl, rfl, rfl, rfl, .inl rfl⟩
 obtain ⟨z0, z2, z3, z4, z1⟩ := hz0
 obtain ⟨g1, g2, g3, _, g5, g6, g7, g8⟩ := e6 y hy
 unfold GoodG
 rw [z0, z2, z3, z4]
 refine ⟨g1, g2, ?_, ?_, g5, g6, g7, ?_⟩
 ·
  rcases z1 with z1 | z1
  ·
   rw [z1]
   exact g3
  ·
   rw [z1]
   exact .inr (e6 q hq).1
 ·
  rcases way_mov hG' hg hq hy h0 hnl with ⟨_, h2⟩ | ⟨c1, h1, h2, _⟩
  ·
   exact ⟨_, h2, (hG'.way hy).2⟩
  ·
   refine ⟨_, h2, ?_⟩
   have h3 := hd y hy (by rw [h1]; simp)
   have hcg := (hG'.way hg).1
   obtain ⟨c2, hc2⟩ := hcg.head (by have := (e6 g hg).1; omega)
   have ew : P.way L g.f1 = c2 := by
    rw [hc2] at hcg
    obtain ⟨_, _, p, hp, h1⟩ := hcg
    rw [prt_mem e5 hg] at hp
    cases hp
    exact way_eq h1
   rw [h1, hc2, ew] at h3
   simp only [List.length_append, List.length_cons] at h3 ⊢
   omega
 ·
  rw [kid_mov e5 hg]
  by_cases e : q.f0 = y.f0
  ·
   obtain rfl := e5.inj hq hy e
   rw [if_pos rfl]
   by_cases e2 : g.f1 = q.f0
   ·
    rw [if_pos e2]
    omega
   ·
    have := hf e2
    rw [if_neg e2]
    omega
  ·
   rw [if_neg e]
   split <;> omega
def mkP (k : Nat) : Value := .pointer (some ⟨k, 0, none⟩)
theorem mkP_inj : ∀ a b : Nat, mkP a = mkP b → a = b := fun a b h => by
 unfold mkP at h
 injection h with h
 injection h with h
 injection h
def nodeV (x0 : Int) (x1 : Value) (x2 x3 x4 x5 x6 : Int) : Obj := .cells #[.int .i64 x0, x1, .int .i64 x2, .int .i64 x3, .int .i64 x4, .int .i64 x5, .int .i64 x6] 71 (0, 0)
def pOf (nb : Int → Nat) (id : Int) : Value := if id < 0 then .pointer none else .pointer (some ⟨nb id, 0, none⟩)
def NodeAt (w : World) (nb : Int → Nat) (L : List S84) (g : S84) : Prop := w.heap[nb g.f0]? = some (nodeV g.f0 (pOf nb g.f1) g.f2 g.f3 g.f4 (act L g.f0) (kid L g.f0))
def FAt (w : World) (fb tb ts m : Nat) (nb : Int → Nat) (n room : Nat) (last : Int) (L : List S84) : Prop :=
 w.heap[fb]? = some (.cells #[.pointer (some ⟨tb, 0, none⟩), .map (some m)] 62 (0, 0)) ∧ TabF w tb ts room last (L.map (·.f0)) ∧ MapAt Try.prog 3 mkP w m n (fun id => (fnd L id).map fun _ => nb id) ∧ ∀ g ∈ L, NodeAt w nb L g
def FS (fb tb ts m : Nat) (nb : Int → Nat) (L : List S84) (k : Nat) : Prop := k = fb ∨ k = tb ∨ k = ts ∨ k = m ∨ ∃ g ∈ L, k = nb g.f0
section
variable {w w' : World} {fb tb ts m : Nat} {nb : Int → Nat} {n room : Nat} {last : Int} {L : List S84}
theorem FAt.lt (h : FAt w fb tb ts m nb n room last L) {k : Nat} (hk : FS fb tb ts m nb L k) : k < w.heap.size := by
 obtain ⟨h1, h2, h3, h4⟩ := h
 rcases hk with rfl | rfl | rfl | rfl | ⟨g, hg, rfl⟩
 ·
  exact zao h1
 ·
  exact h2.lt.1
 ·
  exact h2.lt.2
 ·
  exact h3.lt
 ·
  exact zao (h4 g hg)
theorem FAt.blocks (h : FAt w fb tb ts m nb n room last L) (he : ∀ k, FS fb tb ts m nb L k → w'.heap[k]? = w.heap[k]?) : FAt w' fb tb ts m nb n room last L := by
 obtain ⟨h1, h2, ⟨D, ⟨es, clock, h3, h3'⟩, h3''⟩, h4⟩ := h
 exact ⟨(he _ (.inl rfl)).trans h1, h2.blocks (he _ (.inr (.inl rfl))) (he _ (.inr (.inr (.inl rfl)))), ⟨D, ⟨es, clock, (he _ (.inr (.inr (.inr (.inl rfl))))).trans h3, h3'⟩, h3''⟩,
  fun g hg => (he _ (.inr (.inr (.inr (.inr ⟨g, hg, rfl⟩))))).trans (h4 g hg)⟩
theorem FAt.keep (h : FAt w fb tb ts m nb n room last L) (hb : Below w.heap.size w w') : FAt w' fb tb ts m nb n room last L := h.blocks fun k hk => hb.block k (h.lt hk)
theorem FAt.facts (h : FAt w fb tb ts m nb n room last L) : w.cell? ⟨fb, 0, none⟩ = some (.pointer (some ⟨tb, 0, none⟩)) ∧ w.cell? ⟨fb, 1, none⟩ = some (.map (some m)) :=
 ⟨(za h.1 0).trans rfl, (za h.1 1).trans rfl⟩
theorem FAt.mono {n' : Nat} (h : FAt w fb tb ts m nb n room last L) (hn : n ≤ n') : FAt w fb tb ts m nb n' room last L := ⟨h.1, h.2.1, h.2.2.1.mono hn, h.2.2.2⟩
theorem FAt.inj (h : FAt w fb tb ts m nb n room last L) {g y : S84} (hg : g ∈ L) (hy : y ∈ L) (e : nb g.f0 = nb y.f0) : g.f0 = y.f0 := by
 have h1 := h.2.2.2 g hg
 have h2 := h.2.2.2 y hy
 unfold NodeAt nodeV at h1 h2
 rw [e, h2] at h1
 simp at h1
 exact h1.1.symm
theorem FAt.apart (h : FAt w fb tb ts m nb n room last L) {g : S84} (hg : g ∈ L) : nb g.f0 ≠ fb ∧ nb g.f0 ≠ tb ∧ nb g.f0 ≠ ts ∧ nb g.f0 ≠ m := by
 have h1 := h.2.2.2 g hg
 unfold NodeAt nodeV at h1
 obtain ⟨l, ⟨t1, t2, t3, t4⟩, _⟩ := h.2.1
 obtain ⟨D, ⟨es, clock, m1, _⟩, _⟩ := h.2.2.1
 refine ⟨fun e => ?_, fun e => ?_, fun e => ?_, fun e => ?_⟩
 ·
  rw [e, h.1] at h1
  simp at h1
 ·
  rw [e, t2] at h1
  simp at h1
 ·
  rw [e, t3] at h1
  simp at h1
 ·
  rw [e, m1] at h1
  simp at h1
theorem FAt.apart2 (h : FAt w fb tb ts m nb n room last L) : fb ≠ tb ∧ fb ≠ ts ∧ fb ≠ m ∧ tb ≠ m ∧ ts ≠ m := by
 have h1 := h.1
 obtain ⟨l, ⟨t1, t2, t3, t4⟩, _⟩ := h.2.1
 obtain ⟨D, ⟨es, clock, m1, _⟩, _⟩ := h.2.2.1
 refine ⟨fun e => ?_, fun e => ?_, fun e => ?_, fun e => ?_, fun e => ?_⟩
 ·
  rw [e, t2] at h1
  simp at h1
 ·
  rw [e, t3] at h1
  simp at h1
 ·
  rw [e, m1] at h1
  simp at h1
 ·
  rw [e, m1] at t2
  simp at t2
 ·
  rw [e, m1] at t3
  simp at t3
theorem FAt.path (h : FAt w fb tb ts m nb n room last L) (hA : Asc L) : ∀ {c : List Int} {id : Int}, Ch (prt L) c id → PathAt w (c.map nb) ∧ ptrO (c.map nb).head? = pOf nb id
 | [], id, hc => by
  have h0 : id < 0 := hc
  refine ⟨trivial, ?_⟩
  unfold pOf
  rw [if_pos h0]
  rfl
 | x :: c, id, hc => by
  obtain ⟨rfl, h0, p, hp, h1⟩ := hc
  obtain ⟨g, hg, rfl, rfl⟩ := prt_some hp
  obtain ⟨i1, i2⟩ := FAt.path h hA h1
  have h4 := h.2.2.2 g hg
  refine ⟨⟨⟨.int .i64 g.f0, .int .i64 g.f2, .int .i64 g.f3, .int .i64 g.f4, .int .i64 (act L g.f0), .int .i64 (kid L g.f0), by rw [i2]; exact h4⟩, i1⟩, ?_⟩
  ·
   unfold pOf
   rw [if_neg (by omega)]
   rfl
theorem FAt.live (h : FAt w fb tb ts m nb n room last L) {g : S84} (hg : g ∈ L) : Live w (nb g.f0) := ⟨_, h.2.2.2 g hg⟩
theorem run_zeroP (w : World) : (zeroValue 64).run Try.prog w = .ok (.pointer none) w := by kernel_rfl
theorem FAt.look2 (h : FAt w fb tb ts m nb n room last L) {id : Int} (wf : (Lit.int .i64 id).wf = true) :
  (∀ g, fnd L id = some g → (Instr.lookup 60 (.map (some m)) (.int .i64 id) true).run Try.prog w = .ok (.tuple #[.pointer (some ⟨nb id, 0, none⟩), .bool true]) w) ∧
  (fnd L id = none → (Instr.lookup 60 (.map (some m)) (.int .i64 id) true).run Try.prog w = .ok (.tuple #[.pointer none, .bool false]) w) := by
 obtain ⟨h1, h2⟩ := h.2.2.1.look2 (t := 60) (e := 64) (k := id) Try.underlying3 Try.underlying60 (run_zeroP w) wf
 refine ⟨fun g hg => h1 (nb id) ?_, fun hn => h2 ?_⟩
 ·
  rw [hg]
  rfl
 ·
  rw [hn]
  rfl
end
theorem wf_i64 {x : Int} (h0 : -9223372036854775808 ≤ x) (h1 : x ≤ 9223372036854775807) : (Lit.int .i64 x).wf = true := by
 have e1 : IntKind.min .i64 = -9223372036854775808 := by rfl
 have e2 : IntKind.max .i64 = 9223372036854775807 := by rfl
 show (decide (IntKind.min .i64 ≤ x) && decide (x ≤ IntKind.max .i64)) = true
 rw [e1, e2, decide_eq_true h0, decide_eq_true h1]
 rfl
theorem wf_of {room : Nat} {last : Int} {L : List S84} (hG : GoodF room last L) {g : S84} (hg : g ∈ L) : (Lit.int .i64 g.f0).wf = true := by
 obtain ⟨g1, g2, _⟩ := hG.2.2.2.2.2 g hg
 have := hG.2.2.2.1
 exact wf_i64 (by omega) (by omega)
theorem active_ok {w : World} {fb tb ts m : Nat} {nb : Int → Nat} {n room : Nat} {last : Int} {L : List S84} (h : FAt w fb tb ts m nb n room last L) (hG : GoodF room last L) {id : Int} (wf : (Lit.int .i64 id).wf = true) :
  Calls Try.prog 21 #[.pointer (some ⟨fb, 0, none⟩), .int .i64 id] w fun e w' => e = .returned (.int .i64 (if (fnd L id).isSome then act L id else 0)) ∧ Below w.heap.size w w' := by
 obtain ⟨f0, f1⟩ := h.facts
 obtain ⟨l1, l2⟩ := h.look2 wf
 cases hf : fnd L id with
 | none =>
  have l3 := l2 hf
  clear l1 l2 h hG
  go_enter Try.func21, Try.ntmps21
  go_wp2_with fail
  go_ret
  exact ⟨rfl, Below.refl _ _⟩
 | some g =>
  have l3 := l1 g hf
  obtain ⟨hg, rfl⟩ := za2 hf
  have hn := h.2.2.2 g hg
  have c5 : w.cell? ⟨nb g.f0, 5, none⟩ = some (.int .i64 (act L g.f0)) := (za hn 5).trans rfl
  clear l1 l2 h hG hn
  go_enter Try.func21, Try.ntmps21
  go_wp2_with fail
  go_ret
  exact ⟨rfl, Below.refl _ _⟩
end Go.Proofs.Ytlmjdchcgfpngaa.P
end
section
namespace Go.Proofs.Ytlmjdchcgfpngaa.P
open Go.RowKit Go.Proofs.YtlmjdchcgfpngaaW.PrintWords Go.Proofs.YtlmjdchcgfpngaaW.PrintLast Go.Proofs.YtlmjdchcgfpngaaW.PrintMore
attribute [local go_sem] zbq zbo max_two min_two zbh zbi zbp zbn
def cntF (L : List S84) (id dm da : Int) : List S84 × Int :=
 match fnd L id with
 | none => (L, 4)
 | some g => if 0 < dm ∧ kid L id + g.f3 = 32 then (L, 6) else if g.f4 + da < 0 ∨ g.f3 + dm < g.f4 + da then (L, 10) else (setG L id (fun g => ⟨g.f0, g.f1, g.f2, g.f3 + dm, g.f4 + da⟩), 0)
theorem cntF_none {L : List S84} {id dm da : Int} (h : fnd L id = none) : cntF L id dm da = (L, 4) := by
 unfold cntF
 rw [h]
theorem cntF_some {L : List S84} {id dm da : Int} {g : S84} (h : fnd L id = some g) : cntF L id dm da = if 0 < dm ∧ kid L id + g.f3 = 32 then (L, 6) else if g.f4 + da < 0 ∨ g.f3 + dm < g.f4 + da then (L, 10) else (setG L id (fun g => ⟨g.f0, g.f1, g.f2, g.f3 + dm, g.f4 + da⟩), 0) := by
 unfold cntF
 rw [h]
theorem cntF_good {room : Nat} {last : Int} {L : List S84} (hG : GoodF room last L) (id dm da : Int) (hd : dm ≤ 1) : GoodF room last (cntF L id dm da).1 := by
 cases hf : fnd L id with
 | none =>
  rw [cntF_none hf]
  exact hG
 | some g =>
  rw [cntF_some hf]
  obtain ⟨hg, rfl⟩ := za2 hf
  obtain ⟨g1, g2, g3, g4, g5, g6, g7, g8⟩ := hG.2.2.2.2.2 g hg
  split
  ·
   exact hG
  ·
   split
   ·
    exact hG
   ·
    exact hG.setG hg (fun _ => rfl) (fun _ => rfl) g5 (by dsimp only; omega) (by dsimp only; omega) (by dsimp only; omega)
section
variable {w w' : World} {fb tb ts m : Nat} {nb : Int → Nat} {n room : Nat} {last : Int} {L L' : List S84}
theorem isSome_map {α β : Type} {o o' : Option α} (h : o'.isSome = o.isSome) (b : β) : (o'.map fun _ => b) = o.map fun _ => b := by
 cases o <;> cases o' <;> simp at h ⊢
theorem FAt.rebuild (h : FAt w fb tb ts m nb n room last L) (hs : ∀ x, (fnd L' x).isSome = (fnd L x).isSome) (hid : L'.map (·.f0) = L.map (·.f0)) (he : ∀ k, k = fb ∨ k = tb ∨ k = ts ∨ k = m → w'.heap[k]? = w.heap[k]?)
  (hn : ∀ g ∈ L', NodeAt w' nb L' g) : FAt w' fb tb ts m nb n room last L' := by
 obtain ⟨h1, h2, ⟨D, ⟨es, clock, h3, h3'⟩, h3''⟩, h4⟩ := h
 refine ⟨(he _ (.inl rfl)).trans h1, ?_, ?_, hn⟩
 ·
  rw [hid]
  exact h2.blocks (he _ (.inr (.inl rfl))) (he _ (.inr (.inr (.inl rfl))))
 ·
  refine MapAt.ext (g := fun id => (fnd L id).map fun _ => nb id) ⟨D, ⟨es, clock, (he _ (.inr (.inr (.inr rfl)))).trans h3, h3'⟩, h3''⟩ fun k => ?_
  exact isSome_map (hs k) _
theorem fnd_setG_some {id : Int} {h : S84 → S84} (h0 : ∀ g, (h g).f0 = g.f0) (x : Int) : (fnd (setG L id h) x).isSome = (fnd L x).isSome := by
 rw [fnd_setG h0, Option.isSome_map]
theorem FAt.setN (h : FAt w fb tb ts m nb n room last L) (hA : Asc L) {g : S84} (hg : g ∈ L) {hh : S84 → S84} (h0 : ∀ g, (hh g).f0 = g.f0) (h1 : ∀ g, (hh g).f1 = g.f1) (h4 : (hh g).f4 = g.f4)
  (hw : w'.heap[nb g.f0]? = some (nodeV g.f0 (pOf nb g.f1) (hh g).f2 (hh g).f3 (hh g).f4 (act L g.f0) (kid L g.f0))) (he : ∀ k, k ≠ nb g.f0 → w'.heap[k]? = w.heap[k]?) : FAt w' fb tb ts m nb n room last (setG L g.f0 hh) := by
 obtain ⟨a1, a2, a3, a4⟩ := h.apart hg
 refine h.rebuild (fnd_setG_some h0) (setG_ids h0) (fun k hk => he k (by rcases hk with rfl | rfl | rfl | rfl; exact a1.symm; exact a2.symm; exact a3.symm; exact a4.symm)) fun y hy => ?_
 obtain ⟨z, hz, rfl⟩ := mem_setG hy
 unfold NodeAt
 rw [setG_f0 h0, act_setG h0 h1 hA hg, kid_setG h1, h4]
 have e0 : (if z.f0 ∈ way L g.f0 then g.f4 - g.f4 else 0) = 0 := by split <;> omega
 rw [e0, Int.add_zero]
 by_cases e : z.f0 = g.f0
 ·
  obtain rfl := hA.inj hz hg e
  rw [if_pos rfl, h1]
  exact hw
 ·
  rw [if_neg e, he _ (fun e2 => e (h.inj hz hg e2))]
  exact h.2.2.2 z hz
theorem PathAt.far {bs : List Nat} (h : PathAt w bs) {b : Nat} {x0 x1 x2 x3 x4 x5 x6 : Value} (hb : w.heap[b]? = some (.cells #[x0, x1, x2, x3, x4, x5, x6] 71 (0, 0))) {y0 y2 y3 y4 y5 y6 : Value} (hb' : w'.heap[b]? = some (.cells #[y0, x1, y2, y3, y4, y5, y6] 71 (0, 0))) (he : ∀ k, k ≠ b → w'.heap[k]? = w.heap[k]?) : PathAt w' bs := by
 induction bs with
 | nil => trivial
 | cons c r ih =>
  obtain ⟨⟨z0, z2, z3, z4, z5, z6, hz⟩, hr⟩ := h
  refine ⟨?_, ih hr⟩
  by_cases e : c = b
  ·
   subst e
   rw [hb] at hz
   simp at hz
   obtain ⟨_, e1, _⟩ := hz
   exact ⟨y0, y2, y3, y4, y5, y6, by rw [hb', e1]⟩
  ·
   exact ⟨z0, z2, z3, z4, z5, z6, (he c e).trans hz⟩
theorem mem_way (h : FAt w fb tb ts m nb n room last L) {c : List Int} {id : Int} (hc : Ch (prt L) c id) {y : S84} (hy : y ∈ L) : nb y.f0 ∈ c.map nb ↔ y.f0 ∈ c := by
 constructor
 ·
  intro hm
  obtain ⟨x, hx, e⟩ := List.mem_map.1 hm
  obtain ⟨z, hz, rfl⟩ := way_mem hc hx
  rw [← h.inj hz hy e]
  exact hx
 ·
  exact fun hm => List.mem_map.2 ⟨_, hm, rfl⟩
theorem way_nodup (h : FAt w fb tb ts m nb n room last L) {c : List Int} {id : Int} (hc : Ch (prt L) c id) : (c.map nb).Nodup := by
 refine List.Pairwise.map _ ?_ (List.Pairwise.and hc.nodup (List.pairwise_of_forall_mem_list (r := fun a b => a ∈ c ∧ b ∈ c) fun a ha b hb => ⟨ha, hb⟩))
 rintro a b ⟨hne, ha, hb⟩ e
 obtain ⟨x, hx, rfl⟩ := way_mem hc ha
 obtain ⟨y, hy, rfl⟩ := way_mem hc hb
 exact hne (h.inj hx hy e)
end
end Go.Proofs.Ytlmjdchcgfpngaa.P
end
