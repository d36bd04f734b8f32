-- Written by a program of this session (wip/tools/shake.py) out of its own texts and of the kit's printed ones; not trusted: Lean checks it.
import Derived.Test.YtlmjdchcgfpngaaZTreeMoves2
set_option maxHeartbeats 8000000
set_option maxRecDepth 100000
set_option linter.unusedVariables false
set_option linter.unusedSimpArgs false
section
namespace Go.Proofs.Ytlmjdchcgfpngaa.P
open Go.RowKit Go.Proofs.YtlmjdchcgfpngaaW.PrintWords Go.Proofs.YtlmjdchcgfpngaaW.PrintLast Go.Proofs.YtlmjdchcgfpngaaW.PrintMore
attribute [local go_sem] zbo zbq zbz zbx zbi zbg zbr zbp
def zaq.l0 : Nat → Int → Int → Int → Int → List (S84) → Option (Bool)
 | 0, _, _, _, _, _ => none
 | k + 1, x1, x2, x305000, x305001, x305002 => if x1 ≥ 0 then (if x1 = x2 then (some true) else ((zae.f k x305000 x305001 x305002 x1).bind fun t305 => (if 0 ≤ t305 then (if t305 < (x305002.length : Int) then (zaq.l0 k ((rd_T84 x305002 t305).f1) x2 x305000 x305001 x305002) else (none)) else (none)))) else (some false)
def zaq.f (k : Nat) (a0_0 : Int) (a0_1 : Int) (l0_2 : List (S84)) (a1 : Int) (a2 : Int) : Option (Bool) := zaq.l0 k a1 a2 a0_0 a0_1 l0_2
def zaq.T4 : Bool × List (List Nat × List Nat) := (true, [([], []), ([0], [0]), ([], []), ([], []), ([2, 3], [2, 3]), ([1, 4], [1, 4]), ([5], [5]), ([6], [6]), ([7, 4, 0, 1, 2, 3, 4, 5, 6, 7], [3, 7])])
def zaq.B4 : List Nat := [0, 1, 0, 0, 12, 31, 63, 127, 255]
theorem zaq.tab4 : rtab .any (opsOf Try.f58 4) = zaq.T4 := by kernel_rfl
theorem zaq.bits4 : waitsOk zaq.T4.2 zaq.B4 = true := by kernel_rfl
theorem zaq.calls (k : Nat) (a0_0 : Int) (a0_1 : Int) (A0_2 : Option Addr) (c0_2 : Nat) (l0_2 : List (S84)) (a1 : Int) (a2 : Int) (r : Bool) (w : World) (hr0_2 : Kd.C k84 w A0_2 l0_2.length l0_2) (hc0_2 : l0_2.length ≤ c0_2) (h : zaq.f k a0_0 a0_1 l0_2 a1 a2 = some r) :
  Calls Try.prog 58 #[.agg #[.int .i64 a0_0, .int .i64 a0_1, .slice A0_2 l0_2.length c0_2], .int .i64 a1, .int .i64 a2] w fun e w' => e = .returned (.bool r) ∧ Below w.heap.size w w' := by
 have hu44 := Try.underlying44
 have HR0_2 := zA hr0_2
 have HC0_2 := zA hc0_2
 clear hr0_2 hc0_2
 have HB := zA (Below.refl w.heap.size w)
 have H : (zaq.l0 k a1 a2 a0_0 a0_1 l0_2) = some r := h
 clear h
 have H' := zA H
 clear H
 go_enter Try.func58, Try.ntmps58
 go_wp2_with (first | ((with_reducible refine za7 (N := 3) rfl ?_); refine za3 ?hg (N := 3) ?hd (cs := #[.int .i64 a0_0, .int .i64 a0_1, .slice A0_2 l0_2.length c0_2]) (t := 44) ?hr ?_; (case hd => rfl); (case hg => rfl); (case hr => first | (go_simp; done) | (go_simp; rfl)); intro gb304 hg w4 hbox hb; have n0_ := zA (zab (zB HB) hb); have n1_ := zA (hbox); have n2_ := zA ((by rw [hg]; exact (zaf (zB HB)) : w.heap.size ≤ gb304)); have n3_ := zA ((by rw [hg]; exact (zaf (zB HB)) : w.heap.size ≤ gb304)); clear HB; have HB := n0_; have BK304 := n1_; have GW304 := n2_; have GE304 := n3_; clear n0_ n1_ n2_ n3_ hb hbox hg))
 go_loopg [1] k (fun kq v1 w' => ∃ (x1_1 : Int), v1 = .int .i64 x1_1 ∧ Aside0 (zaq.l0 kq x1_1 a2 a0_0 a0_1 l0_2 = some r) ∧ Aside0 (kq ≤ k) ∧ Aside0 (w'.heap[gb304]? = some (.cells #[.int .i64 a0_0, .int .i64 a0_1, (.slice A0_2 l0_2.length c0_2)] 44 (0, 0))) ∧ Aside0 (Below w.heap.size w w'))
 case atStart => exact ⟨(a1), (zF), H', ⟨Nat.le_refl _⟩, ⟨zK BK304⟩, ⟨zB HB⟩⟩
 case round =>
  clear H'
  try clear p2
  obtain ⟨x1_1, rfl, HA, HK1, BK304, HB⟩ := hrel
  cases gk with
  | zero => exact absurd HA.out (by simp [zaq.l0])
  | succ k1 =>
   have H := HA.out
   clear HA
   simp only [zaq.l0] at H
   by_cases c5 : x1_1 ≥ 0
   ·
    rw [if_pos c5] at H
    have c5b0 : decide (0 ≤ x1_1) = true := decide_eq_true c5
    clear c5
    by_cases c6 : x1_1 = a2
    ·
     rw [if_pos c6] at H
     have c6b0 : (x1_1 == a2) = true := beq_iff_eq.mpr c6
     have c6b1 : (x1_1 != a2) = false := bne_eq_false_iff_eq.mpr c6
     clear c6
     obtain rfl := Option.some.inj H
     go_wp2
     go_ret
     exact ⟨zW, zB HB⟩
    ·
     rw [if_neg c6] at H
     have c6b0 : (x1_1 == a2) = false := beq_eq_false_iff_ne.mpr c6
     have c6b1 : (x1_1 != a2) = true := bne_iff_ne.mpr c6
     replace H := zO H
     obtain ⟨t305, A70, H⟩ := H
     try dsimp only at H
     have A7 := zA A70
     clear A70
     by_cases c8 : 0 ≤ t305
     ·
      rw [if_pos c8] at H
      have c8b0 : decide (0 ≤ t305) = true := decide_eq_true c8
      clear c8
      by_cases c9 : t305 < (l0_2.length : Int)
      ·
       rw [if_pos c9] at H
       have c9b0 : decide (t305 < (l0_2.length : Int)) = true := decide_eq_true c9
       clear c9
       have H' := zA H
       clear H
       try go_wp2
       have n0_ := zA (zan BK304.out)
       have n1_ := zA (zbf HB.out)
       clear BK304 HB
       have BK304 := n0_
       have HB := n1_
       clear n0_ n1_
       have p306 : 0 ≤ (t305 : Int) := of_decide_eq_true (by first | (with_reducible assumption) | assumption)
       have q306 : t305 < (l0_2.length : Int) := of_decide_eq_true (by first | (with_reducible assumption) | assumption)
       obtain ⟨ad306, e306, hx306_0, hx306_1, hx306_2, hx306_3, hx306_4⟩ := at_T84 HR0_2.out t305 p306 q306
       have hw306_4 := hx306_4
       have hw306_3 := hx306_3
       have hw306_2 := hx306_2
       have hw306_1 := hx306_1
       have hw306_0 := hx306_0
       cases e306
       replace hx306_0 := (HB.out.cell (World.block_lt_of_cell? w _ hx306_0)).trans hx306_0
       replace hx306_1 := (HB.out.cell (World.block_lt_of_cell? w _ hx306_1)).trans hx306_1
       replace hx306_2 := (HB.out.cell (World.block_lt_of_cell? w _ hx306_2)).trans hx306_2
       replace hx306_3 := (HB.out.cell (World.block_lt_of_cell? w _ hx306_3)).trans hx306_3
       replace hx306_4 := (HB.out.cell (World.block_lt_of_cell? w _ hx306_4)).trans hx306_4
       replace p306 := eq_true p306
       replace q306 := eq_true q306
       refine start_ (n := 9) (S := fun w' => w'.cell? ⟨gb304, 0, none⟩ = some (.int .i64 a0_0) ∧ w'.cell? ⟨gb304, 1, none⟩ = some (.int .i64 a0_1) ∧ w'.cell? ⟨gb304, 2, none⟩ = some (.slice (some ad306) l0_2.length c0_2) ∧ w'.cell? (ad306.add ((t305).toNat * 5)) = some (.int .i64 ((rd_T84 l0_2 t305).f0)) ∧ w'.cell? ⟨(ad306.add ((t305).toNat * 5)).block, (ad306.add ((t305).toNat * 5)).off + 1, none⟩ = some (.int .i64 ((rd_T84 l0_2 t305).f1)) ∧ w'.cell? ⟨(ad306.add ((t305).toNat * 5)).block, (ad306.add ((t305).toNat * 5)).off + 2, none⟩ = some (.int .i64 ((rd_T84 l0_2 t305).f2)) ∧ w'.cell? ⟨(ad306.add ((t305).toNat * 5)).block, (ad306.add ((t305).toNat * 5)).off + 3, none⟩ = some (.int .i64 ((rd_T84 l0_2 t305).f3)) ∧ w'.cell? ⟨(ad306.add ((t305).toNat * 5)).block, (ad306.add ((t305).toNat * 5)).off + 4, none⟩ = some (.int .i64 ((rd_T84 l0_2 t305).f4))) (ds := []) #[false, false, false, false, false, false, false, false, false] (by kernel_rfl) rfl rfl ⟨(za BK304.out 0).trans rfl, (za BK304.out 1).trans rfl, (za BK304.out 2).trans rfl, ((HB.out.cell (World.block_lt_of_cell? w _ hw306_0)).trans hw306_0), ((HB.out.cell (World.block_lt_of_cell? w _ hw306_1)).trans hw306_1), ((HB.out.cell (World.block_lt_of_cell? w _ hw306_2)).trans hw306_2), ((HB.out.cell (World.block_lt_of_cell? w _ hw306_3)).trans hw306_3), ((HB.out.cell (World.block_lt_of_cell? w _ hw306_4)).trans hw306_4)⟩ (fun hHeld => ?_); refine zbj zaq.tab4 zaq.bits4 (fun HT_ HW_ => ?_)
       generalize wr.drew = w10 at BK304 HB hx306_0 hx306_1 hx306_2 hx306_3 hx306_4 hHeld ⊢
       refine pure_ (i := 0) (N := some 12) (v := ?_) (a' := ?_) #[true, false, false, false, false, false, false, false, false] rfl rfl (zah HT_.out (by kernel_rfl)) (fun _ _ _ h => h) (Or.inl ⟨by rfl, ?_⟩) ?_ ?_
       rotate_left
       ·
        intro w'
        go_simp
        with_reducible rfl
       rotate_left
       ·
        simp only [Act.put, zs1, zs2, zs3, i64_w, i32_w]
        rfl
       refine pure_ (i := 3) (N := some 15) (v := ?_) (a' := ?_) #[true, false, false, true, false, false, false, false, false] rfl rfl (zah HT_.out (by kernel_rfl)) (fun _ _ _ h => h) (Or.inl ⟨by rfl, ?_⟩) ?_ ?_
       rotate_left
       ·
        intro w'
        go_simp
        with_reducible rfl
       rotate_left
       ·
        simp only [Act.put, zs1, zs2, zs3, i64_w, i32_w]
        rfl
       refine take_ (i := 1) (N := some 13) (v := ?_) (a' := ?_) #[true, true, false, true, false, false, false, false, false] rfl rfl (zat HT_.out HW_.out (by kernel_rfl)) (fun _ _ _ h => h) (Or.inl ⟨by rfl, ?_⟩) hHeld ?_ ?_
       rotate_left
       ·
        rintro w' ⟨s0, s1, s2, s3, s4, s5, s6, s7⟩
        go_simp
        with_reducible rfl
       rotate_left
       ·
        simp only [Act.put, zs1, zs2, zs3, i64_w, i32_w]
        rfl
       refine take_ (i := 2) (N := some 14) (v := ?_) (a' := ?_) #[true, true, true, true, false, false, false, false, false] rfl rfl (zat HT_.out HW_.out (by kernel_rfl)) (fun _ _ _ h => h) (Or.inl ⟨by rfl, ?_⟩) hHeld ?_ ?_
       rotate_left
       ·
        rintro w' ⟨s0, s1, s2, s3, s4, s5, s6, s7⟩
        go_simp
        with_reducible rfl
       rotate_left
       ·
        simp only [Act.put, zs1, zs2, zs3, i64_w, i32_w]
        rfl
       refine one_ (i := 4) (N := some 16) #[true, true, true, true, true, false, false, false, false] rfl rfl (zbb HT_.out (by kernel_rfl)) (by decide) (fun K hK => ?_)
       refine goes_ Try.func55 (by kernel_rfl) rfl #[.agg #[.int .i64 a0_0, .int .i64 a0_1, .slice (some ad306) l0_2.length c0_2], .int .i64 x1_1] (by rfl) rfl rfl (zE) ?_
       with_reducible refine (zae.calls k1 a0_0 a0_1 _ _ l0_2 x1_1 t305 _ ?side1 ?side2 A7.out).mono ?_
       (case side1 => exact zJ (Kd.za0 HR0_2.out HB.out))
       (case side2 => exact HC0_2.out)
       rintro e w11 ⟨rfl, hb⟩
       refine ⟨_, rfl, ?_⟩
       have n0_ := zA (zam (g := gb304) (o := .cells #[.int .i64 a0_0, .int .i64 a0_1, .slice (some ad306) l0_2.length c0_2] 44 (0, 0)) (zK BK304) hb)
       have n1_ := zA (zab (zB HB) hb)
       clear BK304 HB
       have BK304 := n0_
       have HB := n1_
       clear n0_ n1_
       (try clear hb)
       (try clear hb2)
       (try clear hk)
       (try clear hi)
       refine hK.out _ _ ⟨(za BK304.out 0).trans rfl, (za BK304.out 1).trans rfl, (za BK304.out 2).trans rfl, ((HB.out.cell (World.block_lt_of_cell? w _ hw306_0)).trans hw306_0), ((HB.out.cell (World.block_lt_of_cell? w _ hw306_1)).trans hw306_1), ((HB.out.cell (World.block_lt_of_cell? w _ hw306_2)).trans hw306_2), ((HB.out.cell (World.block_lt_of_cell? w _ hw306_3)).trans hw306_3), ((HB.out.cell (World.block_lt_of_cell? w _ hw306_4)).trans hw306_4)⟩ (fun hHeld => ?_)
       clear hK K
       refine norm_ (a' := ?_) ?_ ?_
       rotate_left
       ·
        show Act.put _ (some 16) _ = _
        simp only [Act.put, zs1, zs2, zs3, i64_w, i32_w]
        rfl
       refine pure_ (i := 5) (N := some 17) (v := ?_) (a' := ?_) #[true, true, true, true, true, true, false, false, false] rfl rfl (zah HT_.out (by kernel_rfl)) (fun _ _ _ h => h) (Or.inl ⟨by rfl, ?_⟩) ?_ ?_
       rotate_left
       ·
        intro w'
        go_simp
        with_reducible rfl
       rotate_left
       ·
        simp only [Act.put, zs1, zs2, zs3, i64_w, i32_w]
        rfl
       refine pure_ (i := 6) (N := some 18) (v := ?_) (a' := ?_) #[true, true, true, true, true, true, true, false, false] rfl rfl (zah HT_.out (by kernel_rfl)) (fun _ _ _ h => h) (Or.inl ⟨by rfl, ?_⟩) ?_ ?_
       rotate_left
       ·
        intro w'
        go_simp
        with_reducible rfl
       rotate_left
       ·
        simp only [Act.put, zs1, zs2, zs3, i64_w, i32_w]
        rfl
       refine take_ (i := 7) (N := some 19) (v := ?_) (a' := ?_) #[true, true, true, true, true, true, true, true, false] rfl rfl (zat HT_.out HW_.out (by kernel_rfl)) (fun _ _ _ h => h) (Or.inl ⟨by rfl, ?_⟩) hHeld ?_ ?_
       rotate_left
       ·
        rintro w' ⟨s0, s1, s2, s3, s4, s5, s6, s7⟩
        go_simp
        with_reducible rfl
       rotate_left
       ·
        simp only [Act.put, zs1, zs2, zs3, i64_w, i32_w]
        rfl
       refine pure_ (i := 8) (N := some 1) (v := ?_) (a' := ?_) #[true, true, true, true, true, true, true, true, true] rfl rfl (zah HT_.out (by kernel_rfl)) (fun _ _ _ h => h) (Or.inl ⟨by rfl, ?_⟩) ?_ ?_
       rotate_left
       ·
        intro w'
        go_simp
        with_reducible rfl
       rotate_left
       ·
        simp only [Act.put, zs1, zs2, zs3, i64_w, i32_w]
        rfl
       refine done_ (zby HT_.out (by kernel_rfl)) ?_
       try go_wp2
       go_roundg k1
       case measure => have := HK1.out; omega
       case rel => exact ⟨((rd_T84 l0_2 t305).f1), (zF), H', ⟨by have := HK1.out; omega⟩, ⟨zK BK304⟩, ⟨zB HB⟩⟩
      ·
       rw [if_neg c9] at H
       exact absurd H (by simp)
     ·
      rw [if_neg c8] at H
      exact absurd H (by simp)
   ·
    rw [if_neg c5] at H
    have c5b0 : decide (0 ≤ x1_1) = false := decide_eq_false c5
    clear c5
    obtain rfl := Option.some.inj H
    go_wp2
    go_ret
    exact ⟨zW, zB HB⟩
def zak.l0 : Nat → Int → Int → Int → Int → Int → Int → List (S84) → Option (Int)
 | 0, _, _, _, _, _, _, _ => none
 | k + 1, x1, x5, x9, x10, x372000, x372001, x372002 => if x10 < x9 then ((zae.f k x372000 x372001 x372002 x1).bind fun t372 => (if t372 ≥ 0 then (if 0 ≤ x10 then (if x10 < (x372002.length : Int) then ((zaq.f k x372000 x372001 x372002 ((rd_T84 x372002 x10).f0) x1).bind fun t374 => (if t374 = true then (zak.l0 k x1 (wrap64 (x5 + ((rd_T84 x372002 x10).f4))) x9 (wrap64 (x10 + 1)) x372000 x372001 x372002) else (zak.l0 k x1 x5 x9 (wrap64 (x10 + 1)) x372000 x372001 x372002))) else (none)) else (none)) else (zak.l0 k x1 x5 x9 (wrap64 (x10 + 1)) x372000 x372001 x372002))) else (some x5)
def zak.f (k : Nat) (a0_0 : Int) (a0_1 : Int) (l0_2 : List (S84)) (a1 : Int) : Option (Int) := zak.l0 k a1 0 (l0_2.length : Int) 0 a0_0 a0_1 l0_2
def zak.T5 : Bool × List (List Nat × List Nat) := (true, [([], []), ([], []), ([0, 1], [0, 1]), ([2], [2]), ([3, 2], [3]), ([4], [4]), ([4], [4]), ([6, 4], [4, 6]), ([4], [4]), ([7, 8, 4], [4, 7, 8]), ([9, 4], [4, 9]), ([10, 4], [4, 10]), ([4], [4]), ([5, 11, 12, 4, 4], [4, 5, 11, 12]), ([4, 13], [4, 13])])
def zak.B5 : List Nat := [0, 0, 3, 7, 15, 31, 31, 95, 31, 479, 991, 2015, 31, 8191, 16383]
theorem zak.tab5 : rtab .any (opsOf Try.f47 5) = zak.T5 := by kernel_rfl
theorem zak.bits5 : waitsOk zak.T5.2 zak.B5 = true := by kernel_rfl
theorem zak.calls (k : Nat) (a0_0 : Int) (a0_1 : Int) (A0_2 : Option Addr) (c0_2 : Nat) (l0_2 : List (S84)) (a1 : Int) (r : Int) (w : World) (hr0_2 : Kd.C k84 w A0_2 l0_2.length l0_2) (hc0_2 : l0_2.length ≤ c0_2) (h : zak.f k a0_0 a0_1 l0_2 a1 = some r) :
  Calls Try.prog 47 #[.agg #[.int .i64 a0_0, .int .i64 a0_1, .slice A0_2 l0_2.length c0_2], .int .i64 a1] w fun e w' => e = .returned (.int .i64 r) ∧ Below w.heap.size w w' := by
 have hu44 := Try.underlying44
 have HR0_2 := zA hr0_2
 have HC0_2 := zA hc0_2
 clear hr0_2 hc0_2
 have HB := zA (Below.refl w.heap.size w)
 have H : (zak.l0 k a1 0 (l0_2.length : Int) 0 a0_0 a0_1 l0_2) = some r := h
 clear h
 have H' := zA H
 clear H
 go_enter Try.func47, Try.ntmps47
 go_wp2_with (first | ((with_reducible refine za7 (N := 2) rfl ?_); refine za3 ?hg (N := 2) ?hd (cs := #[.int .i64 a0_0, .int .i64 a0_1, .slice A0_2 l0_2.length c0_2]) (t := 44) ?hr ?_; (case hd => rfl); (case hg => rfl); (case hr => first | (go_simp; done) | (go_simp; rfl)); intro gb371 hg w3 hbox hb; have n0_ := zA (zab (zB HB) hb); have n1_ := zA (hbox); have n2_ := zA ((by rw [hg]; exact (zaf (zB HB)) : w.heap.size ≤ gb371)); have n3_ := zA ((by rw [hg]; exact (zaf (zB HB)) : w.heap.size ≤ gb371)); clear HB; have HB := n0_; have BK371 := n1_; have GW371 := n2_; have GE371 := n3_; clear n0_ n1_ n2_ n3_ hb hbox hg; have hcz4_0 : w3.cell? ⟨gb371, 0, none⟩ = some (.int .i64 a0_0) := (za BK371.out 0).trans rfl; have hcz4_1 : w3.cell? ⟨gb371, 1, none⟩ = some (.int .i64 a0_1) := (za BK371.out 1).trans rfl; have hcz4_2 : w3.cell? ⟨gb371, 2, none⟩ = some (.slice A0_2 l0_2.length c0_2) := (za BK371.out 2).trans rfl; have hfz4_0 := zaa BK371.out 0; have hfz4_1 := zaa BK371.out 1; have hfz4_2 := zaa BK371.out 2))
 go_loopg [5, 10] k (fun kq v5 v10 w' => ∃ (x5_1 : Int) (x10_1 : Int), v5 = .int .i64 x5_1 ∧ v10 = .int .i64 x10_1 ∧ Aside0 (zak.l0 kq a1 x5_1 (l0_2.length : Int) x10_1 a0_0 a0_1 l0_2 = some r) ∧ Aside0 (kq ≤ k) ∧ Aside0 (w'.heap[gb371]? = some (.cells #[.int .i64 a0_0, .int .i64 a0_1, (.slice A0_2 l0_2.length c0_2)] 44 (0, 0))) ∧ Aside0 (Below w.heap.size w w'))
 case atStart => exact ⟨(0), (0), (zF), (zF), H', ⟨Nat.le_refl _⟩, ⟨zK BK371⟩, ⟨zB HB⟩⟩
 case round =>
  clear H'
  try clear p2
  try clear c4
  try clear hcz4_0
  try clear hcz4_1
  try clear hcz4_2
  try clear hfz4_0
  try clear hfz4_1
  try clear hfz4_2
  obtain ⟨x5_1, x10_1, rfl, rfl, HA, HK1, BK371, HB⟩ := hrel
  cases gk with
  | zero => exact absurd HA.out (by simp [zak.l0])
  | succ k1 =>
   have H := HA.out
   clear HA
   simp only [zak.l0] at H
   by_cases c5 : x10_1 < (l0_2.length : Int)
   ·
    rw [if_pos c5] at H
    have c5b0 : decide (x10_1 < (l0_2.length : Int)) = true := decide_eq_true c5
    clear c5
    replace H := zO H
    obtain ⟨t372, A60, H⟩ := H
    try dsimp only at H
    have A6 := zA A60
    clear A60
    by_cases c7 : t372 ≥ 0
    ·
     rw [if_pos c7] at H
     have c7b0 : decide (0 ≤ t372) = true := decide_eq_true c7
     clear c7
     by_cases c8 : 0 ≤ x10_1
     ·
      rw [if_pos c8] at H
      have c8b0 : decide (0 ≤ x10_1) = true := decide_eq_true c8
      clear c8
      by_cases c9 : x10_1 < (l0_2.length : Int)
      ·
       rw [if_pos c9] at H
       have c9b0 : decide (x10_1 < (l0_2.length : Int)) = true := decide_eq_true c9
       clear c9
       replace H := zO H
       obtain ⟨t374, A100, H⟩ := H
       try dsimp only at H
       have A10 := zA A100
       clear A100
       by_cases c11 : t374 = true
       ·
        subst c11
        rw [if_pos rfl] at H
        have H' := zA H
        clear H
        try go_wp2
        have n0_ := zA (zan BK371.out)
        have n1_ := zA (zbf HB.out)
        clear BK371 HB
        have BK371 := n0_
        have HB := n1_
        clear n0_ n1_
        have p373 : 0 ≤ (x10_1 : Int) := of_decide_eq_true (by first | (with_reducible assumption) | assumption)
        have q373 : x10_1 < (l0_2.length : Int) := of_decide_eq_true (by first | (with_reducible assumption) | assumption)
        obtain ⟨ad373, e373, hx373_0, hx373_1, hx373_2, hx373_3, hx373_4⟩ := at_T84 HR0_2.out x10_1 p373 q373
        have hw373_4 := hx373_4
        have hw373_3 := hx373_3
        have hw373_2 := hx373_2
        have hw373_1 := hx373_1
        have hw373_0 := hx373_0
        cases e373
        replace hx373_0 := (HB.out.cell (World.block_lt_of_cell? w _ hx373_0)).trans hx373_0
        replace hx373_1 := (HB.out.cell (World.block_lt_of_cell? w _ hx373_1)).trans hx373_1
        replace hx373_2 := (HB.out.cell (World.block_lt_of_cell? w _ hx373_2)).trans hx373_2
        replace hx373_3 := (HB.out.cell (World.block_lt_of_cell? w _ hx373_3)).trans hx373_3
        replace hx373_4 := (HB.out.cell (World.block_lt_of_cell? w _ hx373_4)).trans hx373_4
        replace p373 := eq_true p373
        replace q373 := eq_true q373
        refine start_ (n := 15) (S := fun w' => w'.cell? ⟨gb371, 0, none⟩ = some (.int .i64 a0_0) ∧ w'.cell? ⟨gb371, 1, none⟩ = some (.int .i64 a0_1) ∧ w'.cell? ⟨gb371, 2, none⟩ = some (.slice (some ad373) l0_2.length c0_2) ∧ w'.cell? (ad373.add ((x10_1).toNat * 5)) = some (.int .i64 ((rd_T84 l0_2 x10_1).f0)) ∧ w'.cell? ⟨(ad373.add ((x10_1).toNat * 5)).block, (ad373.add ((x10_1).toNat * 5)).off + 1, none⟩ = some (.int .i64 ((rd_T84 l0_2 x10_1).f1)) ∧ w'.cell? ⟨(ad373.add ((x10_1).toNat * 5)).block, (ad373.add ((x10_1).toNat * 5)).off + 2, none⟩ = some (.int .i64 ((rd_T84 l0_2 x10_1).f2)) ∧ w'.cell? ⟨(ad373.add ((x10_1).toNat * 5)).block, (ad373.add ((x10_1).toNat * 5)).off + 3, none⟩ = some (.int .i64 ((rd_T84 l0_2 x10_1).f3)) ∧ w'.cell? ⟨(ad373.add ((x10_1).toNat * 5)).block, (ad373.add ((x10_1).toNat * 5)).off + 4, none⟩ = some (.int .i64 ((rd_T84 l0_2 x10_1).f4))) (ds := []) #[false, false, false, false, false, false, false, false, false, false, false, false, false, false, false] (by kernel_rfl) rfl rfl ⟨(za BK371.out 0).trans rfl, (za BK371.out 1).trans rfl, (za BK371.out 2).trans rfl, ((HB.out.cell (World.block_lt_of_cell? w _ hw373_0)).trans hw373_0), ((HB.out.cell (World.block_lt_of_cell? w _ hw373_1)).trans hw373_1), ((HB.out.cell (World.block_lt_of_cell? w _ hw373_2)).trans hw373_2), ((HB.out.cell (World.block_lt_of_cell? w _ hw373_3)).trans hw373_3), ((HB.out.cell (World.block_lt_of_cell? w _ hw373_4)).trans hw373_4)⟩ (fun hHeld => ?_); refine zbj zak.tab5 zak.bits5 (fun HT_ HW_ => ?_)
        generalize wr.drew = w12 at BK371 HB hx373_0 hx373_1 hx373_2 hx373_3 hx373_4 hHeld ⊢
        refine pure_ (i := 1) (N := some 14) (v := ?_) (a' := ?_) #[false, true, false, false, false, false, false, false, false, false, false, false, false, false, false] rfl rfl (zah HT_.out (by kernel_rfl)) (fun _ _ _ h => h) (Or.inl ⟨by rfl, ?_⟩) ?_ ?_
        rotate_left
        ·
         intro w'
         go_simp
         with_reducible rfl
        rotate_left
        ·
         simp only [Act.put, zs1, zs2, zs3, i64_w, i32_w]
         rfl
        refine take_ (i := 0) (N := some 13) (v := ?_) (a' := ?_) #[true, true, false, false, false, false, false, false, false, false, false, false, false, false, false] rfl rfl (zat HT_.out HW_.out (by kernel_rfl)) (fun _ _ _ h => h) (Or.inl ⟨by rfl, ?_⟩) hHeld ?_ ?_
        rotate_left
        ·
         rintro w' ⟨s0, s1, s2, s3, s4, s5, s6, s7⟩
         go_simp
         with_reducible rfl
        rotate_left
        ·
         simp only [Act.put, zs1, zs2, zs3, i64_w, i32_w]
         rfl
        refine one_ (i := 2) (N := some 15) #[true, true, true, false, false, false, false, false, false, false, false, false, false, false, false] rfl rfl (zbb HT_.out (by kernel_rfl)) (by decide) (fun K hK => ?_)
        refine goes_ Try.func55 (by kernel_rfl) rfl #[.agg #[.int .i64 a0_0, .int .i64 a0_1, .slice (some ad373) l0_2.length c0_2], .int .i64 a1] (by rfl) rfl rfl (zE) ?_
        with_reducible refine (zae.calls k1 a0_0 a0_1 _ _ l0_2 a1 t372 _ ?side1 ?side2 A6.out).mono ?_
        (case side1 => exact zJ (Kd.za0 HR0_2.out HB.out))
        (case side2 => exact HC0_2.out)
        rintro e w13 ⟨rfl, hb⟩
        refine ⟨_, rfl, ?_⟩
        have n0_ := zA (zam (g := gb371) (o := .cells #[.int .i64 a0_0, .int .i64 a0_1, .slice (some ad373) l0_2.length c0_2] 44 (0, 0)) (zK BK371) hb)
        have n1_ := zA (zab (zB HB) hb)
        clear BK371 HB
        have BK371 := n0_
        have HB := n1_
        clear n0_ n1_
        (try clear hb)
        (try clear hb2)
        (try clear hk)
        (try clear hi)
        refine hK.out _ _ ⟨(za BK371.out 0).trans rfl, (za BK371.out 1).trans rfl, (za BK371.out 2).trans rfl, ((HB.out.cell (World.block_lt_of_cell? w _ hw373_0)).trans hw373_0), ((HB.out.cell (World.block_lt_of_cell? w _ hw373_1)).trans hw373_1), ((HB.out.cell (World.block_lt_of_cell? w _ hw373_2)).trans hw373_2), ((HB.out.cell (World.block_lt_of_cell? w _ hw373_3)).trans hw373_3), ((HB.out.cell (World.block_lt_of_cell? w _ hw373_4)).trans hw373_4)⟩ (fun hHeld => ?_)
        clear hK K
        refine norm_ (a' := ?_) ?_ ?_
        rotate_left
        ·
         show Act.put _ (some 15) _ = _
         simp only [Act.put, zs1, zs2, zs3, i64_w, i32_w]
         rfl
        refine pure_ (i := 3) (N := some 16) (v := ?_) (a' := ?_) #[true, true, true, true, false, false, false, false, false, false, false, false, false, false, false] rfl rfl (zah HT_.out (by kernel_rfl)) (fun _ _ _ h => h) (Or.inl ⟨by rfl, ?_⟩) ?_ ?_
        rotate_left
        ·
         intro w'
         go_simp
         with_reducible rfl
        rotate_left
        ·
         simp only [Act.put, zs1, zs2, zs3, i64_w, i32_w]
         rfl
        refine pure_ (i := 4) (N := some 17) (v := ?_) (a' := ?_) #[true, true, true, true, true, false, false, false, false, false, false, false, false, false, false] rfl rfl (zah HT_.out (by kernel_rfl)) (fun _ _ _ h => h) (Or.inl ⟨by rfl, ?_⟩) ?_ ?_
        rotate_left
        ·
         intro w'
         go_simp
         with_reducible rfl
        rotate_left
        ·
         simp only [Act.put, zs1, zs2, zs3, i64_w, i32_w]
         rfl
        refine pure_ (i := 6) (N := some 19) (v := ?_) (a' := ?_) #[true, true, true, true, true, false, true, false, false, false, false, false, false, false, false] rfl rfl (zah HT_.out (by kernel_rfl)) (fun _ _ _ h => h) (Or.inl ⟨by rfl, ?_⟩) ?_ ?_
        rotate_left
        ·
         intro w'
         go_simp
         with_reducible rfl
        rotate_left
        ·
         simp only [Act.put, zs1, zs2, zs3, i64_w, i32_w]
         rfl
        refine pure_ (i := 8) (N := some 21) (v := ?_) (a' := ?_) #[true, true, true, true, true, false, true, false, true, false, false, false, false, false, false] rfl rfl (zah HT_.out (by kernel_rfl)) (fun _ _ _ h => h) (Or.inl ⟨by rfl, ?_⟩) ?_ ?_
        rotate_left
        ·
         intro w'
         go_simp
         with_reducible rfl
        rotate_left
        ·
         simp only [Act.put, zs1, zs2, zs3, i64_w, i32_w]
         rfl
        refine pure_ (i := 12) (N := some 25) (v := ?_) (a' := ?_) #[true, true, true, true, true, false, true, false, true, false, false, false, true, false, false] rfl rfl (zah HT_.out (by kernel_rfl)) (fun _ _ _ h => h) (Or.inl ⟨by rfl, ?_⟩) ?_ ?_
        rotate_left
        ·
         intro w'
         go_simp
         with_reducible rfl
        rotate_left
        ·
         simp only [Act.put, zs1, zs2, zs3, i64_w, i32_w]
         rfl
        refine take_ (i := 5) (N := some 18) (v := ?_) (a' := ?_) #[true, true, true, true, true, true, true, false, true, false, false, false, true, false, false] rfl rfl (zat HT_.out HW_.out (by kernel_rfl)) (fun _ _ _ h => h) (Or.inl ⟨by rfl, ?_⟩) hHeld ?_ ?_
        rotate_left
        ·
         rintro w' ⟨s0, s1, s2, s3, s4, s5, s6, s7⟩
         go_simp
         with_reducible rfl
        rotate_left
        ·
         simp only [Act.put, zs1, zs2, zs3, i64_w, i32_w]
         rfl
        refine take_ (i := 7) (N := some 20) (v := ?_) (a' := ?_) #[true, true, true, true, true, true, true, true, true, false, false, false, true, false, false] rfl rfl (zat HT_.out HW_.out (by kernel_rfl)) (fun _ _ _ h => h) (Or.inl ⟨by rfl, ?_⟩) hHeld ?_ ?_
        rotate_left
        ·
         rintro w' ⟨s0, s1, s2, s3, s4, s5, s6, s7⟩
         go_simp
         with_reducible rfl
        rotate_left
        ·
         simp only [Act.put, zs1, zs2, zs3, i64_w, i32_w]
         rfl
        refine pure_ (i := 9) (N := some 22) (v := ?_) (a' := ?_) #[true, true, true, true, true, true, true, true, true, true, false, false, true, false, false] rfl rfl (zah HT_.out (by kernel_rfl)) (fun _ _ _ h => h) (Or.inl ⟨by rfl, ?_⟩) ?_ ?_
        rotate_left
        ·
         intro w'
         go_simp
         with_reducible rfl
        rotate_left
        ·
         simp only [Act.put, zs1, zs2, zs3, i64_w, i32_w]
         rfl
        refine pure_ (i := 10) (N := some 23) (v := ?_) (a' := ?_) #[true, true, true, true, true, true, true, true, true, true, true, false, true, false, false] rfl rfl (zah HT_.out (by kernel_rfl)) (fun _ _ _ h => h) (Or.inl ⟨by rfl, ?_⟩) ?_ ?_
        rotate_left
        ·
         intro w'
         go_simp
         with_reducible rfl
        rotate_left
        ·
         simp only [Act.put, zs1, zs2, zs3, i64_w, i32_w]
         rfl
        refine take_ (i := 11) (N := some 24) (v := ?_) (a' := ?_) #[true, true, true, true, true, true, true, true, true, true, true, true, true, false, false] rfl rfl (zat HT_.out HW_.out (by kernel_rfl)) (fun _ _ _ h => h) (Or.inl ⟨by rfl, ?_⟩) hHeld ?_ ?_
        rotate_left
        ·
         rintro w' ⟨s0, s1, s2, s3, s4, s5, s6, s7⟩
         go_simp
         with_reducible rfl
        rotate_left
        ·
         simp only [Act.put, zs1, zs2, zs3, i64_w, i32_w]
         rfl
        refine one_ (i := 13) (N := some 26) #[true, true, true, true, true, true, true, true, true, true, true, true, true, true, false] rfl rfl (zbb HT_.out (by kernel_rfl)) (by decide) (fun K hK => ?_)
        refine goes_ Try.func58 (by kernel_rfl) rfl #[.agg #[.int .i64 a0_0, .int .i64 a0_1, .slice (some ad373) l0_2.length c0_2], .int .i64 ((rd_T84 l0_2 x10_1).f0), .int .i64 a1] (by rfl) rfl rfl (zE) ?_
        with_reducible refine (zaq.calls k1 a0_0 a0_1 _ _ l0_2 ((rd_T84 l0_2 x10_1).f0) a1 true _ ?side1 ?side2 A10.out).mono ?_
        (case side1 => exact zJ (Kd.za0 HR0_2.out HB.out))
        (case side2 => exact HC0_2.out)
        rintro e w14 ⟨rfl, hb⟩
        refine ⟨_, rfl, ?_⟩
        have n0_ := zA (zam (g := gb371) (o := .cells #[.int .i64 a0_0, .int .i64 a0_1, .slice (some ad373) l0_2.length c0_2] 44 (0, 0)) (zK BK371) hb)
        have n1_ := zA (zab (zB HB) hb)
        clear BK371 HB
        have BK371 := n0_
        have HB := n1_
        clear n0_ n1_
        (try clear hb)
        (try clear hb2)
        (try clear hk)
        (try clear hi)
        refine hK.out _ _ ⟨(za BK371.out 0).trans rfl, (za BK371.out 1).trans rfl, (za BK371.out 2).trans rfl, ((HB.out.cell (World.block_lt_of_cell? w _ hw373_0)).trans hw373_0), ((HB.out.cell (World.block_lt_of_cell? w _ hw373_1)).trans hw373_1), ((HB.out.cell (World.block_lt_of_cell? w _ hw373_2)).trans hw373_2), ((HB.out.cell (World.block_lt_of_cell? w _ hw373_3)).trans hw373_3), ((HB.out.cell (World.block_lt_of_cell? w _ hw373_4)).trans hw373_4)⟩ (fun hHeld => ?_)
        clear hK K
        refine norm_ (a' := ?_) ?_ ?_
        rotate_left
        ·
         show Act.put _ (some 26) _ = _
         simp only [Act.put, zs1, zs2, zs3, i64_w, i32_w]
         rfl
        refine pure_ (i := 14) (N := some 27) (v := ?_) (a' := ?_) #[true, true, true, true, true, true, true, true, true, true, true, true, true, true, true] rfl rfl (zah HT_.out (by kernel_rfl)) (fun _ _ _ h => h) (Or.inl ⟨by rfl, ?_⟩) ?_ ?_
        rotate_left
        ·
         intro w'
         go_simp
         with_reducible rfl
        rotate_left
        ·
         simp only [Act.put, zs1, zs2, zs3, i64_w, i32_w]
         rfl
        refine done_ (zby HT_.out (by kernel_rfl)) ?_
        have hcz15_0 : w14.cell? ⟨gb371, 0, none⟩ = some (.int .i64 a0_0) := (za BK371.out 0).trans rfl
        have hcz15_1 : w14.cell? ⟨gb371, 1, none⟩ = some (.int .i64 a0_1) := (za BK371.out 1).trans rfl
        have hcz15_2 : w14.cell? ⟨gb371, 2, none⟩ = some (.slice (some ad373) l0_2.length c0_2) := (za BK371.out 2).trans rfl
        have hfz15_0 := zaa BK371.out 0
        have hfz15_1 := zaa BK371.out 1
        have hfz15_2 := zaa BK371.out 2
        have p375 : 0 ≤ (x10_1 : Int) := of_decide_eq_true (by first | (with_reducible assumption) | assumption)
        have q375 : x10_1 < (l0_2.length : Int) := of_decide_eq_true (by first | (with_reducible assumption) | assumption)
        obtain ⟨ad375, e375, hx375_0, hx375_1, hx375_2, hx375_3, hx375_4⟩ := at_T84 HR0_2.out x10_1 p375 q375
        obtain rfl : ad373 = ad375 := (by injection e375)
        replace hx375_0 := (HB.out.cell (World.block_lt_of_cell? w _ hx375_0)).trans hx375_0
        replace hx375_1 := (HB.out.cell (World.block_lt_of_cell? w _ hx375_1)).trans hx375_1
        replace hx375_2 := (HB.out.cell (World.block_lt_of_cell? w _ hx375_2)).trans hx375_2
        replace hx375_3 := (HB.out.cell (World.block_lt_of_cell? w _ hx375_3)).trans hx375_3
        replace hx375_4 := (HB.out.cell (World.block_lt_of_cell? w _ hx375_4)).trans hx375_4
        replace p375 := eq_true p375
        replace q375 := eq_true q375
        try go_wp2
        go_roundg k1
        case measure => have := HK1.out; omega
        case rel => exact ⟨(wrap64 (x5_1 + ((rd_T84 l0_2 x10_1).f4))), (wrap64 (x10_1 + 1)), (zF), (zF), H', ⟨by have := HK1.out; omega⟩, ⟨zK BK371⟩, ⟨zB HB⟩⟩
       ·
        replace c11 := Bool.eq_false_iff.mpr c11
        subst c11
        rw [if_neg (show ¬ (false = true) by decide)] at H
        have H' := zA H
        clear H
        try go_wp2
        have n0_ := zA (zan BK371.out)
        have n1_ := zA (zbf HB.out)
        clear BK371 HB
        have BK371 := n0_
        have HB := n1_
        clear n0_ n1_
        have p373 : 0 ≤ (x10_1 : Int) := of_decide_eq_true (by first | (with_reducible assumption) | assumption)
        have q373 : x10_1 < (l0_2.length : Int) := of_decide_eq_true (by first | (with_reducible assumption) | assumption)
        obtain ⟨ad373, e373, hx373_0, hx373_1, hx373_2, hx373_3, hx373_4⟩ := at_T84 HR0_2.out x10_1 p373 q373
        have hw373_4 := hx373_4
        have hw373_3 := hx373_3
        have hw373_2 := hx373_2
        have hw373_1 := hx373_1
        have hw373_0 := hx373_0
        cases e373
        replace hx373_0 := (HB.out.cell (World.block_lt_of_cell? w _ hx373_0)).trans hx373_0
        replace hx373_1 := (HB.out.cell (World.block_lt_of_cell? w _ hx373_1)).trans hx373_1
        replace hx373_2 := (HB.out.cell (World.block_lt_of_cell? w _ hx373_2)).trans hx373_2
        replace hx373_3 := (HB.out.cell (World.block_lt_of_cell? w _ hx373_3)).trans hx373_3
        replace hx373_4 := (HB.out.cell (World.block_lt_of_cell? w _ hx373_4)).trans hx373_4
        replace p373 := eq_true p373
        replace q373 := eq_true q373
        refine start_ (n := 15) (S := fun w' => w'.cell? ⟨gb371, 0, none⟩ = some (.int .i64 a0_0) ∧ w'.cell? ⟨gb371, 1, none⟩ = some (.int .i64 a0_1) ∧ w'.cell? ⟨gb371, 2, none⟩ = some (.slice (some ad373) l0_2.length c0_2) ∧ w'.cell? (ad373.add ((x10_1).toNat * 5)) = some (.int .i64 ((rd_T84 l0_2 x10_1).f0)) ∧ w'.cell? ⟨(ad373.add ((x10_1).toNat * 5)).block, (ad373.add ((x10_1).toNat * 5)).off + 1, none⟩ = some (.int .i64 ((rd_T84 l0_2 x10_1).f1)) ∧ w'.cell? ⟨(ad373.add ((x10_1).toNat * 5)).block, (ad373.add ((x10_1).toNat * 5)).off + 2, none⟩ = some (.int .i64 ((rd_T84 l0_2 x10_1).f2)) ∧ w'.cell? ⟨(ad373.add ((x10_1).toNat * 5)).block, (ad373.add ((x10_1).toNat * 5)).off + 3, none⟩ = some (.int .i64 ((rd_T84 l0_2 x10_1).f3)) ∧ w'.cell? ⟨(ad373.add ((x10_1).toNat * 5)).block, (ad373.add ((x10_1).toNat * 5)).off + 4, none⟩ = some (.int .i64 ((rd_T84 l0_2 x10_1).f4))) (ds := []) #[false, false, false, false, false, false, false, false, false, false, false, false, false, false, false] (by kernel_rfl) rfl rfl ⟨(za BK371.out 0).trans rfl, (za BK371.out 1).trans rfl, (za BK371.out 2).trans rfl, ((HB.out.cell (World.block_lt_of_cell? w _ hw373_0)).trans hw373_0), ((HB.out.cell (World.block_lt_of_cell? w _ hw373_1)).trans hw373_1), ((HB.out.cell (World.block_lt_of_cell? w _ hw373_2)).trans hw373_2), ((HB.out.cell (World.block_lt_of_cell? w _ hw373_3)).trans hw373_3), ((HB.out.cell (World.block_lt_of_cell? w _ hw373_4)).trans hw373_4)⟩ (fun hHeld => ?_); refine zbj zak.tab5 zak.bits5 (fun HT_ HW_ => ?_)
        generalize wr.drew = w16 at BK371 HB hx373_0 hx373_1 hx373_2 hx373_3 hx373_4 hHeld ⊢
        refine pure_ (i := 1) (N := some 14) (v := ?_) (a' := ?_) #[false, true, false, false, false, false, false, false, false, false, false, false, false, false, false] rfl rfl (zah HT_.out (by kernel_rfl)) (fun _ _ _ h => h) (Or.inl ⟨by rfl, ?_⟩) ?_ ?_
        rotate_left
        ·
         intro w'
         go_simp
         with_reducible rfl
        rotate_left
        ·
         simp only [Act.put, zs1, zs2, zs3, i64_w, i32_w]
         rfl
        refine take_ (i := 0) (N := some 13) (v := ?_) (a' := ?_) #[true, true, false, false, false, false, false, false, false, false, false, false, false, false, false] rfl rfl (zat HT_.out HW_.out (by kernel_rfl)) (fun _ _ _ h => h) (Or.inl ⟨by rfl, ?_⟩) hHeld ?_ ?_
        rotate_left
        ·
         rintro w' ⟨s0, s1, s2, s3, s4, s5, s6, s7⟩
         go_simp
         with_reducible rfl
        rotate_left
        ·
         simp only [Act.put, zs1, zs2, zs3, i64_w, i32_w]
         rfl
        refine one_ (i := 2) (N := some 15) #[true, true, true, false, false, false, false, false, false, false, false, false, false, false, false] rfl rfl (zbb HT_.out (by kernel_rfl)) (by decide) (fun K hK => ?_)
        refine goes_ Try.func55 (by kernel_rfl) rfl #[.agg #[.int .i64 a0_0, .int .i64 a0_1, .slice (some ad373) l0_2.length c0_2], .int .i64 a1] (by rfl) rfl rfl (zE) ?_
        with_reducible refine (zae.calls k1 a0_0 a0_1 _ _ l0_2 a1 t372 _ ?side1 ?side2 A6.out).mono ?_
        (case side1 => exact zJ (Kd.za0 HR0_2.out HB.out))
        (case side2 => exact HC0_2.out)
        rintro e w17 ⟨rfl, hb⟩
        refine ⟨_, rfl, ?_⟩
        have n0_ := zA (zam (g := gb371) (o := .cells #[.int .i64 a0_0, .int .i64 a0_1, .slice (some ad373) l0_2.length c0_2] 44 (0, 0)) (zK BK371) hb)
        have n1_ := zA (zab (zB HB) hb)
        clear BK371 HB
        have BK371 := n0_
        have HB := n1_
        clear n0_ n1_
        (try clear hb)
        (try clear hb2)
        (try clear hk)
        (try clear hi)
        refine hK.out _ _ ⟨(za BK371.out 0).trans rfl, (za BK371.out 1).trans rfl, (za BK371.out 2).trans rfl, ((HB.out.cell (World.block_lt_of_cell? w _ hw373_0)).trans hw373_0), ((HB.out.cell (World.block_lt_of_cell? w _ hw373_1)).trans hw373_1), ((HB.out.cell (World.block_lt_of_cell? w _ hw373_2)).trans hw373_2), ((HB.out.cell (World.block_lt_of_cell? w _ hw373_3)).trans hw373_3), ((HB.out.cell (World.block_lt_of_cell? w _ hw373_4)).trans hw373_4)⟩ (fun hHeld => ?_)
        clear hK K
        refine norm_ (a' := ?_) ?_ ?_
        rotate_left
        ·
         show Act.put _ (some 15) _ = _
         simp only [Act.put, zs1, zs2, zs3, i64_w, i32_w]
         rfl
        refine pure_ (i := 3) (N := some 16) (v := ?_) (a' := ?_) #[true, true, true, true, false, false, false, false, false, false, false, false, false, false, false] rfl rfl (zah HT_.out (by kernel_rfl)) (fun _ _ _ h => h) (Or.inl ⟨by rfl, ?_⟩) ?_ ?_
        rotate_left
        ·
         intro w'
         go_simp
         with_reducible rfl
        rotate_left
        ·
         simp only [Act.put, zs1, zs2, zs3, i64_w, i32_w]
         rfl
        refine pure_ (i := 4) (N := some 17) (v := ?_) (a' := ?_) #[true, true, true, true, true, false, false, false, false, false, false, false, false, false, false] rfl rfl (zah HT_.out (by kernel_rfl)) (fun _ _ _ h => h) (Or.inl ⟨by rfl, ?_⟩) ?_ ?_
        rotate_left
        ·
         intro w'
         go_simp
         with_reducible rfl
        rotate_left
        ·
         simp only [Act.put, zs1, zs2, zs3, i64_w, i32_w]
         rfl
        refine pure_ (i := 6) (N := some 19) (v := ?_) (a' := ?_) #[true, true, true, true, true, false, true, false, false, false, false, false, false, false, false] rfl rfl (zah HT_.out (by kernel_rfl)) (fun _ _ _ h => h) (Or.inl ⟨by rfl, ?_⟩) ?_ ?_
        rotate_left
        ·
         intro w'
         go_simp
         with_reducible rfl
        rotate_left
        ·
         simp only [Act.put, zs1, zs2, zs3, i64_w, i32_w]
         rfl
        refine pure_ (i := 8) (N := some 21) (v := ?_) (a' := ?_) #[true, true, true, true, true, false, true, false, true, false, false, false, false, false, false] rfl rfl (zah HT_.out (by kernel_rfl)) (fun _ _ _ h => h) (Or.inl ⟨by rfl, ?_⟩) ?_ ?_
        rotate_left
        ·
         intro w'
         go_simp
         with_reducible rfl
        rotate_left
        ·
         simp only [Act.put, zs1, zs2, zs3, i64_w, i32_w]
         rfl
        refine pure_ (i := 12) (N := some 25) (v := ?_) (a' := ?_) #[true, true, true, true, true, false, true, false, true, false, false, false, true, false, false] rfl rfl (zah HT_.out (by kernel_rfl)) (fun _ _ _ h => h) (Or.inl ⟨by rfl, ?_⟩) ?_ ?_
        rotate_left
        ·
         intro w'
         go_simp
         with_reducible rfl
        rotate_left
        ·
         simp only [Act.put, zs1, zs2, zs3, i64_w, i32_w]
         rfl
        refine take_ (i := 5) (N := some 18) (v := ?_) (a' := ?_) #[true, true, true, true, true, true, true, false, true, false, false, false, true, false, false] rfl rfl (zat HT_.out HW_.out (by kernel_rfl)) (fun _ _ _ h => h) (Or.inl ⟨by rfl, ?_⟩) hHeld ?_ ?_
        rotate_left
        ·
         rintro w' ⟨s0, s1, s2, s3, s4, s5, s6, s7⟩
         go_simp
         with_reducible rfl
        rotate_left
        ·
         simp only [Act.put, zs1, zs2, zs3, i64_w, i32_w]
         rfl
        refine take_ (i := 7) (N := some 20) (v := ?_) (a' := ?_) #[true, true, true, true, true, true, true, true, true, false, false, false, true, false, false] rfl rfl (zat HT_.out HW_.out (by kernel_rfl)) (fun _ _ _ h => h) (Or.inl ⟨by rfl, ?_⟩) hHeld ?_ ?_
        rotate_left
        ·
         rintro w' ⟨s0, s1, s2, s3, s4, s5, s6, s7⟩
         go_simp
         with_reducible rfl
        rotate_left
        ·
         simp only [Act.put, zs1, zs2, zs3, i64_w, i32_w]
         rfl
        refine pure_ (i := 9) (N := some 22) (v := ?_) (a' := ?_) #[true, true, true, true, true, true, true, true, true, true, false, false, true, false, false] rfl rfl (zah HT_.out (by kernel_rfl)) (fun _ _ _ h => h) (Or.inl ⟨by rfl, ?_⟩) ?_ ?_
        rotate_left
        ·
         intro w'
         go_simp
         with_reducible rfl
        rotate_left
        ·
         simp only [Act.put, zs1, zs2, zs3, i64_w, i32_w]
         rfl
        refine pure_ (i := 10) (N := some 23) (v := ?_) (a' := ?_) #[true, true, true, true, true, true, true, true, true, true, true, false, true, false, false] rfl rfl (zah HT_.out (by kernel_rfl)) (fun _ _ _ h => h) (Or.inl ⟨by rfl, ?_⟩) ?_ ?_
        rotate_left
        ·
         intro w'
         go_simp
         with_reducible rfl
        rotate_left
        ·
         simp only [Act.put, zs1, zs2, zs3, i64_w, i32_w]
         rfl
        refine take_ (i := 11) (N := some 24) (v := ?_) (a' := ?_) #[true, true, true, true, true, true, true, true, true, true, true, true, true, false, false] rfl rfl (zat HT_.out HW_.out (by kernel_rfl)) (fun _ _ _ h => h) (Or.inl ⟨by rfl, ?_⟩) hHeld ?_ ?_
        rotate_left
        ·
         rintro w' ⟨s0, s1, s2, s3, s4, s5, s6, s7⟩
         go_simp
         with_reducible rfl
        rotate_left
        ·
         simp only [Act.put, zs1, zs2, zs3, i64_w, i32_w]
         rfl
        refine one_ (i := 13) (N := some 26) #[true, true, true, true, true, true, true, true, true, true, true, true, true, true, false] rfl rfl (zbb HT_.out (by kernel_rfl)) (by decide) (fun K hK => ?_)
        refine goes_ Try.func58 (by kernel_rfl) rfl #[.agg #[.int .i64 a0_0, .int .i64 a0_1, .slice (some ad373) l0_2.length c0_2], .int .i64 ((rd_T84 l0_2 x10_1).f0), .int .i64 a1] (by rfl) rfl rfl (zE) ?_
        with_reducible refine (zaq.calls k1 a0_0 a0_1 _ _ l0_2 ((rd_T84 l0_2 x10_1).f0) a1 false _ ?side1 ?side2 A10.out).mono ?_
        (case side1 => exact zJ (Kd.za0 HR0_2.out HB.out))
        (case side2 => exact HC0_2.out)
        rintro e w18 ⟨rfl, hb⟩
        refine ⟨_, rfl, ?_⟩
        have n0_ := zA (zam (g := gb371) (o := .cells #[.int .i64 a0_0, .int .i64 a0_1, .slice (some ad373) l0_2.length c0_2] 44 (0, 0)) (zK BK371) hb)
        have n1_ := zA (zab (zB HB) hb)
        clear BK371 HB
        have BK371 := n0_
        have HB := n1_
        clear n0_ n1_
        (try clear hb)
        (try clear hb2)
        (try clear hk)
        (try clear hi)
        refine hK.out _ _ ⟨(za BK371.out 0).trans rfl, (za BK371.out 1).trans rfl, (za BK371.out 2).trans rfl, ((HB.out.cell (World.block_lt_of_cell? w _ hw373_0)).trans hw373_0), ((HB.out.cell (World.block_lt_of_cell? w _ hw373_1)).trans hw373_1), ((HB.out.cell (World.block_lt_of_cell? w _ hw373_2)).trans hw373_2), ((HB.out.cell (World.block_lt_of_cell? w _ hw373_3)).trans hw373_3), ((HB.out.cell (World.block_lt_of_cell? w _ hw373_4)).trans hw373_4)⟩ (fun hHeld => ?_)
        clear hK K
        refine norm_ (a' := ?_) ?_ ?_
        rotate_left
        ·
         show Act.put _ (some 26) _ = _
         simp only [Act.put, zs1, zs2, zs3, i64_w, i32_w]
         rfl
        refine pure_ (i := 14) (N := some 27) (v := ?_) (a' := ?_) #[true, true, true, true, true, true, true, true, true, true, true, true, true, true, true] rfl rfl (zah HT_.out (by kernel_rfl)) (fun _ _ _ h => h) (Or.inl ⟨by rfl, ?_⟩) ?_ ?_
        rotate_left
        ·
         intro w'
         go_simp
         with_reducible rfl
        rotate_left
        ·
         simp only [Act.put, zs1, zs2, zs3, i64_w, i32_w]
         rfl
        refine done_ (zby HT_.out (by kernel_rfl)) ?_
        try go_wp2
        go_roundg k1
        case measure => have := HK1.out; omega
        case rel => exact ⟨(x5_1), (wrap64 (x10_1 + 1)), (zF), (zF), H', ⟨by have := HK1.out; omega⟩, ⟨zK BK371⟩, ⟨zB HB⟩⟩
      ·
       rw [if_neg c9] at H
       exact absurd H (by simp)
     ·
      rw [if_neg c8] at H
      exact absurd H (by simp)
    ·
     rw [if_neg c7] at H
     have c7b0 : decide (0 ≤ t372) = false := decide_eq_false c7
     clear c7
     have H' := zA H
     clear H
     try go_wp2
     have n0_ := zA (zan BK371.out)
     have n1_ := zA (zbf HB.out)
     clear BK371 HB
     have BK371 := n0_
     have HB := n1_
     clear n0_ n1_
     refine start_ (n := 15) (S := fun w' => w'.cell? ⟨gb371, 0, none⟩ = some (.int .i64 a0_0) ∧ w'.cell? ⟨gb371, 1, none⟩ = some (.int .i64 a0_1) ∧ w'.cell? ⟨gb371, 2, none⟩ = some (.slice A0_2 l0_2.length c0_2)) (ds := []) #[false, false, false, false, false, false, false, false, false, false, false, false, false, false, false] (by kernel_rfl) rfl rfl ⟨(za BK371.out 0).trans rfl, (za BK371.out 1).trans rfl, (za BK371.out 2).trans rfl⟩ (fun hHeld => ?_); refine zbj zak.tab5 zak.bits5 (fun HT_ HW_ => ?_)
     generalize wr.drew = w19 at BK371 HB hHeld ⊢
     refine pure_ (i := 1) (N := some 14) (v := ?_) (a' := ?_) #[false, true, false, false, false, false, false, false, false, false, false, false, false, false, false] rfl rfl (zah HT_.out (by kernel_rfl)) (fun _ _ _ h => h) (Or.inl ⟨by rfl, ?_⟩) ?_ ?_
     rotate_left
     ·
      intro w'
      go_simp
      with_reducible rfl
     rotate_left
     ·
      simp only [Act.put, zs1, zs2, zs3, i64_w, i32_w]
      rfl
     refine take_ (i := 0) (N := some 13) (v := ?_) (a' := ?_) #[true, true, false, false, false, false, false, false, false, false, false, false, false, false, false] rfl rfl (zat HT_.out HW_.out (by kernel_rfl)) (fun _ _ _ h => h) (Or.inl ⟨by rfl, ?_⟩) hHeld ?_ ?_
     rotate_left
     ·
      rintro w' ⟨s0, s1, s2⟩
      go_simp
      with_reducible rfl
     rotate_left
     ·
      simp only [Act.put, zs1, zs2, zs3, i64_w, i32_w]
      rfl
     refine one_ (i := 2) (N := some 15) #[true, true, true, false, false, false, false, false, false, false, false, false, false, false, false] rfl rfl (zbb HT_.out (by kernel_rfl)) (by decide) (fun K hK => ?_)
     refine goes_ Try.func55 (by kernel_rfl) rfl #[.agg #[.int .i64 a0_0, .int .i64 a0_1, .slice A0_2 l0_2.length c0_2], .int .i64 a1] (by rfl) rfl rfl (zE) ?_
     with_reducible refine (zae.calls k1 a0_0 a0_1 _ _ l0_2 a1 t372 _ ?side1 ?side2 A6.out).mono ?_
     (case side1 => exact zJ (Kd.za0 HR0_2.out HB.out))
     (case side2 => exact HC0_2.out)
     rintro e w20 ⟨rfl, hb⟩
     refine ⟨_, rfl, ?_⟩
     have n0_ := zA (zam (g := gb371) (o := .cells #[.int .i64 a0_0, .int .i64 a0_1, .slice A0_2 l0_2.length c0_2] 44 (0, 0)) (zK BK371) hb)
     have n1_ := zA (zab (zB HB) hb)
     clear BK371 HB
     have BK371 := n0_
     have HB := n1_
     clear n0_ n1_
     (try clear hb)
     (try clear hb2)
     (try clear hk)
     (try clear hi)
     refine hK.out _ _ ⟨(za BK371.out 0).trans rfl, (za BK371.out 1).trans rfl, (za BK371.out 2).trans rfl⟩ (fun hHeld => ?_)
     clear hK K
     refine norm_ (a' := ?_) ?_ ?_
     rotate_left
     ·
      show Act.put _ (some 15) _ = _
      simp only [Act.put, zs1, zs2, zs3, i64_w, i32_w]
      rfl
     refine pure_ (i := 3) (N := some 16) (v := ?_) (a' := ?_) #[true, true, true, true, false, false, false, false, false, false, false, false, false, false, false] rfl rfl (zah HT_.out (by kernel_rfl)) (fun _ _ _ h => h) (Or.inl ⟨by rfl, ?_⟩) ?_ ?_
     rotate_left
     ·
      intro w'
      go_simp
      with_reducible rfl
     rotate_left
     ·
      simp only [Act.put, zs1, zs2, zs3, i64_w, i32_w]
      rfl
     refine pure_ (i := 4) (N := some 17) (v := ?_) (a' := ?_) #[true, true, true, true, true, false, false, false, false, false, false, false, false, false, false] rfl rfl (zah HT_.out (by kernel_rfl)) (fun _ _ _ h => h) (Or.inl ⟨by rfl, ?_⟩) ?_ ?_
     rotate_left
     ·
      intro w'
      go_simp
      with_reducible rfl
     rotate_left
     ·
      simp only [Act.put, zs1, zs2, zs3, i64_w, i32_w]
      rfl
     refine pure_ (i := 5) (N := some 18) (v := undef) (a' := ?_) #[true, true, true, true, true, true, false, false, false, false, false, false, false, false, false] rfl rfl (zah HT_.out (by kernel_rfl)) (fun _ _ _ h => h) (Or.inr ⟨by rfl, rfl⟩) ?_ ?_
     rotate_left
     ·
      simp only [Act.put, zs1, zs2, zs3, i64_w, i32_w]
      rfl
     refine pure_ (i := 6) (N := some 19) (v := undef) (a' := ?_) #[true, true, true, true, true, true, true, false, false, false, false, false, false, false, false] rfl rfl (zah HT_.out (by kernel_rfl)) (fun _ _ _ h => h) (Or.inr ⟨by rfl, rfl⟩) ?_ ?_
     rotate_left
     ·
      simp only [Act.put, zs1, zs2, zs3, i64_w, i32_w]
      rfl
     refine pure_ (i := 7) (N := some 20) (v := undef) (a' := ?_) #[true, true, true, true, true, true, true, true, false, false, false, false, false, false, false] rfl rfl (zah HT_.out (by kernel_rfl)) (fun _ _ _ h => h) (Or.inr ⟨by rfl, rfl⟩) ?_ ?_
     rotate_left
     ·
      simp only [Act.put, zs1, zs2, zs3, i64_w, i32_w]
      rfl
     refine pure_ (i := 8) (N := some 21) (v := undef) (a' := ?_) #[true, true, true, true, true, true, true, true, true, false, false, false, false, false, false] rfl rfl (zah HT_.out (by kernel_rfl)) (fun _ _ _ h => h) (Or.inr ⟨by rfl, rfl⟩) ?_ ?_
     rotate_left
     ·
      simp only [Act.put, zs1, zs2, zs3, i64_w, i32_w]
      rfl
     refine pure_ (i := 9) (N := some 22) (v := undef) (a' := ?_) #[true, true, true, true, true, true, true, true, true, true, false, false, false, false, false] rfl rfl (zah HT_.out (by kernel_rfl)) (fun _ _ _ h => h) (Or.inr ⟨by rfl, rfl⟩) ?_ ?_
     rotate_left
     ·
      simp only [Act.put, zs1, zs2, zs3, i64_w, i32_w]
      rfl
     refine pure_ (i := 10) (N := some 23) (v := undef) (a' := ?_) #[true, true, true, true, true, true, true, true, true, true, true, false, false, false, false] rfl rfl (zah HT_.out (by kernel_rfl)) (fun _ _ _ h => h) (Or.inr ⟨by rfl, rfl⟩) ?_ ?_
     rotate_left
     ·
      simp only [Act.put, zs1, zs2, zs3, i64_w, i32_w]
      rfl
     refine pure_ (i := 11) (N := some 24) (v := undef) (a' := ?_) #[true, true, true, true, true, true, true, true, true, true, true, true, false, false, false] rfl rfl (zah HT_.out (by kernel_rfl)) (fun _ _ _ h => h) (Or.inr ⟨by rfl, rfl⟩) ?_ ?_
     rotate_left
     ·
      simp only [Act.put, zs1, zs2, zs3, i64_w, i32_w]
      rfl
     refine pure_ (i := 12) (N := some 25) (v := undef) (a' := ?_) #[true, true, true, true, true, true, true, true, true, true, true, true, true, false, false] rfl rfl (zah HT_.out (by kernel_rfl)) (fun _ _ _ h => h) (Or.inr ⟨by rfl, rfl⟩) ?_ ?_
     rotate_left
     ·
      simp only [Act.put, zs1, zs2, zs3, i64_w, i32_w]
      rfl
     refine pure_ (i := 13) (N := some 26) (v := undef) (a' := ?_) #[true, true, true, true, true, true, true, true, true, true, true, true, true, true, false] rfl rfl (zah HT_.out (by kernel_rfl)) (fun _ _ _ h => h) (Or.inr ⟨by rfl, rfl⟩) ?_ ?_
     rotate_left
     ·
      simp only [Act.put, zs1, zs2, zs3, i64_w, i32_w]
      rfl
     refine pure_ (i := 14) (N := some 27) (v := ?_) (a' := ?_) #[true, true, true, true, true, true, true, true, true, true, true, true, true, true, true] rfl rfl (zah HT_.out (by kernel_rfl)) (fun _ _ _ h => h) (Or.inl ⟨by rfl, ?_⟩) ?_ ?_
     rotate_left
     ·
      intro w'
      go_simp
      with_reducible rfl
     rotate_left
     ·
      simp only [Act.put, zs1, zs2, zs3, i64_w, i32_w]
      rfl
     refine done_ (zby HT_.out (by kernel_rfl)) ?_
     try go_wp2
     go_roundg k1
     case measure => have := HK1.out; omega
     case rel => exact ⟨(x5_1), (wrap64 (x10_1 + 1)), (zF), (zF), H', ⟨by have := HK1.out; omega⟩, ⟨zK BK371⟩, ⟨zB HB⟩⟩
   ·
    rw [if_neg c5] at H
    have c5b0 : decide (x10_1 < (l0_2.length : Int)) = false := decide_eq_false c5
    clear c5
    obtain rfl := Option.some.inj H
    go_wp2
    go_ret
    exact ⟨zW, zB HB⟩
def za9.f (a0_0 : Int) (a0_1 : Int) (l0_2 : List (S84)) (a1 : Int) (a2_0 : Int) (a2_1 : Int) (a2_2 : Int) (a2_3 : Int) (a2_4 : Int) : Option (Int × Int × (List (S84))) := (some (([] : List (S84)) : List (S84))).bind fun y310 => (if y310.length + l0_2.length < 3518437208883 then ((some (y310 ++ l0_2 : List (S84))).bind fun y313 => (if 0 ≤ a1 then (if a1 < (y313.length : Int) then (some (a0_0, a0_1, (y313.set (a1 : Int).toNat (⟨a2_0, a2_1, a2_2, a2_3, a2_4⟩ : S84)))) else (none)) else (none))) else (none))
theorem za9.calls (a0_0 : Int) (a0_1 : Int) (A0_2 : Option Addr) (c0_2 : Nat) (l0_2 : List (S84)) (a1 : Int) (a2_0 : Int) (a2_1 : Int) (a2_2 : Int) (a2_3 : Int) (a2_4 : Int) (r1 : Int) (r2 : Int) (r3 : List (S84)) (w : World) (hr0_2 : Kd.C k84 w A0_2 l0_2.length l0_2) (hc0_2 : l0_2.length ≤ c0_2) (h : za9.f a0_0 a0_1 l0_2 a1 a2_0 a2_1 a2_2 a2_3 a2_4 = some (r1, r2, r3)) :
  Calls Try.prog 59 #[.agg #[.int .i64 a0_0, .int .i64 a0_1, .slice A0_2 l0_2.length c0_2], .int .i64 a1, .agg #[.int .i64 a2_0, .int .i64 a2_1, .int .i64 a2_2, .int .i64 a2_3, .int .i64 a2_4]] w fun e w' => ∃ v2_ : Value, e = .returned (.agg #[.int .i64 r1, .int .i64 r2, v2_]) ∧ Kd.R k84 84 w' w.heap.size (fun _ => True) v2_ r3 ∧ Below w.heap.size w w' := by
 have hu44 := Try.underlying44
 have hu84 := Try.underlying84
 have HR0_2 := zA hr0_2
 have HC0_2 := zA hc0_2
 clear hr0_2 hc0_2
 have HB := zA (Below.refl w.heap.size w)
 have H : ((some (([] : List (S84)) : List (S84))).bind fun y310 => (if y310.length + l0_2.length < 3518437208883 then ((some (y310 ++ l0_2 : List (S84))).bind fun y313 => (if 0 ≤ a1 then (if a1 < (y313.length : Int) then (some (a0_0, a0_1, (y313.set (a1 : Int).toNat (⟨a2_0, a2_1, a2_2, a2_3, a2_4⟩ : S84)))) else (none)) else (none))) else (none))) = some (r1, r2, r3) := h
 clear h
 obtain ⟨y310, hy310⟩ : ∃ y_ : List (S84), y_ = (([] : List (S84))) := ⟨_, rfl⟩
 replace H : (if y310.length + l0_2.length < 3518437208883 then ((some (y310 ++ l0_2 : List (S84))).bind fun y313 => (if 0 ≤ a1 then (if a1 < (y313.length : Int) then (some (a0_0, a0_1, (y313.set (a1 : Int).toNat (⟨a2_0, a2_1, a2_2, a2_3, a2_4⟩ : S84)))) else (none)) else (none))) else (none)) = some (r1, r2, r3) := by first | (rw [hy310]; with_reducible exact H) | (have H2_ := (Option.bind_some _ _).symm.trans H; rw [hy310]; with_reducible exact H2_) | (have H2_ := (Option.bind_some _ _).symm.trans H; with_reducible exact H2_) | with_reducible exact H | (rw [hy310]; exact H) | exact H
 have Ny310 := zA hy310
 clear hy310
 by_cases c4 : y310.length + l0_2.length < 3518437208883
 ·
  rw [if_pos c4] at H
  have LMc4 := zA c4
  clear c4
  obtain ⟨y313, hy313⟩ : ∃ y_ : List (S84), y_ = (y310 ++ l0_2) := ⟨_, rfl⟩
  replace H : (if 0 ≤ a1 then (if a1 < (y313.length : Int) then (some (a0_0, a0_1, (y313.set (a1 : Int).toNat (⟨a2_0, a2_1, a2_2, a2_3, a2_4⟩ : S84)))) else (none)) else (none)) = some (r1, r2, r3) := by first | (rw [hy313]; with_reducible exact H) | (have H2_ := (Option.bind_some _ _).symm.trans H; rw [hy313]; with_reducible exact H2_) | (have H2_ := (Option.bind_some _ _).symm.trans H; with_reducible exact H2_) | with_reducible exact H | (rw [hy313]; exact H) | exact H
  have Ny313 := zA hy313
  clear hy313
  by_cases c5 : 0 ≤ a1
  ·
   rw [if_pos c5] at H
   have c5b0 : decide (0 ≤ a1) = true := decide_eq_true c5
   clear c5
   by_cases c6 : a1 < (y313.length : Int)
   ·
    rw [if_pos c6] at H
    have c6b0 : decide (a1 < (y313.length : Int)) = true := decide_eq_true c6
    clear c6
    obtain ⟨y316, hy316⟩ : ∃ y_ : List (S84), y_ = (y313.set (a1 : Int).toNat (⟨a2_0, a2_1, a2_2, a2_3, a2_4⟩ : S84)) := ⟨_, rfl⟩
    replace H : (some (a0_0, a0_1, y316)) = some (r1, r2, r3) := by first | (rw [hy316]; with_reducible exact H) | (have H2_ := (Option.bind_some _ _).symm.trans H; rw [hy316]; with_reducible exact H2_) | (have H2_ := (Option.bind_some _ _).symm.trans H; with_reducible exact H2_) | with_reducible exact H | (rw [hy316]; exact H) | exact H
    have Ny316 := zA hy316
    clear hy316
    simp only [Option.some.injEq, Prod.mk.injEq] at H
    obtain ⟨rfl, rfl, rfl⟩ := H
    go_enter Try.func59, Try.ntmps59
    go_wp2_with (first | ((with_reducible refine za7 (N := 3) rfl ?_); refine za3 ?hg (N := 3) ?hd (cs := #[.int .i64 a0_0, .int .i64 a0_1, .slice A0_2 l0_2.length c0_2]) (t := 44) ?hr ?_; (case hd => rfl); (case hg => rfl); (case hr => first | (go_simp; done) | (go_simp; rfl)); intro gb307 hg w8 hbox hb; have n0_ := zA (zab (zB HB) hb); have n1_ := zA (hbox); have n2_ := zA ((by rw [hg]; exact (zaf (zB HB)) : w.heap.size ≤ gb307)); have n3_ := zA ((by rw [hg]; exact (zaf (zB HB)) : w.heap.size ≤ gb307)); clear HB; have HB := n0_; have BK307 := n1_; have GW307 := n2_; have GE307 := n3_; clear n0_ n1_ n2_ n3_ hb hbox hg) | ((with_reducible refine za7 (N := 5) rfl ?_); refine za3 ?hg (N := 5) ?hd (cs := #[.int .i64 a2_0, .int .i64 a2_1, .int .i64 a2_2, .int .i64 a2_3, .int .i64 a2_4]) (t := 84) ?hr ?_; (case hd => rfl); (case hg => rfl); (case hr => first | (go_simp; done) | (go_simp; rfl)); intro gb308 hg w9 hbox hb; have n0_ := zA (zam (g := gb307) (o := .cells #[.int .i64 a0_0, .int .i64 a0_1, .slice A0_2 l0_2.length c0_2] 44 (0, 0)) (zK BK307) hb); have n1_ := zA (zab (zB HB) hb); have n2_ := zA (hbox); have n3_ := zA ((by rw [hg]; exact (zaf (zB HB)) : w.heap.size ≤ gb308)); have n4_ := zA ((by rw [hg]; exact (zaf (zB HB)) : w.heap.size ≤ gb308)); have n5_ := zA ((by rw [hg]; exact Nat.ne_of_lt (zar (g := gb307) (o := .cells #[.int .i64 a0_0, .int .i64 a0_1, .slice A0_2 l0_2.length c0_2] 44 (0, 0)) (zK BK307)) : gb307 ≠ gb308)); have n6_ := zA ((by rw [hg]; exact Nat.ne_of_gt (zar (g := gb307) (o := .cells #[.int .i64 a0_0, .int .i64 a0_1, .slice A0_2 l0_2.length c0_2] 44 (0, 0)) (zK BK307)) : gb308 ≠ gb307)); clear BK307 HB; have BK307 := n0_; have HB := n1_; have BK308 := n2_; have GW308 := n3_; have GE308 := n4_; have NB307_308 := n5_; have NB308_307 := n6_; clear n0_ n1_ n2_ n3_ n4_ n5_ n6_ hb hbox hg) | ((with_reducible refine za7 (N := 6) rfl ?_); refine za3 ?hg (N := 6) ?hd (cs := #[.int .i64 0, .int .i64 0, .slice none 0 0]) (t := 44) ?hr ?_; (case hd => rfl); (case hg => rfl); (case hr => first | (go_simp; done) | (go_simp; rfl)); intro gb309 hg w10 hbox hb; have n0_ := zA (zam (g := gb307) (o := .cells #[.int .i64 a0_0, .int .i64 a0_1, .slice A0_2 l0_2.length c0_2] 44 (0, 0)) (zK BK307) hb); have n1_ := zA (zam (g := gb308) (o := .cells #[.int .i64 a2_0, .int .i64 a2_1, .int .i64 a2_2, .int .i64 a2_3, .int .i64 a2_4] 84 (0, 0)) (zK BK308) hb); have n2_ := zA (zab (zB HB) hb); have n3_ := zA (hbox); have n4_ := zA ((by rw [hg]; exact (zaf (zB HB)) : w.heap.size ≤ gb309)); have n5_ := zA ((by rw [hg]; exact (zaf (zB HB)) : w.heap.size ≤ gb309)); have n6_ := zA ((by rw [hg]; exact Nat.ne_of_lt (zar (g := gb307) (o := .cells #[.int .i64 a0_0, .int .i64 a0_1, .slice A0_2 l0_2.length c0_2] 44 (0, 0)) (zK BK307)) : gb307 ≠ gb309)); have n7_ := zA ((by rw [hg]; exact Nat.ne_of_gt (zar (g := gb307) (o := .cells #[.int .i64 a0_0, .int .i64 a0_1, .slice A0_2 l0_2.length c0_2] 44 (0, 0)) (zK BK307)) : gb309 ≠ gb307)); have n8_ := zA ((by rw [hg]; exact Nat.ne_of_lt (zar (g := gb308) (o := .cells #[.int .i64 a2_0, .int .i64 a2_1, .int .i64 a2_2, .int .i64 a2_3, .int .i64 a2_4] 84 (0, 0)) (zK BK308)) : gb308 ≠ gb309)); have n9_ := zA ((by rw [hg]; exact Nat.ne_of_gt (zar (g := gb308) (o := .cells #[.int .i64 a2_0, .int .i64 a2_1, .int .i64 a2_2, .int .i64 a2_3, .int .i64 a2_4] 84 (0, 0)) (zK BK308)) : gb309 ≠ gb308)); clear BK307 BK308 HB; have BK307 := n0_; have BK308 := n1_; have HB := n2_; have BK309 := n3_; have GW309 := n4_; have GE309 := n5_; have NB307_309 := n6_; have NB309_307 := n7_; have NB308_309 := n8_; have NB309_308 := n9_; clear n0_ n1_ n2_ n3_ n4_ n5_ n6_ n7_ n8_ n9_ hb hbox hg) | ((with_reducible refine za7 (N := 8) rfl ?_); refine Kd.R_lit k84 _ 84 ?hg (N := 8) ?hd (xs := ([] : List (S84))) (inner := []) (ok := fun _ => True) (okp := fun _ => True) ?hr ?hp (fun _ hk => hk) trivial (Below.refl _ _) (Nat.le_refl _) (by simp) ?_; (case hd => rfl); (case hg => rfl); (case hr => first | (go_simp; done) | (go_simp; rfl)); (case hp => exact (Reps.none _ _)); intro v311 w11 ho12 hb hg_ hnew_; clear hg_ hnew_; (first | rw [← Ny310.out] at ho12 | (simp only [Int.reduceToNat] at ho12; rw [← Ny310.out] at ho12)); have n0_ := zA (Kd.R_lower (Kd.R_newB ho12 (g := gb308) (o := .cells #[.int .i64 a2_0, .int .i64 a2_1, .int .i64 a2_2, .int .i64 a2_3, .int .i64 a2_4] 84 (0, 0)) (zK BK308)) (zaf (zB HB))); have n1_ := zA (zam (g := gb307) (o := .cells #[.int .i64 a0_0, .int .i64 a0_1, .slice A0_2 l0_2.length c0_2] 44 (0, 0)) (zK BK307) hb); have n2_ := zA (zam (g := gb308) (o := .cells #[.int .i64 a2_0, .int .i64 a2_1, .int .i64 a2_2, .int .i64 a2_3, .int .i64 a2_4] 84 (0, 0)) (zK BK308) hb); have n3_ := zA (zam (g := gb309) (o := .cells #[.int .i64 0, .int .i64 0, .slice none 0 0] 44 (0, 0)) (zK BK309) hb); have n4_ := zA (zab (zB HB) hb); clear BK307 BK308 BK309 HB; have HO312 := n0_; have BK307 := n1_; have BK308 := n2_; have BK309 := n3_; have HB := n4_; clear n0_ n1_ n2_ n3_ n4_ hb ho12; have hnb13 := NB307_308.out; have hnc13 := NB308_307.out; have hnb14 := NB307_309.out; have hnc14 := NB309_307.out; have hcz15_0 : w11.cell? ⟨gb307, 0, none⟩ = some (.int .i64 a0_0) := (za BK307.out 0).trans rfl; have hcz15_1 : w11.cell? ⟨gb307, 1, none⟩ = some (.int .i64 a0_1) := (za BK307.out 1).trans rfl; have hcz15_2 : w11.cell? ⟨gb307, 2, none⟩ = some (.slice A0_2 l0_2.length c0_2) := (za BK307.out 2).trans rfl; have hfz15_0 := zaa BK307.out 0; have hfz15_1 := zaa BK307.out 1; have hfz15_2 := zaa BK307.out 2) | ((with_reducible refine zcc (b := .append) (xs := #[.tmp 8, .tmp 10]) rfl ?_); at_builtin; refine Kd.R_append_rows k84 (w0 := w) w.heap.size rfl (.tmp 8) (.tmp 10) 42 84 (.agg #[(.int .i64 0), (.int .i64 0), (.int .i64 0), (.int .i64 0), (.int .i64 0)]) 40 rfl Try.underlying42 info84 rfl (by decide) (by omega) v311 y310 l0_2 _ _ _ (fun k_ => k_ ≠ gb308) (fun _ => False) rfl rfl ?aO ?aR (fun _ _ h => h) (fun _ h => h.elim) ?aF ?aB ?aS ?aL ?_; (case aR => exact zJ (Kd.za0 HR0_2.out HB.out)); (case aB => exact (zB HB)); (case aF => exact (fun k_ hk => Kd.freshB (g := gb308) (o := .cells #[.int .i64 a2_0, .int .i64 a2_1, .int .i64 a2_2, .int .i64 a2_3, .int .i64 a2_4] 84 (0, 0)) (zK BK308) k_ hk)); (case aO => exact (by (with_reducible repeat (first | apply Kd.zcb | apply Kd.zb9 | apply Kd.R_drew)); exact Kd.zbn HO312.out (fun _ hk => hk.2))); (case aS => exact (zaf (zB HB))); (case aL => have := LMc4.out; omega); intro v314 w16 ho hb hg hat; rw [← Ny313.out] at ho; have n0_ := zA (zb (g := gb307) (o := .cells #[.int .i64 a0_0, .int .i64 a0_1, .slice A0_2 l0_2.length c0_2] 44 (0, 0)) (zK BK307) hg (Kd.R_ne HO312.out BK307.out (by decide))); have n1_ := zA (zb (g := gb308) (o := .cells #[.int .i64 a2_0, .int .i64 a2_1, .int .i64 a2_2, .int .i64 a2_3, .int .i64 a2_4] 84 (0, 0)) (zK BK308) hg (Kd.R_away HO312.out (fun _ hk => hk.2))); have n2_ := zA (zb (g := gb309) (o := .cells #[.int .i64 0, .int .i64 0, .slice none 0 0] 44 (0, 0)) (zK BK309) hg (Kd.R_ne HO312.out BK309.out (by decide))); have n3_ := zA (hb); have n4_ := zA (ho); clear BK307 BK308 BK309 HB HO312; have BK307 := n0_; have BK308 := n1_; have BK309 := n2_; have HB := n3_; have HO315 := n4_; clear n0_ n1_ n2_ n3_ n4_ ho hb hg hat; have hnb17 := NB308_309.out; have hnc17 := NB309_308.out; have hcz18_0 : w16.cell? ⟨gb308, 0, none⟩ = some (.int .i64 a2_0) := (za BK308.out 0).trans rfl; have hcz18_1 : w16.cell? ⟨gb308, 1, none⟩ = some (.int .i64 a2_1) := (za BK308.out 1).trans rfl; have hcz18_2 : w16.cell? ⟨gb308, 2, none⟩ = some (.int .i64 a2_2) := (za BK308.out 2).trans rfl; have hcz18_3 : w16.cell? ⟨gb308, 3, none⟩ = some (.int .i64 a2_3) := (za BK308.out 3).trans rfl; have hcz18_4 : w16.cell? ⟨gb308, 4, none⟩ = some (.int .i64 a2_4) := (za BK308.out 4).trans rfl; have hfz18_0 := zaa BK308.out 0; have hfz18_1 := zaa BK308.out 1; have hfz18_2 := zaa BK308.out 2; have hfz18_3 := zaa BK308.out 3; have hfz18_4 := zaa BK308.out 4; have p7 : 0 ≤ (a1 : Int) := of_decide_eq_true (by first | (with_reducible assumption) | assumption); have q7 : (a1 : Int) < ((y313.length : Int) : Int) := of_decide_eq_true (by first | (with_reducible assumption) | assumption); obtain ⟨go7, co7, eo7, gb7, gl7, cl7, HG7⟩ := Kd.R_form HO315.out (by omega); (first | cases eo7 | (injection eo7 with ea_ en_ ec_; (first | subst ea_ | (injection ea_ with ea_; subst ea_)); subst ec_; clear en_)); have GB7 := zA gb7; have GG7 := zA HG7; clear gb7 gl7 HG7; obtain ⟨ce7, hcl7, hM7, hcc7, hfr7⟩ := Kd.R_elem HO315.out z84 (a1 : Int) p7 q7; obtain rfl := k84_openM hM7; have hx7_0 : w16.cell? ⟨go7, (a1 : Int).toNat * 5, none⟩ = some (.int .i64 ((rd_T84 y313 a1).f0)) := hcc7 0 _ rfl; have hx7_1 : w16.cell? ⟨go7, (a1 : Int).toNat * 5 + 1, none⟩ = some (.int .i64 ((rd_T84 y313 a1).f1)) := hcc7 1 _ rfl; have hx7_2 : w16.cell? ⟨go7, (a1 : Int).toNat * 5 + 2, none⟩ = some (.int .i64 ((rd_T84 y313 a1).f2)) := hcc7 2 _ rfl; have hx7_3 : w16.cell? ⟨go7, (a1 : Int).toNat * 5 + 3, none⟩ = some (.int .i64 ((rd_T84 y313 a1).f3)) := hcc7 3 _ rfl; have hx7_4 : w16.cell? ⟨go7, (a1 : Int).toNat * 5 + 4, none⟩ = some (.int .i64 ((rd_T84 y313 a1).f4)) := hcc7 4 _ rfl; have hf7_0 : w16.frozen? ⟨go7, (a1 : Int).toNat * 5, none⟩ = false := hfr7 0; have hf7_1 : w16.frozen? ⟨go7, (a1 : Int).toNat * 5 + 1, none⟩ = false := hfr7 1; have hf7_2 : w16.frozen? ⟨go7, (a1 : Int).toNat * 5 + 2, none⟩ = false := hfr7 2; have hf7_3 : w16.frozen? ⟨go7, (a1 : Int).toNat * 5 + 3, none⟩ = false := hfr7 3; have hf7_4 : w16.frozen? ⟨go7, (a1 : Int).toNat * 5 + 4, none⟩ = false := hfr7 4; clear hcl7 hcc7 hfr7 hM7; replace p7 := eq_true p7; replace q7 := eq_true q7; have HX19 := zA (show Kd.R k84 84 w16 w.heap.size (fun k_ => k_ ≠ gb308) (.slice (some ⟨go7, 0, none⟩) y313.length co7) y313 from (zR HO315)); obtain ⟨ce19, hcl19, hM19, hcc19, hfr19⟩ := Kd.R_elem HX19.out z84 (a1 : Int) (of_decide_eq_true (by first | (with_reducible assumption) | assumption)) (by have h_ : (a1 : Int) < ((y313.length : Int) : Int) := of_decide_eq_true (by first | (with_reducible assumption) | assumption); first | exact h_ | (have e_ := (Kd.R_reads' HO315.out).1; omega) | simpa using h_); obtain rfl := k84_openM hM19; have HP19 := Kd.R_seg HX19.out (a1 : Int) (of_decide_eq_true (by first | (with_reducible assumption) | assumption)) (by have h_ : (a1 : Int) < ((y313.length : Int) : Int) := of_decide_eq_true (by first | (with_reducible assumption) | assumption); first | exact h_ | (have e_ := (Kd.R_reads' HO315.out).1; omega) | simpa using h_) (seg := [.int .i64 a2_0, .int .i64 a2_1, .int .i64 a2_2, .int .i64 a2_3, .int .i64 a2_4]) (j := 0) hcl19 hcc19 (show 5 ≤ 5 from by decide) (x' := (⟨a2_0, a2_1, a2_2, a2_3, a2_4⟩ : S84)) (k84_mkM _ _ _ (⟨a2_0, a2_1, a2_2, a2_3, a2_4⟩ : S84) ) (fun _ hk => hk); have hx19_0 := hcc19 0 _ rfl; (try simp only [show (k84).sz = 5 from rfl, Nat.mul_one, Nat.add_zero] at hx19_0); have hf19_0 := hfr19 0; (try simp only [show (k84).sz = 5 from rfl, Nat.mul_one, Nat.add_zero] at hf19_0); have hx19_1 := hcc19 1 _ rfl; (try simp only [show (k84).sz = 5 from rfl, Nat.mul_one, Nat.add_zero] at hx19_1); have hf19_1 := hfr19 1; (try simp only [show (k84).sz = 5 from rfl, Nat.mul_one, Nat.add_zero] at hf19_1); have hx19_2 := hcc19 2 _ rfl; (try simp only [show (k84).sz = 5 from rfl, Nat.mul_one, Nat.add_zero] at hx19_2); have hf19_2 := hfr19 2; (try simp only [show (k84).sz = 5 from rfl, Nat.mul_one, Nat.add_zero] at hf19_2); have hx19_3 := hcc19 3 _ rfl; (try simp only [show (k84).sz = 5 from rfl, Nat.mul_one, Nat.add_zero] at hx19_3); have hf19_3 := hfr19 3; (try simp only [show (k84).sz = 5 from rfl, Nat.mul_one, Nat.add_zero] at hf19_3); have hx19_4 := hcc19 4 _ rfl; (try simp only [show (k84).sz = 5 from rfl, Nat.mul_one, Nat.add_zero] at hx19_4); have hf19_4 := hfr19 4; (try simp only [show (k84).sz = 5 from rfl, Nat.mul_one, Nat.add_zero] at hf19_4); clear hcl19 hcc19 hfr19 hM19) | ((with_reducible refine gate_store (t := 84) (p := 15) rfl ?_); refine store_event (t := 84) (p := 15) (v := ?vo_w20) (w1 := (((((w16.setCell ⟨go7, (a1 : Int).toNat * 5, none⟩ (.int .i64 a2_0)).setCell ⟨go7, (a1 : Int).toNat * 5 + 1, none⟩ (.int .i64 a2_1)).setCell ⟨go7, (a1 : Int).toNat * 5 + 2, none⟩ (.int .i64 a2_2)).setCell ⟨go7, (a1 : Int).toNat * 5 + 3, none⟩ (.int .i64 a2_3)).setCell ⟨go7, (a1 : Int).toNat * 5 + 4, none⟩ (.int .i64 a2_4))) ?hg ?ho ?hn ?hr ?_; (case ho => rfl); (case hg => rfl); (case hn => rfl); (case hr => first | (go_simp; done) | (go_simp; rfl)); intro w20 hw; have hg : w16.grownBy w20 (some go7) := (by rw [hw]; exact HP19.2); have hp_ : Kd.R k84 84 w20 w.heap.size (fun k_ => k_ ≠ gb308) (.slice (some ⟨go7, 0, none⟩) y313.length co7) y316 := (by rw [hw, Ny316.out]; exact HP19.1); clear HP19; have n0_ := zA (zb (g := gb307) (o := .cells #[.int .i64 a0_0, .int .i64 a0_1, .slice A0_2 l0_2.length c0_2] 44 (0, 0)) (zK BK307) hg (Kd.R_ne HO315.out BK307.out (by decide))); have n1_ := zA (zb (g := gb308) (o := .cells #[.int .i64 a2_0, .int .i64 a2_1, .int .i64 a2_2, .int .i64 a2_3, .int .i64 a2_4] 84 (0, 0)) (zK BK308) hg (Kd.R_away HO315.out (fun _ hk => hk))); have n2_ := zA (zb (g := gb309) (o := .cells #[.int .i64 0, .int .i64 0, .slice none 0 0] 44 (0, 0)) (zK BK309) hg (Kd.R_ne HO315.out BK309.out (by decide))); have n3_ := zA (hp_); have n4_ := zA ((by rw [hw]; exact below_set (below_set (below_set (below_set (below_set (HB.out) GB7.out) GB7.out) GB7.out) GB7.out) GB7.out : Below w.heap.size w w20)); clear BK307 BK308 BK309 HO315 HB; have BK307 := n0_; have BK308 := n1_; have BK309 := n2_; have HO315 := n3_; have HB := n4_; clear n0_ n1_ n2_ n3_ n4_ hg hw hp_; have hcz21_0 : w20.cell? ⟨gb307, 0, none⟩ = some (.int .i64 a0_0) := (za BK307.out 0).trans rfl; have hcz21_1 : w20.cell? ⟨gb307, 1, none⟩ = some (.int .i64 a0_1) := (za BK307.out 1).trans rfl; have hcz21_2 : w20.cell? ⟨gb307, 2, none⟩ = some (.slice A0_2 l0_2.length c0_2) := (za BK307.out 2).trans rfl; have hfz21_0 := zaa BK307.out 0; have hfz21_1 := zaa BK307.out 1; have hfz21_2 := zaa BK307.out 2; have hcz22_0 : w20.cell? ⟨gb309, 0, none⟩ = some (.int .i64 0) := (za BK309.out 0).trans rfl; have hcz22_1 : w20.cell? ⟨gb309, 1, none⟩ = some (.int .i64 0) := (za BK309.out 1).trans rfl; have hcz22_2 : w20.cell? ⟨gb309, 2, none⟩ = some (.slice none 0 0) := (za BK309.out 2).trans rfl; have hfz22_0 := zaa BK309.out 0; have hfz22_1 := zaa BK309.out 1; have hfz22_2 := zaa BK309.out 2))
    refine bodyPost_ret (results_cell_row rfl _ _ gb309 44 #[.int .i64 a0_0, .int .i64 a0_1, .slice (some ⟨go7, 0, none⟩) y313.length co7] (0, 0) _ rfl (by (with_reducible repeat (first | refine zao ?_ _ | refine zan ?_ | refine zac ?_ _)); refine zau (cs := #[.int .i64 a0_0, .int .i64 a0_1, .slice none 0 0]) ?_ 2 _ rfl; (with_reducible repeat (first | refine zao ?_ _ | refine zan ?_ | refine zac ?_ _)); refine zau (cs := #[.int .i64 a0_0, .int .i64 0, .slice none 0 0]) ?_ 1 _ rfl; (with_reducible repeat (first | refine zao ?_ _ | refine zan ?_ | refine zac ?_ _)); refine zau (cs := #[.int .i64 0, .int .i64 0, .slice none 0 0]) ?_ 0 _ rfl; (with_reducible repeat (first | refine zao ?_ _ | refine zan ?_ | refine zac ?_ _)); exact BK309.out) Try.underlying44 rfl (by kernel_rfl)) rfl ?_
    exact ⟨_, zW, by (with_reducible repeat (first | apply Kd.zcb | apply Kd.zb9 | apply Kd.R_drew)); exact Kd.zbn (Kd.R_far (p := ⟨gb309, 2, none⟩) (Kd.R_far (p := ⟨gb309, 1, none⟩) (Kd.R_far (p := ⟨gb309, 0, none⟩) (Kd.R_types HO315.out BK309.out (by decide)) (fun _ hk => hk.2) (.int .i64 a0_0)) (fun _ hk => hk.2) (.int .i64 a0_1)) (fun _ hk => hk.2) (.slice (some ⟨go7, 0, none⟩) y313.length co7)) (fun _ hk => trivial), zB HB⟩
   ·
    rw [if_neg c6] at H
    exact absurd H (by simp)
  ·
   rw [if_neg c5] at H
   exact absurd H (by simp)
 ·
  rw [if_neg c4] at H
  exact absurd H (by simp)
def zal.l0 : Nat → List Int → Int → Int → Int → Option (Int)
 | 0, _, _, _, _ => none
 | k + 1, x0, x1, x7, x8 => if x8 < x7 then (if 0 ≤ x8 then (if x8 < (x0.length : Int) then (if x1 = (rd x0 x8) then (some x8) else (zal.l0 k x0 x1 x7 (wrap64 (x8 + 1)))) else (none)) else (none)) else (some (-1))
def zal.f (k : Nat) (l0 : List Int) (a1 : Int) : Option (Int) := zal.l0 k l0 a1 (l0.length : Int) 0
theorem zal.calls (k : Nat) (A0 : Option Addr) (c0 : Nat) (l0 : List Int) (a1 : Int) (r : Int) (w : World) (hr0 : Kd.C (Kd.int .i64) w A0 l0.length l0) (hc0 : l0.length ≤ c0) (h : zal.f k l0 a1 = some r) :
  Calls Try.prog 62 #[.slice A0 l0.length c0, .int .i64 a1] w fun e w' => e = .returned (.int .i64 r) ∧ Drawn0 w w' := by
 have HR0 := zA hr0
 have HC0 := zA hc0
 clear hr0 hc0
 have H : (zal.l0 k l0 a1 (l0.length : Int) 0) = some r := h
 clear h
 have H' := zA H
 clear H
 go_enter Try.func62, Try.ntmps62
 go_wp2
 go_loopg [8] k (fun kq v8 w' => ∃ (x8_1 : Int), v8 = .int .i64 x8_1 ∧ Aside0 (zal.l0 kq l0 a1 (l0.length : Int) x8_1 = some r) ∧ Aside0 (kq ≤ k) ∧ Drawn0 w w')
 case atStart => exact ⟨(0), (zF), H', ⟨Nat.le_refl _⟩, by repeat (first | exact Drawn0.refl _ | apply Drawn0.step)⟩
 case round =>
  clear H'
  try clear p2
  obtain ⟨x8_1, rfl, HA, HK1, ⟨m1, rfl⟩⟩ := hrel
  cases gk with
  | zero => exact absurd HA.out (by simp [zal.l0])
  | succ k1 =>
   have H := HA.out
   clear HA
   simp only [zal.l0] at H
   by_cases c3 : x8_1 < (l0.length : Int)
   ·
    rw [if_pos c3] at H
    have c3b0 : decide (x8_1 < (l0.length : Int)) = true := decide_eq_true c3
    clear c3
    by_cases c4 : 0 ≤ x8_1
    ·
     rw [if_pos c4] at H
     have c4b0 : decide (0 ≤ x8_1) = true := decide_eq_true c4
     clear c4
     by_cases c5 : x8_1 < (l0.length : Int)
     ·
      rw [if_pos c5] at H
      have c5b0 : decide (x8_1 < (l0.length : Int)) = true := decide_eq_true c5
      clear c5
      by_cases c6 : a1 = (rd l0 x8_1)
      ·
       rw [if_pos c6] at H
       have c6b0 : (a1 == (rd l0 x8_1)) = true := beq_iff_eq.mpr c6
       have c6b1 : (a1 != (rd l0 x8_1)) = false := bne_eq_false_iff_eq.mpr c6
       clear c6
       obtain rfl := Option.some.inj H
       have p101 : 0 ≤ (x8_1 : Int) := of_decide_eq_true (by first | (with_reducible assumption) | assumption)
       have q101 : x8_1 < (l0.length : Int) := of_decide_eq_true (by first | (with_reducible assumption) | assumption)
       obtain ⟨ad101, e101, hx101_0⟩ := Kd.at_int HR0.out x8_1 p101 q101
       cases e101
       replace p101 := eq_true p101
       replace q101 := eq_true q101
       go_wp2
       go_ret
       exact ⟨zF, by repeat (first | exact Drawn0.refl _ | apply Drawn0.step)⟩
      ·
       rw [if_neg c6] at H
       have c6b0 : (a1 == (rd l0 x8_1)) = false := beq_eq_false_iff_ne.mpr c6
       have c6b1 : (a1 != (rd l0 x8_1)) = true := bne_iff_ne.mpr c6
       have H' := zA H
       clear H
       have p101 : 0 ≤ (x8_1 : Int) := of_decide_eq_true (by first | (with_reducible assumption) | assumption)
       have q101 : x8_1 < (l0.length : Int) := of_decide_eq_true (by first | (with_reducible assumption) | assumption)
       obtain ⟨ad101, e101, hx101_0⟩ := Kd.at_int HR0.out x8_1 p101 q101
       cases e101
       replace p101 := eq_true p101
       replace q101 := eq_true q101
       go_wp2
       go_roundg k1
       case measure => have := HK1.out; omega
       case rel => exact ⟨(wrap64 (x8_1 + 1)), (zF), H', ⟨by have := HK1.out; omega⟩, by repeat (first | exact Drawn0.refl _ | apply Drawn0.step)⟩
     ·
      rw [if_neg c5] at H
      exact absurd H (by simp)
    ·
     rw [if_neg c4] at H
     exact absurd H (by simp)
   ·
    rw [if_neg c3] at H
    have c3b0 : decide (x8_1 < (l0.length : Int)) = false := decide_eq_false c3
    clear c3
    obtain rfl := Option.some.inj H
    go_wp2
    go_ret
    exact ⟨zF, by repeat (first | exact Drawn0.refl _ | apply Drawn0.step)⟩
def Ev {α : Type} (F : Nat → Option α) (r : α) : Prop := ∃ K, ∀ k, K ≤ k → F k = some r
theorem Ev.const {α : Type} (r : α) : Ev (fun _ => some r) r := ⟨0, fun _ _ => rfl⟩
theorem Ev.of {α : Type} {F : Nat → Option α} {r : α} (h : ∀ k, F k = some r) : Ev F r := ⟨0, fun k _ => h k⟩
theorem Ev.congr {α : Type} {F G : Nat → Option α} {r : α} (h : ∀ k, F k = G k) (hg : Ev G r) : Ev F r := by
 obtain ⟨K, hK⟩ := hg
 exact ⟨K, fun k hk => (h k).trans (hK k hk)⟩
theorem Ev.step {α : Type} {F G : Nat → Option α} {r : α} (h : ∀ k, F (k + 1) = G k) (hg : Ev G r) : Ev F r := by
 obtain ⟨K, hK⟩ := hg
 refine ⟨K + 1, fun k hk => ?_⟩
 obtain ⟨m, rfl⟩ : ∃ m, k = m + 1 := ⟨k - 1, by omega⟩
 exact (h m).trans (hK m (by omega))
theorem Ev.bind {α β : Type} {F : Nat → Option α} {G : Nat → α → Option β} {x : α} {r : β} (hf : Ev F x) (hg : Ev (fun k => G k x) r) : Ev (fun k => (F k).bind (G k)) r := by
 obtain ⟨K, hK⟩ := hf
 obtain ⟨L, hL⟩ := hg
 refine ⟨K + L, fun k hk => ?_⟩
 show (F k).bind (G k) = some r
 rw [hK k (by omega)]
 exact hL k (by omega)
theorem Ev.get {α : Type} {F : Nat → Option α} {r : α} (h : Ev F r) : ∃ k, F k = some r := by
 obtain ⟨K, hK⟩ := h
 exact ⟨K, hK K (Nat.le_refl _)⟩
theorem w64s {x : Int} (h0 : -9223372036854775808 ≤ x) (h1 : x < 9223372036854775808) : wrap64 x = x := by unfold wrap64; omega
def val (B : Nat) : List Int → Nat
 | [] => 0
 | x :: xs => x.toNat + B * val B xs
def Dig (B : Nat) (l : List Int) : Prop := ∀ x ∈ l, 0 ≤ x ∧ x < (B : Int)
theorem Dig.cons {B : Nat} {x : Int} {l : List Int} (h : Dig B (x :: l)) : (0 ≤ x ∧ x < (B : Int)) ∧ Dig B l := ⟨h x (by simp), fun y hy => h y (by simp [hy])⟩
theorem Dig.mk {B : Nat} {x : Int} {l : List Int} (h0 : 0 ≤ x) (h1 : x < (B : Int)) (h : Dig B l) : Dig B (x :: l) := by
 intro y hy
 rcases List.mem_cons.1 hy with rfl | hy
 ·
  exact ⟨h0, h1⟩
 ·
  exact h y hy
theorem Dig.nil (B : Nat) : Dig B [] := by intro x hx; cases hx
theorem Dig.app {B : Nat} {a b : List Int} (ha : Dig B a) (hb : Dig B b) : Dig B (a ++ b) := by
 intro x hx
 rcases List.mem_append.1 hx with h | h
 ·
  exact ha x h
 ·
  exact hb x h
def V (B : Nat) (l : List Int) (i : Nat) : Nat := val B (l.drop i)
theorem V_end (B : Nat) {l : List Int} {i : Nat} (h : l.length ≤ i) : V B l i = 0 := by
 unfold V
 rw [List.drop_eq_nil_of_le h]
 rfl
theorem V_step (B : Nat) (l : List Int) (i : Nat) : V B l i = (l.getD i 0).toNat + B * V B l (i + 1) := by
 by_cases h : i < l.length
 ·
  unfold V
  rw [List.drop_eq_getElem_cons h, val, List.getD_eq_getElem?_getD, List.getElem?_eq_getElem h]
  rfl
 ·
  rw [V_end B (by omega), V_end B (by omega), List.getD_eq_getElem?_getD, List.getElem?_eq_none (by omega)]
  rfl
theorem Dig.get {B : Nat} (hB : 0 < B) {l : List Int} (h : Dig B l) (i : Nat) : 0 ≤ l.getD i 0 ∧ l.getD i 0 < (B : Int) := by
 by_cases hi : i < l.length
 ·
  rw [List.getD_eq_getElem?_getD, List.getElem?_eq_getElem hi]
  exact h _ (List.getElem_mem hi)
 ·
  rw [List.getD_eq_getElem?_getD, List.getElem?_eq_none (by omega)]
  simp
  omega
theorem rd_nat (l : List Int) (i : Nat) : rd l (i : Int) = l.getD i 0 := by
 unfold rd
 simp
theorem wadd1 (i : Nat) (h : i < 4611686018427387904) : wrap64 ((i : Int) + 1) = ((i + 1 : Nat) : Int) := by rw [w64s (by omega) (by omega)]; omega
theorem wsub1 (i : Nat) (h : i < 4611686018427387904) (h0 : 0 < i) : wrap64 ((i : Int) - 1) = ((i - 1 : Nat) : Int) := by rw [w64s (by omega) (by omega)]; omega
def TabAt (w : World) (b s : Nat) (l : List Int) (last : Int) : Prop :=
 b ≠ s ∧ w.heap[b]? = some (.cells #[.slice (some ⟨s, 0, none⟩) l.length l.length, .int .i64 last] 94 (0, 0)) ∧ w.heap[s]? = some (.cells (l.map (Value.int .i64)).toArray 3 (0, 0)) ∧ l.length ≤ 64
theorem made_map (m : Nat) : madeCells #[.int .i64 0] m = ((List.replicate m (0 : Int)).map (Value.int .i64)).toArray := by
 apply Array.ext
 ·
  simp [size_madeCells]
 ·
  intro i h1 h2
  simp [madeCells, Nat.mod_one]
theorem table_New_ok (m : Nat) (h1 : 1 ≤ m) (h2 : m ≤ 64) (w : World) :
  Calls Try.prog 22 #[.int .i64 (m : Int)] w fun e w' => ∃ b s, e = .returned (.tuple #[.pointer (some ⟨b, 0, none⟩), .int .i64 0]) ∧ w.heap.size ≤ b ∧ w.heap.size ≤ s ∧ TabAt w' b s (List.replicate m 0) 0 ∧ Below w.heap.size w w' := by
 have d1 : decide ((m : Int) < 1) = false := decide_eq_false (by omega)
 have d2 : decide ((m : Int) > 64) = false := decide_eq_false (by omega)
 have hmk := print_make (P := Try.prog) 38 3 .i64 8 Try.underlying38 (by kernel_rfl) (by decide) m (by omega)
 go_enter Try.func22, Try.ntmps22
 go_wp2_with fail
 go_ret2
 refine ⟨w.heap.size + 1, w.heap.size, by simp, by omega, Nat.le_refl _, ⟨by omega, ?_, ?_, by simpa using h2⟩, zad (zad (Below.refl _ _) _) _⟩
 ·
  have := za6 (w.alloc (.cells (madeCells #[.int .i64 0] m) 3)) (.cells #[.slice (some ⟨w.heap.size, 0, none⟩) m m, .int .i64 0] 94)
  rw [show (w.alloc (.cells (madeCells #[.int .i64 0] m) 3)).heap.size = w.heap.size + 1 by simp] at this
  rw [List.length_replicate]
  exact this
 ·
  have := zac (za6 w (.cells (madeCells #[.int .i64 0] m) 3)) (.cells #[.slice (some ⟨w.heap.size, 0, none⟩) m m, .int .i64 0] 94)
  rw [made_map m] at this
  rw [made_map m]
  exact this
theorem TabAt.mem {w : World} {b s : Nat} {l : List Int} {last : Int} (h : TabAt w b s l last) : Kd.C (Kd.int .i64) w (some ⟨s, 0, none⟩) l.length l := by
 refine ⟨rfl, by have := h.2.2.2; omega, fun _ => ⟨_, rfl, fun j p hj => ⟨[.int .i64 p], rfl, rfl, fun i u hu => ?_⟩⟩⟩
 match i, hu with
 | 0, hu =>
  have e : (Addr.add ⟨s, 0, none⟩ (j * (Kd.int .i64).sz + 0)) = ⟨s, j, none⟩ := by
   show (Addr.add ⟨s, 0, none⟩ (j * 1 + 0)) = _
   rw [Nat.mul_one, Nat.add_zero, add_plain]
  rw [e, za h.2.2.1 j]
  simp [hj]
  simpa using hu
theorem TabAt.below {w w' : World} {b s n : Nat} {l : List Int} {last : Int} (h : TabAt w b s l last) (hb : Below n w w') (h1 : b < n) (h2 : s < n) : TabAt w' b s l last :=
 ⟨h.1, (hb.block b h1).trans h.2.1, (hb.block s h2).trans h.2.2.1, h.2.2.2⟩
theorem TabAt.lt {w : World} {b s : Nat} {l : List Int} {last : Int} (h : TabAt w b s l last) : b < w.heap.size ∧ s < w.heap.size := ⟨zar h.2.1, zar h.2.2.1⟩
theorem TabAt.keep {w w' : World} {b s : Nat} {l : List Int} {last : Int} (h : TabAt w b s l last) (hb : Below w.heap.size w w') : TabAt w' b s l last := h.below hb h.lt.1 h.lt.2
theorem TabAt.set {w : World} {b s : Nat} {l : List Int} {last : Int} (h : TabAt w b s l last) (i : Nat) (x : Int) : TabAt (w.setCell ⟨s, i, none⟩ (.int .i64 x)) b s (l.set i x) last := by
 refine ⟨h.1, ?_, ?_, by rw [List.length_set]; exact h.2.2.2⟩
 ·
  rw [Below.heap_setCell _ _ _ _ h.1, h.2.1, List.length_set]
 ·
  rw [blk_set h.2.2.1]
  simp [List.map_set]
theorem TabAt.push {w : World} {b s : Nat} {l : List Int} {last : Int} (h : TabAt w b s l last) (x : Int) : TabAt (w.setCell ⟨b, 1, none⟩ (.int .i64 x)) b s l x := by
 refine ⟨h.1, ?_, ?_, h.2.2.2⟩
 ·
  rw [blk_set h.2.1]
  rfl
 ·
  rw [Below.heap_setCell _ _ _ _ (fun e => h.1 e.symm), h.2.2.1]
theorem TabAt.facts {w : World} {b s : Nat} {l : List Int} {last : Int} (h : TabAt w b s l last) :
  w.cell? ⟨b, 0, none⟩ = some (.slice (some ⟨s, 0, none⟩) l.length l.length) ∧ w.cell? ⟨b, 1, none⟩ = some (.int .i64 last) ∧ w.frozen? ⟨b, 1, none⟩ = false ∧ ∀ i : Nat, w.frozen? ⟨s, i, none⟩ = false :=
 ⟨(za h.2.1 0).trans rfl, (za h.2.1 1).trans rfl, zaa h.2.1 1, fun i => zaa h.2.2.1 i⟩
theorem TabAt.drew {w : World} {b s : Nat} {l : List Int} {last : Int} (h : TabAt w b s l last) : TabAt w.drew b s l last := h
theorem TabAt.slot {w : World} {b s : Nat} {l : List Int} {last : Int} (h : TabAt w b s l last) {i : Nat} (hi : i < l.length) : w.cell? ⟨s, i, none⟩ = some (.int .i64 (l.getD i 0)) := by
 rw [za h.2.2.1 i]
 simp [hi]
theorem table_Add_full {w : World} {b s : Nat} {l : List Int} {last : Int} (k : Nat) (r : Int) (h : TabAt w b s l last) (hx : zal.f k l 0 = some r) (hr : r < 0 ∨ 0 ≤ r ∧ last = 2147483648) :
  Calls Try.prog 50 #[.pointer (some ⟨b, 0, none⟩)] w fun e w' => e = .returned (.tuple #[.int .i64 0, .int .i64 0, .int .i64 6]) ∧ Drawn0 w w' := by
 have H := Aside0.mk h
 have HX := Aside0.mk hx
 obtain ⟨f0, f1, f2, f3⟩ := h.facts
 clear h hx f3
 go_enter Try.func50, Try.ntmps50
 go_wp2_with fail
 go_at_call 62
 refine (zal.calls k _ _ l 0 _ _ H.out.mem (Nat.le_refl _) HX.out).mono ?_
 rintro e w1 ⟨rfl, hd⟩
 have D1 := Aside0.mk hd
 have H1 := Aside0.mk (H.out.keep hd.below)
 obtain ⟨g0, g1, g2, g3⟩ := H1.out.facts
 clear hd f0 f1 f2 g3
 rcases hr with hr | ⟨hr, rfl⟩
 ·
  have d1 : decide (r < 0) = true := decide_eq_true hr
  go_wp2_with fail
  go_ret3
  exact ⟨rfl, D1.out⟩
 ·
  have d1 : decide (r < 0) = false := decide_eq_false (by omega)
  go_wp2_with fail
  go_ret3
  exact ⟨rfl, D1.out⟩
theorem table_Slot_ok {w : World} {b s : Nat} {l : List Int} {last : Int} (k : Nat) (r x : Int) (h : TabAt w b s l last) (hx : zal.f k l x = some r) (hr : 0 ≤ r) (h0 : x ≠ 0) :
  Calls Try.prog 75 #[.pointer (some ⟨b, 0, none⟩), .int .i64 x] w fun e w' => e = .returned (.tuple #[.int .i64 r, .int .i64 0]) ∧ Drawn0 w w' := by
 have H := Aside0.mk h
 have HX := Aside0.mk hx
 obtain ⟨f0, f1, f2, f3⟩ := h.facts
 clear h hx f3
 go_enter Try.func75, Try.ntmps75
 go_wp2_with fail
 go_at_call 62
 refine (zal.calls k _ _ l x _ _ H.out.mem (Nat.le_refl _) HX.out).mono ?_
 rintro e w1 ⟨rfl, hd⟩
 have D1 := Aside0.mk hd
 clear hd f0 f1 f2
 have d1 : decide (r < 0) = false := decide_eq_false (by omega)
 have d2 : (x == 0) = false := by simpa using h0
 go_wp2_with fail
 go_ret2
 exact ⟨rfl, D1.out⟩
theorem TabAt.drawn {w w' : World} {b s : Nat} {l : List Int} {last : Int} (h : TabAt w b s l last) (hd : Drawn0 w w') : TabAt w' b s l last := h.keep hd.below
theorem Ev.pos_ {α : Type} {c : Prop} [Decidable c] {F G : Nat → Option α} {r : α} (hc : c) (h : Ev F r) : Ev (fun k => if c then F k else G k) r := Ev.congr (fun k => if_pos hc) h
theorem Ev.neg_ {α : Type} {c : Prop} [Decidable c] {F G : Nat → Option α} {r : α} (hc : ¬ c) (h : Ev G r) : Ev (fun k => if c then F k else G k) r := Ev.congr (fun k => if_neg hc) h
theorem index_step {l : List Int} {a r : Int} {j : Nat} (hl : l.length ≤ 1000) (hj : j < l.length) (hn : l.getD j 0 ≠ a) (h : Ev (fun k => zal.l0 k l a (l.length : Int) ((j + 1 : Nat) : Int)) r) : Ev (fun k => zal.l0 k l a (l.length : Int) (j : Int)) r := by
 refine Ev.step (fun _ => zal.l0.eq_2 ..) (Ev.pos_ (by omega) (Ev.pos_ (by omega) (Ev.pos_ (by omega) (Ev.neg_ ?_ ?_))))
 ·
  rw [rd_nat]
  exact fun e => hn e.symm
 ·
  rw [w64s (by omega) (by omega)]
  exact h
theorem index_first {l : List Int} {a : Int} {i : Nat} (hl : l.length ≤ 1000) (hi : i < l.length) (h : l.getD i 0 = a) (hb : ∀ j, j < i → l.getD j 0 ≠ a) : ∃ k, zal.f k l a = some (i : Int) := by
 have go : ∀ d j, j + d = i → Ev (fun k => zal.l0 k l a (l.length : Int) (j : Int)) (i : Int) := by
  intro d
  induction d with
  | zero =>
   intro j hj
   obtain rfl : j = i := by omega
   refine Ev.step (fun _ => zal.l0.eq_2 ..) (Ev.pos_ (by omega) (Ev.pos_ (by omega) (Ev.pos_ (by omega) (Ev.pos_ ?_ (Ev.const _)))))
   rw [rd_nat]
   exact h.symm
  | succ d ih =>
   intro j hj
   exact index_step hl (by omega) (hb j (by omega)) (ih (j + 1) (by omega))
 exact Ev.get (go i 0 (by omega))
theorem index_none {l : List Int} {a : Int} (hl : l.length ≤ 1000) (hb : ∀ j, j < l.length → l.getD j 0 ≠ a) : ∃ k, zal.f k l a = some (-1) := by
 have go : ∀ d j, j + d = l.length → Ev (fun k => zal.l0 k l a (l.length : Int) (j : Int)) (-1) := by
  intro d
  induction d with
  | zero =>
   intro j hj
   exact Ev.step (fun _ => zal.l0.eq_2 ..) (Ev.neg_ (by omega) (Ev.const _))
  | succ d ih =>
   intro j hj
   exact index_step hl (by omega) (hb j (by omega)) (ih (j + 1) (by omega))
 exact Ev.get (go l.length 0 (by omega))
theorem index_any {l : List Int} (a : Int) (hl : l.length ≤ 1000) : (∃ i k, i < l.length ∧ l.getD i 0 = a ∧ zal.f k l a = some ((i : Nat) : Int)) ∨ ∃ k, zal.f k l a = some (-1) ∧ ∀ j, j < l.length → l.getD j 0 ≠ a := by
 have go : ∀ d j, j + d = l.length → (∀ q, q < j → l.getD q 0 ≠ a) → (∃ i, i < l.length ∧ l.getD i 0 = a ∧ ∀ q, q < i → l.getD q 0 ≠ a) ∨ ∀ q, q < l.length → l.getD q 0 ≠ a := by
  intro d
  induction d with
  | zero =>
   intro j hj hb
   exact .inr fun q hq => hb q (by omega)
  | succ d ih =>
   intro j hj hb
   by_cases h : l.getD j 0 = a
   ·
    exact .inl ⟨j, by omega, h, hb⟩
   ·
    refine ih (j + 1) (by omega) fun q hq => ?_
    by_cases e : q = j
    ·
     rw [e]
     exact h
    ·
     exact hb q (by omega)
 rcases go l.length 0 (by omega) (fun q hq => absurd hq (by omega)) with ⟨i, hi, h, hb⟩ | hn
 ·
  obtain ⟨k, hk⟩ := index_first hl hi h hb
  exact .inl ⟨i, k, hi, h, hk⟩
 ·
  obtain ⟨k, hk⟩ := index_none hl hn
  exact .inr ⟨k, hk, hn⟩
theorem filter_set : ∀ (l : List Int) (i : Nat) (x : Int), i < l.length → l.getD i 0 = 0 → x ≠ 0 → ((l.set i x).filter fun y => !(y == 0)).Perm (x :: l.filter fun y => !(y == 0))
 | [], i, x, h, _, _ => absurd h (by simp)
 | a :: l, 0, x, h, h0, hx => by
  simp only [List.getD_cons_zero] at h0
  subst h0
  rw [List.set_cons_zero, List.filter_cons, if_pos (by simpa using hx), List.filter_cons, if_neg (by simp)]
 | a :: l, i + 1, x, h, h0, hx => by
  rw [List.getD_cons_succ] at h0
  have ih := filter_set l i x (by simpa using h) h0 hx
  rw [List.set_cons_succ, List.filter_cons, List.filter_cons]
  split
  ·
   exact (List.Perm.cons a ih).trans (List.Perm.swap x a _)
  ·
   exact ih
theorem set_set_self (l : List Int) (i : Nat) (hi : i < l.length) : (l.set i 0).set i (l.getD i 0) = l := by
 rw [List.set_set]
 refine List.ext_getElem (by simp) fun j h1 h2 => ?_
 rw [List.getElem_set]
 split
 ·
  rename_i e
  subst e
  simp [h2]
 ·
  rfl
def TabF (w : World) (b s room : Nat) (last : Int) (ids : List Int) : Prop :=
 ∃ l, TabAt w b s l last ∧ l.length = room ∧ (l.filter fun y => !(y == 0)).Perm ids
theorem TabF.lt {w : World} {b s room : Nat} {last : Int} {ids : List Int} (h : TabF w b s room last ids) : b < w.heap.size ∧ s < w.heap.size := by
 obtain ⟨l, h, _⟩ := h
 exact h.lt
theorem TabF.ne {w : World} {b s room : Nat} {last : Int} {ids : List Int} (h : TabF w b s room last ids) : b ≠ s := by
 obtain ⟨l, h, _⟩ := h
 exact h.1
theorem TabF.blocks {w w' : World} {b s room : Nat} {last : Int} {ids : List Int} (h : TabF w b s room last ids) (h1 : w'.heap[b]? = w.heap[b]?) (h2 : w'.heap[s]? = w.heap[s]?) : TabF w' b s room last ids := by
 obtain ⟨l, ⟨g1, g2, g3, g4⟩, hl, hp⟩ := h
 exact ⟨l, ⟨g1, h1.trans g2, h2.trans g3, g4⟩, hl, hp⟩
theorem tabF_New (m : Nat) (h1 : 1 ≤ m) (h2 : m ≤ 64) (w : World) :
  Calls Try.prog 22 #[.int .i64 (m : Int)] w fun e w' => ∃ b s, e = .returned (.tuple #[.pointer (some ⟨b, 0, none⟩), .int .i64 0]) ∧ w.heap.size ≤ b ∧ w.heap.size ≤ s ∧ TabF w' b s m 0 [] ∧ Below w.heap.size w w' := by
 refine (table_New_ok m h1 h2 w).mono ?_
 rintro e w' ⟨b, s, rfl, hb, hs, ht, hw⟩
 refine ⟨b, s, rfl, hb, hs, ⟨_, ht, by simp, ?_⟩, hw⟩
 rw [List.filter_eq_nil_iff.2 (fun x hx => by rw [List.eq_of_mem_replicate hx]; simp)]
theorem tabF_full {w : World} {b s room : Nat} {last : Int} {ids : List Int} (h : TabF w b s room last ids) (hl : ids.length = room) :
  Calls Try.prog 50 #[.pointer (some ⟨b, 0, none⟩)] w fun e w' => e = .returned (.tuple #[.int .i64 0, .int .i64 0, .int .i64 6]) ∧ Drawn0 w w' := by
 obtain ⟨l, ht, hlen, hp⟩ := h
 have h64 := ht.2.2.2
 rcases index_any (l := l) 0 (by omega) with ⟨i, k, hi, hx, hk⟩ | ⟨k, hk, hn⟩
 ·
  exfalso
  have h1 := hp.length_eq
  have h2 := (filter_set l i 1 hi hx (by omega)).length_eq
  have h3 := List.length_filter_le (fun y : Int => !(y == 0)) (l.set i 1)
  rw [List.length_set] at h3
  rw [List.length_cons] at h2
  omega
 ·
  exact table_Add_full k _ ht hk (.inl (by omega))
noncomputable def mkR {α : Type} (mk : α → Value) (v : Value) : Option (DataW α × List MemPlace) :=
 open Classical in if h : ∃ a, mk a = v then some (.held h.choose, []) else none
theorem mkR_mk {α : Type} {mk : α → Value} (hi : ∀ a b, mk a = mk b → a = b) (a : α) : mkR mk (mk a) = some (.held a, []) := by
 have h : ∃ b, mk b = mk a := ⟨a, rfl⟩
 unfold mkR
 rw [dif_pos h, hi _ _ h.choose_spec]
theorem mkR_inv {α : Type} {mk : α → Value} {v : Value} {y : DataW α × List MemPlace} (h : mkR mk v = some y) : ∃ a, v = mk a ∧ y = (.held a, []) := by
 unfold mkR at h
 split at h
 ·
  rename_i hx
  cases h
  exact ⟨_, hx.choose_spec.symm, rfl⟩
 ·
  cases h
def HoldsM {α : Type} (D : DataW α) (g : Int → Option α) : Prop :=
 ∀ k, (g k = none → Maps.has D (.int .i64 k) = false) ∧ ∀ a, g k = some a → ∀ z, D.atKey (.int .i64 k) z = .held a
theorem HoldsM.has {α : Type} {D : DataW α} {g : Int → Option α} (h : HoldsM D g) (k : Int) : Maps.has D (.int .i64 k) = (g k).isSome := by
 cases hg : g k with
 | none => exact (h k).1 hg
 | some a => exact Maps.has_true_of_atKey ((h k).2 a hg)
def MapAt {α : Type} (P : Program) (kt : TypeId) (mk : α → Value) (w : World) (b n : Nat) (g : Int → Option α) : Prop :=
 ∃ D : DataW α, w.ownsMap P kt (mkR mk) b n D ∧ HoldsM D g
section
variable {α : Type} {P : Program} {kt : TypeId} {mk : α → Value} {w : World} {b n : Nat} {g : Int → Option α}
theorem MapAt.lt (h : MapAt P kt mk w b n g) : b < w.heap.size := by
 obtain ⟨D, h, _⟩ := h
 exact h.lt
theorem MapAt.kept {w' : World} {row : Option Nat} (h : MapAt P kt mk w b n g) (hg : w.grownBy w' row) (hne : some b ≠ row) : MapAt P kt mk w' b n g := by
 obtain ⟨D, h, hd⟩ := h
 exact ⟨D, h.kept hg hne, hd⟩
theorem MapAt.below {w' : World} {m : Nat} (h : MapAt P kt mk w b n g) (hb : Below m w w') (hm : b < m) : MapAt P kt mk w' b n g := by
 obtain ⟨D, ⟨es, clock, h1, h2⟩, hd⟩ := h
 exact ⟨D, ⟨es, clock, (hb.block b hm).trans h1, h2⟩, hd⟩
theorem MapAt.keep {w' : World} (h : MapAt P kt mk w b n g) (hb : Below w.heap.size w w') : MapAt P kt mk w' b n g := h.below hb h.lt
theorem MapAt.mono {n' : Nat} (h : MapAt P kt mk w b n g) (hn : n ≤ n') : MapAt P kt mk w b n' g := by
 obtain ⟨D, h, hd⟩ := h
 exact ⟨D, h.mono hn, hd⟩
theorem MapAt.set {a : Addr} (h : MapAt P kt mk w b n g) (ha : b ≠ a.block) (u : Value) : MapAt P kt mk (w.setCell a u) b n g := by
 obtain ⟨D, h, hd⟩ := h
 exact ⟨D, h.setCell ha u, hd⟩
theorem MapAt.ext {g' : Int → Option α} (h : MapAt P kt mk w b n g) (e : ∀ k, g' k = g k) : MapAt P kt mk w b n g' := by
 rw [show g' = g from funext e]
 exact h
theorem MapAt.made (P : Program) (kt : TypeId) (mk : α → Value) (w : World) : MapAt P kt mk (w.alloc (.map #[] 0)) w.heap.size 0 (fun _ => none) :=
 ⟨_, World.ownsMap_made w P kt (mkR mk), fun k => ⟨fun _ => rfl, fun a h => by cases h⟩⟩
theorem mapTurned_below {w' : World} (h : w.mapTurned w' b) {m : Nat} (hm : m ≤ b) : Below m w w' := by
 have hg := h.grown
 obtain ⟨es, clock, es', clock', hb, rfl⟩ := h
 have := zar hb
 exact (Below.refl m w).grown hg (by omega) (fun k e => by cases e; exact hm)
theorem MapAt.look2 {t e : TypeId} {z : Value} {k : Int} (h : MapAt P kt mk w b n g) (hk : P.underlying kt = some (.int .i64)) (ht : P.underlying t = some (.map kt e)) (hz : (zeroValue e).run P w = .ok z w) (wf : (Lit.int .i64 k).wf = true) :
  (∀ a, g k = some a → (Instr.lookup t (.map (some b)) (.int .i64 k) true).run P w = .ok (.tuple #[mk a, .bool true]) w) ∧ (g k = none → (Instr.lookup t (.map (some b)) (.int .i64 k) true).run P w = .ok (.tuple #[z, .bool false]) w) := by
 obtain ⟨D, ⟨es, clock, hb, F, _, rfl⟩, hd⟩ := h
 rcases Maps.fit_look true (Maps.int_keyed hk) ht hz hb F (Maps.keyOf_int_mk hk wf) with ⟨hrun, _, hat⟩ | ⟨e0, y, _, _, hrun, hRv, hat, _⟩
 ·
  refine ⟨fun a ha => ?_, fun _ => hrun⟩
  have h1 := hd.has k
  rw [Maps.has_false_of_atKey hat, ha] at h1
  cases h1
 ·
  refine ⟨fun a ha => ?_, fun hn => ?_⟩
  ·
   obtain ⟨a', e1, e2⟩ := mkR_inv hRv
   have h2 := (hd k).2 a ha .nil
   rw [hat .nil, e2] at h2
   cases h2
   rw [e1] at hrun
   exact hrun
  ·
   have h1 := hd.has k
   rw [Maps.has_true_of_atKey hat, hn] at h1
   cases h1
theorem HoldsM.put {D : DataW α} (h : HoldsM D g) (hD : Maps.IsMap D) (k : Int) (a : α) : HoldsM (D.put (.int .i64 k) (.held a)) (fun j => if j = k then some a else g j) := by
 intro j
 by_cases e : j = k
 ·
  subst e
  refine ⟨fun hn => ?_, fun a' ha z => ?_⟩
  ·
   dsimp only at hn
   rw [if_pos rfl] at hn
   cases hn
  ·
   dsimp only at ha
   rw [if_pos rfl] at ha
   cases ha
   exact Maps.atKey_put_same hD (show WideAt.IsKeyLit (.int .i64 j) from trivial) _ _
 ·
  have hne : (Lit.int .i64 j) ≠ .int .i64 k := fun e1 => e (by cases e1; rfl)
  refine ⟨fun hn => ?_, fun a' ha z => ?_⟩
  ·
   dsimp only at hn
   rw [if_neg e] at hn
   rw [Maps.has_put_other hne]
   exact (h j).1 hn
  ·
   dsimp only at ha
   rw [if_neg e] at ha
   rw [Maps.atKey_put_other hne]
   exact (h j).2 a' ha z
theorem HoldsM.del {D : DataW α} (h : HoldsM D g) (k : Int) : HoldsM (D.del (.int .i64 k)) (fun j => if j = k then none else g j) := by
 intro j
 by_cases e : j = k
 ·
  subst e
  refine ⟨fun _ => Maps.has_del_same, fun a' ha z => ?_⟩
  dsimp only at ha
  rw [if_pos rfl] at ha
  cases ha
 ·
  have hne : (Lit.int .i64 j) ≠ .int .i64 k := fun e1 => e (by cases e1; rfl)
  refine ⟨fun hn => ?_, fun a' ha z => ?_⟩
  ·
   dsimp only at hn
   rw [if_neg e] at hn
   rw [Maps.has_del_other hne]
   exact (h j).1 hn
  ·
   dsimp only at ha
   rw [if_neg e] at ha
   rw [Maps.atKey_del_other hne]
   exact (h j).2 a' ha z
theorem MapAt.store {t e : TypeId} (h : MapAt P kt mk w b n g) (hi : ∀ a b, mk a = mk b → a = b) (hk : P.underlying kt = some (.int .i64)) (ht : P.underlying t = some (.map kt e)) (hn : n < maxLen) {k : Int} (wf : (Lit.int .i64 k).wf = true) (a : α) :
  ∃ w', (Instr.mapUpdate t (.map (some b)) (.int .i64 k) (mk a)).run P w = .ok () w' ∧ MapAt P kt mk w' b (n + 1) (fun j => if j = k then some a else g j) ∧ w.mapTurned w' b := by
 obtain ⟨D, h, hd⟩ := h
 obtain ⟨w', hrun, ho, ht'⟩ := h.store (Maps.int_keyed hk) ht hn (Maps.keyOf_int_mk hk wf) (mkR_mk hi a)
 exact ⟨w', hrun, ⟨_, ho, hd.put h.isMap k a⟩, ht'⟩
theorem MapAt.drop {t e : TypeId} (h : MapAt P kt mk w b n g) (hk : P.underlying kt = some (.int .i64)) (ht : P.underlying t = some (.map kt e)) {k : Int} (wf : (Lit.int .i64 k).wf = true) (ty : TypeId) :
  ∃ w', (Builtin.delete_ #[t, kt] ty #[.map (some b), .int .i64 k]).run P w = .ok (.tuple #[]) w' ∧ MapAt P kt mk w' b n (fun j => if j = k then none else g j) ∧ w.mapTurned w' b := by
 obtain ⟨D, h, hd⟩ := h
 obtain ⟨w', hrun, ho, ht'⟩ := h.drop (Maps.int_keyed hk) ht (Maps.keyOf_int_mk hk wf) ty
 exact ⟨w', hrun, ⟨_, ho, hd.del k⟩, ht'⟩
theorem MapAt.len {t e : TypeId} (h : MapAt P kt mk w b n g) (ht : P.underlying t = some (.map kt e)) (hk : P.underlying kt = some (.int .i64)) : ∃ m : Nat, m ≤ n ∧ (m = 0 ↔ ∀ k, g k = none) ∧ ∀ ty, (Builtin.len_ #[t] ty #[.map (some b)]).run P w = .ok (.int .i64 m) w := by
 obtain ⟨D, h, hd⟩ := h
 refine ⟨Maps.size D, h.size_le, ⟨fun e0 k => ?_, fun hn => ?_⟩, fun ty => h.len ht ty⟩
 ·
  obtain ⟨es, rfl⟩ := h.isMap
  have h1 := hd.has k
  rw [Maps.size_eq] at e0
  rw [List.length_eq_zero_iff.1 e0] at h1
  cases hg : g k with
  | none => rfl
  | some a =>
   rw [hg] at h1
   cases h1
 ·
  obtain ⟨es, e1, _, hp⟩ := h.entries (Maps.int_keyed hk)
  subst e1
  cases es with
  | nil => rfl
  | cons p r =>
   obtain ⟨es', clock, hb, F, hs, hD⟩ := h
   have h1 : p ∈ (es'.toList.map (WideElems.rg P kt (mkR mk))).foldr DataW.insert [] := by
    have : DataW.map (p :: r) = DataW.map ((es'.toList.map (WideElems.rg P kt (mkR mk))).foldr DataW.insert []) := hD
    injection this with this
    rw [← this]
    exact List.mem_cons_self
   obtain ⟨x, hx, rfl⟩ := List.mem_map.1 (mem_sorted.1 h1)
   obtain ⟨y, hy⟩ := F.reads x hx
   obtain ⟨k, _, e2, _⟩ := Maps.keyOf_int_inv hk (WideElems.rd_key hy)
   have h2 := hd.has k
   rw [hn k, Maps.has_eq, WideElems.rg_of hy] at h2
   rw [← e2] at h2
   simp [WideAt.sameKey_self (show WideAt.IsKeyLit y.1 by rw [e2]; trivial)] at h2
end
def RangeAt {α : Type} (P : Program) (kt : TypeId) (mk : α → Value) (w : World) (b r n : Nat) (g : Int → Option α) (left : Int → Bool) (cnt : Nat) : Prop :=
 ∃ (D : DataW α) (l : Lit → Bool), w.ranges P kt (mkR mk) b r n D l cnt ∧ HoldsM D g ∧ ∀ k, l (.int .i64 k) = left k
section
variable {α : Type} {P : Program} {kt : TypeId} {mk : α → Value} {w : World} {b r n cnt : Nat} {g : Int → Option α} {left : Int → Bool}
theorem RangeAt.owns (h : RangeAt P kt mk w b r n g left cnt) : MapAt P kt mk w b n g := by
 obtain ⟨D, l, h, hd, _⟩ := h
 exact ⟨D, h.owns, hd⟩
theorem RangeAt.lt (h : RangeAt P kt mk w b r n g left cnt) : r < w.heap.size := by
 obtain ⟨D, l, h, hd, _⟩ := h
 exact h.lt
theorem RangeAt.ne (h : RangeAt P kt mk w b r n g left cnt) : r ≠ b := by
 obtain ⟨D, l, h, hd, _⟩ := h
 exact h.ne
theorem RangeAt.below {w' : World} {m : Nat} (h : RangeAt P kt mk w b r n g left cnt) (hb : Below m w w') (h1 : b < m) (h2 : r < m) : RangeAt P kt mk w' b r n g left cnt := by
 obtain ⟨D, l, ⟨es, clock, since, seen, c0, e1, F, hs, hD, e2, rest⟩, hd⟩ := h
 exact ⟨D, l, ⟨es, clock, since, seen, c0, (hb.block b h1).trans e1, F, hs, hD, (hb.block r h2).trans e2, rest⟩, hd⟩
theorem RangeAt.keep {w' : World} (h : RangeAt P kt mk w b r n g left cnt) (hb : Below w.heap.size w w') : RangeAt P kt mk w' b r n g left cnt := h.below hb h.owns.lt h.lt
theorem RangeAt.set {a : Addr} (h : RangeAt P kt mk w b r n g left cnt) (h1 : b ≠ a.block) (h2 : r ≠ a.block) (u : Value) : RangeAt P kt mk (w.setCell a u) b r n g left cnt := by
 obtain ⟨D, l, ⟨es, clock, since, seen, c0, e1, F, hs, hD, e2, rest⟩, hd⟩ := h
 exact ⟨D, l, ⟨es, clock, since, seen, c0, by rw [Below.heap_setCell _ _ _ _ h1]; exact e1, F, hs, hD, by rw [Below.heap_setCell _ _ _ _ h2]; exact e2, rest⟩, hd⟩
theorem MapAt.range {t e : TypeId} (h : MapAt P kt mk w b n g) (hk : P.underlying kt = some (.int .i64)) (ht : P.underlying t = some (.map kt e)) :
  ∃ w' cnt, (Instr.range t (.map (some b))).run P w = .ok (.pointer (some ⟨w.heap.size, 0, none⟩)) w' ∧ RangeAt P kt mk w' b w.heap.size n g (fun k => (g k).isSome) cnt ∧ Below w.heap.size w w' ∧ cnt ≤ n := by
 obtain ⟨D, h, hd⟩ := h
 obtain ⟨w', hrun, hr, hg, _⟩ := h.range (Maps.int_keyed hk) ht
 exact ⟨w', _, hrun, ⟨D, _, hr, hd, fun k => hd.has k⟩, (Below.refl _ _).grown hg (Nat.le_refl _) (fun k e => by cases e), h.size_le⟩
theorem RangeAt.next (h : RangeAt P kt mk w b r n g left cnt) (hk : P.underlying kt = some (.int .i64)) (ty : TypeId) :
  (cnt = 0 ∧ (∀ k, left k = false) ∧ (Instr.next (.pointer (some ⟨r, 0, none⟩)) false ty).run P w = .ok (.tuple #[.bool false]) w) ∨
  ∃ k a w' cnt', (Lit.int .i64 k).wf = true ∧ left k = true ∧ g k = some a ∧ (Instr.next (.pointer (some ⟨r, 0, none⟩)) false ty).run P w = .ok (.tuple #[.bool true, .int .i64 k, mk a]) w' ∧
   RangeAt P kt mk w' b r n g (fun j => left j && !(j == k)) cnt' ∧ cnt' < cnt ∧ (∀ m, m ≤ r → Below m w w') ∧ (Instr.entry (.pointer (some ⟨r, 0, none⟩))).run P w' = .ok (.tuple #[.int .i64 k, mk a]) w' ∧ w.grownBy w' (some r) := by
 obtain ⟨D, l, h, hd, hl⟩ := h
 have hrl := h.lt
 rcases h.next (Maps.int_keyed hk) ty with ⟨h0, h1, hrun⟩ | ⟨key, v, kl, y, w', cnt', hkey, hlk, hv, hat, hrun, hrg, hlt, hgr, hsz, hen⟩
 ·
  exact .inl ⟨h0, fun k => by rw [← hl k]; exact h1 _, hrun⟩
 ·
  obtain ⟨k, rfl, rfl, wf⟩ := Maps.keyOf_int_inv hk hkey
  obtain ⟨a, rfl, rfl⟩ := mkR_inv hv
  refine .inr ⟨k, a, w', cnt', wf, by rw [← hl k]; exact hlk, ?_, hrun, ⟨D, _, hrg, hd, fun j => ?_⟩, hlt, fun m hm => (Below.refl m w).grown hgr (by omega) (fun k e => by cases e; exact hm), hen, hgr⟩
  ·
   cases hg : g k with
   | none =>
    have h1 := (hd k).1 hg
    rw [Maps.has_true_of_atKey hat] at h1
    cases h1
   | some a' =>
    have h1 := (hd k).2 a' hg .nil
    rw [hat .nil] at h1
    injection h1 with h1
    rw [h1]
  ·
   show (l (.int .i64 j) && !(Lit.int .i64 j).sameKey (.int .i64 k)) = _
   rw [hl j]
   have : (Lit.int .i64 j).sameKey (.int .i64 k) = (j == k) := by
    by_cases e : j = k
    ·
     subst e
     rw [WideAt.sameKey_self (show WideAt.IsKeyLit (.int .i64 j) from trivial)]
     simp
    ·
     rw [Maps.sameKey_ne (fun e1 => e (by cases e1; rfl))]
     simp [e]
   rw [this]
theorem RangeAt.store {t e : TypeId} (h : RangeAt P kt mk w b r n g left cnt) (hi : ∀ a b, mk a = mk b → a = b) (hk : P.underlying kt = some (.int .i64)) (ht : P.underlying t = some (.map kt e)) {k : Int} (wf : (Lit.int .i64 k).wf = true) (a : α) (hin : (g k).isSome = true) :
  ∃ w', (Instr.mapUpdate t (.map (some b)) (.int .i64 k) (mk a)).run P w = .ok () w' ∧ RangeAt P kt mk w' b r n (fun j => if j = k then some a else g j) left cnt ∧ w.mapTurned w' b := by
 have hne := h.ne
 obtain ⟨D, l, ⟨es, clock, since, seen, c0, hb, F, hs, rfl, hr, hold, hc, hl1, hl2, hsc, hsk⟩, hd, hl⟩ := h
 have K := Maps.int_keyed (P := P) (k := kt) (q := .i64) hk
 have hkey := Maps.keyOf_int_mk (P := P) (k := kt) (q := .i64) hk wf
 have hv := mkR_mk hi a
 rcases K.find w hkey es.toList F.keys with ⟨h1, h2⟩ | ⟨j, e0, h1, h2, h3⟩
 ·
  exfalso
  have h4 := hd.has k
  rw [hin] at h4
  obtain ⟨p, hp, hpk⟩ := List.any_eq_true.1 h4
  obtain ⟨x, hx, rfl⟩ := List.mem_map.1 (mem_sorted.1 hp)
  obtain ⟨y, hy⟩ := F.reads x hx
  rw [WideElems.rg_of hy] at hpk
  exact h2 x hx (K.inj (WideElems.rd_key hy) ((WideAt.sameKey_eq hpk) ▸ hkey))
 ·
  have hj : es[j]? = some e0 := by simpa using h2
  have hkeyf : ∀ e', es[j]? = some e' → ({ e' with key := .int .i64 k, val := mk a } : MapEntry).key = e'.key := fun e' he' => by rw [hj] at he'; cases he'; exact h3.symm
  have hlist : (es.modify j (fun e' => { e' with key := .int .i64 k, val := mk a })).toList = es.toList.set j { e0 with key := .int .i64 k, val := mk a } := by rw [Array.toList_modify, ChangeMaps.modify_eq_set _ _ _ _ h2]
  have hmem0 : e0 ∈ es.toList := List.mem_of_getElem? h2
  obtain ⟨y0, hy0⟩ := F.reads e0 hmem0
  have who : ∀ x ∈ es.toList.set j { e0 with key := .int .i64 k, val := mk a }, x = { e0 with key := .int .i64 k, val := mk a } ∨ (x ∈ es.toList ∧ x.key ≠ .int .i64 k) := by
   intro x hx
   obtain ⟨i, hi, ex⟩ := List.getElem_of_mem hx
   rw [List.getElem_set] at ex
   split at ex
   ·
    exact Or.inl ex.symm
   ·
    rename_i hne
    have hi' : i < es.toList.length := by simpa using hi
    refine Or.inr ⟨ex ▸ List.getElem_mem hi', ?_⟩
    rw [← h3]
    exact WideElems.other_key F h2 (by rw [List.getElem?_eq_getElem hi', ex]) (fun e1 => hne e1.symm)
  have hy1 := WideElems.rd_mk (born := e0.born) hkey hv
  have e00 : (WideElems.rg P kt (mkR mk) e0).1 = .int .i64 k := by
   rw [WideElems.rg_of hy0]
   have h5 := WideElems.rd_key hy0
   rw [h3, hkey] at h5
   exact (Option.some.inj h5).symm
  have keyEq : ∀ x ∈ es.toList.set j { e0 with key := .int .i64 k, val := mk a }, ∃ x0 ∈ es.toList, x0.born = x.born ∧ (WideElems.rg P kt (mkR mk) x).1 = (WideElems.rg P kt (mkR mk) x0).1 := by
   intro x hx
   rcases who x hx with rfl | ⟨hx', _⟩
   ·
    exact ⟨e0, hmem0, rfl, by rw [e00, WideElems.rg_of hy1]⟩
   ·
    exact ⟨x, hx', rfl, rfl⟩
  have keyEq2 : ∀ x0 ∈ es.toList, ∃ x ∈ es.toList.set j { e0 with key := .int .i64 k, val := mk a }, x.born = x0.born ∧ (WideElems.rg P kt (mkR mk) x).1 = (WideElems.rg P kt (mkR mk) x0).1 := by
   intro x0 hx0
   obtain ⟨i, hi, ex⟩ := List.getElem_of_mem hx0
   by_cases e1 : i = j
   ·
    subst e1
    have : x0 = e0 := by
     rw [List.getElem?_eq_getElem hi, ex] at h2
     exact Option.some.inj h2
    subst this
    exact ⟨{ x0 with key := .int .i64 k, val := mk a }, List.mem_set hi _, rfl, by rw [e00, WideElems.rg_of hy1]⟩
   ·
    refine ⟨x0, ?_, rfl, rfl⟩
    have : (es.toList.set j { e0 with key := .int .i64 k, val := mk a })[i]'(by simpa using hi) = x0 := by
     rw [List.getElem_set_ne (fun e2 => e1 e2.symm)]
     exact ex
    rw [← this]
    exact List.getElem_mem _
  have hF' : WideElems.Fit P kt (mkR mk) (es.modify j (fun e' => { e' with key := .int .i64 k, val := mk a })) clock := by
   refine ⟨by simpa using F.size, MapKept.stamped_modify F.stamped _ _ (fun _ _ => rfl) (fun e' _ he' => hkeyf e' he'), fun x hx => ?_⟩
   rw [hlist] at hx
   rcases who x hx with rfl | ⟨hx', hne⟩
   ·
    exact ⟨_, hy1⟩
   ·
    exact F.reads x hx'
  have hput : ((es.modify j (fun e' => { e' with key := .int .i64 k, val := mk a })).toList.map (WideElems.rg P kt (mkR mk))).foldr DataW.insert [] = ChangeMaps.putKey (.int .i64 k) (.held a) ((es.toList.map (WideElems.rg P kt (mkR mk))).foldr DataW.insert []) := by
   refine Maps.sorted_put K.one ⟨_, hkey⟩ (Maps.fit_keys F) (Maps.fit_apart K F) ?_
   rw [Maps.filter_one K F hkey h2 h3, hlist, List.map_set, WideElems.rg_of hy1]
   exact ChangeMaps.set_perm _ _ (by simpa using (List.getElem?_eq_some_iff.1 h2).1) _
  refine ⟨ChangeMaps.setBlock w b (.map (es.modify j (fun e' => { e' with key := .int .i64 k, val := mk a })) clock), ?_, ⟨_, l, ⟨_, clock, since, seen, c0, ChangeMaps.heap_setBlock_same hb _, hF', by simpa using hs, rfl, (ChangeMaps.heap_setBlock_other hb _ hne).trans hr, fun x hx => ?_, ?_, fun x hx => ?_, fun kl hkl => ?_, hsc, hsk⟩, ?_, hl⟩, ⟨es, clock, _, clock, hb, rfl⟩⟩
  ·
   simp [Instr.mapUpdate, run_underlying ht, MapKept.run_getObj_map hb, K.check w false hkey, h1, hj, h3, K.stays w hkey, MapKept.run_setObj_map _ hb, Result.andThen, ChangeMaps.setBlock]
  ·
   rw [hlist] at hx
   obtain ⟨x0, hx0, e1, _⟩ := keyEq x hx
   rw [← e1]
   exact hold x0 hx0
  ·
   rw [← hc]
   have e1 : ∀ a : Array MapEntry, (leftOf a seen).size = (a.toList.map (fun e => e.born)).countP (fun b => !seen.contains b) := fun a => by
    unfold leftOf
    rw [List.countP_map, ← Array.length_toList, Array.toList_filter, List.countP_eq_length_filter]
    rfl
   rw [e1, e1, hlist, List.map_set]
   congr 1
   have : (es.toList.map (fun e => e.born))[j]? = some e0.born := by rw [List.getElem?_map, h2]; rfl
   obtain ⟨hj2, hj3⟩ := List.getElem?_eq_some_iff.1 this
   show List.set _ j e0.born = _
   rw [← hj3]
   exact List.set_getElem_self hj2
  ·
   rw [hlist] at hx
   obtain ⟨x0, hx0, e1, e2⟩ := keyEq x hx
   rw [e2, hl1 x0 hx0, e1]
  ·
   obtain ⟨x0, hx0, e1⟩ := hl2 kl hkl
   obtain ⟨x, hx, _, e2⟩ := keyEq2 x0 hx0
   exact ⟨x, by rw [hlist]; exact hx, e2.trans e1⟩
  ·
   rw [hput]
   have := hd.put ⟨_, rfl⟩ k a
   rw [DataW.put_eq] at this
   exact this
end
def Ch (pr : Int → Option Int) : List Int → Int → Prop
 | [], id => id < 0
 | x :: c, id => x = id ∧ 0 ≤ id ∧ ∃ p, pr id = some p ∧ Ch pr c p
theorem Ch.uniq {pr : Int → Option Int} : ∀ {c c' : List Int} {id : Int}, Ch pr c id → Ch pr c' id → c = c'
 | [], [], _, _, _ => rfl
 | [], x :: c', id, h, h' => by
  obtain ⟨_, h2, _⟩ := h'
  have h1 : id < 0 := h
  omega
 | x :: c, [], id, h, h' => by
  obtain ⟨_, h2, _⟩ := h
  have h1 : id < 0 := h'
  omega
 | x :: c, y :: c', id, h, h' => by
  obtain ⟨rfl, _, p, hp, h1⟩ := h
  obtain ⟨rfl, _, p', hp', h2⟩ := h'
  rw [hp] at hp'
  cases hp'
  rw [Ch.uniq h1 h2]
theorem Ch.congr {pr pr' : Int → Option Int} : ∀ {c : List Int} {id : Int}, Ch pr c id → (∀ x ∈ c, pr' x = pr x) → Ch pr' c id
 | [], _, h, _ => h
 | x :: c, id, h, he => by
  obtain ⟨rfl, h0, p, hp, h1⟩ := h
  exact ⟨rfl, h0, p, (he x List.mem_cons_self).trans hp, Ch.congr h1 fun y hy => he y (List.mem_cons_of_mem _ hy)⟩
theorem Ch.mem {pr : Int → Option Int} : ∀ {c : List Int} {id x : Int}, Ch pr c id → x ∈ c → 0 ≤ x ∧ ∃ c1 c2, c = c1 ++ x :: c2 ∧ Ch pr (x :: c2) x
 | [], _, _, _, h => by cases h
 | y :: c, id, x, h, hx => by
  have h' := h
  obtain ⟨rfl, h0, p, hp, h1⟩ := h
  rcases List.mem_cons.1 hx with rfl | hx
  ·
   exact ⟨h0, [], c, rfl, h'⟩
  ·
   obtain ⟨g0, c1, c2, e, g1⟩ := Ch.mem h1 hx
   exact ⟨g0, y :: c1, c2, by rw [e]; rfl, g1⟩
theorem Ch.has {pr : Int → Option Int} {c : List Int} {id x : Int} (h : Ch pr c id) (hx : x ∈ c) : ∃ p, pr x = some p := by
 obtain ⟨_, _, _, _, _, _, p, hp, _⟩ := h.mem hx
 exact ⟨p, hp⟩
theorem Ch.nodup {pr : Int → Option Int} : ∀ {c : List Int} {id : Int}, Ch pr c id → c.Nodup
 | [], _, _ => List.nodup_nil
 | x :: c, id, h => by
  have h' := h
  obtain ⟨rfl, h0, p, hp, h1⟩ := h
  refine List.nodup_cons.2 ⟨fun hx => ?_, Ch.nodup h1⟩
  obtain ⟨_, c1, c2, e, h2⟩ := h1.mem hx
  have e2 := Ch.uniq h' h2
  have := congrArg List.length e2
  rw [e] at this
  simp at this
  omega
theorem Ch.head {pr : Int → Option Int} {c : List Int} {id : Int} (h : Ch pr c id) (h0 : 0 ≤ id) : ∃ c', c = id :: c' := by
 cases c with
 | nil => exact absurd h0 (by have : id < 0 := h; omega)
 | cons x c => exact ⟨c, by rw [h.1]⟩
theorem Ch.split {pr : Int → Option Int} {c : List Int} {id x : Int} (h : Ch pr c id) (hx : x ∈ c) {d : List Int} (hd : Ch pr d x) : ∃ c1, c = c1 ++ d ∧ x ∉ c1 := by
 obtain ⟨_, c1, c2, e, h2⟩ := h.mem hx
 obtain rfl := Ch.uniq hd h2
 refine ⟨c1, e, fun hc => ?_⟩
 have := h.nodup
 rw [e, List.nodup_append] at this
 exact this.2.2 x hc x List.mem_cons_self rfl
def fnd (L : List S84) (id : Int) : Option S84 := L.find? (fun g => g.f0 == id)
def Asc (L : List S84) : Prop := L.Pairwise (fun a b => a.f0 < b.f0)
def prt (L : List S84) (id : Int) : Option Int := (fnd L id).map (·.f1)
theorem za5 {L : List S84} {id : Int} {g : S84} (h : fnd L id = some g) : g ∈ L ∧ g.f0 = id := by
 refine ⟨List.mem_of_find?_eq_some h, ?_⟩
 have := List.find?_some h
 simpa using this
theorem fnd_none {L : List S84} {id : Int} (h : fnd L id = none) : ∀ g ∈ L, g.f0 ≠ id := by
 intro g hg e
 have := List.find?_eq_none.1 h g hg
 simp [e] at this
theorem Asc.inj {L : List S84} (h : Asc L) {x y : S84} (hx : x ∈ L) (hy : y ∈ L) (e : x.f0 = y.f0) : x = y := by
 induction L with
 | nil => cases hx
 | cons a L ih =>
  obtain ⟨h1, h2⟩ := List.pairwise_cons.1 h
  rcases List.mem_cons.1 hx with rfl | hx'
  ·
   rcases List.mem_cons.1 hy with rfl | hy'
   ·
    rfl
   ·
    have := h1 y (by assumption)
    omega
  ·
   rcases List.mem_cons.1 hy with rfl | hy
   ·
    have := h1 x (by assumption)
    omega
   ·
    exact ih h2 (by assumption) (by assumption)
theorem fnd_mem {L : List S84} (h : Asc L) {g : S84} (hg : g ∈ L) : fnd L g.f0 = some g := by
 cases hf : fnd L g.f0 with
 | none => exact absurd rfl (fnd_none hf g hg)
 | some y =>
  obtain ⟨h1, h2⟩ := za5 hf
  rw [h.inj h1 hg h2]
theorem prt_some {L : List S84} {id p : Int} (h : prt L id = some p) : ∃ g ∈ L, g.f0 = id ∧ g.f1 = p := by
 unfold prt at h
 cases hf : fnd L id with
 | none => rw [hf] at h; cases h
 | some g =>
  rw [hf] at h
  cases h
  obtain ⟨h1, h2⟩ := za5 hf
  exact ⟨g, h1, h2, rfl⟩
theorem prt_mem {L : List S84} (h : Asc L) {g : S84} (hg : g ∈ L) : prt L g.f0 = some g.f1 := by
 unfold prt
 rw [fnd_mem h hg]
 rfl
noncomputable def way (L : List S84) (id : Int) : List Int :=
 open Classical in if h : ∃ c, Ch (prt L) c id then h.choose else []
theorem way_eq {L : List S84} {id : Int} {c : List Int} (h : Ch (prt L) c id) : way L id = c := by
 have h1 : ∃ c, Ch (prt L) c id := ⟨c, h⟩
 unfold way
 rw [dif_pos h1]
 exact Ch.uniq h1.choose_spec h
theorem way_congr {L L' : List S84} (h : prt L = prt L') (id : Int) : way L id = way L' id := by
 unfold way
 rw [h]
noncomputable def act (L : List S84) (id : Int) : Int := (L.map fun g => if id ∈ way L g.f0 then g.f4 else 0).sum
def kid (L : List S84) (id : Int) : Int := ((L.filter fun g => g.f1 == id).length : Nat)
def GoodG (last : Int) (L : List S84) (g : S84) : Prop :=
 1 ≤ g.f0 ∧ g.f0 ≤ last ∧ (g.f1 = -1 ∨ 1 ≤ g.f1) ∧ (∃ c, Ch (prt L) c g.f0 ∧ c.length ≤ 8) ∧ (1 ≤ g.f2 ∧ g.f2 ≤ 10000) ∧ 0 ≤ g.f4 ∧ g.f4 ≤ g.f3 ∧ kid L g.f0 + g.f3 ≤ 32
def GoodF (room : Nat) (last : Int) (L : List S84) : Prop :=
 room ≤ 64 ∧ L.length ≤ room ∧ 0 ≤ last ∧ last < 100000 ∧ Asc L ∧ ∀ g ∈ L, GoodG last L g
theorem zba (L : List S84) (id : Int) : 0 ≤ kid L id := Int.natCast_nonneg _
theorem kid_le (L : List S84) (id : Int) : kid L id ≤ L.length := by
 unfold kid
 have := List.length_filter_le (fun g : S84 => g.f1 == id) L
 omega
theorem GoodF.way {room : Nat} {last : Int} {L : List S84} (h : GoodF room last L) {g : S84} (hg : g ∈ L) : Ch (prt L) (way L g.f0) g.f0 ∧ (way L g.f0).length ≤ 8 := by
 obtain ⟨_, _, _, ⟨c, hc, hl⟩, _⟩ := h.2.2.2.2.2 g hg
 rw [way_eq hc]
 exact ⟨hc, hl⟩
theorem act_bounds {room : Nat} {last : Int} {L : List S84} (h : GoodF room last L) (id : Int) : 0 ≤ act L id ∧ act L id ≤ 2048 := by
 have key : ∀ M : List S84, (∀ g ∈ M, g ∈ L) → 0 ≤ (M.map fun g => if id ∈ P.way L g.f0 then g.f4 else 0).sum ∧ (M.map fun g => if id ∈ P.way L g.f0 then g.f4 else 0).sum ≤ 32 * (M.length : Int) := by
  intro M
  induction M with
  | nil => intro _; simp
  | cons g M ih =>
   intro hM
   obtain ⟨h1, h2⟩ := ih fun x hx => hM x (List.mem_cons_of_mem _ hx)
   obtain ⟨_, _, _, _, _, g4, g5, g6⟩ := h.2.2.2.2.2 g (hM g List.mem_cons_self)
   have := zba L g.f0
   rw [List.map_cons, List.sum_cons, List.length_cons]
   split <;> constructor <;> push_cast <;> omega
 have := key L fun _ h => h
 have h1 := h.1
 have h2 := h.2.1
 unfold act
 omega
def kp : Kd Nat := Kd.scalar (fun k => Value.pointer (some ⟨k, 0, none⟩)) (fun _ => rfl)
def ptrO : Option Nat → Value
 | none => .pointer none
 | some b => .pointer (some ⟨b, 0, none⟩)
def PathAt (w : World) : List Nat → Prop
 | [] => True
 | b :: r => (∃ x0 x2 x3 x4 x5 x6, w.heap[b]? = some (.cells #[x0, ptrO r.head?, x2, x3, x4, x5, x6] 71 (0, 0))) ∧ PathAt w r
theorem PathAt.blocks {w w' : World} : ∀ {bs : List Nat}, PathAt w bs → (∀ b ∈ bs, w'.heap[b]? = w.heap[b]?) → PathAt w' bs
 | [], _, _ => trivial
 | b :: r, ⟨⟨x0, x2, x3, x4, x5, x6, h⟩, hr⟩, he => ⟨⟨x0, x2, x3, x4, x5, x6, (he b List.mem_cons_self).trans h⟩, hr.blocks fun c hc => he c (List.mem_cons_of_mem _ hc)⟩
theorem PathAt.lt {w : World} : ∀ {bs : List Nat}, PathAt w bs → ∀ b ∈ bs, b < w.heap.size
 | [], _, _, h => by cases h
 | b :: r, ⟨⟨_, _, _, _, _, _, h⟩, hr⟩, c, hc => by
  rcases List.mem_cons.1 hc with rfl | hc
  ·
   exact zar h
  ·
   exact hr.lt c hc
theorem PathAt.keep {w w' : World} {bs : List Nat} (h : PathAt w bs) (hb : Below w.heap.size w w') : PathAt w' bs := h.blocks fun b hm => hb.block b (h.lt b hm)
theorem info64 : (Try.prog.info? 64).map (fun i => (i.zero, i.size, i.bytes)) = some (some (.pointer none), 1, 8) := by kernel_rfl
theorem PathAt.tail {w : World} : ∀ {a r : List Nat}, PathAt w (a ++ r) → PathAt w r
 | [], _, h => h
 | _ :: a, _, h => PathAt.tail (a := a) h.2
theorem path_ok {w : World} {bs : List Nat} (h : PathAt w bs) (hl : bs.length ≤ 1000) :
  Calls Try.prog 25 #[ptrO bs.head?] w fun e w' => ∃ v, e = .returned v ∧ kp.R 64 w' w.heap.size (fun k => w.heap.size ≤ k) v bs ∧ Below w.heap.size w w' := by
 have H := Aside0.mk h
 clear h
 go_enter Try.func25, Try.ntmps25
 go_wp2_with fail
 go_loopg [0, 3] bs.length (fun gk v0 v3 w' => ∃ (a r : List Nat), bs = a ++ r ∧ r.length = gk ∧ v0 = ptrO r.head? ∧ Aside0 (kp.R 64 w' w.heap.size (fun k => w.heap.size ≤ k) v3 a) ∧ Aside0 (Below w.heap.size w w'))
 case atStart => exact ⟨[], bs, rfl, rfl, rfl, ⟨Kd.R_nil _ _ _ _ _⟩, ⟨Below.refl _ _⟩⟩
 case round =>
  obtain ⟨a, r, hbs, hr, rfl, HO, HW⟩ := hrel
  have HBS := Aside0.mk hbs
  have hal : a.length + r.length = bs.length := by rw [hbs, List.length_append]
  clear hbs
  cases r with
  | nil =>
   dsimp only [List.head?, ptrO]
   go_wp2_with fail
   go_ret
   exact ⟨_, rfl, by rw [HBS.out, List.append_nil]; exact HO.out, HW.out⟩
  | cons b r =>
   rw [List.length_cons] at hr hal
   obtain ⟨⟨x0, x2, x3, x4, x5, x6, hb⟩, _⟩ : PathAt wr (b :: r) := PathAt.tail (a := a) (by rw [← HBS.out]; exact H.out.keep HW.out)
   dsimp only [List.head?, ptrO]
   have hall : (a.length + 1) * 8 ≤ 140737488355328 := by omega
   have HALL := Aside0.mk hall
   have HB := Aside0.mk hb
   have hw := HW.out.size
   obtain ⟨g1, rfl⟩ : ∃ g1, gk = g1 + 1 := ⟨r.length, hr.symm⟩
   have hbne := Kd.R_lt HO.out
   have hbl := zar hb
   have hbb : b < w.heap.size := H.out.lt b (by rw [HBS.out]; simp)
   clear hb hall
   go_wp2_with (first | ((with_reducible refine zcc (b := .append) (xs := #[.tmp 10, .tmp 12]) rfl ?_); at_builtin; refine Kd.R_append kp (w0 := w) w.heap.size rfl (.tmp 10) (.tmp 12) 67 64 (.pointer none) 8 rfl Try.underlying67 info64 rfl (by decide) (by omega) u3 a b [.pointer (some ⟨b, 0, none⟩)] (fun k_ => w.heap.size ≤ k_) (fun _ => False) rfl (by first | rfl | simp [Act.eval]) rfl (fun _ hk => hk.elim) (fun k_ hk => Nat.le_trans hw hk) HO.out HW.out hw HALL.out ?_; intro v9 w9 ho9 hb9 hg9 hat9; have HO9 := Aside0.mk ho9; have HB9 := Aside0.mk hb9; have he9 := (hg9.block _ hbl (fun e => Nat.not_le_of_lt hbb (Kd.R_base HO.out _ e.symm))).trans HB.out; have y0 : w9.cell? ⟨b, 1, none⟩ = some (ptrO r.head?) := (za he9 1).trans rfl; clear ho9 hb9 hg9 hat9 he9))
   go_roundg g1
   case measure => exact Nat.lt_succ_self _
   case rel => exact ⟨a ++ [b], r, by rw [HBS.out]; simp, by omega, by simp, HO9, HB9⟩
theorem kp_at {w : World} {A : Option Addr} {n : Nat} {xs : List Nat} (h : kp.C w A n xs) (i : Nat) (h1 : i < n) : ∃ ad, A = some ad ∧ w.cell? (ad.add i) = some (.pointer (some ⟨xs.getD i 0, 0, none⟩)) := by
 obtain ⟨ad, e, h2⟩ := ReadsOf.at_ (Kd.reads_of_C (enc := fun k : Nat => Value.pointer (some ⟨k, 0, none⟩)) (d := (0 : Nat)) (h1 := fun _ => rfl) h) (i : Int) (by omega) (by omega)
 refine ⟨ad, e, ?_⟩
 simpa [Int.toNat_natCast, rdOf] using h2
theorem kp_V {w : World} {base : Nat} {ok : Nat → Prop} {v : Value} {xs : List Nat} (h : kp.R 64 w base ok v xs) : ∃ A c, v = .slice A xs.length c ∧ xs.length ≤ c ∧ kp.C w A xs.length xs := by
 have hv := Kd.R_V (base' := 0) h
 obtain ⟨A, c, rfl⟩ := Kd.zbv h
 obtain ⟨_, h1, h2⟩ := Kd.zay hv
 exact ⟨A, c, rfl, h1, h2⟩
theorem root_ok {w : World} {bs : List Nat} {b : Nat} (h : PathAt w bs) (hl : bs.length ≤ 1000) (hb : bs.getLast? = some b) :
  Calls Try.prog 27 #[ptrO bs.head?] w fun e w' => e = .returned (.pointer (some ⟨b, 0, none⟩)) ∧ Below w.heap.size w w' := by
 have H := Aside0.mk h
 have hne : 0 < bs.length := by
  cases bs with
  | nil => cases hb
  | cons _ _ => simp
 have hlast : bs.getD (bs.length - 1) 0 = b := by
  rw [List.getLast?_eq_getElem?] at hb
  rw [List.getD_eq_getElem?_getD, hb]
  rfl
 have HLT := Aside0.mk hlast
 clear h hb hlast
 go_enter Try.func27, Try.ntmps27
 go_wp2_with fail
 go_at_call 25
 refine (path_ok H.out hl).mono ?_
 rintro e w1 ⟨v, rfl, hr, hb1⟩
 obtain ⟨A, c, rfl, hc, hC⟩ := kp_V hr
 obtain ⟨ad, rfl, hx⟩ := kp_at hC (bs.length - 1) (by omega)
 rw [HLT.out] at hx
 have HB := Aside0.mk hb1
 have wl : wrap64 ((bs.length : Int) - 1) = ((bs.length - 1 : Nat) : Int) := wsub1 _ (by omega) hne
 have i1 : (0 : Int) ≤ ((bs.length - 1 : Nat) : Int) ∧ ((bs.length - 1 : Nat) : Int) < (bs.length : Int) := by omega
 clear hr hC hb1
 go_wp2_with fail
 go_ret
 exact ⟨rfl, HB.out⟩
def ixP (b : Nat) : List Nat → Nat → Int
 | [], _ => -1
 | x :: xs, i => if b = x then (i : Int) else ixP b xs (i + 1)
theorem ixP_mem (b : Nat) : ∀ (l : List Nat) (i : Nat), 0 ≤ ixP b l i ↔ b ∈ l
 | [], i => by simp [ixP]
 | x :: xs, i => by
  unfold ixP
  by_cases h : b = x
  ·
   rw [if_pos h]
   simp [h]
  ·
   rw [if_neg h, ixP_mem b xs (i + 1)]
   simp [h]
def Live (w : World) (b : Nat) : Prop := ∃ ca, w.heap[b]? = some (.cells ca 71 (0, 0))
theorem Live.keep {w w' : World} {b : Nat} (h : Live w b) (hb : Below w.heap.size w w') : Live w' b := by
 obtain ⟨ca, h⟩ := h
 exact ⟨ca, (hb.block b (zar h)).trans h⟩
theorem nodeInfo : ∃ j, Try.prog.info? 71 = some j ∧ j.size ≠ 0 := by
 cases h : Try.prog.info? 71 with
 | none =>
  have : (Try.prog.info? 71).isSome = true := by kernel_rfl
  rw [h] at this
  cases this
 | some j =>
  refine ⟨j, rfl, ?_⟩
  have h2 : (Try.prog.info? 71).map (·.size) = some 7 := by kernel_rfl
  rw [h] at h2
  have h3 : j.size = 7 := Option.some.inj h2
  rw [h3]
  decide
theorem ptr_equal {w : World} {a b : Nat} (ha : Live w a) (hb : Live w b) : (Op.equal 64 (.pointer (some ⟨a, 0, none⟩)) (.pointer (some ⟨b, 0, none⟩))).run Try.prog w = .ok (decide (a = b)) w := by
 obtain ⟨j, hte, hsz⟩ := nodeInfo
 obtain ⟨ca, ha⟩ := ha
 obtain ⟨cb, hb⟩ := hb
 by_cases h : a = b
 ·
  subst h
  have h1 : ∀ d : Nat, (Op.equalIn (d + 1) 64 (.pointer (some ⟨a, 0, none⟩)) (.pointer (some ⟨a, 0, none⟩))).run Try.prog w = .ok true w := fun d => by
   simp [Op.equalIn, run_underlying Try.underlying64, sizeOf, typeInfo, hte, run_sameAddr_same]
  simp [Op.equal, Op.maxDepth, h1 9999]
 ·
  have h1 : ∀ d : Nat, (Op.equalIn (d + 1) 64 (.pointer (some ⟨a, 0, none⟩)) (.pointer (some ⟨b, 0, none⟩))).run Try.prog w = .ok false w := fun d => by
   simp [Op.equalIn, run_underlying Try.underlying64, sizeOf, typeInfo, hte, hsz, run_sameAddr_other w (a := ⟨a, 0, none⟩) (b := ⟨b, 0, none⟩) (fun e => h (by injection e)) ha hb]
  simp [Op.equal, Op.maxDepth, h1 9999, h]
theorem ptr_eql {w : World} {a b : Nat} (ha : Live w a) (hb : Live w b) : (binOp .eql 64 (.pointer (some ⟨a, 0, none⟩)) (.pointer (some ⟨b, 0, none⟩))).run Try.prog w = .ok (.bool (decide (a = b))) w := by
 simp only [binOp]
 simp [ptr_equal ha hb]
theorem ptr_neq {w : World} {a b : Nat} (ha : Live w a) (hb : Live w b) : (binOp .neq 64 (.pointer (some ⟨a, 0, none⟩)) (.pointer (some ⟨b, 0, none⟩))).run Try.prog w = .ok (.bool (!decide (a = b))) w := by
 simp only [binOp]
 simp [ptr_equal ha hb]
theorem indexP_ok {w : World} {A : Option Addr} {c : Nat} {xs : List Nat} (b : Nat) (h : kp.C w A xs.length xs) (hl : xs.length ≤ 1000) (hb : Live w b) (hx : ∀ x ∈ xs, Live w x) :
  Calls Try.prog 63 #[.slice A xs.length c, .pointer (some ⟨b, 0, none⟩)] w fun e w' => e = .returned (.int .i64 (ixP b xs 0)) ∧ w' = w := by
 have H := Aside0.mk h
 have HLB := Aside0.mk hb
 have HLX := Aside0.mk hx
 clear h hb hx
 go_enter Try.func63, Try.ntmps63
 go_wp2_with fail
 go_loopg [8] xs.length (fun gk v8 w' => ∃ i : Nat, v8 = .int .i64 (i : Int) ∧ i + gk = xs.length ∧ ixP b (xs.drop i) i = ixP b xs 0 ∧ w' = w)
 case atStart => exact ⟨0, rfl, by omega, by rw [List.drop_zero], rfl⟩
 case round =>
  obtain ⟨i, rfl, hi, hz, rfl⟩ := hrel
  cases gk with
  | zero =>
   rw [List.drop_of_length_le (by omega)] at hz
   have d1 : decide ((i : Int) < (xs.length : Int)) = false := decide_eq_false (by omega)
   go_wp2_with fail
   go_ret
   exact ⟨by rw [← hz]; rfl, rfl⟩
  | succ g1 =>
   have d1 : decide ((i : Int) < (xs.length : Int)) = true := decide_eq_true (by omega)
   have d3 : 0 ≤ (i : Int) ∧ (i : Int) < (xs.length : Int) := by omega
   have hil : i < xs.length := by omega
   obtain ⟨ad, rfl, hx⟩ := kp_at H.out i hil
   rw [List.getD_eq_getElem?_getD, List.getElem?_eq_getElem hil, Option.getD_some] at hx
   rw [List.drop_eq_getElem_cons hil] at hz
   have HZ := Aside0.mk hz
   clear hz
   have heq := ptr_eql HLB.out (HLX.out _ (List.getElem_mem hil))
   by_cases h0 : b = xs[i]
   ·
    have hz := HZ.out
    rw [ixP, if_pos h0] at hz
    have HZ2 := Aside0.mk hz
    rw [decide_eq_true h0] at heq
    generalize xs[i] = y at hx heq
    clear hz h0
    go_wp2_with fail
    go_ret
    exact ⟨by first | rfl | (rw [HZ2.out]; rfl), rfl⟩
   ·
    have hz := HZ.out
    rw [ixP, if_neg h0] at hz
    have HZ2 := Aside0.mk hz
    rw [decide_eq_false h0] at heq
    generalize xs[i] = y at hx heq
    clear hz h0
    go_wp2_with fail
    have hgi : i + 1 + g1 = xs.length := by omega
    go_roundg g1
    case measure => exact Nat.lt_succ_self _
    case rel => exact ⟨i + 1, by go_num, hgi, HZ2.out, rfl⟩
theorem PathAt.live {w : World} : ∀ {bs : List Nat}, PathAt w bs → ∀ b ∈ bs, Live w b
 | [], _, _, h => by cases h
 | b :: r, ⟨⟨_, _, _, _, _, _, h⟩, hr⟩, c, hc => by
  rcases List.mem_cons.1 hc with rfl | hc
  ·
   exact ⟨_, h⟩
  ·
   exact hr.live c hc
theorem containsP_ok {w : World} {A : Option Addr} {c : Nat} {xs : List Nat} (b : Nat) (h : kp.C w A xs.length xs) (hl : xs.length ≤ 1000) (hb : Live w b) (hx : ∀ x ∈ xs, Live w x) :
  Calls Try.prog 51 #[.slice A xs.length c, .pointer (some ⟨b, 0, none⟩)] w fun e w' => e = .returned (.bool (decide (b ∈ xs))) ∧ w' = w := by
 have H := Aside0.mk h
 have HLB := Aside0.mk hb
 have HLX := Aside0.mk hx
 have HM := Aside0.mk (ixP_mem b xs 0)
 clear h hb hx
 go_enter Try.func51, Try.ntmps51
 go_wp2_with fail
 go_at_call 63
 refine (indexP_ok b H.out hl HLB.out HLX.out).mono ?_
 generalize ixP b xs 0 = r at HM
 rintro e w1 ⟨rfl, rfl⟩
 go_wp2_with fail
 go_ret
 refine ⟨?_, rfl⟩
 by_cases h : b ∈ xs
 ·
  have h1 := HM.out.2 h
  simp [h, h1]
 ·
  have h1 : ¬ 0 ≤ r := fun h2 => h (HM.out.1 h2)
  simp [h]
  omega
theorem below_ok {w : World} {bs : List Nat} {t : Nat} (h : PathAt w bs) (hl : bs.length ≤ 1000) (ht : Live w t) :
  Calls Try.prog 28 #[ptrO bs.head?, .pointer (some ⟨t, 0, none⟩)] w fun e w' => e = .returned (.bool (decide (t ∈ bs))) ∧ Below w.heap.size w w' := by
 have H := Aside0.mk h
 have HT := Aside0.mk ht
 clear h ht
 go_enter Try.func28, Try.ntmps28
 go_wp2_with fail
 go_at_call 25
 refine (path_ok H.out hl).mono ?_
 rintro e w1 ⟨v, rfl, hr, hb1⟩
 obtain ⟨A, c, rfl, hc, hC⟩ := kp_V hr
 have HB := Aside0.mk hb1
 have HC := Aside0.mk hC
 clear hr hC hb1
 go_wp2_with fail
 go_at_call 51
 refine (containsP_ok t HC.out hl (HT.out.keep HB.out) (fun x hx => (H.out.live x hx).keep HB.out)).mono ?_
 rintro e w2 ⟨rfl, rfl⟩
 go_wp2_with fail
 go_ret
 exact ⟨rfl, HB.out⟩
end Go.Proofs.Ytlmjdchcgfpngaa.P
end
