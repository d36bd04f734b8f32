-- Written by a program of this session (wip/tools/shake.py) out of its own texts and of the kit's printed ones; not trusted: Lean checks it.
import Derived.Test.YtfjkamhcabckeaaDoorZRatioTexts2
set_option maxHeartbeats 8000000
set_option maxRecDepth 100000
set_option linter.unusedVariables false
set_option linter.unusedSimpArgs false
section
namespace Go.Proofs.YtfjkamhcabckeaaDoor.P
open Go.RowKit Go.Proofs.YtfjkamhcabckeaaDoorW.PrintWords Go.Proofs.YtfjkamhcabckeaaDoorW.PrintLast Go.Proofs.YtfjkamhcabckeaaDoorW.PrintMore
attribute [local go_sem] max2_int min2_int max_two min_two zc8 zc9 max_four min_four
def zaa.l0 : Nat → List ByteArray → Int → Int → Option (List ByteArray)
 | 0, _, _, _ => none
 | k + 1, x0, x2, x3 => if x2 < x3 then (if 0 ≤ x3 then (if x3 < (x0.length : Int) then (if 0 ≤ x2 then (if x2 < (x0.length : Int) then (zaa.l0 k ((x0.set (x2 : Int).toNat (rdOf ByteArray.empty x0 x3)).set (x3 : Int).toNat (rdOf ByteArray.empty x0 x2)) (wrap64 (x2 + 1)) (wrap64 (x3 - 1))) else (none)) else (none)) else (none)) else (none)) else (some x0)
def zaa.f (k : Nat) (l0 : List ByteArray) : Option (List ByteArray) := zaa.l0 k l0 0 (wrap64 ((l0.length : Int) - 1))
theorem zaa.zde : ∀ k, (∀ y0 y1 y2, LeO (zaa.l0 k y0 y1 y2) (zaa.l0 (k + 1) y0 y1 y2))
 | 0 => fun _ _ _ r h => by simp [zaa.l0] at h
 | k + 1 => by
  have ih0 := zaa.zde k
  ·
   intro y0 y1 y2
   unfold zaa.l0
   repeat' first
   | (with_reducible exact ih0 _ _ _)
   | (with_reducible exact LeO.refl _)
   | (with_reducible exact LeO.none _)
   | (with_reducible refine LeO.ite ?_ ?_)
   | (with_reducible refine LeO.bind ?_ (fun _ => ?_))
   | exact ih0 _ _ _
   | exact LeO.none _
   | refine LeO.ite ?_ ?_
   | refine LeO.bind ?_ (fun _ => ?_)
theorem zaa.mono : ∀ a0 k, LeO (zaa.f k a0) (zaa.f (k + 1) a0) := by
 intro a0 k
 have ih0 := zaa.zde k
 unfold zaa.f
 repeat' first
   | (with_reducible exact ih0 _ _ _)
   | (with_reducible exact LeO.refl _)
   | (with_reducible exact LeO.none _)
   | (with_reducible refine LeO.ite ?_ ?_)
   | (with_reducible refine LeO.bind ?_ (fun _ => ?_))
   | exact ih0 _ _ _
   | exact LeO.none _
   | refine LeO.ite ?_ ?_
   | refine LeO.bind ?_ (fun _ => ?_)
def zaa.T3 : Bool × List (List Nat × List Nat) := (true, [([], []), ([], []), ([], []), ([], []), ([], []), ([], []), ([4, 5], [4, 5]), ([6], [6]), ([], []), ([], []), ([8, 9], [8, 9]), ([10], [10]), ([0, 1, 0, 1, 4, 5, 6, 7, 11], [0, 1]), ([12, 7, 0, 1, 4, 5, 6, 7, 11], [7, 12]), ([2, 3, 0, 1, 2, 3, 4, 5, 6, 7, 8, 9, 10, 11, 12, 13], [2, 3]), ([14, 11, 13, 0, 1, 2, 3, 4, 5, 6, 7, 8, 9, 10, 11, 12, 13], [11, 14])])
def zaa.B3 : List Nat := [0, 0, 0, 0, 0, 0, 48, 112, 0, 0, 768, 1792, 4083, 8179, 16383, 32767]
theorem zaa.tab3 : rtab .any (opsOf Tryd.f76 3) = zaa.T3 := by kernel_rfl
theorem zaa.bits3 : waitsOk zaa.T3.2 zaa.B3 = true := by kernel_rfl
theorem zaa.calls (k : Nat) (P0_ : Nat → Prop) (u9000_ : Value) (l0 : List ByteArray) (r : List ByteArray) (w0 w : World) (hB : Below w0.heap.size w0 w) (ho0 : Kd.R Kd.string 9 w w0.heap.size P0_ u9000_ l0) (h : zaa.f k l0 = some r) :
  Calls Tryd.prog 76 #[u9000_] w fun e w' => e = .returned (.tuple #[]) ∧ Kd.R Kd.string 9 w' w0.heap.size (fun k_ => (P0_ k_ ∨ w.heap.size ≤ k_)) u9000_ r ∧ Below w0.heap.size w0 w' ∧ Kept w w' (fun k_ => P0_ k_) := by
 have HO0 := zA (show Kd.R Kd.string 9 w w0.heap.size (fun k_ => (P0_ k_ ∨ w.heap.size ≤ k_)) u9000_ l0 from Kd.zba ho0 (fun k_ hk => (.inl hk)))
 have HK := zA (Kept.refl w (fun k_ => P0_ k_))
 have HW0 := zA hB.size
 have HB := zA hB
 clear hB
 have H : (zaa.l0 k l0 0 (wrap64 ((l0.length : Int) - 1))) = some r := h
 clear h
 have H' := zA H
 clear H
 obtain ⟨Ao2, co2, eo2⟩ := Kd.zbr HO0.out
 subst eo2
 go_enter Tryd.func76, Tryd.ntmps76
 go_wp2
 go_loopg [2, 3] k (fun kq v2 v3 w' => ∃ (x0_1 : List ByteArray) (x2_1 : Int) (x3_1 : Int), v2 = .int .i64 x2_1 ∧ v3 = .int .i64 x3_1 ∧ Aside0 (zaa.l0 kq x0_1 x2_1 x3_1 = some r) ∧ Aside0 (kq ≤ k) ∧ Aside0 (Kd.R Kd.string 9 w' w0.heap.size (fun k_ => (P0_ k_ ∨ w.heap.size ≤ k_)) (.slice Ao2 l0.length co2) x0_1) ∧ Aside0 (Kept w w' (fun k_ => P0_ k_)) ∧ Aside0 (Below w0.heap.size w0 w'))
 case atStart => exact ⟨(l0), (0), (wrap64 ((l0.length : Int) - 1)), (zF), (zF), H', ⟨Nat.le_refl _⟩, ⟨zR HO0⟩, ⟨by repeat (first | (with_reducible first | exact HK.out | apply Kept.alloc | apply Kept.drewN | apply Kept.drew) | exact HK.out)⟩, ⟨zB HB⟩⟩
 case round =>
  clear H'
  try clear p2
  obtain ⟨x0_1, x2_1, x3_1, rfl, rfl, HA, HK1, HO_0, HK, HB⟩ := hrel
  have hl0_1 := (Kd.za1 HO_0.out).1
  rw [hl0_1] at HO_0
  (try simp only [hl0_1])
  cases gk with
  | zero => exact absurd HA.out (by simp [zaa.l0])
  | succ k1 =>
   have H := HA.out
   clear HA
   simp only [zaa.l0] at H
   by_cases c3 : x2_1 < x3_1
   ·
    rw [if_pos c3] at H
    have c3b0 : decide (x2_1 < x3_1) = true := decide_eq_true c3
    clear c3
    by_cases c4 : 0 ≤ x3_1
    ·
     rw [if_pos c4] at H
     have c4b0 : decide (0 ≤ x3_1) = true := decide_eq_true c4
     clear c4
     by_cases c5 : x3_1 < (x0_1.length : Int)
     ·
      rw [if_pos c5] at H
      have c5b0 : decide (x3_1 < (x0_1.length : Int)) = true := decide_eq_true c5
      clear c5
      by_cases c6 : 0 ≤ x2_1
      ·
       rw [if_pos c6] at H
       have c6b0 : decide (0 ≤ x2_1) = true := decide_eq_true c6
       clear c6
       by_cases c7 : x2_1 < (x0_1.length : Int)
       ·
        rw [if_pos c7] at H
        have c7b0 : decide (x2_1 < (x0_1.length : Int)) = true := decide_eq_true c7
        clear c7
        obtain ⟨y214, hy214⟩ : ∃ y_ : List ByteArray, y_ = (x0_1.set (x2_1 : Int).toNat (rdOf ByteArray.empty x0_1 x3_1)) := ⟨_, rfl⟩
        replace H : (zaa.l0 k1 (y214.set (x3_1 : Int).toNat (rdOf ByteArray.empty x0_1 x2_1)) (wrap64 (x2_1 + 1)) (wrap64 (x3_1 - 1))) = some r := by first | (rw [hy214]; with_reducible exact H) | (have H2_ := (Option.bind_some _ _).symm.trans H; rw [hy214]; with_reducible exact H2_) | (have H2_ := (Option.bind_some _ _).symm.trans H; with_reducible exact H2_) | with_reducible exact H | (rw [hy214]; exact H) | exact H
        have Ny214 := zA hy214
        clear hy214
        obtain ⟨y215, hy215⟩ : ∃ y_ : List ByteArray, y_ = (y214.set (x3_1 : Int).toNat (rdOf ByteArray.empty x0_1 x2_1)) := ⟨_, rfl⟩
        replace H : (zaa.l0 k1 y215 (wrap64 (x2_1 + 1)) (wrap64 (x3_1 - 1))) = some r := by first | (rw [hy215]; with_reducible exact H) | (have H2_ := (Option.bind_some _ _).symm.trans H; rw [hy215]; with_reducible exact H2_) | (have H2_ := (Option.bind_some _ _).symm.trans H; with_reducible exact H2_) | with_reducible exact H | (rw [hy215]; exact H) | exact H
        have Ny215 := zA hy215
        clear hy215
        have H' := zA H
        clear H
        try go_wp2
        have n0_ := zA (Kd.zb5 HO_0.out)
        have n1_ := zA (Kept.drew HK.out)
        have n2_ := zA (zby HB.out)
        clear HO_0 HK HB
        have HO_0 := n0_
        have HK := n1_
        have HB := n2_
        clear n0_ n1_ n2_
        have p212 : 0 ≤ (x3_1 : Int) := of_decide_eq_true (by first | (with_reducible assumption) | assumption)
        have q212 : x3_1 < (x0_1.length : Int) := of_decide_eq_true (by first | (with_reducible assumption) | assumption)
        obtain ⟨ad212, e212, hx212_0⟩ := Kd.at_string (Kd.za1 HO_0.out).2.2 x3_1 p212 q212
        cases e212
        replace p212 := eq_true p212
        replace q212 := eq_true q212
        have p213 : 0 ≤ (x2_1 : Int) := of_decide_eq_true (by first | (with_reducible assumption) | assumption)
        have q213 : x2_1 < (x0_1.length : Int) := of_decide_eq_true (by first | (with_reducible assumption) | assumption)
        obtain ⟨ad213, e213, hx213_0⟩ := Kd.at_string (Kd.za1 HO_0.out).2.2 x2_1 p213 q213
        obtain rfl : ad212 = ad213 := (by injection e213)
        replace p213 := eq_true p213
        replace q213 := eq_true q213
        have p8 : 0 ≤ (x2_1 : Int) := of_decide_eq_true (by first | (with_reducible assumption) | assumption)
        have q8 : (x2_1 : Int) < ((x0_1.length : Int) : Int) := of_decide_eq_true (by first | (with_reducible assumption) | assumption)
        obtain ⟨go8, co8, eo8, gb8, gl8, cl8, HG8⟩ := Kd.R_form HO_0.out (by omega)
        (first | cases eo8 | (injection eo8 with ea_ en_ ec_; (first | subst ea_ | (injection ea_ with ea_; subst ea_)); subst ec_; clear en_))
        have GB8 := zA gb8
        have GG8 := zA HG8
        clear gb8 gl8 HG8
        have HMgo8 := zA (show (P0_ go8 ∨ w.heap.size ≤ go8) from (HO_0.out.1 _ rfl))
        (first | simp only [add_plain] at hx212_0 | skip)
        (first | simp only [add_plain] at hx213_0 | skip)
        obtain ⟨hx8_0, hf8_0⟩ := Kd.zc2 (⟨#[]⟩ : ByteArray) HO_0.out (x2_1 : Int) p8 q8
        replace p8 := eq_true p8
        replace q8 := eq_true q8
        have HP11 := Kd.R_putn HO_0.out (x2_1 : Int) (rdOf ByteArray.empty x0_1 x3_1)
        rw [← Ny214.out] at HP11
        have HQ11 := zA HP11
        clear HP11
        have p9 : 0 ≤ (x3_1 : Int) := of_decide_eq_true (by first | (with_reducible assumption) | assumption)
        have q9 : (x3_1 : Int) < ((x0_1.length : Int) : Int) := of_decide_eq_true (by first | (with_reducible assumption) | assumption)
        obtain ⟨hx9_0, hf9_0⟩ := Kd.zc2 (⟨#[]⟩ : ByteArray) HQ11.out (x3_1 : Int) p9 q9
        replace p9 := eq_true p9
        replace q9 := eq_true q9
        have HP12 := Kd.R_putn HQ11.out (x3_1 : Int) (rdOf ByteArray.empty x0_1 x2_1)
        rw [← Ny215.out] at HP12
        have HQ12 := zA HP12
        clear HP12
        refine start_ (n := 16) (S := fun w' => w'.cell? ⟨go8, (x3_1).toNat, none⟩ = some (.string (rdOf ByteArray.empty x0_1 x3_1)) ∧ w'.cell? ⟨go8, (x2_1).toNat, none⟩ = some (.string (rdOf ByteArray.empty x0_1 x2_1))) (ds := [13, 15]) #[false, false, false, false, false, false, false, false, false, false, false, false, false, false, false, false] (by kernel_rfl) rfl rfl ⟨hx212_0, hx213_0⟩ (fun hHeld => ?_); refine with_tabW zaa.tab3 zaa.bits3 (fun HT_ HW_ => ?_)
        generalize wr.drew = w10 at HO_0 HK HB GG8 HQ11 HQ12 hf8_0 hf9_0 hx212_0 hx213_0 hx8_0 hx9_0 hHeld ⊢
        refine pure_ (i := 0) (N := some 14) (v := ?_) (a' := ?_) #[true, false, false, false, false, false, false, false, false, false, false, false, false, false, false, false] rfl rfl (zbq HT_.out (by kernel_rfl)) (fun _ _ _ h => h) (Or.inl ⟨by rfl, ?_⟩) ?_ ?_
        rotate_left
        ·
         intro w'
         go_simp
         with_reducible rfl
        rotate_left
        ·
         simp only [Act.put, zs1, zs2, zs3, i64_w, i32_w]
         rfl
        refine pure_ (i := 1) (N := some 15) (v := ?_) (a' := ?_) #[true, true, false, false, false, false, false, false, false, false, false, false, false, false, false, false] rfl rfl (zbq HT_.out (by kernel_rfl)) (fun _ _ _ h => h) (Or.inl ⟨by rfl, ?_⟩) ?_ ?_
        rotate_left
        ·
         intro w'
         go_simp
         with_reducible rfl
        rotate_left
        ·
         simp only [Act.put, zs1, zs2, zs3, i64_w, i32_w]
         rfl
        refine pure_ (i := 2) (N := some 16) (v := ?_) (a' := ?_) #[true, true, true, false, false, false, false, false, false, false, false, false, false, false, false, false] rfl rfl (zbq HT_.out (by kernel_rfl)) (fun _ _ _ h => h) (Or.inl ⟨by rfl, ?_⟩) ?_ ?_
        rotate_left
        ·
         intro w'
         go_simp
         with_reducible rfl
        rotate_left
        ·
         simp only [Act.put, zs1, zs2, zs3, i64_w, i32_w]
         rfl
        refine pure_ (i := 3) (N := some 17) (v := ?_) (a' := ?_) #[true, true, true, true, false, false, false, false, false, false, false, false, false, false, false, false] rfl rfl (zbq HT_.out (by kernel_rfl)) (fun _ _ _ h => h) (Or.inl ⟨by rfl, ?_⟩) ?_ ?_
        rotate_left
        ·
         intro w'
         go_simp
         with_reducible rfl
        rotate_left
        ·
         simp only [Act.put, zs1, zs2, zs3, i64_w, i32_w]
         rfl
        refine pure_ (i := 4) (N := some 18) (v := ?_) (a' := ?_) #[true, true, true, true, true, false, false, false, false, false, false, false, false, false, false, false] rfl rfl (zbq HT_.out (by kernel_rfl)) (fun _ _ _ h => h) (Or.inl ⟨by rfl, ?_⟩) ?_ ?_
        rotate_left
        ·
         intro w'
         go_simp
         with_reducible rfl
        rotate_left
        ·
         simp only [Act.put, zs1, zs2, zs3, i64_w, i32_w]
         rfl
        refine pure_ (i := 5) (N := some 19) (v := ?_) (a' := ?_) #[true, true, true, true, true, true, false, false, false, false, false, false, false, false, false, false] rfl rfl (zbq HT_.out (by kernel_rfl)) (fun _ _ _ h => h) (Or.inl ⟨by rfl, ?_⟩) ?_ ?_
        rotate_left
        ·
         intro w'
         go_simp
         with_reducible rfl
        rotate_left
        ·
         simp only [Act.put, zs1, zs2, zs3, i64_w, i32_w]
         rfl
        refine pure_ (i := 6) (N := some 20) (v := ?_) (a' := ?_) #[true, true, true, true, true, true, true, false, false, false, false, false, false, false, false, false] rfl rfl (zbq HT_.out (by kernel_rfl)) (fun _ _ _ h => h) (Or.inl ⟨by rfl, ?_⟩) ?_ ?_
        rotate_left
        ·
         intro w'
         go_simp
         with_reducible rfl
        rotate_left
        ·
         simp only [Act.put, zs1, zs2, zs3, i64_w, i32_w]
         rfl
        refine pure_ (i := 8) (N := some 22) (v := ?_) (a' := ?_) #[true, true, true, true, true, true, true, false, true, false, false, false, false, false, false, false] rfl rfl (zbq HT_.out (by kernel_rfl)) (fun _ _ _ h => h) (Or.inl ⟨by rfl, ?_⟩) ?_ ?_
        rotate_left
        ·
         intro w'
         go_simp
         with_reducible rfl
        rotate_left
        ·
         simp only [Act.put, zs1, zs2, zs3, i64_w, i32_w]
         rfl
        refine pure_ (i := 9) (N := some 23) (v := ?_) (a' := ?_) #[true, true, true, true, true, true, true, false, true, true, false, false, false, false, false, false] rfl rfl (zbq HT_.out (by kernel_rfl)) (fun _ _ _ h => h) (Or.inl ⟨by rfl, ?_⟩) ?_ ?_
        rotate_left
        ·
         intro w'
         go_simp
         with_reducible rfl
        rotate_left
        ·
         simp only [Act.put, zs1, zs2, zs3, i64_w, i32_w]
         rfl
        refine pure_ (i := 10) (N := some 24) (v := ?_) (a' := ?_) #[true, true, true, true, true, true, true, false, true, true, true, false, false, false, false, false] rfl rfl (zbq HT_.out (by kernel_rfl)) (fun _ _ _ h => h) (Or.inl ⟨by rfl, ?_⟩) ?_ ?_
        rotate_left
        ·
         intro w'
         go_simp
         with_reducible rfl
        rotate_left
        ·
         simp only [Act.put, zs1, zs2, zs3, i64_w, i32_w]
         rfl
        refine take_ (i := 7) (N := some 21) (v := ?_) (a' := ?_) #[true, true, true, true, true, true, true, true, true, true, true, false, false, false, false, false] rfl rfl (zcq HT_.out HW_.out (by kernel_rfl)) (fun _ _ _ h => h) (Or.inl ⟨by rfl, ?_⟩) hHeld ?_ ?_
        rotate_left
        ·
         rintro w' ⟨s0, s1⟩
         go_simp
         with_reducible rfl
        rotate_left
        ·
         simp only [Act.put, zs1, zs2, zs3, i64_w, i32_w]
         rfl
        refine take_ (i := 11) (N := some 25) (v := ?_) (a' := ?_) #[true, true, true, true, true, true, true, true, true, true, true, true, false, false, false, false] rfl rfl (zcq HT_.out HW_.out (by kernel_rfl)) (fun _ _ _ h => h) (Or.inl ⟨by rfl, ?_⟩) hHeld ?_ ?_
        rotate_left
        ·
         rintro w' ⟨s0, s1⟩
         go_simp
         with_reducible rfl
        rotate_left
        ·
         simp only [Act.put, zs1, zs2, zs3, i64_w, i32_w]
         rfl
        refine pure_ (i := 12) (N := some 26) (v := ?_) (a' := ?_) #[true, true, true, true, true, true, true, true, true, true, true, true, true, false, false, false] rfl rfl (zbq HT_.out (by kernel_rfl)) (fun _ _ _ h => h) (Or.inl ⟨by rfl, ?_⟩) ?_ ?_
        rotate_left
        ·
         intro w'
         go_simp
         with_reducible rfl
        rotate_left
        ·
         simp only [Act.put, zs1, zs2, zs3, i64_w, i32_w]
         rfl
        refine last_ (i := 13) (N := none) #[true, true, true, true, true, true, true, true, true, true, true, true, true, true, false, false] rfl rfl (zc0 HT_.out (by kernel_rfl)) (by decide) (fun K hK => ?_)
        refine skip_ (w1 := ?_) (by rfl) rfl ?_ ?_
        rotate_left
        ·
         go_simp
         rfl
        refine hK.out _ _ ?_
        clear hK K
        refine pure_ (i := 14) (N := some 27) (v := ?_) (a' := ?_) #[true, true, true, true, true, true, true, true, true, true, true, true, true, true, true, false] rfl rfl (zbq HT_.out (by kernel_rfl)) (fun _ _ _ h => h) (Or.inl ⟨by rfl, ?_⟩) ?_ ?_
        rotate_left
        ·
         intro w'
         go_simp
         with_reducible rfl
        rotate_left
        ·
         simp only [Act.put, zs1, zs2, zs3, i64_w, i32_w]
         rfl
        refine last_ (i := 15) (N := none) #[true, true, true, true, true, true, true, true, true, true, true, true, true, true, true, true] rfl rfl (zc0 HT_.out (by kernel_rfl)) (by decide) (fun K hK => ?_)
        refine skip_ (w1 := ?_) (by rfl) rfl ?_ ?_
        rotate_left
        ·
         go_simp
         rfl
        refine hK.out _ _ ?_
        clear hK K
        refine done_ (done_of HT_.out (by kernel_rfl)) ?_
        try go_wp2
        (try simp only [← hl0_1])
        go_roundg k1
        case measure => have := HK1.out; omega
        case rel => exact ⟨(y215), (wrap64 (x2_1 + 1)), (wrap64 (x3_1 - 1)), (zF), (zF), H', ⟨by have := HK1.out; omega⟩, ⟨by (try simp only [hl0_1]); (with_reducible repeat (first | apply Kd.zbu | apply Kd.zbx | apply Kd.zb5)); exact HQ12.out⟩, ⟨by repeat (first | (with_reducible first | exact HK.out | apply Kept.alloc | apply Kept.drewN | apply Kept.drew | refine Kept.setCell ?_ HMgo8.out _ | refine Kept.setCell ?_ HMgo8.out _) | exact HK.out)⟩, ⟨zB HB⟩⟩
       ·
        rw [if_neg c7] at H
        exact absurd H (by simp)
      ·
       rw [if_neg c6] at H
       exact absurd H (by simp)
     ·
      rw [if_neg c5] at H
      exact absurd H (by simp)
    ·
     rw [if_neg c4] at H
     exact absurd H (by simp)
   ·
    rw [if_neg c3] at H
    have c3b0 : decide (x2_1 < x3_1) = false := decide_eq_false c3
    clear c3
    obtain rfl := Option.some.inj H
    go_wp2
    first | go_end0 | ((try simp only [Exit.inBlock, Exit.then]); refine bodyPost_ret (results_none rfl _ _ _) rfl ?_)
    exact ⟨zW, (by first | exact (zR HO_0) | (simp only [hl0_1]; exact (zR HO_0))), zB HB, by repeat (first | (with_reducible first | exact HK.out | apply Kept.alloc | apply Kept.drewN | apply Kept.drew) | exact HK.out)⟩
def strings_Join.f (l : List ByteArray) (sep : ByteArray) : Option ByteArray := if l.length ≤ 140737488355328 then (if (Lib.join (l.map (·.data.toList)) sep.data.toList).length ≤ 140737488355328 then some ⟨(Lib.join (l.map (·.data.toList)) sep.data.toList).toArray⟩ else none) else none
theorem strings_Join.calls (A0 : Option Addr) (c0 : Nat) (l0 : List ByteArray) (a1 : ByteArray) (r : ByteArray) (w : World) (hr0 : Kd.C Kd.string w A0 l0.length l0) (hc0 : l0.length ≤ c0) (h : strings_Join.f l0 a1 = some r) :
  Calls Tryd.prog 77 #[.slice A0 l0.length c0, .string a1] w fun e w' => e = .returned (.string r) ∧ Below w.heap.size w w' := by
 unfold strings_Join.f at h
 split at h
 ·
  rename_i h1
  split at h
  ·
   rename_i h2
   injection h with h
   subst h
   cases l0 with
   | nil => exact (Tryd.strings_Join_none A0 c0 a1 w).mono fun e w' ⟨he, hw⟩ => ⟨he, by rw [hw]; exact Below.refl _ _⟩
   | cons x xs =>
    obtain ⟨ad, rfl, hc1⟩ := Kd.at_string hr0 0 (by omega) (by simp)
    obtain ⟨b, o, rfl, hb⟩ := addr_plain hc1
    refine Tryd.strings_Join b o c0 (x :: xs) a1 w (fun j y hy => ?_) hb h1 hc0 h2
    obtain ⟨hj, hy⟩ := List.getElem?_eq_some_iff.1 hy
    obtain ⟨ad, e, hc2⟩ := Kd.at_string hr0 (j : Int) (by omega) (by omega)
    cases e
    rw [Int.toNat_natCast, add_none] at hc2
    rw [hc2]
    simp only [rdOf, Int.toNat_natCast]
    rw [List.getD_eq_getElem?_getD, List.getElem?_eq_getElem hj, hy]
    rfl
  ·
   cases h
 ·
  cases h
def zbl.l0 : Nat → List Int → List ByteArray → Option (ByteArray)
 | 0, _, _ => none
 | k + 1, x0, x3 => (zbw.f k x0 1000000000000000000).bind fun bt216 => ((zb2.f bt216.2 10).bind fun t220 => (if (bt216.1.length : Int) = 0 then (if x3.length < 8796093022208 then ((zaa.f k (x3 ++ [t220])).bind fun t224 => ((strings_Join.f t224 (⟨#[]⟩ : ByteArray)).bind fun t225 => (some t225))) else (none)) else ((strings_Repeat.f (⟨#[48]⟩ : ByteArray) (wrap64 (18 - (t220.size : Int)))).bind fun t226 => (if t226.size + t220.size ≤ 9223372036854775807 then (if x3.length < 8796093022208 then (zbl.l0 k bt216.1 (x3 ++ [t226 ++ t220])) else (none)) else (none)))))
def zbl.f (k : Nat) (l0 : List Int) : Option (ByteArray) := zbl.l0 k l0 ([] : List ByteArray)
theorem zbl.zde : ∀ k, (∀ y0 y1, LeO (zbl.l0 k y0 y1) (zbl.l0 (k + 1) y0 y1))
 | 0 => fun _ _ r h => by simp [zbl.l0] at h
 | k + 1 => by
  have ih0 := zbl.zde k
  ·
   intro y0 y1
   unfold zbl.l0
   repeat' first
   | (with_reducible exact ih0 _ _)
   | (with_reducible exact zbw.mono _ _ _)
   | (with_reducible exact zaa.mono _ _)
   | (with_reducible exact LeO.refl _)
   | (with_reducible exact LeO.none _)
   | (with_reducible refine LeO.ite ?_ ?_)
   | (with_reducible refine LeO.bind ?_ (fun _ => ?_))
   | exact ih0 _ _
   | exact zbw.mono _ _ _
   | exact zaa.mono _ _
   | exact LeO.none _
   | refine LeO.ite ?_ ?_
   | refine LeO.bind ?_ (fun _ => ?_)
theorem zbl.mono : ∀ a0 k, LeO (zbl.f k a0) (zbl.f (k + 1) a0) := by
 intro a0 k
 have ih0 := zbl.zde k
 unfold zbl.f
 repeat' first
   | (with_reducible exact ih0 _ _)
   | (with_reducible exact zbw.mono _ _ _)
   | (with_reducible exact zaa.mono _ _)
   | (with_reducible exact LeO.refl _)
   | (with_reducible exact LeO.none _)
   | (with_reducible refine LeO.ite ?_ ?_)
   | (with_reducible refine LeO.bind ?_ (fun _ => ?_))
   | exact ih0 _ _
   | exact zbw.mono _ _ _
   | exact zaa.mono _ _
   | exact LeO.none _
   | refine LeO.ite ?_ ?_
   | refine LeO.bind ?_ (fun _ => ?_)
theorem zbl.calls (k : Nat) (P0_ : Nat → Prop) (A0 : Option Addr) (c0 : Nat) (l0 : List Int) (r : ByteArray) (w : World) (hs0 : Kd.V (Kd.int .u64) 57 w w.heap.size (fun k_ => P0_ k_) (.slice A0 l0.length c0) l0) (hG : Glob w) (h : zbl.f k l0 = some r) :
  Calls Tryd.prog 50 #[.slice A0 l0.length c0] w fun e w' => e = .returned (.string r) ∧ Below w.heap.size w w' := by
 have HO0 := zA (show Kd.V (Kd.int .u64) 57 w w.heap.size (fun k_ => (P0_ k_ ∨ w.heap.size ≤ k_)) (.slice A0 l0.length c0) l0 from Kd.zar hs0 (fun k_ hk => .inl hk))
 have HG := zA hG
 clear hG
 have HB := zA (Below.refl w.heap.size w)
 have H : (zbl.l0 k l0 ([] : List ByteArray)) = some r := h
 clear h
 have H' := zA H
 clear H
 go_enter Tryd.func50, Tryd.ntmps50
 go_wp2
 go_loopg [0, 3] k (fun kq v0 v3 w' => ∃ (x0_1 : List Int) (x3_1 : List ByteArray), Aside0 (zbl.l0 kq x0_1 x3_1 = some r) ∧ Aside0 (kq ≤ k) ∧ Aside0 (Kd.V (Kd.int .u64) 57 w' w.heap.size (fun k_ => (P0_ k_ ∨ w.heap.size ≤ k_) ∧ some k_ ≠ (v3 : Value).ownBlock) v0 x0_1) ∧ Aside0 (Kd.R Kd.string 9 w' w.heap.size (fun k_ => (w.heap.size ≤ k_)) v3 x3_1) ∧ Aside0 (Below w.heap.size w w'))
 case atStart => exact ⟨(l0), (([] : List ByteArray)), H', ⟨Nat.le_refl _⟩, ⟨by (with_reducible repeat (first | apply Kd.zbh | apply Kd.zbg | apply Kd.zbs)); exact Kd.zar HO0.out (fun _ hk => ⟨hk, (by simp [Value.ownBlock])⟩)⟩, ⟨by first | exact Kd.R_nil _ _ _ _ _ | exact Kd.N_nil _ _ _ _ _ | exact Kd.V_nil _ _ _ _ _ | exact Kd.Q_nil _ _ _ _ _ | exact Kd.S_nil _ _ _ _ _⟩, ⟨zB HB⟩⟩
 case round =>
  clear H'
  obtain ⟨x0_1, x3_1, HA, HK1, HO_0, HO_3, HB⟩ := hrel
  cases gk with
  | zero => exact absurd HA.out (by simp [zbl.l0])
  | succ k1 =>
   have H := HA.out
   clear HA
   simp only [zbl.l0] at H
   replace H := zO H
   obtain ⟨⟨t216, t219⟩, A20, H⟩ := H
   try dsimp only at H
   have A2 := zA A20
   clear A20
   replace H := zO H
   obtain ⟨t220, A30, H⟩ := H
   try dsimp only at H
   have A3 := zA A30
   clear A30
   by_cases c4 : (t216.length : Int) = 0
   ·
    rw [if_pos c4] at H
    have c4b0 : ((t216.length : Int) == 0) = true := beq_iff_eq.mpr c4
    have c4b1 : ((t216.length : Int) != 0) = false := bne_eq_false_iff_eq.mpr c4
    clear c4
    by_cases c5 : x3_1.length < 8796093022208
    ·
     rw [if_pos c5] at H
     have LMc5 := zA c5
     clear c5
     obtain ⟨y221, hy221⟩ : ∃ y_ : List ByteArray, y_ = (x3_1 ++ [t220]) := ⟨_, rfl⟩
     replace H : ((zaa.f k1 y221).bind fun t224 => ((strings_Join.f t224 (⟨#[]⟩ : ByteArray)).bind fun t225 => (some t225))) = some r := by first | (rw [hy221]; with_reducible exact H) | (have H2_ := (Option.bind_some _ _).symm.trans H; rw [hy221]; with_reducible exact H2_) | (have H2_ := (Option.bind_some _ _).symm.trans H; with_reducible exact H2_) | with_reducible exact H | (rw [hy221]; exact H) | exact H
     have Ny221 := zA hy221
     clear hy221
     replace H := zO H
     obtain ⟨t224, A60, H⟩ := H
     try dsimp only at H
     have A6 := zA A60
     clear A60
     replace H := zO H
     obtain ⟨t225, A70, H⟩ := H
     try dsimp only at H
     have A7 := zA A70
     clear A70
     obtain rfl := Option.some.inj H
     obtain ⟨Ao8, co8, eo8⟩ := Kd.zbd HO_0.out
     subst eo8
     go_wp2_with (first | ((with_reducible refine zae (f := 73) rfl ?_); refine za4 (some 8) rfl rfl Tryd.func73 (by kernel_rfl) rfl #[.slice Ao8 x0_1.length co8, .int .u64 1000000000000000000] rfl (zE) ?_; (with_reducible refine (zbw.calls k1 _ _ x0_1 1000000000000000000 t216 t219 _ ?side1 ?side2 A2.out).mono ?_); (case side1 => exact zJ (Kd.zaw HO_0.out).2.2); (case side2 => exact (Kd.zaw HO_0.out).2.1); rintro e w9 ⟨v217, rfl, ho0, hb⟩; refine ⟨_, rfl, ?_⟩; have n0_ := zA (Kd.zav (zV HO_0) hb); have n1_ := zA (Kd.za5 (zR HO_3) hb); have n2_ := zA (Kd.zbj (Kd.zar (ok' := fun k_ => (P0_ k_ ∨ w.heap.size ≤ k_) ∧ some k_ ≠ (u3 : Value).ownBlock) ho0 (fun k_ hk_ => ⟨(.inr (Nat.le_trans (za (zB HB)) hk_)), (Kd.fresh' (Kd.R_lt (zR HO_3)) k_ hk_)⟩)) (za (zB HB))); have n3_ := zA (zac (zB HB) hb); clear HO_0 HO_3 HB; have HO_0 := n0_; have HO_3 := n1_; have HO218 := n2_; have HB := n3_; clear n0_ n1_ n2_ n3_; (try clear hb); (try clear hb2); (try clear hk); (try clear hi); (try clear ho0)) | ((with_reducible refine zae (f := 74) rfl ?_); refine za4 (some 12) rfl rfl Tryd.func74 (by kernel_rfl) rfl #[.int .u64 t219, .int .i64 10] rfl (zE) ?_; (with_reducible refine (zb2.calls t219 10 t220 _ ?side1 A3.out).mono ?_); (case side1 => exact Glob.below HG.out (zB HB)); rintro e w10 ⟨rfl, hb⟩; refine ⟨_, rfl, ?_⟩; have n0_ := zA (Kd.zav (zV HO_0) hb); have n1_ := zA (Kd.za5 (zR HO_3) hb); have n2_ := zA (Kd.zav (zV HO218) hb); have n3_ := zA (zac (zB HB) hb); clear HO_0 HO_3 HO218 HB; have HO_0 := n0_; have HO_3 := n1_; have HO218 := n2_; have HB := n3_; clear n0_ n1_ n2_ n3_; (try clear hb); (try clear hb2); (try clear hk); (try clear hi); obtain ⟨Ao11, co11, eo11⟩ := Kd.zbd HO218.out; subst eo11) | ((with_reducible refine zb8 (b := .append) (xs := #[.tmp 16, .tmp 18]) rfl ?_); at_builtin; refine Kd.zc1 Kd.string (w0 := w) w.heap.size rfl (.tmp 16) (.tmp 18) 106 9 (.string ⟨#[]⟩) 16 rfl Tryd.underlying106 info9 rfl (by decide) (by omega) u3 x3_1 t220 [.string t220] (fun k_ => (w.heap.size ≤ k_)) (fun _ => False) rfl rfl ?aP (fun _ hk => hk.elim) ?aF ?aO ?aB ?aS ?aL ?_; (case aP => exact rfl); (case aB => exact (zB HB)); (case aF => exact (fun k_ hk => (Nat.le_trans (za (zB HB)) hk))); (case aO => exact (zR HO_3)); (case aS => exact (za (zB HB))); (case aL => have := LMc5.out; omega); intro v222 w12 ho hb hg hat; rw [← Ny221.out] at ho; have n0_ := zA (Kd.V_afterv (ok := (fun k_ => (P0_ k_ ∨ w.heap.size ≤ k_))) (zV HO_0) hg hat); have n1_ := zA (Kd.V_afterv (ok := (fun k_ => (P0_ k_ ∨ w.heap.size ≤ k_))) (zV HO218) hg hat); have n2_ := zA (hb); have n3_ := zA (ho); clear HO_0 HO218 HB HO_3; have HO_0 := n0_; have HO218 := n1_; have HB := n2_; have HO223 := n3_; clear n0_ n1_ n2_ n3_ ho hb hg hat; obtain ⟨Ao13, co13, eo13⟩ := Kd.zbr HO223.out; subst eo13) | ((with_reducible refine zae (f := 76) rfl ?_); refine za4 (some 30) rfl rfl Tryd.func76 (by kernel_rfl) rfl #[.slice Ao13 y221.length co13] rfl (zE) ?_; (with_reducible refine (zaa.calls k1 (fun k_ => some k_ = (.slice Ao13 y221.length co13 : Value).ownBlock) (.slice Ao13 y221.length co13) y221 t224 w _ ?side1 ?side2 A6.out).mono ?_); (case side1 => repeat (first | (with_reducible first | exact HB.out | apply zb1 | apply zbi | apply zby) | exact HB.out)); (case side2 => exact Kd.zc6 rfl HO223.out); rintro e w14 ⟨rfl, hy0, hb, hkp⟩; refine ⟨_, rfl, ?_⟩; have n0_ := zA (Kd.zar (ok' := fun k_ => (P0_ k_ ∨ w.heap.size ≤ k_) ∧ some k_ ≠ (.slice Ao13 y221.length co13 : Value).ownBlock) (Kd.V_keptB (HO_0.out) hkp (fun k_ hk_ hs_ => (hk_.2) hs_)) (fun k_ hk_ => ⟨hk_.1.1, hk_.1.2⟩)); have n1_ := zA (Kd.zar (ok' := fun k_ => (P0_ k_ ∨ w.heap.size ≤ k_) ∧ some k_ ≠ (.slice Ao13 y221.length co13 : Value).ownBlock) (Kd.V_keptB (HO218.out) hkp (fun k_ hk_ hs_ => (hk_.2) hs_)) (fun k_ hk_ => ⟨hk_.1.1, hk_.1.2⟩)); have n2_ := zA (Kd.R_reok rfl hy0 (fun k_ e_ => HO223.out.1 k_ e_)); have n3_ := zA (hb); clear HO_0 HO218 HO223 HB; have HO_0 := n0_; have HO218 := n1_; have HO223 := n2_; have HB := n3_; clear n0_ n1_ n2_ n3_; (try clear hb); (try clear hkp); (try clear hy0)) | ((with_reducible refine zae (f := 77) rfl ?_); refine za4 (some 32) rfl rfl Tryd.func77 (by kernel_rfl) rfl #[.slice Ao13 t224.length co13, .string (⟨#[]⟩ : ByteArray)] rfl (by (try simp only [List.map_toArray, List.map_cons, List.map_nil]); first | done | (rw [show t224.length = y221.length from (Kd.za1 HO223.out).1.symm] <;> rfl) | rfl | (simp only [List.length_drop, List.length_take]; rfl) | ((simp [Act.eval, wrap64]) <;> omega) | ((simp [Act.eval, wrap64, IntKind.wrap, IntKind.bits, IntKind.signed]) <;> omega)) ?_; (with_reducible refine (strings_Join.calls _ _ t224 (⟨#[]⟩ : ByteArray) t225 _ ?side1 ?side2 A7.out).mono ?_); (case side1 => exact zJ (Kd.za1 HO223.out).2.2); (case side2 => rw [show t224.length = y221.length from (Kd.za1 HO223.out).1.symm]; exact (Kd.za1 HO223.out).2.1); rintro e w15 ⟨rfl, hb⟩; refine ⟨_, rfl, ?_⟩; have n0_ := zA (Kd.zav (zV HO_0) hb); have n1_ := zA (Kd.zav (zV HO218) hb); have n2_ := zA (Kd.za5 (zR HO223) hb); have n3_ := zA (zac (zB HB) hb); clear HO_0 HO218 HO223 HB; have HO_0 := n0_; have HO218 := n1_; have HO223 := n2_; have HB := n3_; clear n0_ n1_ n2_ n3_; (try clear hb); (try clear hb2); (try clear hk); (try clear hi)))
     go_ret
     exact ⟨zW, zB HB⟩
    ·
     rw [if_neg c5] at H
     exact absurd H (by simp)
   ·
    rw [if_neg c4] at H
    have c4b0 : ((t216.length : Int) == 0) = false := beq_eq_false_iff_ne.mpr c4
    have c4b1 : ((t216.length : Int) != 0) = true := bne_iff_ne.mpr c4
    have c4b2 : ¬ (t216 = []) := fun h_ => c4 (by rw [h_]; rfl)
    replace H := zO H
    obtain ⟨t226, A160, H⟩ := H
    try dsimp only at H
    have A16 := zA A160
    clear A160
    by_cases c17 : t226.size + t220.size ≤ 9223372036854775807
    ·
     rw [if_pos c17] at H
     have c17b0 := eq_true c17
     have c17b1 : decide (t226.size + t220.size ≤ 9223372036854775807) = true := decide_eq_true c17
     try have c17b2 : (9223372036854775807 < t226.size + t220.size) = False := eq_false (Nat.not_lt.2 c17)
     by_cases c18 : x3_1.length < 8796093022208
     ·
      rw [if_pos c18] at H
      have LMc18 := zA c18
      clear c18
      obtain ⟨y227, hy227⟩ : ∃ y_ : List ByteArray, y_ = (x3_1 ++ [t226 ++ t220]) := ⟨_, rfl⟩
      replace H : (zbl.l0 k1 t216 y227) = some r := by first | (rw [hy227]; with_reducible exact H) | (have H2_ := (Option.bind_some _ _).symm.trans H; rw [hy227]; with_reducible exact H2_) | (have H2_ := (Option.bind_some _ _).symm.trans H; with_reducible exact H2_) | with_reducible exact H | (rw [hy227]; exact H) | exact H
      have Ny227 := zA hy227
      clear hy227
      have H' := zA H
      clear H
      obtain ⟨Ao19, co19, eo19⟩ := Kd.zbd HO_0.out
      subst eo19
      go_wp2_with (first | ((with_reducible refine zae (f := 73) rfl ?_); refine za4 (some 8) rfl rfl Tryd.func73 (by kernel_rfl) rfl #[.slice Ao19 x0_1.length co19, .int .u64 1000000000000000000] rfl (zE) ?_; (with_reducible refine (zbw.calls k1 _ _ x0_1 1000000000000000000 t216 t219 _ ?side1 ?side2 A2.out).mono ?_); (case side1 => exact zJ (Kd.zaw HO_0.out).2.2); (case side2 => exact (Kd.zaw HO_0.out).2.1); rintro e w20 ⟨v217, rfl, ho0, hb⟩; refine ⟨_, rfl, ?_⟩; have n0_ := zA (Kd.zav (zV HO_0) hb); have n1_ := zA (Kd.za5 (zR HO_3) hb); have n2_ := zA (Kd.zbj (Kd.zar (ok' := fun k_ => (P0_ k_ ∨ w.heap.size ≤ k_) ∧ some k_ ≠ (u3 : Value).ownBlock) ho0 (fun k_ hk_ => ⟨(.inr (Nat.le_trans (za (zB HB)) hk_)), (Kd.fresh' (Kd.R_lt (zR HO_3)) k_ hk_)⟩)) (za (zB HB))); have n3_ := zA (zac (zB HB) hb); clear HO_0 HO_3 HB; have HO_0 := n0_; have HO_3 := n1_; have HO218 := n2_; have HB := n3_; clear n0_ n1_ n2_ n3_; (try clear hb); (try clear hb2); (try clear hk); (try clear hi); (try clear ho0)) | ((with_reducible refine zae (f := 74) rfl ?_); refine za4 (some 12) rfl rfl Tryd.func74 (by kernel_rfl) rfl #[.int .u64 t219, .int .i64 10] rfl (zE) ?_; (with_reducible refine (zb2.calls t219 10 t220 _ ?side1 A3.out).mono ?_); (case side1 => exact Glob.below HG.out (zB HB)); rintro e w21 ⟨rfl, hb⟩; refine ⟨_, rfl, ?_⟩; have n0_ := zA (Kd.zav (zV HO_0) hb); have n1_ := zA (Kd.za5 (zR HO_3) hb); have n2_ := zA (Kd.zav (zV HO218) hb); have n3_ := zA (zac (zB HB) hb); clear HO_0 HO_3 HO218 HB; have HO_0 := n0_; have HO_3 := n1_; have HO218 := n2_; have HB := n3_; clear n0_ n1_ n2_ n3_; (try clear hb); (try clear hb2); (try clear hk); (try clear hi); obtain ⟨Ao22, co22, eo22⟩ := Kd.zbd HO218.out; subst eo22) | ((with_reducible refine zae (f := 75) rfl ?_); refine za4 (some 24) rfl rfl Tryd.func75 (by kernel_rfl) rfl #[.string (⟨#[48]⟩ : ByteArray), .int .i64 (wrap64 (18 - (t220.size : Int)))] rfl (zE) ?_; (with_reducible refine (strings_Repeat.calls (⟨#[48]⟩ : ByteArray) (wrap64 (18 - (t220.size : Int))) t226 _ A16.out).mono ?_); rintro e w23 ⟨rfl, hb⟩; refine ⟨_, rfl, ?_⟩; have n0_ := zA (Kd.zav (zV HO_0) hb); have n1_ := zA (Kd.za5 (zR HO_3) hb); have n2_ := zA (Kd.zav (zV HO218) hb); have n3_ := zA (zac (zB HB) hb); clear HO_0 HO_3 HO218 HB; have HO_0 := n0_; have HO_3 := n1_; have HO218 := n2_; have HB := n3_; clear n0_ n1_ n2_ n3_; (try clear hb); (try clear hb2); (try clear hk); (try clear hi)) | ((with_reducible refine zb8 (b := .append) (xs := #[.tmp 20, .tmp 27]) rfl ?_); at_builtin; refine Kd.zc1 Kd.string (w0 := w) w.heap.size rfl (.tmp 20) (.tmp 27) 106 9 (.string ⟨#[]⟩) 16 rfl Tryd.underlying106 info9 rfl (by decide) (by omega) u3 x3_1 (t226 ++ t220) [.string (t226 ++ t220)] (fun k_ => (w.heap.size ≤ k_)) (fun _ => False) rfl rfl ?aP (fun _ hk => hk.elim) ?aF ?aO ?aB ?aS ?aL ?_; (case aP => exact rfl); (case aB => exact (zB HB)); (case aF => exact (fun k_ hk => (Nat.le_trans (za (zB HB)) hk))); (case aO => exact (zR HO_3)); (case aS => exact (za (zB HB))); (case aL => have := LMc18.out; omega); intro v228 w24 ho hb hg hat; rw [← Ny227.out] at ho; have n0_ := zA (Kd.V_afterv (ok := (fun k_ => (P0_ k_ ∨ w.heap.size ≤ k_))) (zV HO_0) hg hat); have n1_ := zA (Kd.V_afterv (ok := (fun k_ => (P0_ k_ ∨ w.heap.size ≤ k_))) (zV HO218) hg hat); have n2_ := zA (hb); have n3_ := zA (ho); clear HO_0 HO218 HB HO_3; have HO_0 := n0_; have HO218 := n1_; have HB := n2_; have HO229 := n3_; clear n0_ n1_ n2_ n3_ ho hb hg hat))
      go_roundg k1
      case measure => have := HK1.out; omega
      case rel => exact ⟨(t216), (y227), H', ⟨by have := HK1.out; omega⟩, ⟨zV HO218⟩, ⟨zR HO229⟩, ⟨zB HB⟩⟩
     ·
      rw [if_neg c18] at H
      exact absurd H (by simp)
    ·
     rw [if_neg c17] at H
     exact absurd H (by simp)
def zcn.f (k : Nat)  : Option (List Int) := (zco.f k 1).bind fun t230 => (some t230)
theorem zcn.mono : ∀ k, LeO (zcn.f k ) (zcn.f (k + 1) ) := by
 intro  k
 unfold zcn.f
 repeat' first
   | (with_reducible exact zco.mono _ _)
   | (with_reducible exact LeO.refl _)
   | (with_reducible exact LeO.none _)
   | (with_reducible refine LeO.ite ?_ ?_)
   | (with_reducible refine LeO.bind ?_ (fun _ => ?_))
   | exact zco.mono _ _
   | exact LeO.none _
   | refine LeO.ite ?_ ?_
   | refine LeO.bind ?_ (fun _ => ?_)
theorem zcn.calls (k : Nat)  (r : List Int) (w : World) (h : zcn.f k  = some r) :
  Calls Tryd.prog 54 #[] w fun e w' => ∃ v0_ : Value, e = .returned (v0_) ∧ Kd.V (Kd.int .u64) 57 w' w.heap.size (fun k_ => (w.heap.size ≤ k_)) v0_ r ∧ Below w.heap.size w w' := by
 have HB := zA (Below.refl w.heap.size w)
 have H : ((zco.f k 1).bind fun t230 => (some t230)) = some r := h
 clear h
 replace H := zO H
 obtain ⟨t230, A10, H⟩ := H
 try dsimp only at H
 have A1 := zA A10
 clear A10
 obtain rfl := Option.some.inj H
 go_enter Tryd.func54, Tryd.ntmps54
 go_wp2_with (first | ((with_reducible refine zae (f := 36) rfl ?_); refine za4 (some 1) rfl rfl Tryd.func36 (by kernel_rfl) rfl #[.int .u64 1] rfl (zE) ?_; (with_reducible refine (zco.calls k 1 t230 _ A1.out).mono ?_); rintro e w2 ⟨v231, rfl, ho0, hb⟩; refine ⟨_, rfl, ?_⟩; have n0_ := zA (Kd.zbj (Kd.zar (ok' := fun k_ => (w.heap.size ≤ k_)) ho0 (fun k_ hk_ => (Nat.le_trans (za (zB HB)) hk_))) (za (zB HB))); have n1_ := zA (zac (zB HB) hb); clear HB; have HO232 := n0_; have HB := n1_; clear n0_ n1_; (try clear hb); (try clear hb2); (try clear hk); (try clear hi); (try clear ho0)))
 go_ret
 exact ⟨_, zW, zV HO232, zB HB⟩
def za2.f (k : Nat) (l0_0 : List Int) (l0_1 : List Int) : Option (ByteArray) := (zcn.f k).bind fun t234 => ((zc7.f l0_1 t234).bind fun t237 => (if t237 = 0 then ((zbl.f k l0_0).bind fun t238 => (some t238)) else ((zbl.f k l0_0).bind fun t239 => (if t239.size + 1 ≤ 9223372036854775807 then ((zbl.f k l0_1).bind fun t240 => (if (t239 ++ (⟨#[47]⟩ : ByteArray)).size + t240.size ≤ 9223372036854775807 then (some ((t239 ++ (⟨#[47]⟩ : ByteArray)) ++ t240)) else (none))) else (none)))))
theorem za2.mono : ∀ a0 a1 k, LeO (za2.f k a0 a1) (za2.f (k + 1) a0 a1) := by
 intro a0 a1 k
 unfold za2.f
 repeat' first
   | (with_reducible exact zbl.mono _ _)
   | (with_reducible exact zcn.mono _)
   | (with_reducible exact LeO.refl _)
   | (with_reducible exact LeO.none _)
   | (with_reducible refine LeO.ite ?_ ?_)
   | (with_reducible refine LeO.bind ?_ (fun _ => ?_))
   | exact zbl.mono _ _
   | exact zcn.mono _
   | exact LeO.none _
   | refine LeO.ite ?_ ?_
   | refine LeO.bind ?_ (fun _ => ?_)
def za2.T3 : Bool × List (List Nat × List Nat) := (true, [([], []), ([0], [0]), ([1], [1]), ([2], [2]), ([], []), ([4], [4]), ([5, 2], [5]), ([3, 6], [3, 6]), ([7, 6, 0, 1, 2, 3, 4, 5, 6, 7], [7])])
def za2.B3 : List Nat := [0, 1, 3, 7, 0, 16, 55, 127, 255]
theorem za2.tab3 : rtab .any (opsOf Tryd.f41 3) = za2.T3 := by kernel_rfl
theorem za2.bits3 : waitsOk za2.T3.2 za2.B3 = true := by kernel_rfl
theorem za2.calls (k : Nat) (A0_0 : Option Addr) (c0_0 : Nat) (l0_0 : List Int) (A0_1 : Option Addr) (c0_1 : Nat) (l0_1 : List Int) (r : ByteArray) (w : World) (hr0_0 : Kd.C (Kd.int .u64) w A0_0 l0_0.length l0_0) (hc0_0 : l0_0.length ≤ c0_0) (hr0_1 : Kd.C (Kd.int .u64) w A0_1 l0_1.length l0_1) (hc0_1 : l0_1.length ≤ c0_1) (hG : Glob w) (h : za2.f k l0_0 l0_1 = some r) :
  Calls Tryd.prog 41 #[.agg #[.slice A0_0 l0_0.length c0_0, .slice A0_1 l0_1.length c0_1]] w fun e w' => e = .returned (.string r) ∧ Below w.heap.size w w' := by
 have hu28 := Tryd.underlying28
 have HR0_0 := zA hr0_0
 have HC0_0 := zA hc0_0
 clear hr0_0 hc0_0
 have HR0_1 := zA hr0_1
 have HC0_1 := zA hc0_1
 clear hr0_1 hc0_1
 have HG := zA hG
 clear hG
 have HB := zA (Below.refl w.heap.size w)
 have H : ((zcn.f k).bind fun t234 => ((zc7.f l0_1 t234).bind fun t237 => (if t237 = 0 then ((zbl.f k l0_0).bind fun t238 => (some t238)) else ((zbl.f k l0_0).bind fun t239 => (if t239.size + 1 ≤ 9223372036854775807 then ((zbl.f k l0_1).bind fun t240 => (if (t239 ++ (⟨#[47]⟩ : ByteArray)).size + t240.size ≤ 9223372036854775807 then (some ((t239 ++ (⟨#[47]⟩ : ByteArray)) ++ t240)) else (none))) else (none)))))) = some r := h
 clear h
 replace H := zO H
 obtain ⟨t234, A20, H⟩ := H
 try dsimp only at H
 have A2 := zA A20
 clear A20
 replace H := zO H
 obtain ⟨t237, A30, H⟩ := H
 try dsimp only at H
 have A3 := zA A30
 clear A30
 by_cases c4 : t237 = 0
 ·
  rw [if_pos c4] at H
  have c4b0 : (t237 == 0) = true := beq_iff_eq.mpr c4
  have c4b1 : (t237 != 0) = false := bne_eq_false_iff_eq.mpr c4
  clear c4
  replace H := zO H
  obtain ⟨t238, A50, H⟩ := H
  try dsimp only at H
  have A5 := zA A50
  clear A50
  obtain rfl := Option.some.inj H
  go_enter Tryd.func41, Tryd.ntmps41
  try go_wp2_with (first | ((with_reducible refine zbv (N := 1) rfl ?_); refine zb4 ?hg (N := 1) ?hd (cs := #[.slice A0_0 l0_0.length c0_0, .slice A0_1 l0_1.length c0_1]) (t := 28) ?hr ?_; (case hd => rfl); (case hg => rfl); (case hr => first | (go_simp; done) | (go_simp; rfl)); intro gb233 hg w6 hbox hb; have n0_ := zA (zac (zB HB) hb); have n1_ := zA (hbox); have n2_ := zA ((by rw [hg]; exact (za (zB HB)) : w.heap.size ≤ gb233)); have n3_ := zA ((by rw [hg]; exact (za (zB HB)) : w.heap.size ≤ gb233)); clear HB; have HB := n0_; have BK233 := n1_; have GW233 := n2_; have GE233 := n3_; clear n0_ n1_ n2_ n3_ hb hbox hg))
  have n0_ := zA (zak BK233.out)
  have n1_ := zA (zby HB.out)
  clear BK233 HB
  have BK233 := n0_
  have HB := n1_
  clear n0_ n1_
  refine start_ (n := 5) (S := fun w' => w'.cell? ⟨gb233, 0, none⟩ = some (.slice A0_0 l0_0.length c0_0) ∧ w'.cell? ⟨gb233, 1, none⟩ = some (.slice A0_1 l0_1.length c0_1)) (ds := []) #[false, false, false, false, false] (by kernel_rfl) rfl rfl ⟨(zab BK233.out 0).trans rfl, (zab BK233.out 1).trans rfl⟩ (fun hHeld => ?_)
  generalize w6.drew = w7 at BK233 HB hHeld ⊢
  refine pure_ (i := 0) (N := some 3) (v := ?_) (a' := ?_) #[true, false, false, false, false] rfl rfl (by kernel_rfl) (fun _ _ _ h => h) (Or.inl ⟨by rfl, ?_⟩) ?_ ?_
  rotate_left
  ·
   intro w'
   go_simp
   with_reducible rfl
  rotate_left
  ·
   simp only [Act.put, zs1, zs2, zs3, i64_w, i32_w]
   rfl
  refine take_ (i := 1) (N := some 4) (v := ?_) (a' := ?_) #[true, true, false, false, false] rfl rfl (by kernel_rfl) (fun _ _ _ h => h) (Or.inl ⟨by rfl, ?_⟩) hHeld ?_ ?_
  rotate_left
  ·
   rintro w' ⟨s0, s1⟩
   go_simp
   with_reducible rfl
  rotate_left
  ·
   simp only [Act.put, zs1, zs2, zs3, i64_w, i32_w]
   rfl
  refine one_ (i := 2) (N := some 5) #[true, true, true, false, false] rfl rfl (by kernel_rfl) (by decide) (fun K hK => ?_)
  refine goes_ Tryd.func54 (by kernel_rfl) rfl #[] (by rfl) rfl rfl (zE) ?_
  with_reducible refine (zcn.calls k  t234 _ A2.out).mono ?_
  rintro e w8 ⟨v235, rfl, ho0, hb⟩
  refine ⟨_, rfl, ?_⟩
  have n0_ := zA (Kd.zbj (Kd.zar (ok' := fun k_ => k_ ≠ gb233) ho0 (fun k_ hk_ => (Kd.freshB (g := gb233) (o := .cells #[.slice A0_0 l0_0.length c0_0, .slice A0_1 l0_1.length c0_1] 28 (0, 0)) (zK BK233) k_ hk_))) (za (zB HB)))
  have n1_ := zA (zad (g := gb233) (o := .cells #[.slice A0_0 l0_0.length c0_0, .slice A0_1 l0_1.length c0_1] 28 (0, 0)) (zK BK233) hb)
  have n2_ := zA (zac (zB HB) hb)
  clear BK233 HB
  have HO236 := n0_
  have BK233 := n1_
  have HB := n2_
  clear n0_ n1_ n2_
  (try clear hb)
  (try clear hb2)
  (try clear hk)
  (try clear hi)
  (try clear ho0)
  obtain ⟨Ao9, co9, eo9⟩ := Kd.zbd HO236.out
  (first | subst eo9 | (injection eo9 with f1_ f2_ f3_; have f4_ := f1_.symm; have f5_ := f3_.symm; clear f1_ f2_ f3_; subst f4_; subst f5_))
  refine hK.out _ _ ⟨(zab BK233.out 0).trans rfl, (zab BK233.out 1).trans rfl⟩ (fun hHeld => ?_)
  clear hK K
  refine norm_ (a' := ?_) ?_ ?_
  rotate_left
  ·
   show Act.put _ (some 5) _ = _
   simp only [Act.put, zs1, zs2, zs3, i64_w, i32_w]
   rfl
  refine one_ (i := 3) (N := some 6) #[true, true, true, true, false] rfl rfl (by kernel_rfl) (by decide) (fun K hK => ?_)
  refine goes_ Tryd.func52 (by kernel_rfl) rfl #[.slice A0_1 l0_1.length c0_1, .slice Ao9 t234.length co9] (by rfl) rfl rfl (zE) ?_
  with_reducible refine (zc7.calls _ _ l0_1 _ _ t234 t237 _ ?side1 ?side2 ?side3 ?side4 A3.out).mono ?_
  (case side1 => exact zJ (Kd.zb HR0_1.out HB.out))
  (case side2 => exact HC0_1.out)
  (case side3 => exact zJ (Kd.zaw HO236.out).2.2)
  (case side4 => exact (Kd.zaw HO236.out).2.1)
  rintro e w10 ⟨rfl, hb⟩
  refine ⟨_, rfl, ?_⟩
  have n0_ := zA (Kd.zav (zV HO236) hb)
  have n1_ := zA (zad (g := gb233) (o := .cells #[.slice A0_0 l0_0.length c0_0, .slice A0_1 l0_1.length c0_1] 28 (0, 0)) (zK BK233) hb)
  have n2_ := zA (zac (zB HB) hb)
  clear HO236 BK233 HB
  have HO236 := n0_
  have BK233 := n1_
  have HB := n2_
  clear n0_ n1_ n2_
  (try clear hb)
  (try clear hb2)
  (try clear hk)
  (try clear hi)
  refine hK.out _ _ ⟨(zab BK233.out 0).trans rfl, (zab BK233.out 1).trans rfl⟩ (fun hHeld => ?_)
  clear hK K
  refine norm_ (a' := ?_) ?_ ?_
  rotate_left
  ·
   show Act.put _ (some 6) _ = _
   simp only [Act.put, zs1, zs2, zs3, i64_w, i32_w]
   rfl
  refine pure_ (i := 4) (N := some 7) (v := ?_) (a' := ?_) #[true, true, true, true, true] rfl rfl (by kernel_rfl) (fun _ _ _ h => h) (Or.inl ⟨by rfl, ?_⟩) ?_ ?_
  rotate_left
  ·
   intro w'
   go_simp
   with_reducible rfl
  rotate_left
  ·
   simp only [Act.put, zs1, zs2, zs3, i64_w, i32_w]
   rfl
  refine done_ (by kernel_rfl) ?_
  have hcz11_0 : w10.cell? ⟨gb233, 0, none⟩ = some (.slice A0_0 l0_0.length c0_0) := (zab BK233.out 0).trans rfl
  have hcz11_1 : w10.cell? ⟨gb233, 1, none⟩ = some (.slice A0_1 l0_1.length c0_1) := (zab BK233.out 1).trans rfl
  have hfz11_0 := zao BK233.out 0
  have hfz11_1 := zao BK233.out 1
  try go_wp2_with (first | ((with_reducible refine zae (f := 50) rfl ?_); refine za4 (some 10) rfl rfl Tryd.func50 (by kernel_rfl) rfl #[.slice A0_0 l0_0.length c0_0] rfl (zE) ?_; (with_reducible refine (zbl.calls k (fun k_ => k_ < w.heap.size) _ _ l0_0 t238 _ ?side1 ?side2 A5.out).mono ?_); (case side1 => exact Kd.V_mk HC0_0.out (Kd.F_below (Kd.C_F (Kd.heap_int .u64) HR0_0.out) (zB HB))); (case side2 => exact Glob.below HG.out (zB HB)); rintro e w12 ⟨rfl, hb⟩; refine ⟨_, rfl, ?_⟩; have n0_ := zA (Kd.zav (zV HO236) hb); have n1_ := zA (zad (g := gb233) (o := .cells #[.slice A0_0 l0_0.length c0_0, .slice A0_1 l0_1.length c0_1] 28 (0, 0)) (zK BK233) hb); have n2_ := zA (zac (zB HB) hb); clear HO236 BK233 HB; have HO236 := n0_; have BK233 := n1_; have HB := n2_; clear n0_ n1_ n2_; (try clear hb); (try clear hb2); (try clear hk); (try clear hi)))
  go_ret
  exact ⟨zW, zB HB⟩
 ·
  rw [if_neg c4] at H
  have c4b0 : (t237 == 0) = false := beq_eq_false_iff_ne.mpr c4
  have c4b1 : (t237 != 0) = true := bne_iff_ne.mpr c4
  replace H := zO H
  obtain ⟨t239, A130, H⟩ := H
  try dsimp only at H
  have A13 := zA A130
  clear A130
  by_cases c14 : t239.size + 1 ≤ 9223372036854775807
  ·
   rw [if_pos c14] at H
   have c14b0 := eq_true c14
   have c14b1 : decide (t239.size + 1 ≤ 9223372036854775807) = true := decide_eq_true c14
   try have c14b2 : (9223372036854775807 < t239.size + 1) = False := eq_false (Nat.not_lt.2 c14)
   replace H := zO H
   obtain ⟨t240, A150, H⟩ := H
   try dsimp only at H
   have A15 := zA A150
   clear A150
   by_cases c16 : (t239 ++ (⟨#[47]⟩ : ByteArray)).size + t240.size ≤ 9223372036854775807
   ·
    rw [if_pos c16] at H
    have c16b0 := eq_true c16
    have c16b1 : decide ((t239 ++ (⟨#[47]⟩ : ByteArray)).size + t240.size ≤ 9223372036854775807) = true := decide_eq_true c16
    try have c16b3 : (9223372036854775807 < t239.size + 1 + t240.size) = False := by have h_ := eq_false (Nat.not_lt.2 c16); rw [ByteArray.size_append] at h_; exact h_
    try have c16b2 : (9223372036854775807 < (t239 ++ (⟨#[47]⟩ : ByteArray)).size + t240.size) = False := eq_false (Nat.not_lt.2 c16)
    obtain rfl := Option.some.inj H
    go_enter Tryd.func41, Tryd.ntmps41
    try go_wp2_with (first | ((with_reducible refine zbv (N := 1) rfl ?_); refine zb4 ?hg (N := 1) ?hd (cs := #[.slice A0_0 l0_0.length c0_0, .slice A0_1 l0_1.length c0_1]) (t := 28) ?hr ?_; (case hd => rfl); (case hg => rfl); (case hr => first | (go_simp; done) | (go_simp; rfl)); intro gb233 hg w17 hbox hb; have n0_ := zA (zac (zB HB) hb); have n1_ := zA (hbox); have n2_ := zA ((by rw [hg]; exact (za (zB HB)) : w.heap.size ≤ gb233)); have n3_ := zA ((by rw [hg]; exact (za (zB HB)) : w.heap.size ≤ gb233)); clear HB; have HB := n0_; have BK233 := n1_; have GW233 := n2_; have GE233 := n3_; clear n0_ n1_ n2_ n3_ hb hbox hg))
    have n0_ := zA (zak BK233.out)
    have n1_ := zA (zby HB.out)
    clear BK233 HB
    have BK233 := n0_
    have HB := n1_
    clear n0_ n1_
    refine start_ (n := 5) (S := fun w' => w'.cell? ⟨gb233, 0, none⟩ = some (.slice A0_0 l0_0.length c0_0) ∧ w'.cell? ⟨gb233, 1, none⟩ = some (.slice A0_1 l0_1.length c0_1)) (ds := []) #[false, false, false, false, false] (by kernel_rfl) rfl rfl ⟨(zab BK233.out 0).trans rfl, (zab BK233.out 1).trans rfl⟩ (fun hHeld => ?_)
    generalize w17.drew = w18 at BK233 HB hHeld ⊢
    refine pure_ (i := 0) (N := some 3) (v := ?_) (a' := ?_) #[true, false, false, false, false] rfl rfl (by kernel_rfl) (fun _ _ _ h => h) (Or.inl ⟨by rfl, ?_⟩) ?_ ?_
    rotate_left
    ·
     intro w'
     go_simp
     with_reducible rfl
    rotate_left
    ·
     simp only [Act.put, zs1, zs2, zs3, i64_w, i32_w]
     rfl
    refine take_ (i := 1) (N := some 4) (v := ?_) (a' := ?_) #[true, true, false, false, false] rfl rfl (by kernel_rfl) (fun _ _ _ h => h) (Or.inl ⟨by rfl, ?_⟩) hHeld ?_ ?_
    rotate_left
    ·
     rintro w' ⟨s0, s1⟩
     go_simp
     with_reducible rfl
    rotate_left
    ·
     simp only [Act.put, zs1, zs2, zs3, i64_w, i32_w]
     rfl
    refine one_ (i := 2) (N := some 5) #[true, true, true, false, false] rfl rfl (by kernel_rfl) (by decide) (fun K hK => ?_)
    refine goes_ Tryd.func54 (by kernel_rfl) rfl #[] (by rfl) rfl rfl (zE) ?_
    with_reducible refine (zcn.calls k  t234 _ A2.out).mono ?_
    rintro e w19 ⟨v235, rfl, ho0, hb⟩
    refine ⟨_, rfl, ?_⟩
    have n0_ := zA (Kd.zbj (Kd.zar (ok' := fun k_ => k_ ≠ gb233) ho0 (fun k_ hk_ => (Kd.freshB (g := gb233) (o := .cells #[.slice A0_0 l0_0.length c0_0, .slice A0_1 l0_1.length c0_1] 28 (0, 0)) (zK BK233) k_ hk_))) (za (zB HB)))
    have n1_ := zA (zad (g := gb233) (o := .cells #[.slice A0_0 l0_0.length c0_0, .slice A0_1 l0_1.length c0_1] 28 (0, 0)) (zK BK233) hb)
    have n2_ := zA (zac (zB HB) hb)
    clear BK233 HB
    have HO236 := n0_
    have BK233 := n1_
    have HB := n2_
    clear n0_ n1_ n2_
    (try clear hb)
    (try clear hb2)
    (try clear hk)
    (try clear hi)
    (try clear ho0)
    obtain ⟨Ao20, co20, eo20⟩ := Kd.zbd HO236.out
    (first | subst eo20 | (injection eo20 with f1_ f2_ f3_; have f4_ := f1_.symm; have f5_ := f3_.symm; clear f1_ f2_ f3_; subst f4_; subst f5_))
    refine hK.out _ _ ⟨(zab BK233.out 0).trans rfl, (zab BK233.out 1).trans rfl⟩ (fun hHeld => ?_)
    clear hK K
    refine norm_ (a' := ?_) ?_ ?_
    rotate_left
    ·
     show Act.put _ (some 5) _ = _
     simp only [Act.put, zs1, zs2, zs3, i64_w, i32_w]
     rfl
    refine one_ (i := 3) (N := some 6) #[true, true, true, true, false] rfl rfl (by kernel_rfl) (by decide) (fun K hK => ?_)
    refine goes_ Tryd.func52 (by kernel_rfl) rfl #[.slice A0_1 l0_1.length c0_1, .slice Ao20 t234.length co20] (by rfl) rfl rfl (zE) ?_
    with_reducible refine (zc7.calls _ _ l0_1 _ _ t234 t237 _ ?side1 ?side2 ?side3 ?side4 A3.out).mono ?_
    (case side1 => exact zJ (Kd.zb HR0_1.out HB.out))
    (case side2 => exact HC0_1.out)
    (case side3 => exact zJ (Kd.zaw HO236.out).2.2)
    (case side4 => exact (Kd.zaw HO236.out).2.1)
    rintro e w21 ⟨rfl, hb⟩
    refine ⟨_, rfl, ?_⟩
    have n0_ := zA (Kd.zav (zV HO236) hb)
    have n1_ := zA (zad (g := gb233) (o := .cells #[.slice A0_0 l0_0.length c0_0, .slice A0_1 l0_1.length c0_1] 28 (0, 0)) (zK BK233) hb)
    have n2_ := zA (zac (zB HB) hb)
    clear HO236 BK233 HB
    have HO236 := n0_
    have BK233 := n1_
    have HB := n2_
    clear n0_ n1_ n2_
    (try clear hb)
    (try clear hb2)
    (try clear hk)
    (try clear hi)
    refine hK.out _ _ ⟨(zab BK233.out 0).trans rfl, (zab BK233.out 1).trans rfl⟩ (fun hHeld => ?_)
    clear hK K
    refine norm_ (a' := ?_) ?_ ?_
    rotate_left
    ·
     show Act.put _ (some 6) _ = _
     simp only [Act.put, zs1, zs2, zs3, i64_w, i32_w]
     rfl
    refine pure_ (i := 4) (N := some 7) (v := ?_) (a' := ?_) #[true, true, true, true, true] rfl rfl (by kernel_rfl) (fun _ _ _ h => h) (Or.inl ⟨by rfl, ?_⟩) ?_ ?_
    rotate_left
    ·
     intro w'
     go_simp
     with_reducible rfl
    rotate_left
    ·
     simp only [Act.put, zs1, zs2, zs3, i64_w, i32_w]
     rfl
    refine done_ (by kernel_rfl) ?_
    try go_wp2
    have n0_ := zA (Kd.zbs HO236.out)
    have n1_ := zA (zak BK233.out)
    have n2_ := zA (zby HB.out)
    clear HO236 BK233 HB
    have HO236 := n0_
    have BK233 := n1_
    have HB := n2_
    clear n0_ n1_ n2_
    refine start_ (n := 9) (S := fun w' => w'.cell? ⟨gb233, 0, none⟩ = some (.slice A0_0 l0_0.length c0_0) ∧ w'.cell? ⟨gb233, 1, none⟩ = some (.slice A0_1 l0_1.length c0_1)) (ds := []) #[false, false, false, false, false, false, false, false, false] (by kernel_rfl) rfl rfl ⟨(zab BK233.out 0).trans rfl, (zab BK233.out 1).trans rfl⟩ (fun hHeld => ?_); refine with_tabW za2.tab3 za2.bits3 (fun HT_ HW_ => ?_)
    generalize w21.drew = w22 at HO236 BK233 HB hHeld ⊢
    refine pure_ (i := 0) (N := some 11) (v := ?_) (a' := ?_) #[true, false, false, false, false, false, false, false, false] rfl rfl (zbq HT_.out (by kernel_rfl)) (fun _ _ _ h => h) (Or.inl ⟨by rfl, ?_⟩) ?_ ?_
    rotate_left
    ·
     intro w'
     go_simp
     with_reducible rfl
    rotate_left
    ·
     simp only [Act.put, zs1, zs2, zs3, i64_w, i32_w]
     rfl
    refine pure_ (i := 4) (N := some 15) (v := ?_) (a' := ?_) #[true, false, false, false, true, false, false, false, false] rfl rfl (zbq HT_.out (by kernel_rfl)) (fun _ _ _ h => h) (Or.inl ⟨by rfl, ?_⟩) ?_ ?_
    rotate_left
    ·
     intro w'
     go_simp
     with_reducible rfl
    rotate_left
    ·
     simp only [Act.put, zs1, zs2, zs3, i64_w, i32_w]
     rfl
    refine take_ (i := 1) (N := some 12) (v := ?_) (a' := ?_) #[true, true, false, false, true, false, false, false, false] rfl rfl (zcq HT_.out HW_.out (by kernel_rfl)) (fun _ _ _ h => h) (Or.inl ⟨by rfl, ?_⟩) hHeld ?_ ?_
    rotate_left
    ·
     rintro w' ⟨s0, s1⟩
     go_simp
     with_reducible rfl
    rotate_left
    ·
     simp only [Act.put, zs1, zs2, zs3, i64_w, i32_w]
     rfl
    refine take_ (i := 5) (N := some 16) (v := ?_) (a' := ?_) #[true, true, false, false, true, true, false, false, false] rfl rfl (zcq HT_.out HW_.out (by kernel_rfl)) (fun _ _ _ h => h) (Or.inl ⟨by rfl, ?_⟩) hHeld ?_ ?_
    rotate_left
    ·
     rintro w' ⟨s0, s1⟩
     go_simp
     with_reducible rfl
    rotate_left
    ·
     simp only [Act.put, zs1, zs2, zs3, i64_w, i32_w]
     rfl
    refine one_ (i := 2) (N := some 13) #[true, true, true, false, true, true, false, false, false] rfl rfl (zc0 HT_.out (by kernel_rfl)) (by decide) (fun K hK => ?_)
    refine goes_ Tryd.func50 (by kernel_rfl) rfl #[.slice A0_0 l0_0.length c0_0] (by rfl) rfl rfl (zE) ?_
    with_reducible refine (zbl.calls k (fun k_ => k_ < w.heap.size) _ _ l0_0 t239 _ ?side1 ?side2 A13.out).mono ?_
    (case side1 => exact Kd.V_mk HC0_0.out (Kd.F_below (Kd.C_F (Kd.heap_int .u64) HR0_0.out) (zB HB)))
    (case side2 => exact Glob.below HG.out (zB HB))
    rintro e w23 ⟨rfl, hb⟩
    refine ⟨_, rfl, ?_⟩
    have n0_ := zA (Kd.zav (zV HO236) hb)
    have n1_ := zA (zad (g := gb233) (o := .cells #[.slice A0_0 l0_0.length c0_0, .slice A0_1 l0_1.length c0_1] 28 (0, 0)) (zK BK233) hb)
    have n2_ := zA (zac (zB HB) hb)
    clear HO236 BK233 HB
    have HO236 := n0_
    have BK233 := n1_
    have HB := n2_
    clear n0_ n1_ n2_
    (try clear hb)
    (try clear hb2)
    (try clear hk)
    (try clear hi)
    refine hK.out _ _ ⟨(zab BK233.out 0).trans rfl, (zab BK233.out 1).trans rfl⟩ (fun hHeld => ?_)
    clear hK K
    refine norm_ (a' := ?_) ?_ ?_
    rotate_left
    ·
     show Act.put _ (some 13) _ = _
     simp only [Act.put, zs1, zs2, zs3, i64_w, i32_w]
     rfl
    refine pure_ (i := 3) (N := some 14) (v := ?_) (a' := ?_) #[true, true, true, true, true, true, false, false, false] rfl rfl (zbq HT_.out (by kernel_rfl)) (fun _ _ _ h => h) (Or.inl ⟨by rfl, ?_⟩) ?_ ?_
    rotate_left
    ·
     intro w'
     go_simp
     with_reducible rfl
    rotate_left
    ·
     simp only [Act.put, zs1, zs2, zs3, i64_w, i32_w]
     rfl
    refine one_ (i := 6) (N := some 17) #[true, true, true, true, true, true, true, false, false] rfl rfl (zc0 HT_.out (by kernel_rfl)) (by decide) (fun K hK => ?_)
    refine goes_ Tryd.func50 (by kernel_rfl) rfl #[.slice A0_1 l0_1.length c0_1] (by rfl) rfl rfl (zE) ?_
    with_reducible refine (zbl.calls k (fun k_ => k_ < w.heap.size) _ _ l0_1 t240 _ ?side1 ?side2 A15.out).mono ?_
    (case side1 => exact Kd.V_mk HC0_1.out (Kd.F_below (Kd.C_F (Kd.heap_int .u64) HR0_1.out) (zB HB)))
    (case side2 => exact Glob.below HG.out (zB HB))
    rintro e w24 ⟨rfl, hb⟩
    refine ⟨_, rfl, ?_⟩
    have n0_ := zA (Kd.zav (zV HO236) hb)
    have n1_ := zA (zad (g := gb233) (o := .cells #[.slice A0_0 l0_0.length c0_0, .slice A0_1 l0_1.length c0_1] 28 (0, 0)) (zK BK233) hb)
    have n2_ := zA (zac (zB HB) hb)
    clear HO236 BK233 HB
    have HO236 := n0_
    have BK233 := n1_
    have HB := n2_
    clear n0_ n1_ n2_
    (try clear hb)
    (try clear hb2)
    (try clear hk)
    (try clear hi)
    refine hK.out _ _ ⟨(zab BK233.out 0).trans rfl, (zab BK233.out 1).trans rfl⟩ (fun hHeld => ?_)
    clear hK K
    refine norm_ (a' := ?_) ?_ ?_
    rotate_left
    ·
     show Act.put _ (some 17) _ = _
     simp only [Act.put, zs1, zs2, zs3, i64_w, i32_w]
     rfl
    refine pure_ (i := 7) (N := some 18) (v := ?_) (a' := ?_) #[true, true, true, true, true, true, true, true, false] rfl rfl (zbq HT_.out (by kernel_rfl)) (fun _ _ _ h => h) (Or.inl ⟨by rfl, ?_⟩) ?_ ?_
    rotate_left
    ·
     intro w'
     go_simp
     with_reducible rfl
    rotate_left
    ·
     simp only [Act.put, zs1, zs2, zs3, i64_w, i32_w]
     rfl
    refine pure_ (i := 8) (N := some 2) (v := ?_) (a' := ?_) #[true, true, true, true, true, true, true, true, true] rfl rfl (zbq HT_.out (by kernel_rfl)) (fun _ _ _ h => h) (Or.inl ⟨by rfl, ?_⟩) ?_ ?_
    rotate_left
    ·
     intro w'
     go_simp
     with_reducible rfl
    rotate_left
    ·
     simp only [Act.put, zs1, zs2, zs3, i64_w, i32_w]
     rfl
    refine done_ (done_of HT_.out (by kernel_rfl)) ?_
    try go_wp2
    go_ret
    exact ⟨zW, zB HB⟩
   ·
    rw [if_neg c16] at H
    exact absurd H (by simp)
  ·
   rw [if_neg c14] at H
   exact absurd H (by simp)
def zcf.l0 : Nat → List Int → List Int → Option (List Int)
 | 0, _, _ => none
 | k + 1, x0, x1 => if (x1.length : Int) > 0 then ((zax.f k x0 x1).bind fun bt161 => ((za7.f x1).bind fun t168 => (zcf.l0 k t168 bt161.2.1))) else (some x0)
def zcf.f (k : Nat) (l0 : List Int) (l1 : List Int) : Option (List Int) := (za7.f l0).bind fun t158 => (zcf.l0 k t158 l1)
theorem zcf.zde : ∀ k, (∀ y0 y1, LeO (zcf.l0 k y0 y1) (zcf.l0 (k + 1) y0 y1))
 | 0 => fun _ _ r h => by simp [zcf.l0] at h
 | k + 1 => by
  have ih0 := zcf.zde k
  ·
   intro y0 y1
   unfold zcf.l0
   repeat' first
   | (with_reducible exact ih0 _ _)
   | (with_reducible exact zax.mono _ _ _)
   | (with_reducible exact LeO.refl _)
   | (with_reducible exact LeO.none _)
   | (with_reducible refine LeO.ite ?_ ?_)
   | (with_reducible refine LeO.bind ?_ (fun _ => ?_))
   | exact ih0 _ _
   | exact zax.mono _ _ _
   | exact LeO.none _
   | refine LeO.ite ?_ ?_
   | refine LeO.bind ?_ (fun _ => ?_)
theorem zcf.mono : ∀ a0 a1 k, LeO (zcf.f k a0 a1) (zcf.f (k + 1) a0 a1) := by
 intro a0 a1 k
 have ih0 := zcf.zde k
 unfold zcf.f
 repeat' first
   | (with_reducible exact ih0 _ _)
   | (with_reducible exact zax.mono _ _ _)
   | (with_reducible exact LeO.refl _)
   | (with_reducible exact LeO.none _)
   | (with_reducible refine LeO.ite ?_ ?_)
   | (with_reducible refine LeO.bind ?_ (fun _ => ?_))
   | exact ih0 _ _
   | exact zax.mono _ _ _
   | exact LeO.none _
   | refine LeO.ite ?_ ?_
   | refine LeO.bind ?_ (fun _ => ?_)
theorem zcf.calls (k : Nat) (A0 : Option Addr) (c0 : Nat) (l0 : List Int) (P1_ : Nat → Prop) (A1 : Option Addr) (c1 : Nat) (l1 : List Int) (r : List Int) (w : World) (hr0 : Kd.C (Kd.int .u64) w A0 l0.length l0) (hc0 : l0.length ≤ c0) (hs1 : Kd.V (Kd.int .u64) 57 w w.heap.size (fun k_ => P1_ k_) (.slice A1 l1.length c1) l1) (h : zcf.f k l0 l1 = some r) :
  Calls Tryd.prog 53 #[.slice A0 l0.length c0, .slice A1 l1.length c1] w fun e w' => ∃ v0_ : Value, e = .returned (v0_) ∧ Kd.R (Kd.int .u64) 57 w' w.heap.size (fun k_ => (w.heap.size ≤ k_)) v0_ r ∧ Below w.heap.size w w' := by
 have HR0 := zA hr0
 have HC0 := zA hc0
 clear hr0 hc0
 have HO1 := zA (show Kd.V (Kd.int .u64) 57 w w.heap.size (fun k_ => (P1_ k_ ∨ w.heap.size ≤ k_)) (.slice A1 l1.length c1) l1 from Kd.zar hs1 (fun k_ hk => .inl hk))
 have HB := zA (Below.refl w.heap.size w)
 have H : ((za7.f l0).bind fun t158 => (zcf.l0 k t158 l1)) = some r := h
 clear h
 replace H := zO H
 obtain ⟨t158, A30, H⟩ := H
 try dsimp only at H
 have A3 := zA A30
 clear A30
 have H' := zA H
 clear H
 go_enter Tryd.func53, Tryd.ntmps53
 go_wp2_with (first | ((with_reducible refine zae (f := 81) rfl ?_); refine za4 (some 9) rfl rfl Tryd.func81 (by kernel_rfl) rfl #[.slice A0 l0.length c0] rfl (zE) ?_; (with_reducible refine (za7.calls _ _ l0 t158 _ ?side1 ?side2 A3.out).mono ?_); (case side1 => repeat (first | exact HR0.out | (with_reducible refine Kd.C_alloc ?_ _) | (with_reducible refine Kd.C_drewN ?_ _) | (with_reducible refine Kd.C_drew ?_))); (case side2 => exact HC0.out); rintro e w4 ⟨v159, rfl, ho0, hb⟩; refine ⟨_, rfl, ?_⟩; have n0_ := zA (Kd.V_elder' (zV HO1) (Kd.zbo ho0) hb); have n1_ := zA (Kd.zbn (Kd.zcv (M := fun k_ => (w.heap.size ≤ k_)) ho0 (za (zB HB)) (fun k_ h_ => h_)) (za (zB HB))); have n2_ := zA (zac (zB HB) hb); clear HO1 HB; have HO1 := n0_; have HO160 := n1_; have HB := n2_; clear n0_ n1_ n2_; (try clear hb); (try clear hb2); (try clear hk); (try clear hi); (try clear ho0)))
 go_loopg [0, 1] k (fun kq v0 v1 w' => ∃ (x0_1 : List Int) (x1_1 : List Int), Aside0 (zcf.l0 kq x0_1 x1_1 = some r) ∧ Aside0 (kq ≤ k) ∧ Aside0 (Kd.R (Kd.int .u64) 57 w' w.heap.size (fun k_ => (w.heap.size ≤ k_)) v0 x0_1) ∧ Aside0 (Kd.V (Kd.int .u64) 57 w' w.heap.size (fun k_ => (P1_ k_ ∨ w.heap.size ≤ k_) ∧ some k_ ≠ (v0 : Value).ownBlock) v1 x1_1) ∧ Aside0 (Below w.heap.size w w'))
 case atStart => exact ⟨(t158), (l1), H', ⟨Nat.le_refl _⟩, ⟨by (with_reducible repeat (first | apply Kd.zbu | apply Kd.zbx | apply Kd.zb5)); exact Kd.zba HO160.out (fun _ hk => hk.1)⟩, ⟨zV HO1⟩, ⟨zB HB⟩⟩
 case round =>
  clear H'
  try clear c1
  try clear p2
  obtain ⟨x0_1, x1_1, HA, HK1, HO_0, HO_1, HB⟩ := hrel
  cases gk with
  | zero => exact absurd HA.out (by simp [zcf.l0])
  | succ k1 =>
   have H := HA.out
   clear HA
   simp only [zcf.l0] at H
   by_cases c5 : (x1_1.length : Int) > 0
   ·
    rw [if_pos c5] at H
    have c5b0 : decide (0 < (x1_1.length : Int)) = true := decide_eq_true c5
    have c5b1 : decide (0 < x1_1.length) = true := decide_eq_true (by omega)
    clear c5
    replace H := zO H
    obtain ⟨⟨t161, t164, t167⟩, A60, H⟩ := H
    try dsimp only at H
    have A6 := zA A60
    clear A60
    replace H := zO H
    obtain ⟨t168, A70, H⟩ := H
    try dsimp only at H
    have A7 := zA A70
    clear A70
    have H' := zA H
    clear H
    obtain ⟨Ao8, co8, eo8⟩ := Kd.zbd HO_1.out
    subst eo8
    obtain ⟨Ao9, co9, eo9⟩ := Kd.zbr HO_0.out
    subst eo9
    go_wp2_with (first | ((with_reducible refine zae (f := 60) rfl ?_); refine za4 (some 16) rfl rfl Tryd.func60 (by kernel_rfl) rfl #[.slice Ao9 x0_1.length co9, .slice Ao8 x1_1.length co8] rfl (zE) ?_; (with_reducible refine (zax.calls k1 _ _ x0_1 _ _ x1_1 t161 t164 t167 _ ?side1 ?side2 ?side3 ?side4 A6.out).mono ?_); (case side1 => exact zJ (Kd.za1 HO_0.out).2.2); (case side2 => exact (Kd.za1 HO_0.out).2.1); (case side3 => exact zJ (Kd.zaw HO_1.out).2.2); (case side4 => exact (Kd.zaw HO_1.out).2.1); rintro e w10 ⟨v162, v165, rfl, ho0, ho1, hb⟩; refine ⟨_, rfl, ?_⟩; have n0_ := zA (Kd.za5 (zR HO_0) hb); have n1_ := zA (Kd.zav (zV HO_1) hb); have n2_ := zA (Kd.zbj (Kd.zar (ok' := fun k_ => (P1_ k_ ∨ w.heap.size ≤ k_) ∧ some k_ ≠ (.slice Ao9 x0_1.length co9 : Value).ownBlock) ho0 (fun k_ hk_ => ⟨(.inr (Nat.le_trans (za (zB HB)) hk_)), (Kd.fresh' (Kd.R_lt (zR HO_0)) k_ hk_)⟩)) (za (zB HB))); have n3_ := zA (Kd.zbj (Kd.zar (ok' := fun k_ => (P1_ k_ ∨ w.heap.size ≤ k_) ∧ some k_ ≠ (.slice Ao9 x0_1.length co9 : Value).ownBlock) ho1 (fun k_ hk_ => ⟨(.inr (Nat.le_trans (za (zB HB)) hk_)), (Kd.fresh' (Kd.R_lt (zR HO_0)) k_ hk_)⟩)) (za (zB HB))); have n4_ := zA (zac (zB HB) hb); clear HO_0 HO_1 HB; have HO_0 := n0_; have HO_1 := n1_; have HO163 := n2_; have HO166 := n3_; have HB := n4_; clear n0_ n1_ n2_ n3_ n4_; (try clear hb); (try clear hb2); (try clear hk); (try clear hi); (try clear ho0); (try clear ho1)) | ((with_reducible refine zae (f := 81) rfl ?_); refine za4 (some 21) rfl rfl Tryd.func81 (by kernel_rfl) rfl #[.slice Ao8 x1_1.length co8] rfl (zE) ?_; (with_reducible refine (za7.calls _ _ x1_1 t168 _ ?side1 ?side2 A7.out).mono ?_); (case side1 => exact zJ (Kd.zaw HO_1.out).2.2); (case side2 => exact (Kd.zaw HO_1.out).2.1); rintro e w11 ⟨v169, rfl, ho0, hb⟩; refine ⟨_, rfl, ?_⟩; have n0_ := zA (Kd.zbp (zR HO_0) (Kd.zbo ho0) hb); have n1_ := zA (Kd.V_elder' (zV HO_1) (Kd.zbo ho0) hb); have n2_ := zA (Kd.V_elder' (zV HO163) (Kd.zbo ho0) hb); have n3_ := zA (Kd.V_elder' (zV HO166) (Kd.zbo ho0) hb); have n4_ := zA (Kd.zbn (Kd.zb9 (Kd.zcv (M := fun k_ => (w.heap.size ≤ k_)) ho0 (za (zB HB)) (fun k_ h_ => h_)) (Kd.R_lt (zR HO_0))) (za (zB HB))); have n5_ := zA (zac (zB HB) hb); clear HO_0 HO_1 HO163 HO166 HB; have HO_0 := n0_; have HO_1 := n1_; have HO163 := n2_; have HO166 := n3_; have HO170 := n4_; have HB := n5_; clear n0_ n1_ n2_ n3_ n4_ n5_; (try clear hb); (try clear hb2); (try clear hk); (try clear hi); (try clear ho0)))
    go_roundg k1
    case measure => have := HK1.out; omega
    case rel => exact ⟨(t168), (t164), H', ⟨by have := HK1.out; omega⟩, ⟨by (with_reducible repeat (first | apply Kd.zbu | apply Kd.zbx | apply Kd.zb5)); exact Kd.zba HO170.out (fun _ hk => hk.1.1)⟩, ⟨by (with_reducible repeat (first | apply Kd.zbh | apply Kd.zbg | apply Kd.zbs)); exact Kd.zar HO166.out (fun _ hk => ⟨hk.1.1, hk.2⟩)⟩, ⟨zB HB⟩⟩
   ·
    rw [if_neg c5] at H
    have c5b0 : decide (0 < (x1_1.length : Int)) = false := decide_eq_false c5
    have c5b1 : decide (0 < x1_1.length) = false := decide_eq_false (by omega)
    clear c5
    obtain rfl := Option.some.inj H
    obtain ⟨Ao12, co12, eo12⟩ := Kd.zbd HO_1.out
    subst eo12
    go_wp2
    go_ret
    exact ⟨_, zW, zR HO_0, zB HB⟩
def zca.f (k : Nat) (l0 : List Int) (l1 : List Int) : Option (List Int × List Int) := (zcf.f k l0 l1).bind fun t172 => ((zax.f k l0 t172).bind fun bt175 => ((zax.f k l1 t172).bind fun bt182 => (some (bt175.1, bt182.1))))
theorem zca.mono : ∀ a0 a1 k, LeO (zca.f k a0 a1) (zca.f (k + 1) a0 a1) := by
 intro a0 a1 k
 unfold zca.f
 repeat' first
   | (with_reducible exact zax.mono _ _ _)
   | (with_reducible exact zcf.mono _ _ _)
   | (with_reducible exact LeO.refl _)
   | (with_reducible exact LeO.none _)
   | (with_reducible refine LeO.ite ?_ ?_)
   | (with_reducible refine LeO.bind ?_ (fun _ => ?_))
   | exact zax.mono _ _ _
   | exact zcf.mono _ _ _
   | exact LeO.none _
   | refine LeO.ite ?_ ?_
   | refine LeO.bind ?_ (fun _ => ?_)
theorem zca.calls (k : Nat) (A0 : Option Addr) (c0 : Nat) (l0 : List Int) (A1 : Option Addr) (c1 : Nat) (l1 : List Int) (r1 : List Int) (r2 : List Int) (w : World) (hr0 : Kd.C (Kd.int .u64) w A0 l0.length l0) (hc0 : l0.length ≤ c0) (hr1 : Kd.C (Kd.int .u64) w A1 l1.length l1) (hc1 : l1.length ≤ c1) (h : zca.f k l0 l1 = some (r1, r2)) :
  Calls Tryd.prog 58 #[.slice A0 l0.length c0, .slice A1 l1.length c1] w fun e w' => ∃ v0_ v1_ : Value, e = .returned (.agg #[v0_, v1_]) ∧ Kd.V (Kd.int .u64) 57 w' w.heap.size (fun k_ => (w.heap.size ≤ k_)) v0_ r1 ∧ Kd.V (Kd.int .u64) 57 w' w.heap.size (fun k_ => (w.heap.size ≤ k_)) v1_ r2 ∧ Below w.heap.size w w' := by
 have hu28 := Tryd.underlying28
 have HR0 := zA hr0
 have HC0 := zA hc0
 clear hr0 hc0
 have HR1 := zA hr1
 have HC1 := zA hc1
 clear hr1 hc1
 have HB := zA (Below.refl w.heap.size w)
 have H : ((zcf.f k l0 l1).bind fun t172 => ((zax.f k l0 t172).bind fun bt175 => ((zax.f k l1 t172).bind fun bt182 => (some (bt175.1, bt182.1))))) = some (r1, r2) := h
 clear h
 replace H := zO H
 obtain ⟨t172, A30, H⟩ := H
 try dsimp only at H
 have A3 := zA A30
 clear A30
 replace H := zO H
 obtain ⟨⟨t175, t178, t181⟩, A40, H⟩ := H
 try dsimp only at H
 have A4 := zA A40
 clear A40
 replace H := zO H
 obtain ⟨⟨t182, t185, t188⟩, A50, H⟩ := H
 try dsimp only at H
 have A5 := zA A50
 clear A50
 simp only [Option.some.injEq, Prod.mk.injEq] at H
 obtain ⟨rfl, rfl⟩ := H
 go_enter Tryd.func58, Tryd.ntmps58
 go_wp2_with (first | ((with_reducible refine zbv (N := 4) rfl ?_); refine zb4 ?hg (N := 4) ?hd (cs := #[.slice none 0 0, .slice none 0 0]) (t := 28) ?hr ?_; (case hd => rfl); (case hg => rfl); (case hr => first | (go_simp; done) | (go_simp; rfl)); intro gb171 hg w6 hbox hb; have n0_ := zA (zac (zB HB) hb); have n1_ := zA (hbox); have n2_ := zA ((by rw [hg]; exact (za (zB HB)) : w.heap.size ≤ gb171)); have n3_ := zA ((by rw [hg]; exact (za (zB HB)) : w.heap.size ≤ gb171)); clear HB; have HB := n0_; have BK171 := n1_; have GW171 := n2_; have GE171 := n3_; clear n0_ n1_ n2_ n3_ hb hbox hg) | ((with_reducible refine zae (f := 53) rfl ?_); refine za4 (some 14) rfl rfl Tryd.func53 (by kernel_rfl) rfl #[.slice A0 l0.length c0, .slice A1 l1.length c1] rfl (zE) ?_; (with_reducible refine (zcf.calls k _ _ l0 (fun k_ => k_ < w.heap.size) _ _ l1 t172 _ ?side1 ?side2 ?side3 A3.out).mono ?_); (case side1 => exact zJ (Kd.zb HR0.out HB.out)); (case side2 => exact HC0.out); (case side3 => exact Kd.V_mk HC1.out (Kd.F_below (Kd.C_F (Kd.heap_int .u64) HR1.out) (zB HB))); rintro e w7 ⟨v173, rfl, ho0, hb⟩; refine ⟨_, rfl, ?_⟩; have n0_ := zA (Kd.zbn (Kd.zcv (M := fun k_ => (w.heap.size ≤ k_)) (Kd.zba (ok' := fun k_ => True) ho0 (fun _ hk_ => trivial)) (za (zB HB)) (fun k_ h_ => h_)) (za (zB HB))); have n1_ := zA (zad (g := gb171) (o := .cells #[.slice none 0 0, .slice none 0 0] 28 (0, 0)) (zK BK171) hb); have n2_ := zA (zac (zB HB) hb); clear BK171 HB; have HO174 := n0_; have BK171 := n1_; have HB := n2_; clear n0_ n1_ n2_; (try clear hb); (try clear hb2); (try clear hk); (try clear hi); (try clear ho0); obtain ⟨Ao8, co8, eo8⟩ := Kd.zbr HO174.out; subst eo8) | ((with_reducible refine zae (f := 60) rfl ?_); refine za4 (some 18) rfl rfl Tryd.func60 (by kernel_rfl) rfl #[.slice A0 l0.length c0, .slice Ao8 t172.length co8] rfl (zE) ?_; (with_reducible refine (zax.calls k _ _ l0 _ _ t172 t175 t178 t181 _ ?side1 ?side2 ?side3 ?side4 A4.out).mono ?_); (case side1 => exact zJ (Kd.zb HR0.out HB.out)); (case side2 => exact HC0.out); (case side3 => exact zJ (Kd.za1 HO174.out).2.2); (case side4 => exact (Kd.za1 HO174.out).2.1); rintro e w9 ⟨v176, v179, rfl, ho0, ho1, hb⟩; refine ⟨_, rfl, ?_⟩; have n0_ := zA (Kd.za5 (zR HO174) hb); have n1_ := zA (Kd.zbj (Kd.zar (ok' := fun k_ => (w.heap.size ≤ k_) ∧ some k_ ≠ (.slice Ao8 t172.length co8 : Value).ownBlock ∧ k_ ≠ gb171) ho0 (fun k_ hk_ => ⟨(Nat.le_trans (za (zB HB)) hk_), (Kd.fresh' (Kd.R_lt (zR HO174)) k_ hk_), (Kd.freshB (g := gb171) (o := .cells #[.slice none 0 0, .slice none 0 0] 28 (0, 0)) (zK BK171) k_ hk_)⟩)) (za (zB HB))); have n2_ := zA (Kd.zbj (Kd.zar (ok' := fun k_ => (w.heap.size ≤ k_) ∧ some k_ ≠ (.slice Ao8 t172.length co8 : Value).ownBlock ∧ k_ ≠ gb171) ho1 (fun k_ hk_ => ⟨(Nat.le_trans (za (zB HB)) hk_), (Kd.fresh' (Kd.R_lt (zR HO174)) k_ hk_), (Kd.freshB (g := gb171) (o := .cells #[.slice none 0 0, .slice none 0 0] 28 (0, 0)) (zK BK171) k_ hk_)⟩)) (za (zB HB))); have n3_ := zA (zad (g := gb171) (o := .cells #[.slice none 0 0, .slice none 0 0] 28 (0, 0)) (zK BK171) hb); have n4_ := zA (zac (zB HB) hb); clear HO174 BK171 HB; have HO174 := n0_; have HO177 := n1_; have HO180 := n2_; have BK171 := n3_; have HB := n4_; clear n0_ n1_ n2_ n3_ n4_; (try clear hb); (try clear hb2); (try clear hk); (try clear hi); (try clear ho0); (try clear ho1)) | ((with_reducible refine zae (f := 60) rfl ?_); refine za4 (some 25) rfl rfl Tryd.func60 (by kernel_rfl) rfl #[.slice A1 l1.length c1, .slice Ao8 t172.length co8] rfl (zE) ?_; (with_reducible refine (zax.calls k _ _ l1 _ _ t172 t182 t185 t188 _ ?side1 ?side2 ?side3 ?side4 A5.out).mono ?_); (case side1 => exact zJ (Kd.zb HR1.out HB.out)); (case side2 => exact HC1.out); (case side3 => exact zJ (Kd.za1 HO174.out).2.2); (case side4 => exact (Kd.za1 HO174.out).2.1); rintro e w10 ⟨v183, v186, rfl, ho0, ho1, hb⟩; refine ⟨_, rfl, ?_⟩; have n0_ := zA (Kd.za5 (zR HO174) hb); have n1_ := zA (Kd.zav (zV HO177) hb); have n2_ := zA (Kd.zav (zV HO180) hb); have n3_ := zA (Kd.zbj (Kd.zar (ok' := fun k_ => (w.heap.size ≤ k_) ∧ some k_ ≠ (.slice Ao8 t172.length co8 : Value).ownBlock ∧ k_ ≠ gb171) ho0 (fun k_ hk_ => ⟨(Nat.le_trans (za (zB HB)) hk_), (Kd.fresh' (Kd.R_lt (zR HO174)) k_ hk_), (Kd.freshB (g := gb171) (o := .cells #[.slice none 0 0, .slice none 0 0] 28 (0, 0)) (zK BK171) k_ hk_)⟩)) (za (zB HB))); have n4_ := zA (Kd.zbj (Kd.zar (ok' := fun k_ => (w.heap.size ≤ k_) ∧ some k_ ≠ (.slice Ao8 t172.length co8 : Value).ownBlock ∧ k_ ≠ gb171) ho1 (fun k_ hk_ => ⟨(Nat.le_trans (za (zB HB)) hk_), (Kd.fresh' (Kd.R_lt (zR HO174)) k_ hk_), (Kd.freshB (g := gb171) (o := .cells #[.slice none 0 0, .slice none 0 0] 28 (0, 0)) (zK BK171) k_ hk_)⟩)) (za (zB HB))); have n5_ := zA (zad (g := gb171) (o := .cells #[.slice none 0 0, .slice none 0 0] 28 (0, 0)) (zK BK171) hb); have n6_ := zA (zac (zB HB) hb); clear HO174 HO177 HO180 BK171 HB; have HO174 := n0_; have HO177 := n1_; have HO180 := n2_; have HO184 := n3_; have HO187 := n4_; have BK171 := n5_; have HB := n6_; clear n0_ n1_ n2_ n3_ n4_ n5_ n6_; (try clear hb); (try clear hb2); (try clear hk); (try clear hi); (try clear ho0); (try clear ho1); obtain ⟨Ao11, co11, eo11⟩ := Kd.zbd HO184.out; subst eo11; obtain ⟨Ao12, co12, eo12⟩ := Kd.zbd HO177.out; subst eo12; have hcz13_0 : w10.cell? ⟨gb171, 0, none⟩ = some (.slice none 0 0) := (zab BK171.out 0).trans rfl; have hcz13_1 : w10.cell? ⟨gb171, 1, none⟩ = some (.slice none 0 0) := (zab BK171.out 1).trans rfl; have hfz13_0 := zao BK171.out 0; have hfz13_1 := zao BK171.out 1))
 refine bodyPost_ret (results_cell_row rfl _ _ gb171 28 #[.slice Ao12 t175.length co12, .slice Ao11 t182.length co11] (0, 0) _ rfl (by (with_reducible repeat (first | refine zaj ?_ _ | refine zak ?_ | refine zai ?_ _)); refine zbz (cs := #[.slice Ao12 t175.length co12, .slice none 0 0]) ?_ 1 _ rfl; (with_reducible repeat (first | refine zaj ?_ _ | refine zak ?_ | refine zai ?_ _)); refine zbz (cs := #[.slice none 0 0, .slice none 0 0]) ?_ 0 _ rfl; (with_reducible repeat (first | refine zaj ?_ _ | refine zak ?_ | refine zai ?_ _)); exact BK171.out) Tryd.underlying28 rfl (by kernel_rfl)) rfl ?_
 exact ⟨_, _, zW, by (with_reducible repeat (first | apply Kd.zbh | apply Kd.zbg | apply Kd.zbs)); exact Kd.zar (Kd.V_far (p := ⟨gb171, 1, none⟩) (Kd.V_far (p := ⟨gb171, 0, none⟩) (Kd.zar HO177.out (fun k_ hk => (⟨hk, hk.2.2⟩ : _ ∧ k_ ≠ gb171))) (fun _ hk => hk.2) (.slice Ao12 t175.length co12)) (fun _ hk => hk.2) (.slice Ao11 t182.length co11)) (fun _ hk => hk.1.1), by (with_reducible repeat (first | apply Kd.zbh | apply Kd.zbg | apply Kd.zbs)); exact Kd.zar (Kd.V_far (p := ⟨gb171, 1, none⟩) (Kd.V_far (p := ⟨gb171, 0, none⟩) (Kd.zar HO184.out (fun k_ hk => (⟨hk, hk.2.2⟩ : _ ∧ k_ ≠ gb171))) (fun _ hk => hk.2) (.slice Ao12 t175.length co12)) (fun _ hk => hk.2) (.slice Ao11 t182.length co11)) (fun _ hk => hk.1.1), zB HB⟩
def zcm.f (k : Nat) (l0 : List Int) (l1 : List Int) : Option (List Int × List Int × Int) := if (l1.length : Int) = 0 then (some (([] : List Int), ([] : List Int), 16)) else ((zca.f k l0 l1).bind fun bt190 => (some (bt190.1, bt190.2, 0)))
theorem zcm.mono : ∀ a0 a1 k, LeO (zcm.f k a0 a1) (zcm.f (k + 1) a0 a1) := by
 intro a0 a1 k
 unfold zcm.f
 repeat' first
   | (with_reducible exact zca.mono _ _ _)
   | (with_reducible exact LeO.refl _)
   | (with_reducible exact LeO.none _)
   | (with_reducible refine LeO.ite ?_ ?_)
   | (with_reducible refine LeO.bind ?_ (fun _ => ?_))
   | exact zca.mono _ _ _
   | exact LeO.none _
   | refine LeO.ite ?_ ?_
   | refine LeO.bind ?_ (fun _ => ?_)
theorem zcm.calls (k : Nat) (A0 : Option Addr) (c0 : Nat) (l0 : List Int) (A1 : Option Addr) (c1 : Nat) (l1 : List Int) (r1 : List Int) (r2 : List Int) (r3 : Int) (w : World) (hr0 : Kd.C (Kd.int .u64) w A0 l0.length l0) (hc0 : l0.length ≤ c0) (hr1 : Kd.C (Kd.int .u64) w A1 l1.length l1) (hc1 : l1.length ≤ c1) (h : zcm.f k l0 l1 = some (r1, r2, r3)) :
  Calls Tryd.prog 24 #[.slice A0 l0.length c0, .slice A1 l1.length c1] w fun e w' => ∃ v0_ v1_ : Value, e = .returned (.tuple #[.agg #[v0_, v1_], .int .i64 r3]) ∧ Kd.V (Kd.int .u64) 57 w' w.heap.size (fun k_ => (w.heap.size ≤ k_)) v0_ r1 ∧ Kd.V (Kd.int .u64) 57 w' w.heap.size (fun k_ => (w.heap.size ≤ k_)) v1_ r2 ∧ Below w.heap.size w w' := by
 have hu28 := Tryd.underlying28
 have HR0 := zA hr0
 have HC0 := zA hc0
 clear hr0 hc0
 have HR1 := zA hr1
 have HC1 := zA hc1
 clear hr1 hc1
 have HB := zA (Below.refl w.heap.size w)
 have H : (if (l1.length : Int) = 0 then (some (([] : List Int), ([] : List Int), 16)) else ((zca.f k l0 l1).bind fun bt190 => (some (bt190.1, bt190.2, 0)))) = some (r1, r2, r3) := h
 clear h
 by_cases c3 : (l1.length : Int) = 0
 ·
  rw [if_pos c3] at H
  have c3b0 : ((l1.length : Int) == 0) = true := beq_iff_eq.mpr c3
  have c3b1 : ((l1.length : Int) != 0) = false := bne_eq_false_iff_eq.mpr c3
  clear c3
  simp only [Option.some.injEq, Prod.mk.injEq] at H
  obtain ⟨rfl, rfl, rfl⟩ := H
  go_enter Tryd.func24, Tryd.ntmps24
  go_wp2_with (first | ((with_reducible refine zbv (N := 4) rfl ?_); refine zb4 ?hg (N := 4) ?hd (cs := #[.slice none 0 0, .slice none 0 0]) (t := 28) ?hr ?_; (case hd => rfl); (case hg => rfl); (case hr => first | (go_simp; done) | (go_simp; rfl)); intro gb189 hg w4 hbox hb; have n0_ := zA (zac (zB HB) hb); have n1_ := zA (hbox); have n2_ := zA ((by rw [hg]; exact (za (zB HB)) : w.heap.size ≤ gb189)); have n3_ := zA ((by rw [hg]; exact (za (zB HB)) : w.heap.size ≤ gb189)); clear HB; have HB := n0_; have BK189 := n1_; have GW189 := n2_; have GE189 := n3_; clear n0_ n1_ n2_ n3_ hb hbox hg; have hcz5_0 : w4.cell? ⟨gb189, 0, none⟩ = some (.slice none 0 0) := (zab BK189.out 0).trans rfl; have hcz5_1 : w4.cell? ⟨gb189, 1, none⟩ = some (.slice none 0 0) := (zab BK189.out 1).trans rfl; have hfz5_0 := zao BK189.out 0; have hfz5_1 := zao BK189.out 1))
  refine bodyPost_ret (results_ct rfl _ _ gb189 28 #[.slice none 0 0, .slice none 0 0] (0, 0) _ rfl (by (with_reducible repeat (first | refine zaj ?_ _ | refine zak ?_ | refine zai ?_ _)); refine zbz (cs := #[.slice none 0 0, .slice none 0 0]) ?_ 1 _ rfl; (with_reducible repeat (first | refine zaj ?_ _ | refine zak ?_ | refine zai ?_ _)); refine zbz (cs := #[.slice none 0 0, .slice none 0 0]) ?_ 0 _ rfl; (with_reducible repeat (first | refine zaj ?_ _ | refine zak ?_ | refine zai ?_ _)); exact BK189.out) Tryd.underlying28 rfl (by kernel_rfl)) rfl ?_
  exact ⟨_, _, zW, Kd.V_nil _ _ _ _ _, Kd.V_nil _ _ _ _ _, zB HB⟩
 ·
  rw [if_neg c3] at H
  have c3b0 : ((l1.length : Int) == 0) = false := beq_eq_false_iff_ne.mpr c3
  have c3b1 : ((l1.length : Int) != 0) = true := bne_iff_ne.mpr c3
  have c3b2 : ¬ (l1 = []) := fun h_ => c3 (by rw [h_]; rfl)
  replace H := zO H
  obtain ⟨⟨t190, t193⟩, A60, H⟩ := H
  try dsimp only at H
  have A6 := zA A60
  clear A60
  simp only [Option.some.injEq, Prod.mk.injEq] at H
  obtain ⟨rfl, rfl, rfl⟩ := H
  go_enter Tryd.func24, Tryd.ntmps24
  go_wp2_with (first | ((with_reducible refine zbv (N := 4) rfl ?_); refine zb4 ?hg (N := 4) ?hd (cs := #[.slice none 0 0, .slice none 0 0]) (t := 28) ?hr ?_; (case hd => rfl); (case hg => rfl); (case hr => first | (go_simp; done) | (go_simp; rfl)); intro gb189 hg w7 hbox hb; have n0_ := zA (zac (zB HB) hb); have n1_ := zA (hbox); have n2_ := zA ((by rw [hg]; exact (za (zB HB)) : w.heap.size ≤ gb189)); have n3_ := zA ((by rw [hg]; exact (za (zB HB)) : w.heap.size ≤ gb189)); clear HB; have HB := n0_; have BK189 := n1_; have GW189 := n2_; have GE189 := n3_; clear n0_ n1_ n2_ n3_ hb hbox hg) | ((with_reducible refine zae (f := 58) rfl ?_); refine za4 (some 12) rfl rfl Tryd.func58 (by kernel_rfl) rfl #[.slice A0 l0.length c0, .slice A1 l1.length c1] rfl (zE) ?_; (with_reducible refine (zca.calls k _ _ l0 _ _ l1 t190 t193 _ ?side1 ?side2 ?side3 ?side4 A6.out).mono ?_); (case side1 => exact zJ (Kd.zb HR0.out HB.out)); (case side2 => exact HC0.out); (case side3 => exact zJ (Kd.zb HR1.out HB.out)); (case side4 => exact HC1.out); rintro e w8 ⟨v191, v194, rfl, ho0, ho1, hb⟩; refine ⟨_, rfl, ?_⟩; have n0_ := zA (Kd.zbj (Kd.zar (ok' := fun k_ => (w.heap.size ≤ k_) ∧ k_ ≠ gb189) ho0 (fun k_ hk_ => ⟨(Nat.le_trans (za (zB HB)) hk_), (Kd.freshB (g := gb189) (o := .cells #[.slice none 0 0, .slice none 0 0] 28 (0, 0)) (zK BK189) k_ hk_)⟩)) (za (zB HB))); have n1_ := zA (Kd.zbj (Kd.zar (ok' := fun k_ => (w.heap.size ≤ k_) ∧ k_ ≠ gb189) ho1 (fun k_ hk_ => ⟨(Nat.le_trans (za (zB HB)) hk_), (Kd.freshB (g := gb189) (o := .cells #[.slice none 0 0, .slice none 0 0] 28 (0, 0)) (zK BK189) k_ hk_)⟩)) (za (zB HB))); have n2_ := zA (zad (g := gb189) (o := .cells #[.slice none 0 0, .slice none 0 0] 28 (0, 0)) (zK BK189) hb); have n3_ := zA (zac (zB HB) hb); clear BK189 HB; have HO192 := n0_; have HO195 := n1_; have BK189 := n2_; have HB := n3_; clear n0_ n1_ n2_ n3_; (try clear hb); (try clear hb2); (try clear hk); (try clear hi); (try clear ho0); (try clear ho1); obtain ⟨Ao9, co9, eo9⟩ := Kd.zbd HO192.out; subst eo9; have hcz10_0 : w8.cell? ⟨gb189, 0, none⟩ = some (.slice none 0 0) := (zab BK189.out 0).trans rfl; have hcz10_1 : w8.cell? ⟨gb189, 1, none⟩ = some (.slice none 0 0) := (zab BK189.out 1).trans rfl; have hfz10_0 := zao BK189.out 0; have hfz10_1 := zao BK189.out 1; obtain ⟨Ao11, co11, eo11⟩ := Kd.zbd HO195.out; subst eo11))
  refine bodyPost_ret (results_ct rfl _ _ gb189 28 #[.slice Ao9 t190.length co9, .slice Ao11 t193.length co11] (0, 0) _ rfl (by (with_reducible repeat (first | refine zaj ?_ _ | refine zak ?_ | refine zai ?_ _)); refine zbz (cs := #[.slice Ao9 t190.length co9, .slice none 0 0]) ?_ 1 _ rfl; (with_reducible repeat (first | refine zaj ?_ _ | refine zak ?_ | refine zai ?_ _)); refine zbz (cs := #[.slice none 0 0, .slice none 0 0]) ?_ 0 _ rfl; (with_reducible repeat (first | refine zaj ?_ _ | refine zak ?_ | refine zai ?_ _)); exact BK189.out) Tryd.underlying28 rfl (by kernel_rfl)) rfl ?_
  exact ⟨_, _, zW, by (with_reducible repeat (first | apply Kd.zbh | apply Kd.zbg | apply Kd.zbs)); exact Kd.zar (Kd.V_far (p := ⟨gb189, 1, none⟩) (Kd.V_far (p := ⟨gb189, 0, none⟩) (Kd.zar HO192.out (fun k_ hk => (⟨hk, hk.2⟩ : _ ∧ k_ ≠ gb189))) (fun _ hk => hk.2) (.slice Ao9 t190.length co9)) (fun _ hk => hk.2) (.slice Ao11 t193.length co11)) (fun _ hk => hk.1.1), by (with_reducible repeat (first | apply Kd.zbh | apply Kd.zbg | apply Kd.zbs)); exact Kd.zar (Kd.V_far (p := ⟨gb189, 1, none⟩) (Kd.V_far (p := ⟨gb189, 0, none⟩) (Kd.zar HO195.out (fun k_ hk => (⟨hk, hk.2⟩ : _ ∧ k_ ≠ gb189))) (fun _ hk => hk.2) (.slice Ao9 t190.length co9)) (fun _ hk => hk.2) (.slice Ao11 t193.length co11)) (fun _ hk => hk.1.1), zB HB⟩
def zbe.f (k : Nat)  : Option (Bool) := (zco.f k 6).bind fun t241 => ((zco.f k 4).bind fun t244 => ((zcm.f k t241 t244).bind fun bt247 => (if bt247.2.2 = 0 then ((za2.f k bt247.1 bt247.2.1).bind fun t255 => (if t255.toList = ([51, 47, 50] : List UInt8) then ((zb0.f k bt247.1 bt247.2.1).bind fun t256 => ((zbl.f k t256).bind fun t259 => (some (t259.toList == ([49] : List UInt8))))) else (some false))) else (some false))))
theorem zbe.mono : ∀ k, LeO (zbe.f k ) (zbe.f (k + 1) ) := by
 intro  k
 unfold zbe.f
 repeat' first
   | (with_reducible exact zco.mono _ _)
   | (with_reducible exact zbl.mono _ _)
   | (with_reducible exact zcm.mono _ _ _)
   | (with_reducible exact zb0.mono _ _ _)
   | (with_reducible exact za2.mono _ _ _)
   | (with_reducible exact LeO.refl _)
   | (with_reducible exact LeO.none _)
   | (with_reducible refine LeO.ite ?_ ?_)
   | (with_reducible refine LeO.bind ?_ (fun _ => ?_))
   | exact zco.mono _ _
   | exact zbl.mono _ _
   | exact zcm.mono _ _ _
   | exact zb0.mono _ _ _
   | exact za2.mono _ _ _
   | exact LeO.none _
   | refine LeO.ite ?_ ?_
   | refine LeO.bind ?_ (fun _ => ?_)
theorem zbe.calls (k : Nat)  (r : Bool) (w : World) (hG : Glob w) (h : zbe.f k  = some r) :
  Calls Tryd.prog 14 #[] w fun e w' => e = .returned (.bool r) ∧ Below w.heap.size w w' := by
 have hu28 := Tryd.underlying28
 have HG := zA hG
 clear hG
 have HB := zA (Below.refl w.heap.size w)
 have H : ((zco.f k 6).bind fun t241 => ((zco.f k 4).bind fun t244 => ((zcm.f k t241 t244).bind fun bt247 => (if bt247.2.2 = 0 then ((za2.f k bt247.1 bt247.2.1).bind fun t255 => (if t255.toList = ([51, 47, 50] : List UInt8) then ((zb0.f k bt247.1 bt247.2.1).bind fun t256 => ((zbl.f k t256).bind fun t259 => (some (t259.toList == ([49] : List UInt8))))) else (some false))) else (some false))))) = some r := h
 clear h
 replace H := zO H
 obtain ⟨t241, A10, H⟩ := H
 try dsimp only at H
 have A1 := zA A10
 clear A10
 replace H := zO H
 obtain ⟨t244, A20, H⟩ := H
 try dsimp only at H
 have A2 := zA A20
 clear A20
 replace H := zO H
 obtain ⟨⟨t247, t250, t253⟩, A30, H⟩ := H
 try dsimp only at H
 have A3 := zA A30
 clear A30
 by_cases c4 : t253 = 0
 ·
  rw [if_pos c4] at H
  have c4b0 : (t253 == 0) = true := beq_iff_eq.mpr c4
  have c4b1 : (t253 != 0) = false := bne_eq_false_iff_eq.mpr c4
  clear c4
  replace H := zO H
  obtain ⟨t255, A50, H⟩ := H
  try dsimp only at H
  have A5 := zA A50
  clear A50
  by_cases c6 : t255.toList = ([51, 47, 50] : List UInt8)
  ·
   rw [if_pos c6] at H
   have c6b0 : (t255.toList == ([51, 47, 50] : List UInt8)) = true := beq_iff_eq.mpr c6
   have c6b1 : (t255.toList != ([51, 47, 50] : List UInt8)) = false := bne_eq_false_iff_eq.mpr c6
   clear c6
   replace H := zO H
   obtain ⟨t256, A70, H⟩ := H
   try dsimp only at H
   have A7 := zA A70
   clear A70
   replace H := zO H
   obtain ⟨t259, A80, H⟩ := H
   try dsimp only at H
   have A8 := zA A80
   clear A80
   obtain rfl := Option.some.inj H
   go_enter Tryd.func14, Tryd.ntmps14
   go_wp2_with (first | ((with_reducible refine zae (f := 36) rfl ?_); refine za4 (some 4) rfl rfl Tryd.func36 (by kernel_rfl) rfl #[.int .u64 6] rfl (zE) ?_; (with_reducible refine (zco.calls k 6 t241 _ A1.out).mono ?_); rintro e w9 ⟨v242, rfl, ho0, hb⟩; refine ⟨_, rfl, ?_⟩; have n0_ := zA (Kd.zbj (Kd.zar (ok' := fun k_ => True) ho0 (fun k_ hk_ => trivial)) (za (zB HB))); have n1_ := zA (zac (zB HB) hb); clear HB; have HO243 := n0_; have HB := n1_; clear n0_ n1_; (try clear hb); (try clear hb2); (try clear hk); (try clear hi); (try clear ho0)) | ((with_reducible refine zae (f := 36) rfl ?_); refine za4 (some 5) rfl rfl Tryd.func36 (by kernel_rfl) rfl #[.int .u64 4] rfl (zE) ?_; (with_reducible refine (zco.calls k 4 t244 _ A2.out).mono ?_); rintro e w10 ⟨v245, rfl, ho0, hb⟩; refine ⟨_, rfl, ?_⟩; have n0_ := zA (Kd.zav (zV HO243) hb); have n1_ := zA (Kd.zbj (Kd.zar (ok' := fun k_ => True) ho0 (fun k_ hk_ => trivial)) (za (zB HB))); have n2_ := zA (zac (zB HB) hb); clear HO243 HB; have HO243 := n0_; have HO246 := n1_; have HB := n2_; clear n0_ n1_ n2_; (try clear hb); (try clear hb2); (try clear hk); (try clear hi); (try clear ho0); obtain ⟨Ao11, co11, eo11⟩ := Kd.zbd HO243.out; subst eo11; obtain ⟨Ao12, co12, eo12⟩ := Kd.zbd HO246.out; subst eo12) | ((with_reducible refine zae (f := 24) rfl ?_); refine za4 (some 6) rfl rfl Tryd.func24 (by kernel_rfl) rfl #[.slice Ao11 t241.length co11, .slice Ao12 t244.length co12] rfl (zE) ?_; (with_reducible refine (zcm.calls k _ _ t241 _ _ t244 t247 t250 t253 _ ?side1 ?side2 ?side3 ?side4 A3.out).mono ?_); (case side1 => exact zJ (Kd.zaw HO243.out).2.2); (case side2 => exact (Kd.zaw HO243.out).2.1); (case side3 => exact zJ (Kd.zaw HO246.out).2.2); (case side4 => exact (Kd.zaw HO246.out).2.1); rintro e w13 ⟨v248, v251, rfl, ho0, ho1, hb⟩; refine ⟨_, rfl, ?_⟩; have n0_ := zA (Kd.zav (zV HO243) hb); have n1_ := zA (Kd.zav (zV HO246) hb); have n2_ := zA (Kd.zbj (Kd.zar (ok' := fun k_ => True) ho0 (fun k_ hk_ => trivial)) (za (zB HB))); have n3_ := zA (Kd.zbj (Kd.zar (ok' := fun k_ => True) ho1 (fun k_ hk_ => trivial)) (za (zB HB))); have n4_ := zA (zac (zB HB) hb); clear HO243 HO246 HB; have HO243 := n0_; have HO246 := n1_; have HO249 := n2_; have HO252 := n3_; have HB := n4_; clear n0_ n1_ n2_ n3_ n4_; (try clear hb); (try clear hb2); (try clear hk); (try clear hi); (try clear ho0); (try clear ho1)) | ((with_reducible refine zbv (N := 1) rfl ?_); refine zb4 ?hg (N := 1) ?hd (cs := #[.slice none 0 0, .slice none 0 0]) (t := 28) ?hr ?_; (case hd => rfl); (case hg => rfl); (case hr => first | (go_simp; done) | (go_simp; rfl)); intro gb254 hg w14 hbox hb; have n0_ := zA (Kd.zav (Kd.zb7 (zV HO243) gb254 (Nat.le_of_eq hg.symm)) hb); have n1_ := zA (Kd.zav (Kd.zb7 (zV HO246) gb254 (Nat.le_of_eq hg.symm)) hb); have n2_ := zA (Kd.zav (Kd.zb7 (zV HO249) gb254 (Nat.le_of_eq hg.symm)) hb); have n3_ := zA (Kd.zav (Kd.zb7 (zV HO252) gb254 (Nat.le_of_eq hg.symm)) hb); have n4_ := zA (zac (zB HB) hb); have n5_ := zA (hbox); have n6_ := zA ((by rw [hg]; exact (za (zB HB)) : w.heap.size ≤ gb254)); have n7_ := zA ((by rw [hg]; exact (za (zB HB)) : w.heap.size ≤ gb254)); clear HO243 HO246 HO249 HO252 HB; have HO243 := n0_; have HO246 := n1_; have HO249 := n2_; have HO252 := n3_; have HB := n4_; have BK254 := n5_; have GW254 := n6_; have GE254 := n7_; clear n0_ n1_ n2_ n3_ n4_ n5_ n6_ n7_ hb hbox hg; obtain ⟨Ao15, co15, eo15⟩ := Kd.zbd HO249.out; subst eo15; have hcz16_0 : w14.cell? ⟨gb254, 0, none⟩ = some (.slice none 0 0) := (zab BK254.out 0).trans rfl; have hcz16_1 : w14.cell? ⟨gb254, 1, none⟩ = some (.slice none 0 0) := (zab BK254.out 1).trans rfl; have hfz16_0 := zao BK254.out 0; have hfz16_1 := zao BK254.out 1; obtain ⟨Ao17, co17, eo17⟩ := Kd.zbd HO252.out; subst eo17) | (go_at_call 41; (with_reducible refine (za2.calls k _ _ t247 _ _ t250 t255 _ ?side1 ?side2 ?side3 ?side4 ?side5 A5.out).mono ?_); (case side1 => refine (Kd.zaw (e := 57) (base := w.heap.size) (ok := fun k_ => (True ∧ k_ ≠ gb254)) (n := t247.length) (c := co15) ?_).2.2; exact (by (with_reducible repeat (first | apply Kd.zbh | apply Kd.zbg | apply Kd.zbs)); exact (Kd.zar (Kd.V_far (p := ⟨gb254, 1, none⟩) (Kd.V_far (p := ⟨gb254, 0, none⟩) (Kd.zar HO249.out (fun k_ hk => (⟨hk, hk.2⟩ : _ ∧ k_ ≠ gb254))) (fun _ hk => hk.2) (.slice Ao15 t247.length co15)) (fun _ hk => hk.2) (.slice Ao17 t250.length co17)) (fun _ h_ => h_.1)))); (case side2 => exact (Kd.zaw HO249.out).2.1); (case side3 => refine (Kd.zaw (e := 57) (base := w.heap.size) (ok := fun k_ => (True ∧ k_ ≠ gb254)) (n := t250.length) (c := co17) ?_).2.2; exact (by (with_reducible repeat (first | apply Kd.zbh | apply Kd.zbg | apply Kd.zbs)); exact (Kd.zar (Kd.V_far (p := ⟨gb254, 1, none⟩) (Kd.V_far (p := ⟨gb254, 0, none⟩) (Kd.zar HO252.out (fun k_ hk => (⟨hk, hk.2⟩ : _ ∧ k_ ≠ gb254))) (fun _ hk => hk.2) (.slice Ao15 t247.length co15)) (fun _ hk => hk.2) (.slice Ao17 t250.length co17)) (fun _ h_ => h_.1)))); (case side4 => exact (Kd.zaw HO252.out).2.1); (case side5 => exact Glob.below HG.out (zB HB)); rintro e w18 ⟨rfl, hb⟩; have n0_ := zA (Kd.zav (by (with_reducible repeat (first | apply Kd.zbh | apply Kd.zbg | apply Kd.zbs)); exact (Kd.zar (Kd.V_far (p := ⟨gb254, 1, none⟩) (Kd.V_far (p := ⟨gb254, 0, none⟩) (Kd.zar HO243.out (fun k_ hk => (⟨hk, hk.2⟩ : _ ∧ k_ ≠ gb254))) (fun _ hk => hk.2) (.slice Ao15 t247.length co15)) (fun _ hk => hk.2) (.slice Ao17 t250.length co17)) (fun _ h_ => h_.1))) hb); have n1_ := zA (Kd.zav (by (with_reducible repeat (first | apply Kd.zbh | apply Kd.zbg | apply Kd.zbs)); exact (Kd.zar (Kd.V_far (p := ⟨gb254, 1, none⟩) (Kd.V_far (p := ⟨gb254, 0, none⟩) (Kd.zar HO246.out (fun k_ hk => (⟨hk, hk.2⟩ : _ ∧ k_ ≠ gb254))) (fun _ hk => hk.2) (.slice Ao15 t247.length co15)) (fun _ hk => hk.2) (.slice Ao17 t250.length co17)) (fun _ h_ => h_.1))) hb); have n2_ := zA (Kd.zav (by (with_reducible repeat (first | apply Kd.zbh | apply Kd.zbg | apply Kd.zbs)); exact (Kd.zar (Kd.V_far (p := ⟨gb254, 1, none⟩) (Kd.V_far (p := ⟨gb254, 0, none⟩) (Kd.zar HO249.out (fun k_ hk => (⟨hk, hk.2⟩ : _ ∧ k_ ≠ gb254))) (fun _ hk => hk.2) (.slice Ao15 t247.length co15)) (fun _ hk => hk.2) (.slice Ao17 t250.length co17)) (fun _ h_ => h_.1))) hb); have n3_ := zA (Kd.zav (by (with_reducible repeat (first | apply Kd.zbh | apply Kd.zbg | apply Kd.zbs)); exact (Kd.zar (Kd.V_far (p := ⟨gb254, 1, none⟩) (Kd.V_far (p := ⟨gb254, 0, none⟩) (Kd.zar HO252.out (fun k_ hk => (⟨hk, hk.2⟩ : _ ∧ k_ ≠ gb254))) (fun _ hk => hk.2) (.slice Ao15 t247.length co15)) (fun _ hk => hk.2) (.slice Ao17 t250.length co17)) (fun _ h_ => h_.1))) hb); have n4_ := zA (zad (g := gb254) (o := .cells #[.slice Ao15 t247.length co15, .slice Ao17 t250.length co17] 28 (0, 0)) (by (with_reducible repeat (first | refine zaj ?_ _ | refine zak ?_ | refine zai ?_ _)); refine zbz (cs := #[.slice Ao15 t247.length co15, .slice none 0 0]) ?_ 1 _ rfl; (with_reducible repeat (first | refine zaj ?_ _ | refine zak ?_ | refine zai ?_ _)); refine zbz (cs := #[.slice none 0 0, .slice none 0 0]) ?_ 0 _ rfl; (with_reducible repeat (first | refine zaj ?_ _ | refine zak ?_ | refine zai ?_ _)); exact BK254.out) hb); have n5_ := zA (zac (zB HB) hb); clear HO243 HO246 HO249 HO252 BK254 HB; have HO243 := n0_; have HO246 := n1_; have HO249 := n2_; have HO252 := n3_; have BK254 := n4_; have HB := n5_; clear n0_ n1_ n2_ n3_ n4_ n5_; (try clear hb); (try clear hb2); (try clear hk); (try clear hi); have hcz19_0 : w18.cell? ⟨gb254, 0, none⟩ = some (.slice Ao15 t247.length co15) := (zab BK254.out 0).trans rfl; have hcz19_1 : w18.cell? ⟨gb254, 1, none⟩ = some (.slice Ao17 t250.length co17) := (zab BK254.out 1).trans rfl; have hfz19_0 := zao BK254.out 0; have hfz19_1 := zao BK254.out 1) | (go_at_call 27; (with_reducible refine (zb0.calls k _ _ t247 _ _ t250 t256 _ ?side1 ?side2 ?side3 ?side4 A7.out).mono ?_); (case side1 => exact zJ (Kd.zaw HO249.out).2.2); (case side2 => exact (Kd.zaw HO249.out).2.1); (case side3 => exact zJ (Kd.zaw HO252.out).2.2); (case side4 => exact (Kd.zaw HO252.out).2.1); rintro e w20 ⟨v257, rfl, ho0, hb⟩; have n0_ := zA (Kd.zav (zV HO243) hb); have n1_ := zA (Kd.zav (zV HO246) hb); have n2_ := zA (Kd.zav (zV HO249) hb); have n3_ := zA (Kd.zav (zV HO252) hb); have n4_ := zA (Kd.zbj (Kd.zar (ok' := fun k_ => k_ ≠ gb254) ho0 (fun k_ hk_ => (Kd.freshB (g := gb254) (o := .cells #[.slice Ao15 t247.length co15, .slice Ao17 t250.length co17] 28 (0, 0)) (zK BK254) k_ hk_))) (za (zB HB))); have n5_ := zA (zad (g := gb254) (o := .cells #[.slice Ao15 t247.length co15, .slice Ao17 t250.length co17] 28 (0, 0)) (zK BK254) hb); have n6_ := zA (zac (zB HB) hb); clear HO243 HO246 HO249 HO252 BK254 HB; have HO243 := n0_; have HO246 := n1_; have HO249 := n2_; have HO252 := n3_; have HO258 := n4_; have BK254 := n5_; have HB := n6_; clear n0_ n1_ n2_ n3_ n4_ n5_ n6_; (try clear hb); (try clear hb2); (try clear hk); (try clear hi); (try clear ho0); obtain ⟨Ao21, co21, eo21⟩ := Kd.zbd HO258.out; subst eo21) | (go_at_call 50; (with_reducible refine (zbl.calls k (fun k_ => k_ ≠ gb254) _ _ t256 t259 _ ?side1 ?side2 A8.out).mono ?_); (case side1 => exact HO258.out); (case side2 => exact Glob.below HG.out (zB HB)); rintro e w22 ⟨rfl, hb⟩; have n0_ := zA (Kd.zav (zV HO243) hb); have n1_ := zA (Kd.zav (zV HO246) hb); have n2_ := zA (Kd.zav (zV HO249) hb); have n3_ := zA (Kd.zav (zV HO252) hb); have n4_ := zA (Kd.zav (zV HO258) hb); have n5_ := zA (zad (g := gb254) (o := .cells #[.slice Ao15 t247.length co15, .slice Ao17 t250.length co17] 28 (0, 0)) (zK BK254) hb); have n6_ := zA (zac (zB HB) hb); clear HO243 HO246 HO249 HO252 HO258 BK254 HB; have HO243 := n0_; have HO246 := n1_; have HO249 := n2_; have HO252 := n3_; have HO258 := n4_; have BK254 := n5_; have HB := n6_; clear n0_ n1_ n2_ n3_ n4_ n5_ n6_; (try clear hb); (try clear hb2); (try clear hk); (try clear hi)))
   go_ret
   exact ⟨zW, zB HB⟩
  ·
   rw [if_neg c6] at H
   have c6b0 : (t255.toList == ([51, 47, 50] : List UInt8)) = false := beq_eq_false_iff_ne.mpr c6
   have c6b1 : (t255.toList != ([51, 47, 50] : List UInt8)) = true := bne_iff_ne.mpr c6
   obtain rfl := Option.some.inj H
   go_enter Tryd.func14, Tryd.ntmps14
   go_wp2_with (first | ((with_reducible refine zae (f := 36) rfl ?_); refine za4 (some 4) rfl rfl Tryd.func36 (by kernel_rfl) rfl #[.int .u64 6] rfl (zE) ?_; (with_reducible refine (zco.calls k 6 t241 _ A1.out).mono ?_); rintro e w23 ⟨v242, rfl, ho0, hb⟩; refine ⟨_, rfl, ?_⟩; have n0_ := zA (Kd.zbj (Kd.zar (ok' := fun k_ => True) ho0 (fun k_ hk_ => trivial)) (za (zB HB))); have n1_ := zA (zac (zB HB) hb); clear HB; have HO243 := n0_; have HB := n1_; clear n0_ n1_; (try clear hb); (try clear hb2); (try clear hk); (try clear hi); (try clear ho0)) | ((with_reducible refine zae (f := 36) rfl ?_); refine za4 (some 5) rfl rfl Tryd.func36 (by kernel_rfl) rfl #[.int .u64 4] rfl (zE) ?_; (with_reducible refine (zco.calls k 4 t244 _ A2.out).mono ?_); rintro e w24 ⟨v245, rfl, ho0, hb⟩; refine ⟨_, rfl, ?_⟩; have n0_ := zA (Kd.zav (zV HO243) hb); have n1_ := zA (Kd.zbj (Kd.zar (ok' := fun k_ => True) ho0 (fun k_ hk_ => trivial)) (za (zB HB))); have n2_ := zA (zac (zB HB) hb); clear HO243 HB; have HO243 := n0_; have HO246 := n1_; have HB := n2_; clear n0_ n1_ n2_; (try clear hb); (try clear hb2); (try clear hk); (try clear hi); (try clear ho0); obtain ⟨Ao25, co25, eo25⟩ := Kd.zbd HO243.out; subst eo25; obtain ⟨Ao26, co26, eo26⟩ := Kd.zbd HO246.out; subst eo26) | ((with_reducible refine zae (f := 24) rfl ?_); refine za4 (some 6) rfl rfl Tryd.func24 (by kernel_rfl) rfl #[.slice Ao25 t241.length co25, .slice Ao26 t244.length co26] rfl (zE) ?_; (with_reducible refine (zcm.calls k _ _ t241 _ _ t244 t247 t250 t253 _ ?side1 ?side2 ?side3 ?side4 A3.out).mono ?_); (case side1 => exact zJ (Kd.zaw HO243.out).2.2); (case side2 => exact (Kd.zaw HO243.out).2.1); (case side3 => exact zJ (Kd.zaw HO246.out).2.2); (case side4 => exact (Kd.zaw HO246.out).2.1); rintro e w27 ⟨v248, v251, rfl, ho0, ho1, hb⟩; refine ⟨_, rfl, ?_⟩; have n0_ := zA (Kd.zav (zV HO243) hb); have n1_ := zA (Kd.zav (zV HO246) hb); have n2_ := zA (Kd.zbj (Kd.zar (ok' := fun k_ => True) ho0 (fun k_ hk_ => trivial)) (za (zB HB))); have n3_ := zA (Kd.zbj (Kd.zar (ok' := fun k_ => True) ho1 (fun k_ hk_ => trivial)) (za (zB HB))); have n4_ := zA (zac (zB HB) hb); clear HO243 HO246 HB; have HO243 := n0_; have HO246 := n1_; have HO249 := n2_; have HO252 := n3_; have HB := n4_; clear n0_ n1_ n2_ n3_ n4_; (try clear hb); (try clear hb2); (try clear hk); (try clear hi); (try clear ho0); (try clear ho1)) | ((with_reducible refine zbv (N := 1) rfl ?_); refine zb4 ?hg (N := 1) ?hd (cs := #[.slice none 0 0, .slice none 0 0]) (t := 28) ?hr ?_; (case hd => rfl); (case hg => rfl); (case hr => first | (go_simp; done) | (go_simp; rfl)); intro gb254 hg w28 hbox hb; have n0_ := zA (Kd.zav (Kd.zb7 (zV HO243) gb254 (Nat.le_of_eq hg.symm)) hb); have n1_ := zA (Kd.zav (Kd.zb7 (zV HO246) gb254 (Nat.le_of_eq hg.symm)) hb); have n2_ := zA (Kd.zav (Kd.zb7 (zV HO249) gb254 (Nat.le_of_eq hg.symm)) hb); have n3_ := zA (Kd.zav (Kd.zb7 (zV HO252) gb254 (Nat.le_of_eq hg.symm)) hb); have n4_ := zA (zac (zB HB) hb); have n5_ := zA (hbox); have n6_ := zA ((by rw [hg]; exact (za (zB HB)) : w.heap.size ≤ gb254)); have n7_ := zA ((by rw [hg]; exact (za (zB HB)) : w.heap.size ≤ gb254)); clear HO243 HO246 HO249 HO252 HB; have HO243 := n0_; have HO246 := n1_; have HO249 := n2_; have HO252 := n3_; have HB := n4_; have BK254 := n5_; have GW254 := n6_; have GE254 := n7_; clear n0_ n1_ n2_ n3_ n4_ n5_ n6_ n7_ hb hbox hg; obtain ⟨Ao29, co29, eo29⟩ := Kd.zbd HO249.out; subst eo29; have hcz30_0 : w28.cell? ⟨gb254, 0, none⟩ = some (.slice none 0 0) := (zab BK254.out 0).trans rfl; have hcz30_1 : w28.cell? ⟨gb254, 1, none⟩ = some (.slice none 0 0) := (zab BK254.out 1).trans rfl; have hfz30_0 := zao BK254.out 0; have hfz30_1 := zao BK254.out 1; obtain ⟨Ao31, co31, eo31⟩ := Kd.zbd HO252.out; subst eo31) | (go_at_call 41; (with_reducible refine (za2.calls k _ _ t247 _ _ t250 t255 _ ?side1 ?side2 ?side3 ?side4 ?side5 A5.out).mono ?_); (case side1 => refine (Kd.zaw (e := 57) (base := w.heap.size) (ok := fun k_ => (True ∧ k_ ≠ gb254)) (n := t247.length) (c := co29) ?_).2.2; exact (by (with_reducible repeat (first | apply Kd.zbh | apply Kd.zbg | apply Kd.zbs)); exact (Kd.zar (Kd.V_far (p := ⟨gb254, 1, none⟩) (Kd.V_far (p := ⟨gb254, 0, none⟩) (Kd.zar HO249.out (fun k_ hk => (⟨hk, hk.2⟩ : _ ∧ k_ ≠ gb254))) (fun _ hk => hk.2) (.slice Ao29 t247.length co29)) (fun _ hk => hk.2) (.slice Ao31 t250.length co31)) (fun _ h_ => h_.1)))); (case side2 => exact (Kd.zaw HO249.out).2.1); (case side3 => refine (Kd.zaw (e := 57) (base := w.heap.size) (ok := fun k_ => (True ∧ k_ ≠ gb254)) (n := t250.length) (c := co31) ?_).2.2; exact (by (with_reducible repeat (first | apply Kd.zbh | apply Kd.zbg | apply Kd.zbs)); exact (Kd.zar (Kd.V_far (p := ⟨gb254, 1, none⟩) (Kd.V_far (p := ⟨gb254, 0, none⟩) (Kd.zar HO252.out (fun k_ hk => (⟨hk, hk.2⟩ : _ ∧ k_ ≠ gb254))) (fun _ hk => hk.2) (.slice Ao29 t247.length co29)) (fun _ hk => hk.2) (.slice Ao31 t250.length co31)) (fun _ h_ => h_.1)))); (case side4 => exact (Kd.zaw HO252.out).2.1); (case side5 => exact Glob.below HG.out (zB HB)); rintro e w32 ⟨rfl, hb⟩; have n0_ := zA (Kd.zav (by (with_reducible repeat (first | apply Kd.zbh | apply Kd.zbg | apply Kd.zbs)); exact (Kd.zar (Kd.V_far (p := ⟨gb254, 1, none⟩) (Kd.V_far (p := ⟨gb254, 0, none⟩) (Kd.zar HO243.out (fun k_ hk => (⟨hk, hk.2⟩ : _ ∧ k_ ≠ gb254))) (fun _ hk => hk.2) (.slice Ao29 t247.length co29)) (fun _ hk => hk.2) (.slice Ao31 t250.length co31)) (fun _ h_ => h_.1))) hb); have n1_ := zA (Kd.zav (by (with_reducible repeat (first | apply Kd.zbh | apply Kd.zbg | apply Kd.zbs)); exact (Kd.zar (Kd.V_far (p := ⟨gb254, 1, none⟩) (Kd.V_far (p := ⟨gb254, 0, none⟩) (Kd.zar HO246.out (fun k_ hk => (⟨hk, hk.2⟩ : _ ∧ k_ ≠ gb254))) (fun _ hk => hk.2) (.slice Ao29 t247.length co29)) (fun _ hk => hk.2) (.slice Ao31 t250.length co31)) (fun _ h_ => h_.1))) hb); have n2_ := zA (Kd.zav (by (with_reducible repeat (first | apply Kd.zbh | apply Kd.zbg | apply Kd.zbs)); exact (Kd.zar (Kd.V_far (p := ⟨gb254, 1, none⟩) (Kd.V_far (p := ⟨gb254, 0, none⟩) (Kd.zar HO249.out (fun k_ hk => (⟨hk, hk.2⟩ : _ ∧ k_ ≠ gb254))) (fun _ hk => hk.2) (.slice Ao29 t247.length co29)) (fun _ hk => hk.2) (.slice Ao31 t250.length co31)) (fun _ h_ => h_.1))) hb); have n3_ := zA (Kd.zav (by (with_reducible repeat (first | apply Kd.zbh | apply Kd.zbg | apply Kd.zbs)); exact (Kd.zar (Kd.V_far (p := ⟨gb254, 1, none⟩) (Kd.V_far (p := ⟨gb254, 0, none⟩) (Kd.zar HO252.out (fun k_ hk => (⟨hk, hk.2⟩ : _ ∧ k_ ≠ gb254))) (fun _ hk => hk.2) (.slice Ao29 t247.length co29)) (fun _ hk => hk.2) (.slice Ao31 t250.length co31)) (fun _ h_ => h_.1))) hb); have n4_ := zA (zad (g := gb254) (o := .cells #[.slice Ao29 t247.length co29, .slice Ao31 t250.length co31] 28 (0, 0)) (by (with_reducible repeat (first | refine zaj ?_ _ | refine zak ?_ | refine zai ?_ _)); refine zbz (cs := #[.slice Ao29 t247.length co29, .slice none 0 0]) ?_ 1 _ rfl; (with_reducible repeat (first | refine zaj ?_ _ | refine zak ?_ | refine zai ?_ _)); refine zbz (cs := #[.slice none 0 0, .slice none 0 0]) ?_ 0 _ rfl; (with_reducible repeat (first | refine zaj ?_ _ | refine zak ?_ | refine zai ?_ _)); exact BK254.out) hb); have n5_ := zA (zac (zB HB) hb); clear HO243 HO246 HO249 HO252 BK254 HB; have HO243 := n0_; have HO246 := n1_; have HO249 := n2_; have HO252 := n3_; have BK254 := n4_; have HB := n5_; clear n0_ n1_ n2_ n3_ n4_ n5_; (try clear hb); (try clear hb2); (try clear hk); (try clear hi)))
   go_ret
   exact ⟨zW, zB HB⟩
 ·
  rw [if_neg c4] at H
  have c4b0 : (t253 == 0) = false := beq_eq_false_iff_ne.mpr c4
  have c4b1 : (t253 != 0) = true := bne_iff_ne.mpr c4
  obtain rfl := Option.some.inj H
  go_enter Tryd.func14, Tryd.ntmps14
  go_wp2_with (first | ((with_reducible refine zae (f := 36) rfl ?_); refine za4 (some 4) rfl rfl Tryd.func36 (by kernel_rfl) rfl #[.int .u64 6] rfl (zE) ?_; (with_reducible refine (zco.calls k 6 t241 _ A1.out).mono ?_); rintro e w33 ⟨v242, rfl, ho0, hb⟩; refine ⟨_, rfl, ?_⟩; have n0_ := zA (Kd.zbj (Kd.zar (ok' := fun k_ => True) ho0 (fun k_ hk_ => trivial)) (za (zB HB))); have n1_ := zA (zac (zB HB) hb); clear HB; have HO243 := n0_; have HB := n1_; clear n0_ n1_; (try clear hb); (try clear hb2); (try clear hk); (try clear hi); (try clear ho0)) | ((with_reducible refine zae (f := 36) rfl ?_); refine za4 (some 5) rfl rfl Tryd.func36 (by kernel_rfl) rfl #[.int .u64 4] rfl (zE) ?_; (with_reducible refine (zco.calls k 4 t244 _ A2.out).mono ?_); rintro e w34 ⟨v245, rfl, ho0, hb⟩; refine ⟨_, rfl, ?_⟩; have n0_ := zA (Kd.zav (zV HO243) hb); have n1_ := zA (Kd.zbj (Kd.zar (ok' := fun k_ => True) ho0 (fun k_ hk_ => trivial)) (za (zB HB))); have n2_ := zA (zac (zB HB) hb); clear HO243 HB; have HO243 := n0_; have HO246 := n1_; have HB := n2_; clear n0_ n1_ n2_; (try clear hb); (try clear hb2); (try clear hk); (try clear hi); (try clear ho0); obtain ⟨Ao35, co35, eo35⟩ := Kd.zbd HO243.out; subst eo35; obtain ⟨Ao36, co36, eo36⟩ := Kd.zbd HO246.out; subst eo36) | ((with_reducible refine zae (f := 24) rfl ?_); refine za4 (some 6) rfl rfl Tryd.func24 (by kernel_rfl) rfl #[.slice Ao35 t241.length co35, .slice Ao36 t244.length co36] rfl (zE) ?_; (with_reducible refine (zcm.calls k _ _ t241 _ _ t244 t247 t250 t253 _ ?side1 ?side2 ?side3 ?side4 A3.out).mono ?_); (case side1 => exact zJ (Kd.zaw HO243.out).2.2); (case side2 => exact (Kd.zaw HO243.out).2.1); (case side3 => exact zJ (Kd.zaw HO246.out).2.2); (case side4 => exact (Kd.zaw HO246.out).2.1); rintro e w37 ⟨v248, v251, rfl, ho0, ho1, hb⟩; refine ⟨_, rfl, ?_⟩; have n0_ := zA (Kd.zav (zV HO243) hb); have n1_ := zA (Kd.zav (zV HO246) hb); have n2_ := zA (Kd.zbj (Kd.zar (ok' := fun k_ => True) ho0 (fun k_ hk_ => trivial)) (za (zB HB))); have n3_ := zA (Kd.zbj (Kd.zar (ok' := fun k_ => True) ho1 (fun k_ hk_ => trivial)) (za (zB HB))); have n4_ := zA (zac (zB HB) hb); clear HO243 HO246 HB; have HO243 := n0_; have HO246 := n1_; have HO249 := n2_; have HO252 := n3_; have HB := n4_; clear n0_ n1_ n2_ n3_ n4_; (try clear hb); (try clear hb2); (try clear hk); (try clear hi); (try clear ho0); (try clear ho1)) | ((with_reducible refine zbv (N := 1) rfl ?_); refine zb4 ?hg (N := 1) ?hd (cs := #[.slice none 0 0, .slice none 0 0]) (t := 28) ?hr ?_; (case hd => rfl); (case hg => rfl); (case hr => first | (go_simp; done) | (go_simp; rfl)); intro gb254 hg w38 hbox hb; have n0_ := zA (Kd.zav (Kd.zb7 (zV HO243) gb254 (Nat.le_of_eq hg.symm)) hb); have n1_ := zA (Kd.zav (Kd.zb7 (zV HO246) gb254 (Nat.le_of_eq hg.symm)) hb); have n2_ := zA (Kd.zav (Kd.zb7 (zV HO249) gb254 (Nat.le_of_eq hg.symm)) hb); have n3_ := zA (Kd.zav (Kd.zb7 (zV HO252) gb254 (Nat.le_of_eq hg.symm)) hb); have n4_ := zA (zac (zB HB) hb); have n5_ := zA (hbox); have n6_ := zA ((by rw [hg]; exact (za (zB HB)) : w.heap.size ≤ gb254)); have n7_ := zA ((by rw [hg]; exact (za (zB HB)) : w.heap.size ≤ gb254)); clear HO243 HO246 HO249 HO252 HB; have HO243 := n0_; have HO246 := n1_; have HO249 := n2_; have HO252 := n3_; have HB := n4_; have BK254 := n5_; have GW254 := n6_; have GE254 := n7_; clear n0_ n1_ n2_ n3_ n4_ n5_ n6_ n7_ hb hbox hg; obtain ⟨Ao39, co39, eo39⟩ := Kd.zbd HO249.out; subst eo39; have hcz40_0 : w38.cell? ⟨gb254, 0, none⟩ = some (.slice none 0 0) := (zab BK254.out 0).trans rfl; have hcz40_1 : w38.cell? ⟨gb254, 1, none⟩ = some (.slice none 0 0) := (zab BK254.out 1).trans rfl; have hfz40_0 := zao BK254.out 0; have hfz40_1 := zao BK254.out 1; obtain ⟨Ao41, co41, eo41⟩ := Kd.zbd HO252.out; subst eo41))
  go_ret
  exact ⟨zW, zB HB⟩
def zbf.f (l0 : List Int) : Option (Bool) := if (l0.length : Int) = 0 then (some true) else (if 0 ≤ (wrap64 ((l0.length : Int) - 1)) then (if (wrap64 ((l0.length : Int) - 1)) < (l0.length : Int) then (some ((rd l0 (wrap64 ((l0.length : Int) - 1))) != 0)) else (none)) else (none))
theorem zbf.calls (A0 : Option Addr) (c0 : Nat) (l0 : List Int) (r : Bool) (w : World) (hr0 : Kd.C (Kd.int .u64) w A0 l0.length l0) (hc0 : l0.length ≤ c0) (h : zbf.f l0 = some r) :
  Calls Tryd.prog 15 #[.slice A0 l0.length c0] w fun e w' => e = .returned (.bool r) ∧ Drawn0 w w' := by
 have HR0 := zA hr0
 have HC0 := zA hc0
 clear hr0 hc0
 have H : (if (l0.length : Int) = 0 then (some true) else (if 0 ≤ (wrap64 ((l0.length : Int) - 1)) then (if (wrap64 ((l0.length : Int) - 1)) < (l0.length : Int) then (some ((rd l0 (wrap64 ((l0.length : Int) - 1))) != 0)) else (none)) else (none))) = some r := h
 clear h
 by_cases c2 : (l0.length : Int) = 0
 ·
  rw [if_pos c2] at H
  have c2b0 : ((l0.length : Int) == 0) = true := beq_iff_eq.mpr c2
  have c2b1 : ((l0.length : Int) != 0) = false := bne_eq_false_iff_eq.mpr c2
  clear c2
  obtain rfl := Option.some.inj H
  go_enter Tryd.func15, Tryd.ntmps15
  go_wp2
  go_ret
  exact ⟨zF, by repeat (first | exact Drawn0.refl _ | apply Drawn0.step)⟩
 ·
  rw [if_neg c2] at H
  have c2b0 : ((l0.length : Int) == 0) = false := beq_eq_false_iff_ne.mpr c2
  have c2b1 : ((l0.length : Int) != 0) = true := bne_iff_ne.mpr c2
  have c2b2 : ¬ (l0 = []) := fun h_ => c2 (by rw [h_]; rfl)
  obtain ⟨ji3, hji3⟩ : ∃ j_ : Int, (wrap64 ((l0.length : Int) - 1)) = j_ := ⟨_, rfl⟩
  replace H : (if 0 ≤ (ji3) then (if (ji3) < (l0.length : Int) then (some ((rd l0 (ji3)) != 0)) else (none)) else (none)) = some r := by first | (rw [hji3] at H; exact H) | (simp only [hji3] at H ⊢; exact H)
  have hji3w : (IntKind.i64.wrap ((l0.length : Int) - 1)) = ji3 := (i64_w _).trans hji3
  by_cases c4 : 0 ≤ (ji3)
  ·
   rw [if_pos c4] at H
   have c4b0 : decide (0 ≤ (ji3)) = true := decide_eq_true c4
   clear c4
   by_cases c5 : (ji3) < (l0.length : Int)
   ·
    rw [if_pos c5] at H
    have c5b0 : decide ((ji3) < (l0.length : Int)) = true := decide_eq_true c5
    clear c5
    obtain rfl := Option.some.inj H
    have p260 : 0 ≤ ((ji3) : Int) := of_decide_eq_true (by first | (with_reducible assumption) | assumption)
    have q260 : (ji3) < (l0.length : Int) := of_decide_eq_true (by first | (with_reducible assumption) | assumption)
    obtain ⟨ad260, e260, hx260_0⟩ := Kd.at_int HR0.out (ji3) p260 q260
    cases e260
    replace p260 := eq_true p260
    replace q260 := eq_true q260
    go_enter Tryd.func15, Tryd.ntmps15
    go_wp2
    go_ret
    exact ⟨by first | rfl | (simp; done) | (simp only [← hji3] <;> (first | rfl | simp)) | (simp [*]; done), by repeat (first | exact Drawn0.refl _ | apply Drawn0.step)⟩
   ·
    rw [if_neg c5] at H
    exact absurd H (by simp)
  ·
   rw [if_neg c4] at H
   exact absurd H (by simp)
def zay.l0 : Nat → Int → List Int → Option (List Int)
 | 0, _, _ => none
 | k + 1, x0, x3 => if x0 > 0 then (if x3.length < 17592186044416 then (zay.l0 k (wrap64 (Int.tdiv x0 10000)) (x3 ++ [Int.tmod x0 10000])) else (none)) else (some x3)
def zay.f (k : Nat) (a0 : Int) : Option (List Int) := zay.l0 k a0 ([] : List Int)
theorem zay.calls (k : Nat) (a0 : Int) (r : List Int) (w : World) (h : zay.f k a0 = some r) :
  Calls Tryd.prog 20 #[.int .i64 a0] w fun e w' => ∃ v0_ : Value, e = .returned (v0_) ∧ Kd.R (Kd.int .i64) 3 w' w.heap.size (fun _ => True) v0_ r ∧ Below w.heap.size w w' := by
 have HB := zA (Below.refl w.heap.size w)
 have H : (zay.l0 k a0 ([] : List Int)) = some r := h
 clear h
 have H' := zA H
 clear H
 go_enter Tryd.func20, Tryd.ntmps20
 go_wp2
 go_loopg [0, 3] k (fun kq v0 v3 w' => ∃ (x0_1 : Int) (x3_1 : List Int), v0 = .int .i64 x0_1 ∧ Aside0 (zay.l0 kq x0_1 x3_1 = some r) ∧ Aside0 (kq ≤ k) ∧ Aside0 (Kd.R (Kd.int .i64) 3 w' w.heap.size (fun _ => True) v3 x3_1) ∧ Aside0 (Below w.heap.size w w'))
 case atStart => exact ⟨(a0), (([] : List Int)), (zF), H', ⟨Nat.le_refl _⟩, ⟨by first | exact Kd.R_nil _ _ _ _ _ | exact Kd.N_nil _ _ _ _ _ | exact Kd.V_nil _ _ _ _ _ | exact Kd.Q_nil _ _ _ _ _ | exact Kd.S_nil _ _ _ _ _⟩, ⟨zB HB⟩⟩
 case round =>
  clear H'
  obtain ⟨x0_1, x3_1, rfl, HA, HK1, HO_3, HB⟩ := hrel
  cases gk with
  | zero => exact absurd HA.out (by simp [zay.l0])
  | succ k1 =>
   have H := HA.out
   clear HA
   simp only [zay.l0] at H
   by_cases c2 : x0_1 > 0
   ·
    rw [if_pos c2] at H
    have c2b0 : decide (0 < x0_1) = true := decide_eq_true c2
    clear c2
    by_cases c3 : x3_1.length < 17592186044416
    ·
     rw [if_pos c3] at H
     have LMc3 := zA c3
     clear c3
     obtain ⟨y272, hy272⟩ : ∃ y_ : List Int, y_ = (x3_1 ++ [Int.tmod x0_1 10000]) := ⟨_, rfl⟩
     replace H : (zay.l0 k1 (wrap64 (Int.tdiv x0_1 10000)) y272) = some r := by first | (rw [hy272]; with_reducible exact H) | (have H2_ := (Option.bind_some _ _).symm.trans H; rw [hy272]; with_reducible exact H2_) | (have H2_ := (Option.bind_some _ _).symm.trans H; with_reducible exact H2_) | with_reducible exact H | (rw [hy272]; exact H) | exact H
     have Ny272 := zA hy272
     clear hy272
     have H' := zA H
     clear H
     go_wp2_with (first | ((with_reducible refine zb8 (b := .append) (xs := #[.tmp 6, .tmp 9]) rfl ?_); at_builtin; refine Kd.zc1 (Kd.int .i64) (w0 := w) w.heap.size rfl (.tmp 6) (.tmp 9) 31 3 (.int .i64 0) 8 rfl Tryd.underlying31 info3 rfl (by decide) (by omega) u3 x3_1 (Int.tmod x0_1 10000) [.int .i64 (Int.tmod x0_1 10000)] (fun _ => True) (fun _ => False) rfl rfl ?aP (fun _ hk => hk.elim) ?aF ?aO ?aB ?aS ?aL ?_; (case aP => exact rfl); (case aB => exact (zB HB)); (case aF => exact (fun _ _ => trivial)); (case aO => exact (zR HO_3)); (case aS => exact (za (zB HB))); (case aL => have := LMc3.out; omega); intro v273 w4 ho hb hg hat; rw [← Ny272.out] at ho; have n0_ := zA (hb); have n1_ := zA (ho); clear HB HO_3; have HB := n0_; have HO274 := n1_; clear n0_ n1_ ho hb hg hat))
     go_roundg k1
     case measure => have := HK1.out; omega
     case rel => exact ⟨(wrap64 (Int.tdiv x0_1 10000)), (y272), (zF), H', ⟨by have := HK1.out; omega⟩, ⟨zR HO274⟩, ⟨zB HB⟩⟩
    ·
     rw [if_neg c3] at H
     exact absurd H (by simp)
   ·
    rw [if_neg c2] at H
    have c2b0 : decide (0 < x0_1) = false := decide_eq_false c2
    clear c2
    obtain rfl := Option.some.inj H
    go_wp2
    go_ret
    exact ⟨_, zW, zR HO_3, zB HB⟩
def zbt.f (l0 : List Int) (a1 : Int) : Option (Int) := if a1 < (l0.length : Int) then (if 0 ≤ a1 then (some (rd l0 a1)) else (none)) else (some 0)
theorem zbt.calls (A0 : Option Addr) (c0 : Nat) (l0 : List Int) (a1 : Int) (r : Int) (w : World) (hr0 : Kd.C (Kd.int .i64) w A0 l0.length l0) (hc0 : l0.length ≤ c0) (h : zbt.f l0 a1 = some r) :
  Calls Tryd.prog 82 #[.slice A0 l0.length c0, .int .i64 a1] w fun e w' => e = .returned (.int .i64 r) ∧ Drawn0 w w' := by
 have HR0 := zA hr0
 have HC0 := zA hc0
 clear hr0 hc0
 have H : (if a1 < (l0.length : Int) then (if 0 ≤ a1 then (some (rd l0 a1)) else (none)) else (some 0)) = some r := h
 clear h
 by_cases c3 : a1 < (l0.length : Int)
 ·
  rw [if_pos c3] at H
  have c3b0 : decide (a1 < (l0.length : Int)) = true := decide_eq_true c3
  clear c3
  by_cases c4 : 0 ≤ a1
  ·
   rw [if_pos c4] at H
   have c4b0 : decide (0 ≤ a1) = true := decide_eq_true c4
   clear c4
   obtain rfl := Option.some.inj H
   have p275 : 0 ≤ (a1 : Int) := of_decide_eq_true (by first | (with_reducible assumption) | assumption)
   have q275 : a1 < (l0.length : Int) := of_decide_eq_true (by first | (with_reducible assumption) | assumption)
   obtain ⟨ad275, e275, hx275_0⟩ := Kd.at_int HR0.out a1 p275 q275
   cases e275
   replace p275 := eq_true p275
   replace q275 := eq_true q275
   go_enter Tryd.func82, Tryd.ntmps82
   go_wp2
   go_ret
   exact ⟨zF, by repeat (first | exact Drawn0.refl _ | apply Drawn0.step)⟩
  ·
   rw [if_neg c4] at H
   exact absurd H (by simp)
 ·
  rw [if_neg c3] at H
  have c3b0 : decide (a1 < (l0.length : Int)) = false := decide_eq_false c3
  clear c3
  obtain rfl := Option.some.inj H
  go_enter Tryd.func82, Tryd.ntmps82
  go_wp2
  go_ret
  exact ⟨zF, by repeat (first | exact Drawn0.refl _ | apply Drawn0.step)⟩
mutual
def za0.l0 : Nat → List Int → List Int → List Int → Int → Int → Option (List Int)
 | 0, _, _, _, _, _ => none
 | k + 1, x0, x1, x5, x6, x7 => if x7 < (x0.length : Int) then (za0.j1 k x0 x1 x5 x6 x7 true) else (if x7 < (x1.length : Int) then (za0.j1 k x0 x1 x5 x6 x7 true) else (za0.j1 k x0 x1 x5 x6 x7 (decide (x6 > 0))))
def za0.j1 : Nat → List Int → List Int → List Int → Int → Int → Bool → Option (List Int)
 | 0, _, _, _, _, _, _ => none
 | k + 1, x0, x1, x5, x6, x7, x22 => if x22 = true then ((zbt.f x0 x7).bind fun t276 => ((zbt.f x1 x7).bind fun t277 => (if x5.length < 17592186044416 then (za0.l0 k x0 x1 (x5 ++ [Int.tmod (wrap64 ((wrap64 (t276 + t277)) + x6)) 10000]) (wrap64 (Int.tdiv (wrap64 ((wrap64 (t276 + t277)) + x6)) 10000)) (wrap64 (x7 + 1))) else (none)))) else (some x5)
end
def za0.f (k : Nat) (l0 : List Int) (l1 : List Int) : Option (List Int) := za0.l0 k l0 l1 ([] : List Int) 0 0
theorem za0.calls (k : Nat) (A0 : Option Addr) (c0 : Nat) (l0 : List Int) (A1 : Option Addr) (c1 : Nat) (l1 : List Int) (r : List Int) (w : World) (hr0 : Kd.C (Kd.int .i64) w A0 l0.length l0) (hc0 : l0.length ≤ c0) (hr1 : Kd.C (Kd.int .i64) w A1 l1.length l1) (hc1 : l1.length ≤ c1) (h : za0.f k l0 l1 = some r) :
  Calls Tryd.prog 55 #[.slice A0 l0.length c0, .slice A1 l1.length c1] w fun e w' => ∃ v0_ : Value, e = .returned (v0_) ∧ Kd.R (Kd.int .i64) 3 w' w.heap.size (fun _ => True) v0_ r ∧ Below w.heap.size w w' := by
 have HR0 := zA hr0
 have HC0 := zA hc0
 clear hr0 hc0
 have HR1 := zA hr1
 have HC1 := zA hc1
 clear hr1 hc1
 have HB := zA (Below.refl w.heap.size w)
 have H : (za0.l0 k l0 l1 ([] : List Int) 0 0) = some r := h
 clear h
 have H' := zA H
 clear H
 go_enter Tryd.func55, Tryd.ntmps55
 go_wp2
 go_loopg [5, 6, 7] k (fun kq v5 v6 v7 w' => ∃ (x5_1 : List Int) (x6_1 : Int) (x7_1 : Int), v6 = .int .i64 x6_1 ∧ v7 = .int .i64 x7_1 ∧ Aside0 (za0.l0 kq l0 l1 x5_1 x6_1 x7_1 = some r) ∧ Aside0 (kq ≤ k) ∧ Aside0 (Kd.R (Kd.int .i64) 3 w' w.heap.size (fun _ => True) v5 x5_1) ∧ Aside0 (Below w.heap.size w w'))
 case atStart => exact ⟨(([] : List Int)), (0), (0), (zF), (zF), H', ⟨Nat.le_refl _⟩, ⟨by first | exact Kd.R_nil _ _ _ _ _ | exact Kd.N_nil _ _ _ _ _ | exact Kd.V_nil _ _ _ _ _ | exact Kd.Q_nil _ _ _ _ _ | exact Kd.S_nil _ _ _ _ _⟩, ⟨zB HB⟩⟩
 case round =>
  clear H'
  try clear c1
  try clear p2
  obtain ⟨x5_1, x6_1, x7_1, rfl, rfl, HA, HK1, HO_5, HB⟩ := hrel
  cases gk with
  | zero => exact absurd HA.out (by simp [za0.l0])
  | succ k1 =>
   have H := HA.out
   clear HA
   simp only [za0.l0] at H
   have HC3 := zA H
   clear H
   go_upto_region 4 with (fail)
   go_cut [22] (fun v22 wc => ∃ (kq : Nat) (x22_2 : Bool), v22 = .bool x22_2 ∧ Aside0 (za0.j1 kq l0 l1 x5_1 x6_1 x7_1 x22_2 = some r) ∧ Aside0 (kq ≤ k1) ∧ Aside0 (Kd.R (Kd.int .i64) 3 wc w.heap.size (fun _ => True) u5 x5_1) ∧ Aside0 (Below w.heap.size w wc))
   case first =>
    have H := HC3.out
    clear HC3
    by_cases c4 : x7_1 < (l0.length : Int)
    ·
     rw [if_pos c4] at H
     have c4b0 : decide (x7_1 < (l0.length : Int)) = true := decide_eq_true c4
     clear c4
     (first | rw [c4b0] | (simp only [i64_w, i32_w]; rw [c4b0]) | skip)
     have H' := zA H
     clear H
     go_wp2
     go_meet
     case rel => exact ⟨_, (true), (zF), H', ⟨by have := HK1.out; first | omega | exact Nat.le_refl _⟩, ⟨zR HO_5⟩, ⟨zB HB⟩⟩
    ·
     rw [if_neg c4] at H
     have c4b0 : decide (x7_1 < (l0.length : Int)) = false := decide_eq_false c4
     clear c4
     (first | rw [c4b0] | (simp only [i64_w, i32_w]; rw [c4b0]) | skip)
     by_cases c5 : x7_1 < (l1.length : Int)
     ·
      rw [if_pos c5] at H
      have c5b0 : decide (x7_1 < (l1.length : Int)) = true := decide_eq_true c5
      clear c5
      have H' := zA H
      clear H
      go_wp2
      go_meet
      case rel => exact ⟨_, (true), (zF), H', ⟨by have := HK1.out; first | omega | exact Nat.le_refl _⟩, ⟨zR HO_5⟩, ⟨zB HB⟩⟩
     ·
      rw [if_neg c5] at H
      have c5b0 : decide (x7_1 < (l1.length : Int)) = false := decide_eq_false c5
      clear c5
      have H' := zA H
      clear H
      go_wp2
      go_meet
      case rel => exact ⟨_, (decide (x6_1 > 0)), (zF), H', ⟨by have := HK1.out; first | omega | exact Nat.le_refl _⟩, ⟨zR HO_5⟩, ⟨zB HB⟩⟩
   case rest =>
    clear HC3
    try clear c1
    try clear p2
    try clear c4
    try clear c4b0
    try clear c5
    try clear c5b0
    try clear p2
    obtain ⟨kq, x22_2, rfl, HA, HJ2, HO_5, HB⟩ := hcut
    cases kq with
    | zero => exact absurd HA.out (by simp [za0.j1])
    | succ kj2 =>
     have H := HA.out
     clear HA
     simp only [za0.j1] at H
     by_cases c6 : x22_2 = true
     ·
      subst c6
      rw [if_pos rfl] at H
      replace H := zO H
      obtain ⟨t276, A70, H⟩ := H
      try dsimp only at H
      have A7 := zA A70
      clear A70
      replace H := zO H
      obtain ⟨t277, A80, H⟩ := H
      try dsimp only at H
      have A8 := zA A80
      clear A80
      by_cases c9 : x5_1.length < 17592186044416
      ·
       rw [if_pos c9] at H
       have LMc9 := zA c9
       clear c9
       obtain ⟨y278, hy278⟩ : ∃ y_ : List Int, y_ = (x5_1 ++ [Int.tmod (wrap64 ((wrap64 (t276 + t277)) + x6_1)) 10000]) := ⟨_, rfl⟩
       replace H : (za0.l0 kj2 l0 l1 y278 (wrap64 (Int.tdiv (wrap64 ((wrap64 (t276 + t277)) + x6_1)) 10000)) (wrap64 (x7_1 + 1))) = some r := by first | (rw [hy278]; with_reducible exact H) | (have H2_ := (Option.bind_some _ _).symm.trans H; rw [hy278]; with_reducible exact H2_) | (have H2_ := (Option.bind_some _ _).symm.trans H; with_reducible exact H2_) | with_reducible exact H | (rw [hy278]; exact H) | exact H
       have Ny278 := zA hy278
       clear hy278
       have H' := zA H
       clear H
       go_wp2_with (first | ((with_reducible refine zae (f := 82) rfl ?_); refine za4 (some 27) rfl rfl Tryd.func82 (by kernel_rfl) rfl #[.slice A0 l0.length c0, .int .i64 x7_1] rfl (zE) ?_; (with_reducible refine (zbt.calls _ _ l0 x7_1 t276 _ ?side1 ?side2 A7.out).mono ?_); (case side1 => exact zJ (Kd.zb HR0.out HB.out)); (case side2 => exact HC0.out); rintro e w' ⟨rfl, ⟨nd, rfl⟩⟩; refine ⟨_, rfl, ?_⟩) | ((with_reducible refine zae (f := 82) rfl ?_); refine za4 (some 30) rfl rfl Tryd.func82 (by kernel_rfl) rfl #[.slice A1 l1.length c1, .int .i64 x7_1] rfl (zE) ?_; (with_reducible refine (zbt.calls _ _ l1 x7_1 t277 _ ?side1 ?side2 A8.out).mono ?_); (case side1 => exact zJ (Kd.zb HR1.out (zB HB))); (case side2 => exact HC1.out); rintro e w' ⟨rfl, ⟨nd, rfl⟩⟩; refine ⟨_, rfl, ?_⟩) | ((with_reducible refine zb8 (b := .append) (xs := #[.tmp 34, .tmp 37]) rfl ?_); (try (refine gate_guard (by rfl) ?_; dsimp only)); at_builtin; refine Kd.zc1 (Kd.int .i64) (w0 := w) w.heap.size rfl (.tmp 34) (.tmp 37) 31 3 (.int .i64 0) 8 rfl Tryd.underlying31 info3 rfl (by decide) (by omega) u5 x5_1 (Int.tmod (wrap64 ((wrap64 (t276 + t277)) + x6_1)) 10000) [.int .i64 (Int.tmod (wrap64 ((wrap64 (t276 + t277)) + x6_1)) 10000)] (fun _ => True) (fun _ => False) rfl rfl ?aP (fun _ hk => hk.elim) ?aF ?aO ?aB ?aS ?aL ?_; (case aP => exact rfl); (case aB => exact (zB HB)); (case aF => exact (fun _ _ => trivial)); (case aO => exact (zR HO_5)); (case aS => exact (za (zB HB))); (case aL => have := LMc9.out; omega); intro v279 w10 ho hb hg hat; rw [← Ny278.out] at ho; have n0_ := zA (hb); have n1_ := zA (ho); clear HB HO_5; have HB := n0_; have HO280 := n1_; clear n0_ n1_ ho hb hg hat))
       go_roundg kj2
       case measure => have := HK1.out; have := HJ2.out; omega
       case rel => exact ⟨(y278), (wrap64 (Int.tdiv (wrap64 ((wrap64 (t276 + t277)) + x6_1)) 10000)), (wrap64 (x7_1 + 1)), (zF), (zF), H', ⟨by have := HK1.out; have := HJ2.out; omega⟩, ⟨zR HO280⟩, ⟨zB HB⟩⟩
      ·
       rw [if_neg c9] at H
       exact absurd H (by simp)
     ·
      replace c6 := Bool.eq_false_iff.mpr c6
      subst c6
      rw [if_neg (show ¬ (false = true) by decide)] at H
      obtain rfl := Option.some.inj H
      go_wp2
      go_ret
      exact ⟨_, zW, zR HO_5, zB HB⟩
def zas.l0 : Nat → List Int → Int → Option (List Int)
 | 0, _, _ => none
 | k + 1, x0, x3 => if x3 > 0 then (if 0 ≤ (wrap64 (x3 - 1)) then (if (wrap64 (x3 - 1)) < (x0.length : Int) then (if (rd x0 (wrap64 (x3 - 1))) = 0 then (zas.l0 k x0 (wrap64 (x3 - 1))) else (if 0 ≤ x3 then (if x3 ≤ (x0.length : Int) then (some (x0.take (x3 : Int).toNat)) else (none)) else (none))) else (none)) else (none)) else (if 0 ≤ x3 then (if x3 ≤ (x0.length : Int) then (some (x0.take (x3 : Int).toNat)) else (none)) else (none))
def zas.f (k : Nat) (l0 : List Int) : Option (List Int) := zas.l0 k l0 (l0.length : Int)
theorem zas.calls (k : Nat) (P0_ : Nat → Prop) (u9000_ : Value) (l0 : List Int) (r : List Int) (w0 w : World) (hB : Below w0.heap.size w0 w) (ho0 : Kd.R (Kd.int .i64) 3 w w0.heap.size P0_ u9000_ l0) (h : zas.f k l0 = some r) :
  Calls Tryd.prog 83 #[u9000_] w fun e w' => ∃ v0_ : Value, e = .returned (v0_) ∧ Kd.R (Kd.int .i64) 3 w' w0.heap.size (fun k_ => (P0_ k_ ∨ w.heap.size ≤ k_)) v0_ r ∧ Below w0.heap.size w0 w' ∧ Kept w w' (fun k_ => P0_ k_) := by
 have HO0 := zA (show Kd.R (Kd.int .i64) 3 w w0.heap.size (fun k_ => (P0_ k_ ∨ w.heap.size ≤ k_)) u9000_ l0 from Kd.zba ho0 (fun k_ hk => (.inl hk)))
 have HK := zA (Kept.refl w (fun k_ => P0_ k_))
 have HW0 := zA hB.size
 have HB := zA hB
 clear hB
 have H : (zas.l0 k l0 (l0.length : Int)) = some r := h
 clear h
 have H' := zA H
 clear H
 obtain ⟨Ao2, co2, eo2⟩ := Kd.zbr HO0.out
 subst eo2
 go_enter Tryd.func83, Tryd.ntmps83
 go_wp2
 go_loopg [3] k (fun kq v3 w' => ∃ (x3_1 : Int), v3 = .int .i64 x3_1 ∧ Aside0 (zas.l0 kq l0 x3_1 = some r) ∧ Aside0 (kq ≤ k) ∧ Aside0 (Kd.R (Kd.int .i64) 3 w' w0.heap.size (fun k_ => (P0_ k_ ∨ w.heap.size ≤ k_)) (.slice Ao2 l0.length co2) l0) ∧ Aside0 (Kept w w' (fun k_ => P0_ k_)) ∧ Aside0 (Below w0.heap.size w0 w'))
 case atStart => exact ⟨((l0.length : Int)), (zF), H', ⟨Nat.le_refl _⟩, ⟨zR HO0⟩, ⟨by repeat (first | (with_reducible first | exact HK.out | apply Kept.alloc | apply Kept.drewN | apply Kept.drew) | exact HK.out)⟩, ⟨zB HB⟩⟩
 case round =>
  clear H'
  try clear p2
  obtain ⟨x3_1, rfl, HA, HK1, HO_0, HK, HB⟩ := hrel
  cases gk with
  | zero => exact absurd HA.out (by simp [zas.l0])
  | succ k1 =>
   have H := HA.out
   clear HA
   simp only [zas.l0] at H
   by_cases c3 : x3_1 > 0
   ·
    rw [if_pos c3] at H
    have c3b0 : decide (0 < x3_1) = true := decide_eq_true c3
    clear c3
    obtain ⟨ji4, hji4⟩ : ∃ j_ : Int, (wrap64 (x3_1 - 1)) = j_ := ⟨_, rfl⟩
    replace H : (if 0 ≤ (ji4) then (if (ji4) < (l0.length : Int) then (if (rd l0 (ji4)) = 0 then (zas.l0 k1 l0 ji4) else (if 0 ≤ x3_1 then (if x3_1 ≤ (l0.length : Int) then (some (l0.take (x3_1 : Int).toNat)) else (none)) else (none))) else (none)) else (none)) = some r := by first | (rw [hji4] at H; exact H) | (simp only [hji4] at H ⊢; exact H)
    have hji4w : (IntKind.i64.wrap (x3_1 - 1)) = ji4 := (i64_w _).trans hji4
    by_cases c5 : 0 ≤ (ji4)
    ·
     rw [if_pos c5] at H
     have c5b0 : decide (0 ≤ (ji4)) = true := decide_eq_true c5
     clear c5
     by_cases c6 : (ji4) < (l0.length : Int)
     ·
      rw [if_pos c6] at H
      have c6b0 : decide ((ji4) < (l0.length : Int)) = true := decide_eq_true c6
      clear c6
      by_cases c7 : (rd l0 (ji4)) = 0
      ·
       rw [if_pos c7] at H
       have c7b0 : ((rd l0 (ji4)) == 0) = true := beq_iff_eq.mpr c7
       have c7b1 : ((rd l0 (ji4)) != 0) = false := bne_eq_false_iff_eq.mpr c7
       clear c7
       have H' := zA H
       clear H
       have p281 : 0 ≤ ((ji4) : Int) := of_decide_eq_true (by first | (with_reducible assumption) | assumption)
       have q281 : (ji4) < (l0.length : Int) := of_decide_eq_true (by first | (with_reducible assumption) | assumption)
       obtain ⟨ad281, e281, hx281_0⟩ := Kd.at_int (Kd.za1 HO_0.out).2.2 (ji4) p281 q281
       cases e281
       replace p281 := eq_true p281
       replace q281 := eq_true q281
       go_wp2
       go_roundg k1
       case measure => have := HK1.out; omega
       case rel => exact ⟨(ji4), (by first | rfl | (simp; done) | (simp only [← hji4] <;> (first | rfl | simp)) | (simp [*]; done)), H', ⟨by have := HK1.out; omega⟩, ⟨zR HO_0⟩, ⟨by repeat (first | (with_reducible first | exact HK.out | apply Kept.alloc | apply Kept.drewN | apply Kept.drew) | exact HK.out)⟩, ⟨zB HB⟩⟩
      ·
       rw [if_neg c7] at H
       have c7b0 : ((rd l0 (ji4)) == 0) = false := beq_eq_false_iff_ne.mpr c7
       have c7b1 : ((rd l0 (ji4)) != 0) = true := bne_iff_ne.mpr c7
       by_cases c8 : 0 ≤ x3_1
       ·
        rw [if_pos c8] at H
        have c8b0 := eq_true c8
        have c8b1 : decide (0 ≤ x3_1) = true := decide_eq_true c8
        clear c8
        by_cases c9 : x3_1 ≤ (l0.length : Int)
        ·
         rw [if_pos c9] at H
         have c9b0 := eq_true c9
         have c9b1 : decide (x3_1 ≤ (l0.length : Int)) = true := decide_eq_true c9
         clear c9
         obtain ⟨y282, hy282⟩ : ∃ y_ : List Int, y_ = (l0.take (x3_1 : Int).toNat) := ⟨_, rfl⟩
         replace H : (some y282) = some r := by first | (rw [hy282]; with_reducible exact H) | (have H2_ := (Option.bind_some _ _).symm.trans H; rw [hy282]; with_reducible exact H2_) | (have H2_ := (Option.bind_some _ _).symm.trans H; with_reducible exact H2_) | with_reducible exact H | (rw [hy282]; exact H) | exact H
         have Ny282 := zA hy282
         clear hy282
         obtain rfl := Option.some.inj H
         have p281 : 0 ≤ ((ji4) : Int) := of_decide_eq_true (by first | (with_reducible assumption) | assumption)
         have q281 : (ji4) < (l0.length : Int) := of_decide_eq_true (by first | (with_reducible assumption) | assumption)
         obtain ⟨ad281, e281, hx281_0⟩ := Kd.at_int (Kd.za1 HO_0.out).2.2 (ji4) p281 q281
         cases e281
         replace p281 := eq_true p281
         replace q281 := eq_true q281
         have q10 : (x3_1 : Int) ≤ ((l0.length : Int) : Int) := of_decide_eq_true (by first | (with_reducible assumption) | assumption)
         obtain ⟨i010, hi010, _, hsz10, _⟩ := info_parts info3
         have hcut10 := cut_to (P := Tryd.prog) 31 3 .i64 Tryd.underlying31 hi010 (some ad281) l0.length co2 x3_1 (of_decide_eq_true (by first | (with_reducible assumption) | assumption)) q10 (Kd.za1 HO_0.out).2.1
         have hr10 := Kd.R_take (m := (x3_1 : Int).toNat) HO_0.out (by omega)
         have hy10 : y282.length = (x3_1 : Int).toNat := (by rw [Ny282.out, List.length_take]; omega)
         rw [← Ny282.out] at hr10
         rw [← hy10] at hr10 hcut10
         clear hy10 hi010 hsz10 HO_0
         have HO284 := zA hr10
         clear hr10
         replace q10 := eq_true q10
         go_wp2
         go_ret
         exact ⟨_, by first | rfl | (simp [zcd, zce] <;> rfl) | (simp only [← hji4]; first | rfl | (simp [zcd, zce] <;> rfl)) | (simp [*, zcd, zce] <;> rfl), zR HO284, zB HB, by repeat (first | (with_reducible first | exact HK.out | apply Kept.alloc | apply Kept.drewN | apply Kept.drew) | exact HK.out)⟩
        ·
         rw [if_neg c9] at H
         exact absurd H (by simp)
       ·
        rw [if_neg c8] at H
        exact absurd H (by simp)
     ·
      rw [if_neg c6] at H
      exact absurd H (by simp)
    ·
     rw [if_neg c5] at H
     exact absurd H (by simp)
   ·
    rw [if_neg c3] at H
    have c3b0 : decide (0 < x3_1) = false := decide_eq_false c3
    clear c3
    by_cases c11 : 0 ≤ x3_1
    ·
     rw [if_pos c11] at H
     have c11b0 := eq_true c11
     have c11b1 : decide (0 ≤ x3_1) = true := decide_eq_true c11
     clear c11
     by_cases c12 : x3_1 ≤ (l0.length : Int)
     ·
      rw [if_pos c12] at H
      have c12b0 := eq_true c12
      have c12b1 : decide (x3_1 ≤ (l0.length : Int)) = true := decide_eq_true c12
      clear c12
      obtain ⟨y285, hy285⟩ : ∃ y_ : List Int, y_ = (l0.take (x3_1 : Int).toNat) := ⟨_, rfl⟩
      replace H : (some y285) = some r := by first | (rw [hy285]; with_reducible exact H) | (have H2_ := (Option.bind_some _ _).symm.trans H; rw [hy285]; with_reducible exact H2_) | (have H2_ := (Option.bind_some _ _).symm.trans H; with_reducible exact H2_) | with_reducible exact H | (rw [hy285]; exact H) | exact H
      have Ny285 := zA hy285
      clear hy285
      obtain rfl := Option.some.inj H
      have q13 : (x3_1 : Int) ≤ ((l0.length : Int) : Int) := of_decide_eq_true (by first | (with_reducible assumption) | assumption)
      obtain ⟨i013, hi013, _, hsz13, _⟩ := info_parts info3
      have hcut13 := cut_to (P := Tryd.prog) 31 3 .i64 Tryd.underlying31 hi013 Ao2 l0.length co2 x3_1 (of_decide_eq_true (by first | (with_reducible assumption) | assumption)) q13 (Kd.za1 HO_0.out).2.1
      have hr13 := Kd.R_take (m := (x3_1 : Int).toNat) HO_0.out (by omega)
      have hy13 : y285.length = (x3_1 : Int).toNat := (by rw [Ny285.out, List.length_take]; omega)
      rw [← Ny285.out] at hr13
      rw [← hy13] at hr13 hcut13
      clear hy13 hi013 hsz13 HO_0
      have HO287 := zA hr13
      clear hr13
      replace q13 := eq_true q13
      go_wp2
      go_ret
      exact ⟨_, zW, zR HO287, zB HB, by repeat (first | (with_reducible first | exact HK.out | apply Kept.alloc | apply Kept.drewN | apply Kept.drew) | exact HK.out)⟩
     ·
      rw [if_neg c12] at H
      exact absurd H (by simp)
    ·
     rw [if_neg c11] at H
     exact absurd H (by simp)
end Go.Proofs.YtfjkamhcabckeaaDoor.P
end
