-- Written by a program of this session (wip/tools/shake.py) out of its own texts and of the kit's printed ones; not trusted: Lean checks it.
import Derived.Test.YtfjkamhcabckeaaDoorZRatioTexts5
set_option maxHeartbeats 8000000
set_option maxRecDepth 100000
set_option linter.unusedVariables false
set_option linter.unusedSimpArgs false
section
namespace Go.Proofs.YtfjkamhcabckeaaDoor.P
open Go.RowKit Go.Proofs.YtfjkamhcabckeaaDoorW.PrintWords Go.Proofs.YtfjkamhcabckeaaDoorW.PrintLast Go.Proofs.YtfjkamhcabckeaaDoorW.PrintMore
attribute [local go_sem] max2_int min2_int max_two min_two zc8 zc9 max_four min_four
def strings_Cut.f (s sep : ByteArray) : Option (ByteArray × ByteArray × Bool) := if s.size < 4294967281 then some (⟨(Lib.cut s.data.toList sep.data.toList).1.toArray⟩, ⟨(Lib.cut s.data.toList sep.data.toList).2.1.toArray⟩, (Lib.cut s.data.toList sep.data.toList).2.2) else none
theorem strings_Cut.calls (a0 a1 : ByteArray) (r1 r2 : ByteArray) (r3 : Bool) (w : World) (hG : Glob w) (h : strings_Cut.f a0 a1 = some (r1, r2, r3)) :
  Calls Tryd.prog 67 #[.string a0, .string a1] w fun e w' => e = .returned (.tuple #[.string r1, .string r2, .bool r3]) ∧ Drawn0 w w' := by
 unfold strings_Cut.f at h
 split at h
 ·
  rename_i hs
  simp only [Option.some.injEq, Prod.mk.injEq] at h
  obtain ⟨rfl, rfl, rfl⟩ := h
  obtain ⟨m, hm⟩ := hG.2
  exact (Tryd.strings_Cut a0 a1 m w hs hm).mono fun e w' ⟨he, n, hw⟩ => ⟨he, n, hw⟩
 ·
  cases h
def bits_Mul64.f (a0 : Int) (a1 : Int) : Option (Int × Int) := some (IntKind.u64.wrap ((IntKind.u64.wrap ((IntKind.u64.wrap ((a0 / 4294967296) * (a1 / 4294967296))) + ((IntKind.u64.wrap ((IntKind.u64.wrap ((a0 / 4294967296) * (Go.bits .and .u64 a1 4294967295))) + ((IntKind.u64.wrap ((Go.bits .and .u64 a0 4294967295) * (Go.bits .and .u64 a1 4294967295))) / 4294967296))) / 4294967296))) + ((IntKind.u64.wrap ((Go.bits .and .u64 (IntKind.u64.wrap ((IntKind.u64.wrap ((a0 / 4294967296) * (Go.bits .and .u64 a1 4294967295))) + ((IntKind.u64.wrap ((Go.bits .and .u64 a0 4294967295) * (Go.bits .and .u64 a1 4294967295))) / 4294967296))) 4294967295) + (IntKind.u64.wrap ((Go.bits .and .u64 a0 4294967295) * (a1 / 4294967296))))) / 4294967296)), IntKind.u64.wrap (a0 * a1))
theorem bits_Mul64.calls (a0 : Int) (a1 : Int) (r1 : Int) (r2 : Int) (w : World) (h : bits_Mul64.f a0 a1 = some (r1, r2)) :
  Calls Tryd.prog 87 #[.int .u64 a0, .int .u64 a1] w fun e w' => e = .returned (.tuple #[.int .u64 r1, .int .u64 r2]) ∧ Drawn0 w w' := by
 have H : (some (IntKind.u64.wrap ((IntKind.u64.wrap ((IntKind.u64.wrap ((a0 / 4294967296) * (a1 / 4294967296))) + ((IntKind.u64.wrap ((IntKind.u64.wrap ((a0 / 4294967296) * (Go.bits .and .u64 a1 4294967295))) + ((IntKind.u64.wrap ((Go.bits .and .u64 a0 4294967295) * (Go.bits .and .u64 a1 4294967295))) / 4294967296))) / 4294967296))) + ((IntKind.u64.wrap ((Go.bits .and .u64 (IntKind.u64.wrap ((IntKind.u64.wrap ((a0 / 4294967296) * (Go.bits .and .u64 a1 4294967295))) + ((IntKind.u64.wrap ((Go.bits .and .u64 a0 4294967295) * (Go.bits .and .u64 a1 4294967295))) / 4294967296))) 4294967295) + (IntKind.u64.wrap ((Go.bits .and .u64 a0 4294967295) * (a1 / 4294967296))))) / 4294967296)), IntKind.u64.wrap (a0 * a1))) = some (r1, r2) := h
 clear h
 simp only [Option.some.injEq, Prod.mk.injEq] at H
 obtain ⟨rfl, rfl⟩ := H
 go_enter Tryd.func87, Tryd.ntmps87
 go_wp2
 go_ret2
 exact ⟨zF, by repeat (first | exact Drawn0.refl _ | apply Drawn0.step)⟩
def bits_Add64.f (x y c : Int) : Option (Int × Int) := if c ≤ 1 then some (((x.toNat + y.toNat + c.toNat) % 18446744073709551616 : Nat), ((x.toNat + y.toNat + c.toNat) / 18446744073709551616 : Nat)) else none
def bits_Add64.entry : Array Value → Sem Value := fun args => do
 let (x, y, c) ← Extern.MathBitsCarry.three "Add64" args
 pure (Extern.MathBitsCarry.pair ((x + y + c) % Extern.MathBitsCarry.m64) ((x + y + c) / Extern.MathBitsCarry.m64))
theorem bits_Add64.run_entry (x y c : Int) (hc : c ≤ 1) (w : World) : (bits_Add64.entry #[.int .u64 x, .int .u64 y, .int .u64 c]).run Tryd.prog w = .ok (.tuple #[.int .u64 ((x.toNat + y.toNat + c.toNat) % 18446744073709551616 : Nat), .int .u64 ((x.toNat + y.toNat + c.toNat) / 18446744073709551616 : Nat)]) w := by
 rcases c with n | n
 ·
  match n, hc with
  | 0, _ => rfl
  | 1, _ => rfl
  | n + 2, hc => exact absurd hc (by simp; omega)
 ·
  rfl
theorem bits_Add64.run {W : World} {x y c r1 r2 : Int} (h : bits_Add64.f x y c = some (r1, r2)) : (callFunc 88 #[.int .u64 x, .int .u64 y, .int .u64 c]).run Tryd.prog W = .ok (.value (.tuple #[.int .u64 r1, .int .u64 r2])) W := by
 unfold bits_Add64.f at h
 split at h
 ·
  rename_i hc
  injection h with h
  injection h with h1 h2
  subst h1; subst h2
  rw [run_callFunc_extern Tryd.func88 (by kernel_rfl) (by kernel_rfl) (by kernel_rfl) (e := bits_Add64.entry) (by kernel_rfl), bits_Add64.run_entry x y c hc]
  rfl
 ·
  cases h
mutual
def zcb.l0 : Nat → List Int → List Int → List Int → Int → Int → Option (List Int)
 | 0, _, _, _, _, _ => none
 | k + 1, x1, x5, x20, x21, x22 => if x22 < x21 then (if 0 ≤ x22 then (if x22 < (x20.length : Int) then (zcb.l1 k x1 x5 x22 (rd x20 x22) 0 x20 x21 x22 x1 (x1.length : Int) 0) else (none)) else (none)) else ((za3.f k x5).bind fun t549 => (some t549))
def zcb.l1 : Nat → List Int → List Int → Int → Int → Int → List Int → Int → Int → List Int → Int → Int → Option (List Int)
 | 0, _, _, _, _, _, _, _, _, _, _, _ => none
 | k + 1, x1, x5, x6, x7, x8, x20, x21, x22, x27, x28, x29 => if x29 < x28 then (if 0 ≤ x29 then (if x29 < (x27.length : Int) then ((bits_Mul64.f x7 (rd x27 x29)).bind fun bt554 => (if 0 ≤ (wrap64 (x6 + x29)) then (if (wrap64 (x6 + x29)) < (x5.length : Int) then ((bits_Add64.f bt554.2 (rd x5 (wrap64 (x6 + x29))) 0).bind fun bt557 => ((bits_Add64.f bt557.1 x8 0).bind fun bt559 => (zcb.l1 k x1 (x5.set ((wrap64 (x6 + x29)) : Int).toNat bt559.1) x6 x7 (IntKind.u64.wrap ((IntKind.u64.wrap (bt554.1 + bt557.2)) + bt559.2)) x20 x21 x22 x27 x28 (wrap64 (x29 + 1))))) else (none)) else (none))) else (none)) else (none)) else (if 0 ≤ (wrap64 (x6 + (x1.length : Int))) then (if (wrap64 (x6 + (x1.length : Int))) < (x5.length : Int) then (zcb.l0 k x1 (x5.set ((wrap64 (x6 + (x1.length : Int))) : Int).toNat x8) x20 x21 (wrap64 (x22 + 1))) else (none)) else (none))
end
def zcb.f (k : Nat) (l0 : List Int) (l1 : List Int) : Option (List Int) := if 0 ≤ (wrap64 ((l0.length : Int) + (l1.length : Int))) then (if (wrap64 ((l0.length : Int) + (l1.length : Int)) : Int).toNat ≤ 35184372088832 then (zcb.l0 k l1 (List.replicate (wrap64 ((l0.length : Int) + (l1.length : Int)) : Int).toNat 0) l0 (l0.length : Int) 0) else (none)) else (none)
theorem zcb.calls (k : Nat) (A0 : Option Addr) (c0 : Nat) (l0 : List Int) (A1 : Option Addr) (c1 : Nat) (l1 : List Int) (r : List Int) (w : World) (hr0 : Kd.C (Kd.int .u64) w A0 l0.length l0) (hc0 : l0.length ≤ c0) (hr1 : Kd.C (Kd.int .u64) w A1 l1.length l1) (hc1 : l1.length ≤ c1) (h : zcb.f k l0 l1 = some r) :
  Calls Tryd.prog 61 #[.slice A0 l0.length c0, .slice A1 l1.length c1] w fun e w' => ∃ v0_ : Value, e = .returned (v0_) ∧ Kd.V (Kd.int .u64) 57 w' w.heap.size (fun k_ => (w.heap.size ≤ k_)) v0_ r ∧ Below w.heap.size w w' := by
 have HR0 := zA hr0
 have HC0 := zA hc0
 clear hr0 hc0
 have HR1 := zA hr1
 have HC1 := zA hc1
 clear hr1 hc1
 have HB := zA (Below.refl w.heap.size w)
 have H : (if 0 ≤ (wrap64 ((l0.length : Int) + (l1.length : Int))) then (if (wrap64 ((l0.length : Int) + (l1.length : Int)) : Int).toNat ≤ 35184372088832 then (zcb.l0 k l1 (List.replicate (wrap64 ((l0.length : Int) + (l1.length : Int)) : Int).toNat 0) l0 (l0.length : Int) 0) else (none)) else (none)) = some r := h
 clear h
 obtain ⟨ji3, hji3⟩ : ∃ j_ : Int, (wrap64 ((l0.length : Int) + (l1.length : Int))) = j_ := ⟨_, rfl⟩
 replace H : (if 0 ≤ (ji3) then (if (ji3 : Int).toNat ≤ 35184372088832 then (zcb.l0 k l1 (List.replicate (ji3 : Int).toNat 0) l0 (l0.length : Int) 0) else (none)) else (none)) = some r := by first | (rw [hji3] at H; exact H) | (simp only [hji3] at H ⊢; exact H)
 have hji3w : (IntKind.i64.wrap ((l0.length : Int) + (l1.length : Int))) = ji3 := (i64_w _).trans hji3
 by_cases c4 : 0 ≤ (ji3)
 ·
  rw [if_pos c4] at H
  have c4b0 := eq_true c4
  have c4b1 : decide (0 ≤ (ji3)) = true := decide_eq_true c4
  clear c4
  by_cases c5 : (ji3 : Int).toNat ≤ 35184372088832
  ·
   rw [if_pos c5] at H
   have c5b0 := eq_true c5
   have c5b1 : decide ((ji3 : Int).toNat ≤ 35184372088832) = true := decide_eq_true c5
   clear c5
   obtain ⟨y546, hy546⟩ : ∃ y_ : List Int, y_ = (List.replicate (ji3 : Int).toNat 0) := ⟨_, rfl⟩
   replace H : (zcb.l0 k l1 y546 l0 (l0.length : Int) 0) = some r := by first | (rw [hy546]; with_reducible exact H) | (have H2_ := (Option.bind_some _ _).symm.trans H; rw [hy546]; with_reducible exact H2_) | (have H2_ := (Option.bind_some _ _).symm.trans H; with_reducible exact H2_) | with_reducible exact H | (rw [hy546]; exact H) | exact H
   have Ny546 := zA hy546
   clear hy546
   have H' := zA H
   clear H
   go_enter Tryd.func61, Tryd.ntmps61
   go_wp2_with (first | ((with_reducible refine zbv (N := 19) rfl ?_); refine Kd.R_make (Kd.int .u64) _ 57 rfl (N := 19) rfl 26 _ _ rfl ji3 rfl rfl Tryd.underlying26 (.int .u64 0) 8 info57 rfl (by decide) (by omega) 0 (ok := fun _ => True) (okp := fun _ => True) rfl (fun _ hk => hk) trivial (of_decide_eq_true (by first | (with_reducible assumption) | assumption)) (Nat.le_trans (Nat.mul_le_mul_right _ (of_decide_eq_true (by first | (with_reducible assumption) | assumption) : ji3.toNat ≤ 35184372088832)) (by omega)) (Below.refl _ _) (Nat.le_refl _) ?_; intro v547 w6 ho7 hb hg_ hnew_; clear hg_ hnew_; (first | rw [← Ny546.out] at ho7 | (simp only [Int.reduceToNat] at ho7; rw [← Ny546.out] at ho7)); have n0_ := zA (Kd.zbn (Kd.zcv (M := fun k_ => (w.heap.size ≤ k_)) ho7 (za (zB HB)) (fun k_ h_ => h_)) (za (zB HB))); have n1_ := zA (zac (zB HB) hb); clear HB; have HO548 := n0_; have HB := n1_; clear n0_ n1_ hb ho7))
   go_loopg [22] k (fun kq v22 w' => ∃ (x5_1 : List Int) (x22_1 : Int), v22 = .int .i64 x22_1 ∧ Aside0 (zcb.l0 kq l1 x5_1 l0 (l0.length : Int) x22_1 = some r) ∧ Aside0 (kq ≤ k) ∧ Aside0 (Kd.R (Kd.int .u64) 57 w' w.heap.size (fun k_ => (w.heap.size ≤ k_)) v547 x5_1) ∧ Aside0 (Below w.heap.size w w'))
   case atStart => exact ⟨(y546), (0), (zF), H', ⟨Nat.le_refl _⟩, ⟨by (with_reducible repeat (first | apply Kd.zbu | apply Kd.zbx | apply Kd.zb5)); exact Kd.zba HO548.out (fun _ hk => hk.1)⟩, ⟨zB HB⟩⟩
   case round =>
    clear H'
    try clear c1
    try clear p2
    try clear c4
    try clear c4b0
    try clear c4b1
    try clear c5
    try clear c5b0
    try clear c5b1
    try clear c6
    try clear p6
    obtain ⟨x5_1, x22_1, rfl, HA, HK1, HO_5, HB⟩ := hrel
    cases gk with
    | zero => exact absurd HA.out (by simp [zcb.l0])
    | succ k1 =>
     have H := HA.out
     clear HA
     simp only [zcb.l0] at H
     by_cases c8 : x22_1 < (l0.length : Int)
     ·
      rw [if_pos c8] at H
      have c8b0 : decide (x22_1 < (l0.length : Int)) = true := decide_eq_true c8
      clear c8
      by_cases c9 : 0 ≤ x22_1
      ·
       rw [if_pos c9] at H
       have c9b0 : decide (0 ≤ x22_1) = true := decide_eq_true c9
       clear c9
       by_cases c10 : x22_1 < (l0.length : Int)
       ·
        rw [if_pos c10] at H
        have c10b0 : decide (x22_1 < (l0.length : Int)) = true := decide_eq_true c10
        clear c10
        have H' := zA H
        clear H
        have p552 : 0 ≤ (x22_1 : Int) := of_decide_eq_true (by first | (with_reducible assumption) | assumption)
        have q552 : x22_1 < (l0.length : Int) := of_decide_eq_true (by first | (with_reducible assumption) | assumption)
        obtain ⟨ad552, e552, hx552_0⟩ := Kd.at_int HR0.out x22_1 p552 q552
        cases e552
        replace hx552_0 := (HB.out.cell (World.block_lt_of_cell? w _ hx552_0)).trans hx552_0
        replace p552 := eq_true p552
        replace q552 := eq_true q552
        go_wp2
        go_loopg [8, 29] k1 (fun kq v8 v29 w' => ∃ (x5_2 : List Int) (x8_2 : Int) (x29_2 : Int), v8 = .int .u64 x8_2 ∧ v29 = .int .i64 x29_2 ∧ Aside0 (zcb.l1 kq l1 x5_2 x22_1 (rd l0 x22_1) x8_2 l0 (l0.length : Int) x22_1 l1 (l1.length : Int) x29_2 = some r) ∧ Aside0 (kq ≤ k1) ∧ Aside0 (Kd.R (Kd.int .u64) 57 w' w.heap.size (fun k_ => (w.heap.size ≤ k_)) v547 x5_2) ∧ Aside0 (Below w.heap.size w w'))
        case atStart => exact ⟨(x5_1), (0), (0), (zF), (zF), H', ⟨Nat.le_refl _⟩, ⟨zR HO_5⟩, ⟨zB HB⟩⟩
        case round =>
         clear H'
         try clear c1
         try clear p2
         try clear c4
         try clear c4b0
         try clear c4b1
         try clear c5
         try clear c5b0
         try clear c5b1
         try clear p5
         try clear q5
         try clear hx5
         try clear c6
         try clear p6
         try clear c8
         try clear c8b0
         try clear c9
         try clear c9b0
         try clear c10
         try clear c10b0
         try clear hx552_0
         try clear p2
         try clear p552
         try clear p6
         try clear q552
         obtain ⟨x5_2, x8_2, x29_2, rfl, rfl, HA, HK2, HO_5, HB⟩ := hrel
         cases gk with
         | zero => exact absurd HA.out (by simp [zcb.l1])
         | succ k2 =>
          have H := HA.out
          clear HA
          simp only [zcb.l1] at H
          by_cases c11 : x29_2 < (l1.length : Int)
          ·
           rw [if_pos c11] at H
           have c11b0 : decide (x29_2 < (l1.length : Int)) = true := decide_eq_true c11
           clear c11
           by_cases c12 : 0 ≤ x29_2
           ·
            rw [if_pos c12] at H
            have c12b0 : decide (0 ≤ x29_2) = true := decide_eq_true c12
            clear c12
            by_cases c13 : x29_2 < (l1.length : Int)
            ·
             rw [if_pos c13] at H
             have c13b0 : decide (x29_2 < (l1.length : Int)) = true := decide_eq_true c13
             clear c13
             replace H := zO H
             obtain ⟨⟨t554, t555⟩, A140, H⟩ := H
             try dsimp only at H
             have A14 := zA A140
             clear A140
             obtain ⟨ji15, hji15⟩ : ∃ j_ : Int, (wrap64 (x22_1 + x29_2)) = j_ := ⟨_, rfl⟩
             replace H : (if 0 ≤ (ji15) then (if (ji15) < (x5_2.length : Int) then ((bits_Add64.f t555 (rd x5_2 (ji15)) 0).bind fun bt557 => ((bits_Add64.f bt557.1 x8_2 0).bind fun bt559 => (zcb.l1 k2 l1 (x5_2.set ((ji15) : Int).toNat bt559.1) x22_1 (rd l0 x22_1) (IntKind.u64.wrap ((IntKind.u64.wrap (t554 + bt557.2)) + bt559.2)) l0 (l0.length : Int) x22_1 l1 (l1.length : Int) (wrap64 (x29_2 + 1))))) else (none)) else (none)) = some r := by first | (rw [hji15] at H; exact H) | (simp only [hji15] at H ⊢; exact H)
             (try rw [hji15] at A14)
             have hji15w : (IntKind.i64.wrap (x22_1 + x29_2)) = ji15 := (i64_w _).trans hji15
             by_cases c16 : 0 ≤ (ji15)
             ·
              rw [if_pos c16] at H
              have c16b0 : decide (0 ≤ (ji15)) = true := decide_eq_true c16
              clear c16
              by_cases c17 : (ji15) < (x5_2.length : Int)
              ·
               rw [if_pos c17] at H
               have c17b0 : decide ((ji15) < (x5_2.length : Int)) = true := decide_eq_true c17
               clear c17
               replace H := zO H
               obtain ⟨⟨t557, t558⟩, A180, H⟩ := H
               try dsimp only at H
               have A18 := fun W_ => bits_Add64.run (W := W_) A180
               clear A180
               replace H := zO H
               obtain ⟨⟨t559, t560⟩, A190, H⟩ := H
               try dsimp only at H
               have A19 := fun W_ => bits_Add64.run (W := W_) A190
               clear A190
               obtain ⟨y561, hy561⟩ : ∃ y_ : List Int, y_ = (x5_2.set ((ji15) : Int).toNat t559) := ⟨_, rfl⟩
               replace H : (zcb.l1 k2 l1 y561 x22_1 (rd l0 x22_1) (IntKind.u64.wrap ((IntKind.u64.wrap (t554 + t558)) + t560)) l0 (l0.length : Int) x22_1 l1 (l1.length : Int) (wrap64 (x29_2 + 1))) = some r := by first | (rw [hy561]; with_reducible exact H) | (have H2_ := (Option.bind_some _ _).symm.trans H; rw [hy561]; with_reducible exact H2_) | (have H2_ := (Option.bind_some _ _).symm.trans H; with_reducible exact H2_) | with_reducible exact H | (rw [hy561]; exact H) | exact H
               have Ny561 := zA hy561
               clear hy561
               have H' := zA H
               clear H
               have p553 : 0 ≤ (x29_2 : Int) := of_decide_eq_true (by first | (with_reducible assumption) | assumption)
               have q553 : x29_2 < (l1.length : Int) := of_decide_eq_true (by first | (with_reducible assumption) | assumption)
               obtain ⟨ad553, e553, hx553_0⟩ := Kd.at_int HR1.out x29_2 p553 q553
               cases e553
               replace hx553_0 := (HB.out.cell (World.block_lt_of_cell? w _ hx553_0)).trans hx553_0
               replace p553 := eq_true p553
               replace q553 := eq_true q553
               go_wp2_with (first | ((with_reducible refine zae (f := 87) rfl ?_); refine za4 (some 37) rfl rfl Tryd.func87 (by kernel_rfl) rfl #[.int .u64 (rd l0 x22_1), .int .u64 (rd l1 x29_2)] rfl (zE) ?_; (with_reducible refine (bits_Mul64.calls (rd l0 x22_1) (rd l1 x29_2) t554 t555 _ A14.out).mono ?_); rintro e w' ⟨rfl, ⟨nd, rfl⟩⟩; refine ⟨_, rfl, ?_⟩; (try (rw [zdd wr]; generalize hq_ : World.drewN wr _ = wr; have n0_ : Aside0 (Kd.R (Kd.int .u64) 57 wr w.heap.size (fun k_ => (w.heap.size ≤ k_)) v547 x5_2) := ⟨by rw [← hq_]; exact (zR HO_5)⟩; have n1_ : Aside0 (Below w.heap.size w wr) := ⟨by rw [← hq_]; exact (zB HB)⟩; clear HO_5 HB hq_; have HO_5 := n0_; have HB := n1_; clear n0_ n1_)); obtain ⟨Ao21, co21, eo21⟩ := Kd.zbr HO_5.out; subst eo21; have p556 : 0 ≤ ((ji15) : Int) := of_decide_eq_true (by first | (with_reducible assumption) | assumption); have q556 : (ji15) < (x5_2.length : Int) := of_decide_eq_true (by first | (with_reducible assumption) | assumption); obtain ⟨ad556, e556, hx556_0⟩ := Kd.at_int (Kd.za1 HO_5.out).2.2 (ji15) p556 q556; cases e556; replace p556 := eq_true p556; replace q556 := eq_true q556; have p20 : 0 ≤ ((ji15) : Int) := of_decide_eq_true (by first | (with_reducible assumption) | assumption); have q20 : ((ji15) : Int) < ((x5_2.length : Int) : Int) := of_decide_eq_true (by first | (with_reducible assumption) | assumption); obtain ⟨go20, co20, eo20, gb20, gl20, cl20, HG20⟩ := Kd.R_form HO_5.out (by omega); (first | cases eo20 | (injection eo20 with ea_ en_ ec_; (first | subst ea_ | (injection ea_ with ea_; subst ea_)); subst ec_; clear en_)); have GB20 := zA gb20; have GG20 := zA HG20; clear gb20 gl20 HG20; (first | simp only [add_plain] at hx556_0 | skip); obtain ⟨hx20_0, hf20_0⟩ := Kd.zc2 0 HO_5.out ((ji15) : Int) p20 q20; replace p20 := eq_true p20; replace q20 := eq_true q20; obtain ⟨hy22_, hz22_⟩ := Kd.zc2 0 HO_5.out ((ji15) : Int) (of_decide_eq_true (by first | (with_reducible assumption) | assumption)) (of_decide_eq_true (by first | (with_reducible assumption) | assumption)); have HP22 := Kd.R_putg HO_5.out ((ji15) : Int) t559) | ((with_reducible refine zc5 (t := 57) (p := 68) rfl ?_); refine zct (t := 57) (p := 68) (v := ?vo_w23) (w1 := (wr.setCell ⟨go20, ((ji15) : Int).toNat, none⟩ (.int .u64 t559))) ?hg ?ho ?hn ?hr ?_; (case ho => rfl); (case hg => rfl); (case hn => rfl); (case hr => first | (go_simp; done) | (go_simp; rfl)); intro w23 hw; have hg : wr.grownBy w23 (some go20) := (by rw [hw]; exact HP22.2); have hp_ : Kd.R (Kd.int .u64) 57 w23 w.heap.size (fun k_ => (w.heap.size ≤ k_)) (.slice (some ⟨go20, 0, none⟩) x5_2.length co21) y561 := (by rw [hw, Ny561.out]; exact HP22.1); clear HP22; have n0_ := zA (hp_); have n1_ := zA ((by rw [hw]; exact zda (HB.out) GB20.out : Below w.heap.size w w23)); clear HO_5 HB; have HO_5 := n0_; have HB := n1_; clear n0_ n1_ hg hw hp_))
               go_roundg k2
               case measure => have := HK1.out; have := HK2.out; omega
               case rel => exact ⟨(y561), (IntKind.u64.wrap ((IntKind.u64.wrap (t554 + t558)) + t560)), (wrap64 (x29_2 + 1)), (zF), (zF), H', ⟨by have := HK1.out; have := HK2.out; omega⟩, ⟨zR HO_5⟩, ⟨zB HB⟩⟩
              ·
               rw [if_neg c17] at H
               exact absurd H (by simp)
             ·
              rw [if_neg c16] at H
              exact absurd H (by simp)
            ·
             rw [if_neg c13] at H
             exact absurd H (by simp)
           ·
            rw [if_neg c12] at H
            exact absurd H (by simp)
          ·
           rw [if_neg c11] at H
           have c11b0 : decide (x29_2 < (l1.length : Int)) = false := decide_eq_false c11
           clear c11
           obtain ⟨ji24, hji24⟩ : ∃ j_ : Int, (wrap64 (x22_1 + (l1.length : Int))) = j_ := ⟨_, rfl⟩
           replace H : (if 0 ≤ (ji24) then (if (ji24) < (x5_2.length : Int) then (zcb.l0 k2 l1 (x5_2.set ((ji24) : Int).toNat x8_2) l0 (l0.length : Int) (wrap64 (x22_1 + 1))) else (none)) else (none)) = some r := by first | (rw [hji24] at H; exact H) | (simp only [hji24] at H ⊢; exact H)
           have hji24w : (IntKind.i64.wrap (x22_1 + (l1.length : Int))) = ji24 := (i64_w _).trans hji24
           by_cases c25 : 0 ≤ (ji24)
           ·
            rw [if_pos c25] at H
            have c25b0 : decide (0 ≤ (ji24)) = true := decide_eq_true c25
            clear c25
            by_cases c26 : (ji24) < (x5_2.length : Int)
            ·
             rw [if_pos c26] at H
             have c26b0 : decide ((ji24) < (x5_2.length : Int)) = true := decide_eq_true c26
             clear c26
             obtain ⟨y562, hy562⟩ : ∃ y_ : List Int, y_ = (x5_2.set ((ji24) : Int).toNat x8_2) := ⟨_, rfl⟩
             replace H : (zcb.l0 k2 l1 y562 l0 (l0.length : Int) (wrap64 (x22_1 + 1))) = some r := by first | (rw [hy562]; with_reducible exact H) | (have H2_ := (Option.bind_some _ _).symm.trans H; rw [hy562]; with_reducible exact H2_) | (have H2_ := (Option.bind_some _ _).symm.trans H; with_reducible exact H2_) | with_reducible exact H | (rw [hy562]; exact H) | exact H
             have Ny562 := zA hy562
             clear hy562
             have H' := zA H
             clear H
             have p27 : 0 ≤ ((ji24) : Int) := of_decide_eq_true (by first | (with_reducible assumption) | assumption)
             have q27 : ((ji24) : Int) < ((x5_2.length : Int) : Int) := of_decide_eq_true (by first | (with_reducible assumption) | assumption)
             obtain ⟨go27, co27, eo27, gb27, gl27, cl27, HG27⟩ := Kd.R_form HO_5.out (by omega)
             (first | cases eo27 | (injection eo27 with ea_ en_ ec_; (first | subst ea_ | (injection ea_ with ea_; subst ea_)); subst ec_; clear en_))
             have GB27 := zA gb27
             have GG27 := zA HG27
             clear gb27 gl27 HG27
             obtain ⟨hx27_0, hf27_0⟩ := Kd.zc2 0 HO_5.out ((ji24) : Int) p27 q27
             replace p27 := eq_true p27
             replace q27 := eq_true q27
             have HP28 := Kd.R_putg HO_5.out ((ji24) : Int) x8_2
             go_wp2_with (first | ((with_reducible refine zc5 (t := 57) (p := 76) rfl ?_); refine zct (t := 57) (p := 76) (v := ?vo_w29) (w1 := (wr.setCell ⟨go27, ((ji24) : Int).toNat, none⟩ (.int .u64 x8_2))) ?hg ?ho ?hn ?hr ?_; (case ho => rfl); (case hg => rfl); (case hn => rfl); (case hr => first | (go_simp; done) | (go_simp; rfl)); intro w29 hw; have hg : wr.grownBy w29 (some go27) := (by rw [hw]; exact HP28.2); have hp_ : Kd.R (Kd.int .u64) 57 w29 w.heap.size (fun k_ => (w.heap.size ≤ k_)) (.slice (some ⟨go27, 0, none⟩) x5_2.length co27) y562 := (by rw [hw, Ny562.out]; exact HP28.1); clear HP28; have n0_ := zA (hp_); have n1_ := zA ((by rw [hw]; exact zda (HB.out) GB27.out : Below w.heap.size w w29)); clear HO_5 HB; have HO_5 := n0_; have HB := n1_; clear n0_ n1_ hg hw hp_))
             go_roundg k2
             case measure => have := HK1.out; have := HK2.out; omega
             case rel => exact ⟨(y562), (wrap64 (x22_1 + 1)), (zF), H', ⟨by have := HK1.out; have := HK2.out; omega⟩, ⟨zR HO_5⟩, ⟨zB HB⟩⟩
            ·
             rw [if_neg c26] at H
             exact absurd H (by simp)
           ·
            rw [if_neg c25] at H
            exact absurd H (by simp)
       ·
        rw [if_neg c10] at H
        exact absurd H (by simp)
      ·
       rw [if_neg c9] at H
       exact absurd H (by simp)
     ·
      rw [if_neg c8] at H
      have c8b0 : decide (x22_1 < (l0.length : Int)) = false := decide_eq_false c8
      clear c8
      replace H := zO H
      obtain ⟨t549, A300, H⟩ := H
      try dsimp only at H
      have A30 := zA A300
      clear A300
      obtain rfl := Option.some.inj H
      obtain ⟨Ao31, co31, eo31⟩ := Kd.zbr HO_5.out
      subst eo31
      go_wp2_with (first | ((with_reducible refine zae (f := 65) rfl ?_); refine za4 (some 79) rfl rfl Tryd.func65 (by kernel_rfl) rfl #[.slice Ao31 x5_1.length co31] rfl (zE) ?_; (with_reducible refine (za3.calls k1 (fun k_ => some k_ = (.slice Ao31 x5_1.length co31 : Value).ownBlock) _ _ x5_1 t549 _ ?side1 A30.out).mono ?_); (case side1 => exact Kd.R_V (Kd.zc6 rfl (HO_5.out))); rintro e w32 ⟨v550, rfl, ho0, hb⟩; refine ⟨_, rfl, ?_⟩; have n0_ := zA (Kd.za5 (zR HO_5) hb); have n1_ := zA (Kd.zbj (Kd.zar (ok' := fun k_ => (w.heap.size ≤ k_)) ho0 (fun k_ hk_ => Or.elim hk_ (fun hs_ => ((HO_5.out).1 k_ hs_.symm)) (fun hn_ => (Nat.le_trans (za (zB HB)) hn_)))) (za (zB HB))); have n2_ := zA (zac (zB HB) hb); clear HO_5 HB; have HO_5 := n0_; have HO551 := n1_; have HB := n2_; clear n0_ n1_ n2_; (try clear hb); (try clear hb2); (try clear hk); (try clear hi); (try clear ho0)))
      go_ret
      exact ⟨_, by first | rfl | (simp [zcd, zce] <;> rfl) | (simp only [← hji3]; first | rfl | (simp [zcd, zce] <;> rfl)) | (simp [*, zcd, zce] <;> rfl), zV HO551, zB HB⟩
  ·
   rw [if_neg c5] at H
   exact absurd H (by simp)
 ·
  rw [if_neg c4] at H
  exact absurd H (by simp)
def zcu.l0 : Nat → List Int → List Int → List Int → Int → Int → Int → Option (List Int)
 | 0, _, _, _, _, _, _ => none
 | k + 1, x0, x1, x5, x6, x13, x14 => if x14 < x13 then ((zcx.f x0 x14).bind fun t731 => ((zcx.f x1 x14).bind fun t732 => ((bits_Add64.f t731 t732 x6).bind fun bt733 => (if x5.length < 17592186044416 then (zcu.l0 k x0 x1 (x5 ++ [bt733.1]) bt733.2 x13 (wrap64 (x14 + 1))) else (none))))) else (if x5.length < 17592186044416 then ((za3.f k (x5 ++ [x6])).bind fun t741 => (some t741)) else (none))
def zcu.f (k : Nat) (l0 : List Int) (l1 : List Int) : Option (List Int) := zcu.l0 k l0 l1 ([] : List Int) 0 (mx (l0.length : Int) (l1.length : Int)) 0
theorem zcu.calls (k : Nat) (A0 : Option Addr) (c0 : Nat) (l0 : List Int) (A1 : Option Addr) (c1 : Nat) (l1 : List Int) (r : List Int) (w : World) (hr0 : Kd.C (Kd.int .u64) w A0 l0.length l0) (hc0 : l0.length ≤ c0) (hr1 : Kd.C (Kd.int .u64) w A1 l1.length l1) (hc1 : l1.length ≤ c1) (h : zcu.f k l0 l1 = some r) :
  Calls Tryd.prog 64 #[.slice A0 l0.length c0, .slice A1 l1.length c1] w fun e w' => ∃ v0_ : Value, e = .returned (v0_) ∧ Kd.V (Kd.int .u64) 57 w' w.heap.size (fun k_ => (w.heap.size ≤ k_)) v0_ r ∧ Below w.heap.size w w' := by
 have HR0 := zA hr0
 have HC0 := zA hc0
 clear hr0 hc0
 have HR1 := zA hr1
 have HC1 := zA hc1
 clear hr1 hc1
 have HB := zA (Below.refl w.heap.size w)
 have H : (zcu.l0 k l0 l1 ([] : List Int) 0 (mx (l0.length : Int) (l1.length : Int)) 0) = some r := h
 clear h
 obtain ⟨ji3, hji3⟩ : ∃ j_ : Int, (mx (l0.length : Int) (l1.length : Int)) = j_ := ⟨_, rfl⟩
 replace H : (zcu.l0 k l0 l1 ([] : List Int) 0 ji3 0) = some r := by first | (rw [hji3] at H; exact H) | (simp only [hji3] at H ⊢; exact H)
 (try (have hji3l : 0 ≤ ji3 := by (rw [← hji3]; unfold mx; (repeat' split) <;> omega)))
 (try (have hji3m : 0 ≤ ji3 := by omega))
 have hji3_ : (if (l0.length : Int) < (l1.length : Int) then (l1.length : Int) else (l0.length : Int)) = ji3 := hji3
 (try (have hji3n_ := hji3_; simp only [Int.ofNat_lt] at hji3n_))
 have H' := zA H
 clear H
 go_enter Tryd.func64, Tryd.ntmps64
 go_wp2
 go_loopg [5, 6, 14] k (fun kq v5 v6 v14 w' => ∃ (x5_1 : List Int) (x6_1 : Int) (x14_1 : Int), v6 = .int .u64 x6_1 ∧ v14 = .int .i64 x14_1 ∧ Aside0 (zcu.l0 kq l0 l1 x5_1 x6_1 ji3 x14_1 = some r) ∧ Aside0 (kq ≤ k) ∧ Aside0 (Kd.R (Kd.int .u64) 57 w' w.heap.size (fun k_ => (w.heap.size ≤ k_)) v5 x5_1) ∧ Aside0 (Below w.heap.size w w'))
 case atStart => exact ⟨(([] : List Int)), (0), (0), (zF), (zF), H', ⟨Nat.le_refl _⟩, ⟨by first | exact Kd.R_nil _ _ _ _ _ | exact Kd.N_nil _ _ _ _ _ | exact Kd.V_nil _ _ _ _ _ | exact Kd.Q_nil _ _ _ _ _ | exact Kd.S_nil _ _ _ _ _⟩, ⟨zB HB⟩⟩
 case round =>
  clear H'
  try clear c1
  try clear p2
  obtain ⟨x5_1, x6_1, x14_1, rfl, rfl, HA, HK1, HO_5, HB⟩ := hrel
  cases gk with
  | zero => exact absurd HA.out (by simp [zcu.l0])
  | succ k1 =>
   have H := HA.out
   clear HA
   simp only [zcu.l0] at H
   by_cases c4 : x14_1 < ji3
   ·
    rw [if_pos c4] at H
    have c4b0 : decide (x14_1 < ji3) = true := decide_eq_true c4
    clear c4
    replace H := zO H
    obtain ⟨t731, A50, H⟩ := H
    try dsimp only at H
    have A5 := zA A50
    clear A50
    replace H := zO H
    obtain ⟨t732, A60, H⟩ := H
    try dsimp only at H
    have A6 := zA A60
    clear A60
    replace H := zO H
    obtain ⟨⟨t733, t734⟩, A70, H⟩ := H
    try dsimp only at H
    have A7 := fun W_ => bits_Add64.run (W := W_) A70
    clear A70
    by_cases c8 : x5_1.length < 17592186044416
    ·
     rw [if_pos c8] at H
     have LMc8 := zA c8
     clear c8
     obtain ⟨y735, hy735⟩ : ∃ y_ : List Int, y_ = (x5_1 ++ [t733]) := ⟨_, rfl⟩
     replace H : (zcu.l0 k1 l0 l1 y735 t734 ji3 (wrap64 (x14_1 + 1))) = some r := by first | (rw [hy735]; with_reducible exact H) | (have H2_ := (Option.bind_some _ _).symm.trans H; rw [hy735]; with_reducible exact H2_) | (have H2_ := (Option.bind_some _ _).symm.trans H; with_reducible exact H2_) | with_reducible exact H | (rw [hy735]; exact H) | exact H
     have Ny735 := zA hy735
     clear hy735
     have H' := zA H
     clear H
     go_wp2_with (first | ((with_reducible refine zae (f := 89) rfl ?_); refine za4 (some 20) rfl rfl Tryd.func89 (by kernel_rfl) rfl #[.slice A0 l0.length c0, .int .i64 x14_1] rfl (zE) ?_; (with_reducible refine (zcx.calls _ _ l0 x14_1 t731 _ ?side1 ?side2 A5.out).mono ?_); (case side1 => exact zJ (Kd.zb HR0.out HB.out)); (case side2 => exact HC0.out); rintro e w' ⟨rfl, ⟨nd, rfl⟩⟩; refine ⟨_, rfl, ?_⟩) | ((with_reducible refine zae (f := 89) rfl ?_); refine za4 (some 23) rfl rfl Tryd.func89 (by kernel_rfl) rfl #[.slice A1 l1.length c1, .int .i64 x14_1] rfl (zE) ?_; (with_reducible refine (zcx.calls _ _ l1 x14_1 t732 _ ?side1 ?side2 A6.out).mono ?_); (case side1 => exact zJ (Kd.zb HR1.out (zB HB))); (case side2 => exact HC1.out); rintro e w' ⟨rfl, ⟨nd, rfl⟩⟩; refine ⟨_, rfl, ?_⟩) | ((with_reducible refine zb8 (b := .append) (xs := #[.tmp 28, .tmp 30]) rfl ?_); at_builtin; refine Kd.zc1 (Kd.int .u64) (w0 := w) w.heap.size rfl (.tmp 28) (.tmp 30) 26 57 (.int .u64 0) 8 rfl Tryd.underlying26 info57 rfl (by decide) (by omega) u5 x5_1 t733 [.int .u64 t733] (fun k_ => (w.heap.size ≤ k_)) (fun _ => False) rfl rfl ?aP (fun _ hk => hk.elim) ?aF ?aO ?aB ?aS ?aL ?_; (case aP => exact rfl); (case aB => exact (zB HB)); (case aF => exact (fun k_ hk => (Nat.le_trans (za (zB HB)) hk))); (case aO => exact (zR HO_5)); (case aS => exact (za (zB HB))); (case aL => have := LMc8.out; omega); intro v736 w9 ho hb hg hat; rw [← Ny735.out] at ho; have n0_ := zA (hb); have n1_ := zA (ho); clear HB HO_5; have HB := n0_; have HO737 := n1_; clear n0_ n1_ ho hb hg hat))
     go_roundg k1
     case measure => have := HK1.out; omega
     case rel => exact ⟨(y735), (t734), (wrap64 (x14_1 + 1)), (zF), (zF), H', ⟨by have := HK1.out; omega⟩, ⟨zR HO737⟩, ⟨zB HB⟩⟩
    ·
     rw [if_neg c8] at H
     exact absurd H (by simp)
   ·
    rw [if_neg c4] at H
    have c4b0 : decide (x14_1 < ji3) = false := decide_eq_false c4
    clear c4
    by_cases c10 : x5_1.length < 17592186044416
    ·
     rw [if_pos c10] at H
     have LMc10 := zA c10
     clear c10
     obtain ⟨y738, hy738⟩ : ∃ y_ : List Int, y_ = (x5_1 ++ [x6_1]) := ⟨_, rfl⟩
     replace H : ((za3.f k1 y738).bind fun t741 => (some t741)) = some r := by first | (rw [hy738]; with_reducible exact H) | (have H2_ := (Option.bind_some _ _).symm.trans H; rw [hy738]; with_reducible exact H2_) | (have H2_ := (Option.bind_some _ _).symm.trans H; with_reducible exact H2_) | with_reducible exact H | (rw [hy738]; exact H) | exact H
     have Ny738 := zA hy738
     clear hy738
     replace H := zO H
     obtain ⟨t741, A110, H⟩ := H
     try dsimp only at H
     have A11 := zA A110
     clear A110
     obtain rfl := Option.some.inj H
     go_wp2_with (first | ((with_reducible refine zb8 (b := .append) (xs := #[.tmp 33, .tmp 35]) rfl ?_); at_builtin; refine Kd.zc1 (Kd.int .u64) (w0 := w) w.heap.size rfl (.tmp 33) (.tmp 35) 26 57 (.int .u64 0) 8 rfl Tryd.underlying26 info57 rfl (by decide) (by omega) u5 x5_1 x6_1 [.int .u64 x6_1] (fun k_ => (w.heap.size ≤ k_)) (fun _ => False) rfl rfl ?aP (fun _ hk => hk.elim) ?aF ?aO ?aB ?aS ?aL ?_; (case aP => exact rfl); (case aB => exact (zB HB)); (case aF => exact (fun k_ hk => (Nat.le_trans (za (zB HB)) hk))); (case aO => exact (zR HO_5)); (case aS => exact (za (zB HB))); (case aL => have := LMc10.out; omega); intro v739 w12 ho hb hg hat; rw [← Ny738.out] at ho; have n0_ := zA (hb); have n1_ := zA (ho); clear HB HO_5; have HB := n0_; have HO740 := n1_; clear n0_ n1_ ho hb hg hat; obtain ⟨Ao13, co13, eo13⟩ := Kd.zbr HO740.out; subst eo13) | ((with_reducible refine zae (f := 65) rfl ?_); refine za4 (some 37) rfl rfl Tryd.func65 (by kernel_rfl) rfl #[.slice Ao13 y738.length co13] rfl (zE) ?_; (with_reducible refine (za3.calls k1 (fun k_ => some k_ = (.slice Ao13 y738.length co13 : Value).ownBlock) _ _ y738 t741 _ ?side1 A11.out).mono ?_); (case side1 => exact Kd.R_V (Kd.zc6 rfl (HO740.out))); rintro e w14 ⟨v742, rfl, ho0, hb⟩; refine ⟨_, rfl, ?_⟩; have n0_ := zA (Kd.za5 (zR HO740) hb); have n1_ := zA (Kd.zbj (Kd.zar (ok' := fun k_ => (w.heap.size ≤ k_)) ho0 (fun k_ hk_ => Or.elim hk_ (fun hs_ => ((HO740.out).1 k_ hs_.symm)) (fun hn_ => (Nat.le_trans (za (zB HB)) hn_)))) (za (zB HB))); have n2_ := zA (zac (zB HB) hb); clear HO740 HB; have HO740 := n0_; have HO743 := n1_; have HB := n2_; clear n0_ n1_ n2_; (try clear hb); (try clear hb2); (try clear hk); (try clear hi); (try clear ho0)))
     go_ret
     exact ⟨_, by first | rfl | (simp [zcd, zce] <;> rfl) | (simp only [← hji3]; first | rfl | (simp [zcd, zce] <;> rfl)) | (simp [*, zcd, zce] <;> rfl), zV HO743, zB HB⟩
    ·
     rw [if_neg c10] at H
     exact absurd H (by simp)
def digB (b : UInt8) : Bool := decide (48 ≤ b.toNat) && decide (b.toNat ≤ 57)
def textB (s : ByteArray) : Bool := decide (0 < s.size) && !(decide (bt s 0 = 48) && decide (1 < s.size)) && s.data.toList.all digB
def readF (k : Nat) (s : ByteArray) : Nat → Nat → List Int → Option (List Int)
 | 0, _, out => some out
 | n + 1, pos, out => (zco.f k 10).bind fun t => (zcb.f k out t).bind fun m => (zco.f k (bt s pos - 48)).bind fun c => (zcu.f k m c).bind fun o => readF k s n (pos + 1) o
def zcs.f (k : Nat) (s : ByteArray) : Option (List Int × Int) := if textB s = true then (readF k s s.size 0 []).bind fun o => some (o, 0) else some (([] : List Int), 17)
def oddR (r : Nat) : Bool := decide (r < 48) || decide (57 < r)
theorem bt_lit (s : ByteArray) (i : Nat) (h : i < s.size) : bt s (i : Int) = ((s[i]'h).toNat : Int) := (bt_at s i h).symm
theorem all_dig (s : ByteArray) (h : s.data.toList.all digB = true) (i : Nat) (hi : i < s.size) : 48 ≤ (s[i]'hi).toNat ∧ (s[i]'hi).toNat ≤ 57 := by
 have hm : s[i]'hi ∈ s.data.toList := by
  have : s[i]'hi = s.data[i] := rfl
  rw [this]
  simp
 have := List.all_eq_true.1 h _ hm
 simpa [digB] using this
theorem idx_none (s : ByteArray) (h : s.data.toList.all digB = true) : ∀ (f pos : Nat), Lib.idxFuncFrom oddR true s f pos = -1
 | 0, _ => rfl
 | f + 1, pos => by
  unfold Lib.idxFuncFrom
  by_cases hp : pos < s.size
  ·
   obtain ⟨h1, h2⟩ := all_dig s h pos hp
   rw [if_pos hp, decode_ascii s pos hp (by omega), if_neg, idx_none s h f _]
   simp [oddR]
   omega
  ·
   rw [if_neg hp]
theorem idx_some (s : ByteArray) (q : Nat) (hq : q < s.size) (hb : digB (s[q]'hq) = false) : ∀ (f pos : Nat), pos ≤ q → s.size ≤ pos + f → 0 ≤ Lib.idxFuncFrom oddR true s f pos
 | 0, pos, h1, h2 => by omega
 | f + 1, pos, h1, h2 => by
  unfold Lib.idxFuncFrom
  have hp : pos < s.size := by omega
  rw [if_pos hp]
  by_cases ha : (s[pos]'hp).toNat < 128
  ·
   rw [decode_ascii s pos hp ha]
   by_cases ho : oddR (s[pos]'hp).toNat = true
   ·
    rw [if_pos ho]
    omega
   ·
    rw [if_neg ho]
    have hne : pos ≠ q := by
     rintro rfl
     apply ho
     simp [digB] at hb
     simp [oddR]
     omega
    exact idx_some s q hq hb f (pos + 1) (by omega) (by omega)
  ·
   have hd := decode_high s pos hp (by omega)
   rw [if_pos (by simp [oddR]; omega)]
   omega
theorem idx_text (s : ByteArray) : decide (0 ≤ Lib.idxFunc oddR true s) = !(s.data.toList.all digB) := by
 unfold Lib.idxFunc
 cases h : s.data.toList.all digB with
 | true => rw [idx_none s h]; rfl
 | false =>
  obtain ⟨b, hb, hd⟩ := List.all_eq_false.1 h
  obtain ⟨q, hq, rfl⟩ := List.getElem_of_mem hb
  have hq' : q < s.size := by simpa using hq
  have e : s[q]'hq' = s.data.toList[q] := by simp; rfl
  rw [decide_eq_true (idx_some s q hq' (by rw [e]; simpa using hd) s.size 0 (by omega) (by omega))]
  rfl
section
open Go.Shelf
theorem read_odd (W : World) (x : Nat) (hx : x ≤ 1114111) : Calls Tryd.prog 91 #[.int .i32 (x : Int)] W fun e w' => e = .returned (.bool (oddR x)) ∧ ∃ q, w' = W.drewN q := by
 unfold oddR
 by_cases h1 : x < 48
 ·
  have c1 : decide ((x : Int) < 48) = true := decide_eq_true (by omega)
  have c2 : decide (x < 48) = true := decide_eq_true h1
  rw [c2]
  go_enter Tryd.func91, Tryd.ntmps91
  go_wp2
  go_ret
  exact ⟨rfl, 0, rfl⟩
 ·
  have c1 : decide ((x : Int) < 48) = false := decide_eq_false (by omega)
  have c2 : decide (x < 48) = false := decide_eq_false h1
  have c3 : decide ((x : Int) > 57) = decide (57 < x) := by
   by_cases h : 57 < x
   ·
    rw [decide_eq_true h, decide_eq_true (by omega)]
   ·
    rw [decide_eq_false h, decide_eq_false (by omega)]
  rw [c2, ← c3]
  clear c2 c3
  go_enter Tryd.func91, Tryd.ntmps91
  go_wp2
  go_ret
  exact ⟨rfl, 0, rfl⟩
end
section
open Go.Shelf
theorem odd_pred (w : World) : PredAtRunes Tryd.prog 91 #[] oddR w := fun W x hx _ => read_odd W x hx
theorem contains_odd (s : ByteArray) (w : World) (b : Bool) (hb : (!(s.data.toList.all digB)) = b) : Calls Tryd.prog 92 #[.string s, .func (.func 91) #[] #[]] w fun e w' => e = .returned (.bool b) ∧ Below w.heap.size w w' :=
 (Tryd.strings_ContainsFunc_runes 91 #[] (enters_ Tryd.func91 (by kernel_rfl) rfl) oddR s w (odd_pred w)).mono fun e w' h => by rw [idx_text, hb] at h; exact h
theorem zcs.off (a0 : ByteArray) (w : World) (h : textB a0 = false) :
  Calls Tryd.prog 68 #[.string a0] w fun e w' => ∃ v0_ : Value, e = .returned (.tuple #[v0_, .int .i64 17]) ∧ Kd.V (Kd.int .u64) 57 w' w.heap.size (fun k_ => (w.heap.size ≤ k_)) v0_ [] ∧ Below w.heap.size w w' := by
 by_cases h0 : a0.size = 0
 ·
  have c3 : a0.toList = ([] : List UInt8) := by
   rw [Lib.toList_data]
   exact List.eq_nil_of_length_eq_zero (by simp [h0])
  have c3b0 : (a0.toList == ([] : List UInt8)) = true := beq_iff_eq.mpr c3
  clear c3 h h0
  go_enter Tryd.func68, Tryd.ntmps68
  go_wp2
  go_ret2
  exact ⟨_, rfl, Kd.V_nil _ _ _ _ _, Below.refl _ _⟩
 ·
  have hp : 0 < a0.size := by omega
  have c3 : a0.toList ≠ ([] : List UInt8) := by
   rw [Lib.toList_data]
   intro h1
   have h2 : a0.data.toList.length = a0.size := by simp
   rw [h1] at h2
   simp at h2
   omega
  have c3b0 : (a0.toList == ([] : List UInt8)) = false := beq_eq_false_iff_ne.mpr c3
  have q5 : (0 < a0.size) = True := eq_true hp
  have qi5 : (0 < (a0.size : Int)) = True := eq_true (Int.natCast_pos.2 hp)
  have hx5 : ∀ h : 0 < a0.size, ((a0[0]'h).toNat : Int) = bt a0 0 := bt_at a0 0
  have d1 : decide (0 < a0.size) = true := decide_eq_true hp
  clear c3
  have tail : (a0.data.toList.all digB) = false → (bt a0 0 = 48 → ¬ 1 < a0.size) → Calls Tryd.prog 68 #[.string a0] w fun e w' => ∃ v0_ : Value, e = .returned (.tuple #[v0_, .int .i64 17]) ∧ Kd.V (Kd.int .u64) 57 w' w.heap.size (fun k_ => (w.heap.size ≤ k_)) v0_ [] ∧ Below w.heap.size w w' := by
   intro ha hzz
   have hb : (!(a0.data.toList.all digB)) = true := by rw [ha]; rfl
   by_cases hz : bt a0 0 = 48
   ·
    have c6b0 : ((bt a0 0) == 48) = true := beq_iff_eq.mpr hz
    have h1 := hzz hz
    have c7b0 : decide ((a0.size : Int) > 1) = false := decide_eq_false (by omega)
    have c7b1 : decide (a0.size > 1) = false := decide_eq_false (by omega)
    have c7b2 : decide (1 < a0.size) = false := decide_eq_false (by omega)
    clear h h1 h0 hp hz hzz ha
    go_enter Tryd.func68, Tryd.ntmps68
    go_wp2_with (go_at_call 92; refine (contains_odd a0 _ true hb).mono ?_; rintro e w' ⟨rfl, hb1⟩)
    go_ret2
    exact ⟨_, rfl, Kd.V_nil _ _ _ _ _, hb1⟩
   ·
    have c6b0 : ((bt a0 0) == 48) = false := beq_eq_false_iff_ne.mpr hz
    clear h h0 hp hz hzz ha
    go_enter Tryd.func68, Tryd.ntmps68
    go_wp2_with (go_at_call 92; refine (contains_odd a0 _ true hb).mono ?_; rintro e w' ⟨rfl, hb1⟩)
    go_ret2
    exact ⟨_, rfl, Kd.V_nil _ _ _ _ _, hb1⟩
  by_cases hz : bt a0 0 = 48
  ·
   have c6b0 : ((bt a0 0) == 48) = true := beq_iff_eq.mpr hz
   by_cases h1 : 1 < a0.size
   ·
    have c7b0 : decide ((a0.size : Int) > 1) = true := decide_eq_true (by omega)
    have c7b1 : decide (a0.size > 1) = true := decide_eq_true (by omega)
    clear h hz h1 h0 hp tail
    go_enter Tryd.func68, Tryd.ntmps68
    go_wp2
    go_ret2
    exact ⟨_, rfl, Kd.V_nil _ _ _ _ _, Below.refl _ _⟩
   ·
    refine tail ?_ (fun _ => h1)
    unfold textB at h
    rw [d1, decide_eq_true hz, decide_eq_false h1] at h
    exact h
  ·
   refine tail ?_ (fun h => absurd h hz)
   unfold textB at h
   rw [d1, decide_eq_false hz] at h
   exact h
theorem zcs.on (k : Nat) (a0 : ByteArray) (r1 : List Int) (w : World) (h : textB a0 = true) (hr : readF k a0 a0.size 0 [] = some r1) :
  Calls Tryd.prog 68 #[.string a0] w fun e w' => ∃ v0_ : Value, e = .returned (.tuple #[v0_, .int .i64 0]) ∧ Kd.V (Kd.int .u64) 57 w' w.heap.size (fun k_ => (w.heap.size ≤ k_)) v0_ r1 ∧ Below w.heap.size w w' := by
 have hd : a0.data.toList.all digB = true := by
  unfold textB at h
  simp only [Bool.and_eq_true] at h
  exact h.2
 have hp : 0 < a0.size := by
  unfold textB at h
  simp only [Bool.and_eq_true, decide_eq_true_eq] at h
  exact h.1.1
 have hzz : bt a0 0 = 48 → ¬ 1 < a0.size := by
  unfold textB at h
  simp only [Bool.and_eq_true, decide_eq_true_eq, Bool.not_eq_true', Bool.and_eq_false_iff, decide_eq_false_iff_not] at h
  intro h1
  rcases h.1.2 with h2 | h2
  ·
   exact absurd h1 h2
  ·
   exact h2
 have c3 : a0.toList ≠ ([] : List UInt8) := by
  rw [Lib.toList_data]
  intro h1
  have h2 : a0.data.toList.length = a0.size := by simp
  rw [h1] at h2
  simp at h2
  omega
 have c3b0 : (a0.toList == ([] : List UInt8)) = false := beq_eq_false_iff_ne.mpr c3
 have q5 : (0 < a0.size) = True := eq_true hp
 have qi5 : (0 < (a0.size : Int)) = True := eq_true (Int.natCast_pos.2 hp)
 have hx5 : ∀ h : 0 < a0.size, ((a0[0]'h).toNat : Int) = bt a0 0 := bt_at a0 0
 have HR := zA hr
 have HD := zA hd
 have hb : (!(a0.data.toList.all digB)) = false := by rw [hd]; rfl
 have HBB := zA hb
 clear c3 hr h hd hb
 go_enter Tryd.func68, Tryd.ntmps68
 go_upto_region 2 with (fail)
 go_cut [24] (fun v24 wc => v24 = .bool false ∧ Aside0 (Below w.heap.size w wc))
 case first =>
  by_cases hz : bt a0 0 = 48
  ·
   have c6b0 : ((bt a0 0) == 48) = true := beq_iff_eq.mpr hz
   have h1 := hzz hz
   have c7b0 : decide ((a0.size : Int) > 1) = false := decide_eq_false (by omega)
   have c7b1 : decide (a0.size > 1) = false := decide_eq_false (by omega)
   have c7b2 : decide (1 < a0.size) = false := decide_eq_false (by omega)
   clear h1 hp hz hzz
   go_wp2_with (go_at_call 92; refine (contains_odd a0 _ false HBB.out).mono ?_; rintro e w' ⟨rfl, hb1⟩)
   go_meet
   case rel => exact ⟨rfl, ⟨hb1⟩⟩
  ·
   have c6b0 : ((bt a0 0) == 48) = false := beq_eq_false_iff_ne.mpr hz
   clear hp hz hzz
   go_wp2_with (go_at_call 92; refine (contains_odd a0 _ false HBB.out).mono ?_; rintro e w' ⟨rfl, hb1⟩)
   go_meet
   case rel => exact ⟨rfl, ⟨hb1⟩⟩
 case rest =>
  try clear hp hzz qi5 q5 hx5 c3b0
  obtain ⟨rfl, HB⟩ := hcut
  go_wp2
  go_loopg [5] a0.size (fun gk v5 w' => ∃ (pos : Nat) (out : List Int), pos + gk = a0.size ∧ Aside0 (readF k a0 gk pos out = some r1) ∧ Aside0 (w'.heap[wc.heap.size]? = some (.stringIter a0 pos)) ∧ Aside0 (Kd.V (Kd.int .u64) 57 w' w.heap.size (fun q => w.heap.size ≤ q ∧ q ≠ wc.heap.size) v5 out) ∧ Aside0 (Below w.heap.size w w'))
  case atStart => exact ⟨0, [], by omega, HR, ⟨World.iter_heap wc a0 0⟩, ⟨Kd.V_nil _ _ _ _ _⟩, ⟨zb1 HB.out _⟩⟩
  case round =>
   have hK0 : w.heap.size ≤ wc.heap.size := HB.out.size
   have HK0 := zA hK0
   clear HB hK0 HR
   obtain ⟨pos, out, hpos, HR, HI, HO, HB⟩ := hrel
   cases gk with
   | zero =>
    have hrun : ∀ ty, (Instr.next (.pointer (some ⟨wc.heap.size, 0, none⟩)) true ty).run Tryd.prog wr = .ok (.tuple #[.bool false]) wr := fun ty => Lib.run_next_end_at wr wc.heap.size a0 pos ty HI.out (by omega)
    have hr := HR.out
    simp only [readF, Option.some.injEq] at hr
    subst hr
    go_wp2
    go_ret2
    exact ⟨_, rfl, Kd.zar HO.out (fun q hq => hq.1), HB.out⟩
   | succ g =>
    have hlt : pos < a0.size := by omega
    obtain ⟨d1, d2⟩ := all_dig a0 HD.out pos hlt
    have hbt := bt_lit a0 pos hlt
    obtain ⟨b, hb⟩ : ∃ b : Nat, b = (a0[pos]'hlt).toNat := ⟨_, rfl⟩
    have hrun : ∀ ty, (Instr.next (.pointer (some ⟨wc.heap.size, 0, none⟩)) true ty).run Tryd.prog wr = .ok (.tuple #[.bool true, .int .i64 pos, .int .i32 (b : Int)]) (wr.iterAt wc.heap.size a0 (pos + 1)) := fun ty => by
     rw [hb]
     exact Lib.run_next_ascii_at wr wc.heap.size a0 pos ty HI.out hlt (by omega)
    rw [← hb] at d1 d2 hbt
    have HBT := zA hbt
    have HI1 := zA (Lib.iterAt_heap wr wc.heap.size a0 pos (pos + 1) HI.out)
    have HO1 : Aside0 (Kd.V (Kd.int .u64) 57 (wr.iterAt wc.heap.size a0 (pos + 1)) w.heap.size (fun q => w.heap.size ≤ q ∧ q ≠ wc.heap.size) u5 out) := ⟨Kd.zcz HO.out (fun q hq _ => Lib.iterAt_other wr wc.heap.size q a0 (pos + 1) hq.2)⟩
    have HB1 := zA (Lib.below_iterAt HB.out HK0.out a0 (pos + 1))
    have hd1 : (48 : Int) ≤ (b : Int) := by omega
    have hd2 : (b : Int) ≤ 57 := by omega
    have hpos2 := zA hpos
    clear hb hbt hlt d1 d2 HO HI HB hpos
    have hr := HR.out
    simp only [readF] at hr
    obtain ⟨t1, e1, hr⟩ := zO hr
    obtain ⟨t2, e2, hr⟩ := zO hr
    obtain ⟨t3, e3, hr⟩ := zO hr
    obtain ⟨t4, e4, hr⟩ := zO hr
    rw [HBT.out] at e3
    have E1 := zA e1
    have E2 := zA e2
    have E3 := zA e3
    have E4 := zA e4
    have HR1 := zA hr
    clear e1 e2 e3 e4 hr HR
    obtain ⟨A, c, rfl⟩ := Kd.zbd HO1.out
    obtain ⟨W, hW⟩ : ∃ W, W = wr.iterAt wc.heap.size a0 (pos + 1) := ⟨_, rfl⟩
    rw [← hW] at HI1 HO1 HB1 hrun
    have HW := zA hW
    clear hW
    go_wp2_with fail
    go_at_call 36
    refine (zco.calls k 10 t1 _ E1.out).mono ?_
    rintro e w1 ⟨v1, rfl, ho1, hb1⟩
    obtain ⟨A1, c1, rfl⟩ := Kd.zbd ho1
    have HO2 := zA (Kd.zav HO1.out hb1)
    have HI2 : Aside0 (w1.heap[wc.heap.size]? = some (.stringIter a0 (pos + 1))) := ⟨(hb1.block _ (za9 HI1.out)).trans HI1.out⟩
    have HB2 := zA (HB1.out.trans (hb1.mono HB1.out.size))
    have HV1 := zA ho1
    clear ho1 hb1 HO1 HI1 HB1
    go_wp2_with fail
    go_at_call 61
    obtain ⟨_, y1, y2⟩ := Kd.zaw HO2.out
    obtain ⟨_, y3, y4⟩ := Kd.zaw HV1.out
    refine (zcb.calls k A c out A1 c1 t1 t2 _ y2 y1 y4 y3 E2.out).mono ?_
    clear y1 y2 y3 y4
    rintro e w2 ⟨v2, rfl, ho2, hb2⟩
    obtain ⟨A2, c2, rfl⟩ := Kd.zbd ho2
    have HI3 : Aside0 (w2.heap[wc.heap.size]? = some (.stringIter a0 (pos + 1))) := ⟨(hb2.block _ (za9 HI2.out)).trans HI2.out⟩
    have HB3 := zA (HB2.out.trans (hb2.mono HB2.out.size))
    have HV2 := zA ho2
    clear ho2 hb2 HO2 HI2 HB2 HV1
    go_wp2_with fail
    go_at_call 36
    refine (zco.calls k ((b : Int) - 48) t3 _ E3.out).mono ?_
    rintro e w3 ⟨v3, rfl, ho3, hb3⟩
    obtain ⟨A3, c3, rfl⟩ := Kd.zbd ho3
    have HV2' := zA (Kd.zav HV2.out hb3)
    have HI4 : Aside0 (w3.heap[wc.heap.size]? = some (.stringIter a0 (pos + 1))) := ⟨(hb3.block _ (za9 HI3.out)).trans HI3.out⟩
    have HB4 := zA (HB3.out.trans (hb3.mono HB3.out.size))
    have HV3 := zA ho3
    clear ho3 hb3 HV2 HI3 HB3
    go_wp2_with fail
    go_at_call 64
    obtain ⟨_, y1, y2⟩ := Kd.zaw HV2'.out
    obtain ⟨_, y3, y4⟩ := Kd.zaw HV3.out
    refine (zcu.calls k A2 c2 t2 A3 c3 t3 t4 _ y2 y1 y4 y3 E4.out).mono ?_
    clear y1 y2 y3 y4
    rintro e w4 ⟨v4, rfl, ho4, hb4⟩
    obtain ⟨A4, c4, rfl⟩ := Kd.zbd ho4
    have HI5 : Aside0 (w4.heap[wc.heap.size]? = some (.stringIter a0 (pos + 1))) := ⟨(hb4.block _ (za9 HI4.out)).trans HI4.out⟩
    have HB5 := zA (HB4.out.trans (hb4.mono HB4.out.size))
    have hle : wc.heap.size < w3.heap.size := za9 HI4.out
    have hle2 : w.heap.size ≤ w3.heap.size := HB4.out.size
    have HV4 : Aside0 (Kd.V (Kd.int .u64) 57 w4 w.heap.size (fun q => w.heap.size ≤ q ∧ q ≠ wc.heap.size) (.slice A4 t4.length c4) t4) := ⟨Kd.zbj (Kd.zar ho4 (fun q hq => ⟨by omega, by omega⟩)) hle2⟩
    clear ho4 hb4 HV2' HI4 HB4 hle hle2 HV3
    go_wp2_with fail
    go_roundg g
    case measure => omega
    case rel => exact ⟨pos + 1, t4, by have := hpos2.out; omega, HR1, HI5, HV4, HB5⟩
end
theorem zcs.calls (k : Nat) (a0 : ByteArray) (r1 : List Int) (r2 : Int) (w : World) (h : zcs.f k a0 = some (r1, r2)) :
  Calls Tryd.prog 68 #[.string a0] w fun e w' => ∃ v0_ : Value, e = .returned (.tuple #[v0_, .int .i64 r2]) ∧ Kd.V (Kd.int .u64) 57 w' w.heap.size (fun k_ => (w.heap.size ≤ k_)) v0_ r1 ∧ Below w.heap.size w w' := by
 unfold zcs.f at h
 by_cases ht : textB a0 = true
 ·
  rw [if_pos ht] at h
  obtain ⟨o, ho, h⟩ := zO h
  simp only [Option.some.injEq, Prod.mk.injEq] at h
  obtain ⟨rfl, rfl⟩ := h
  exact zcs.on k a0 o w ht ho
 ·
  rw [if_neg ht] at h
  simp only [Option.some.injEq, Prod.mk.injEq] at h
  obtain ⟨rfl, rfl⟩ := h
  exact zcs.off a0 w (Bool.eq_false_iff.2 ht)
mutual
def zbc.j0 : Nat → ByteArray → List Int → Int → List Int → Int → Option (List Int × List Int × Int)
 | 0, _, _, _, _, _ => none
 | k + 1, x0, x7, x8, x9, x10 => if x8 = 0 then (if x10 = 0 then (zbc.j1 k x0 x7 x9 ((x9.length : Int) == 0)) else (zbc.j1 k x0 x7 x9 true)) else (zbc.j1 k x0 x7 x9 true)
def zbc.j1 : Nat → ByteArray → List Int → List Int → Bool → Option (List Int × List Int × Int)
 | 0, _, _, _, _ => none
 | k + 1, x0, x7, x9, x40 => if x40 = true then (some (([] : List Int), ([] : List Int), 17)) else ((zca.f k x7 x9).bind fun bt1000 => ((za2.f k bt1000.1 bt1000.2).bind fun t1007 => (if t1007.toList = x0.toList then (some (bt1000.1, bt1000.2, 0)) else (some (([] : List Int), ([] : List Int), 17)))))
end
def zbc.f (k : Nat) (a0 : ByteArray) : Option (List Int × List Int × Int) := (strings_Cut.f a0 (⟨#[47]⟩ : ByteArray)).bind fun bt986 => ((zcs.f k bt986.1).bind fun bt989 => ((zcn.f k).bind fun t993 => (if bt986.2.2 = true then ((zcs.f k bt986.2.1).bind fun bt996 => (zbc.j0 k a0 bt989.1 bt989.2 bt996.1 bt996.2)) else (zbc.j0 k a0 bt989.1 bt989.2 t993 0))))
theorem zbc.calls (k : Nat) (a0 : ByteArray) (r1 : List Int) (r2 : List Int) (r3 : Int) (w : World) (hG : Glob w) (h : zbc.f k a0 = some (r1, r2, r3)) :
  Calls Tryd.prog 40 #[.string a0] w fun e w' => ∃ v0_ v1_ : Value, e = .returned (.tuple #[.agg #[v0_, v1_], .int .i64 r3]) ∧ Kd.V (Kd.int .u64) 57 w' w.heap.size (fun k_ => (w.heap.size ≤ k_)) v0_ r1 ∧ Kd.V (Kd.int .u64) 57 w' w.heap.size (fun k_ => (w.heap.size ≤ k_)) v1_ r2 ∧ Below w.heap.size w w' := by
 have hu28 := Tryd.underlying28
 have HG := zA hG
 clear hG
 have HB := zA (Below.refl w.heap.size w)
 have H : ((strings_Cut.f a0 (⟨#[47]⟩ : ByteArray)).bind fun bt986 => ((zcs.f k bt986.1).bind fun bt989 => ((zcn.f k).bind fun t993 => (if bt986.2.2 = true then ((zcs.f k bt986.2.1).bind fun bt996 => (zbc.j0 k a0 bt989.1 bt989.2 bt996.1 bt996.2)) else (zbc.j0 k a0 bt989.1 bt989.2 t993 0))))) = some (r1, r2, r3) := h
 clear h
 replace H := zO H
 obtain ⟨⟨t986, t987, t988⟩, A20, H⟩ := H
 try dsimp only at H
 have A2 := zA A20
 clear A20
 replace H := zO H
 obtain ⟨⟨t989, t992⟩, A30, H⟩ := H
 try dsimp only at H
 have A3 := zA A30
 clear A30
 replace H := zO H
 obtain ⟨t993, A40, H⟩ := H
 try dsimp only at H
 have A4 := zA A40
 clear A40
 have HC5 := zA H
 clear H
 go_enter Tryd.func40, Tryd.ntmps40
 go_upto_if 24 with (first | ((with_reducible refine zbv (N := 2) rfl ?_); (try (refine gate_guard (by rfl) ?_; dsimp only)); refine zb4 ?hg (N := 2) ?hd (cs := #[.slice none 0 0, .slice none 0 0]) (t := 28) ?hr ?_; (case hd => rfl); (case hg => rfl); (case hr => first | (go_simp; done) | (go_simp; rfl)); intro gb985 hg w6 hbox hb; have n0_ := zA (zac (zB HB) hb); have n1_ := zA (hbox); have n2_ := zA ((by rw [hg]; exact (za (zB HB)) : w.heap.size ≤ gb985)); have n3_ := zA ((by rw [hg]; exact (za (zB HB)) : w.heap.size ≤ gb985)); clear HB; have HB := n0_; have BK985 := n1_; have GW985 := n2_; have GE985 := n3_; clear n0_ n1_ n2_ n3_ hb hbox hg) | ((with_reducible refine zae (f := 67) rfl ?_); refine za4 (some 14) rfl rfl Tryd.func67 (by kernel_rfl) rfl #[.string a0, .string (⟨#[47]⟩ : ByteArray)] rfl (zE) ?_; (with_reducible refine (strings_Cut.calls a0 (⟨#[47]⟩ : ByteArray) t986 t987 t988 _ ?side1 A2.out).mono ?_); (case side1 => exact Glob.below HG.out (zB HB)); rintro e w' ⟨rfl, ⟨nd, rfl⟩⟩; refine ⟨_, rfl, ?_⟩) | ((with_reducible refine zae (f := 68) rfl ?_); refine za4 (some 20) rfl rfl Tryd.func68 (by kernel_rfl) rfl #[.string t986] rfl (zE) ?_; (with_reducible refine (zcs.calls k t986 t989 t992 _ A3.out).mono ?_); rintro e w7 ⟨v990, rfl, ho0, hb⟩; refine ⟨_, rfl, ?_⟩; have n0_ := zA (Kd.zbj (Kd.zar (ok' := fun k_ => (w.heap.size ≤ k_) ∧ k_ ≠ gb985) ho0 (fun k_ hk_ => ⟨(Nat.le_trans (za (zB HB)) hk_), (Kd.freshB (g := gb985) (o := .cells #[.slice none 0 0, .slice none 0 0] 28 (0, 0)) (zK BK985) k_ hk_)⟩)) (za (zB HB))); have n1_ := zA (zad (g := gb985) (o := .cells #[.slice none 0 0, .slice none 0 0] 28 (0, 0)) (zK BK985) hb); have n2_ := zA (zac (zB HB) hb); clear BK985 HB; have HO991 := n0_; have BK985 := n1_; have HB := n2_; clear n0_ n1_ n2_; (try clear hb); (try clear hb2); (try clear hk); (try clear hi); (try clear ho0)) | ((with_reducible refine zae (f := 54) rfl ?_); refine za4 (some 23) rfl rfl Tryd.func54 (by kernel_rfl) rfl #[] rfl (zE) ?_; (with_reducible refine (zcn.calls k  t993 _ A4.out).mono ?_); rintro e w8 ⟨v994, rfl, ho0, hb⟩; refine ⟨_, rfl, ?_⟩; have n0_ := zA (Kd.zav (zV HO991) hb); have n1_ := zA (Kd.zbj (Kd.zar (ok' := fun k_ => (w.heap.size ≤ k_) ∧ k_ ≠ gb985) ho0 (fun k_ hk_ => ⟨(Nat.le_trans (za (zB HB)) hk_), (Kd.freshB (g := gb985) (o := .cells #[.slice none 0 0, .slice none 0 0] 28 (0, 0)) (zK BK985) k_ hk_)⟩)) (za (zB HB))); have n2_ := zA (zad (g := gb985) (o := .cells #[.slice none 0 0, .slice none 0 0] 28 (0, 0)) (zK BK985) hb); have n3_ := zA (zac (zB HB) hb); clear HO991 BK985 HB; have HO991 := n0_; have HO995 := n1_; have BK985 := n2_; have HB := n3_; clear n0_ n1_ n2_ n3_; (try clear hb); (try clear hb2); (try clear hk); (try clear hi); (try clear ho0)))
 (try simp only [Act.put, zs1, zs2, zs3])
 go_cut [9, 10] (fun v9 v10 wc => ∃ (kq : Nat) (x9_4 : List Int) (x10_4 : Int), v10 = .int .i64 x10_4 ∧ Aside0 (zbc.j0 kq a0 t989 t992 x9_4 x10_4 = some (r1, r2, r3)) ∧ Aside0 (kq ≤ k) ∧ Aside0 (Kd.V (Kd.int .u64) 57 wc w.heap.size (fun k_ => (w.heap.size ≤ k_) ∧ k_ ≠ gb985) v990 t989) ∧ Aside0 (Kd.V (Kd.int .u64) 57 wc w.heap.size (fun k_ => (w.heap.size ≤ k_) ∧ k_ ≠ gb985) v9 x9_4) ∧ Aside0 (wc.heap[gb985]? = some (.cells #[(.slice none 0 0), (.slice none 0 0)] 28 (0, 0))) ∧ Aside0 (Below w.heap.size w wc))
 case first =>
  have H := HC5.out
  clear HC5
  by_cases c9 : t988 = true
  ·
   subst c9
   rw [if_pos rfl] at H
   replace H := zO H
   obtain ⟨⟨t996, t999⟩, A100, H⟩ := H
   try dsimp only at H
   have A10 := zA A100
   clear A100
   have H' := zA H
   clear H
   go_wp2_with (first | ((with_reducible refine zae (f := 68) rfl ?_); refine za4 (some 27) rfl rfl Tryd.func68 (by kernel_rfl) rfl #[.string t987] rfl (zE) ?_; (with_reducible refine (zcs.calls k t987 t996 t999 _ A10.out).mono ?_); rintro e w11 ⟨v997, rfl, ho0, hb⟩; refine ⟨_, rfl, ?_⟩; have n0_ := zA (Kd.zav (zV HO991) hb); have n1_ := zA (Kd.zav (zV HO995) hb); have n2_ := zA (Kd.zbj (Kd.zar (ok' := fun k_ => (w.heap.size ≤ k_) ∧ k_ ≠ gb985) ho0 (fun k_ hk_ => ⟨(Nat.le_trans (za (zB HB)) hk_), (Kd.freshB (g := gb985) (o := .cells #[.slice none 0 0, .slice none 0 0] 28 (0, 0)) (zK BK985) k_ hk_)⟩)) (za (zB HB))); have n3_ := zA (zad (g := gb985) (o := .cells #[.slice none 0 0, .slice none 0 0] 28 (0, 0)) (zK BK985) hb); have n4_ := zA (zac (zB HB) hb); clear HO991 HO995 BK985 HB; have HO991 := n0_; have HO995 := n1_; have HO998 := n2_; have BK985 := n3_; have HB := n4_; clear n0_ n1_ n2_ n3_ n4_; (try clear hb); (try clear hb2); (try clear hk); (try clear hi); (try clear ho0)))
   go_meet
   case rel => exact ⟨_, (t996), (t999), (zF), H', ⟨by first | omega | exact Nat.le_refl _⟩, ⟨zV HO991⟩, ⟨zV HO998⟩, ⟨zK BK985⟩, ⟨zB HB⟩⟩
  ·
   replace c9 := Bool.eq_false_iff.mpr c9
   subst c9
   rw [if_neg (show ¬ (false = true) by decide)] at H
   have H' := zA H
   clear H
   go_wp2
   go_meet
   case rel => exact ⟨_, (t993), (0), (zF), H', ⟨by first | omega | exact Nat.le_refl _⟩, ⟨zV HO991⟩, ⟨zV HO995⟩, ⟨zK BK985⟩, ⟨zB HB⟩⟩
 case rest =>
  clear HC5
  try clear p2
  try clear c4
  try clear c5
  try clear c6
  try clear p6
  try clear c9
  obtain ⟨kq, x9_4, x10_4, rfl, HA, HJ4, HO_7, HO_9, BK985, HB⟩ := hcut
  cases kq with
  | zero => exact absurd HA.out (by simp [zbc.j0])
  | succ kj4 =>
   have H := HA.out
   clear HA
   simp only [zbc.j0] at H
   have HC12 := zA H
   clear H
   go_upto_region 7 with (fail)
   go_cut [40] (fun v40 wc => ∃ (kq : Nat) (x40_11 : Bool), v40 = .bool x40_11 ∧ Aside0 (zbc.j1 kq a0 t989 x9_4 x40_11 = some (r1, r2, r3)) ∧ Aside0 (kq ≤ kj4) ∧ Aside0 (Kd.V (Kd.int .u64) 57 wc w.heap.size (fun k_ => (w.heap.size ≤ k_) ∧ k_ ≠ gb985) v990 t989) ∧ Aside0 (Kd.V (Kd.int .u64) 57 wc w.heap.size (fun k_ => (w.heap.size ≤ k_) ∧ k_ ≠ gb985) u9 x9_4) ∧ Aside0 (wc.heap[gb985]? = some (.cells #[(.slice none 0 0), (.slice none 0 0)] 28 (0, 0))) ∧ Aside0 (Below w.heap.size w wc))
   case first =>
    have H := HC12.out
    clear HC12
    by_cases c13 : t992 = 0
    ·
     rw [if_pos c13] at H
     have c13b0 : (t992 == 0) = true := beq_iff_eq.mpr c13
     have c13b1 : (t992 != 0) = false := bne_eq_false_iff_eq.mpr c13
     clear c13
     (first | rw [c13b0] | (simp only [i64_w, i32_w]; rw [c13b0]) | skip)
     by_cases c14 : x10_4 = 0
     ·
      rw [if_pos c14] at H
      have c14b0 : (x10_4 == 0) = true := beq_iff_eq.mpr c14
      have c14b1 : (x10_4 != 0) = false := bne_eq_false_iff_eq.mpr c14
      clear c14
      have H' := zA H
      clear H
      obtain ⟨Ao15, co15, eo15⟩ := Kd.zbd HO_9.out
      subst eo15
      go_wp2
      go_meet
      case rel => exact ⟨_, (((x9_4.length : Int) == 0)), (zF), H', ⟨by have := HJ4.out; first | omega | exact Nat.le_refl _⟩, ⟨zV HO_7⟩, ⟨zV HO_9⟩, ⟨zK BK985⟩, ⟨zB HB⟩⟩
     ·
      rw [if_neg c14] at H
      have c14b0 : (x10_4 == 0) = false := beq_eq_false_iff_ne.mpr c14
      have c14b1 : (x10_4 != 0) = true := bne_iff_ne.mpr c14
      have H' := zA H
      clear H
      go_wp2
      go_meet
      case rel => exact ⟨_, (true), (zF), H', ⟨by have := HJ4.out; first | omega | exact Nat.le_refl _⟩, ⟨zV HO_7⟩, ⟨zV HO_9⟩, ⟨zK BK985⟩, ⟨zB HB⟩⟩
    ·
     rw [if_neg c13] at H
     have c13b0 : (t992 == 0) = false := beq_eq_false_iff_ne.mpr c13
     have c13b1 : (t992 != 0) = true := bne_iff_ne.mpr c13
     (first | rw [c13b0] | (simp only [i64_w, i32_w]; rw [c13b0]) | skip)
     have H' := zA H
     clear H
     go_wp2
     go_meet
     case rel => exact ⟨_, (true), (zF), H', ⟨by have := HJ4.out; first | omega | exact Nat.le_refl _⟩, ⟨zV HO_7⟩, ⟨zV HO_9⟩, ⟨zK BK985⟩, ⟨zB HB⟩⟩
   case rest =>
    clear HC12
    try clear c1
    try clear p2
    try clear c4
    try clear c5
    try clear c6
    try clear p6
    try clear c9
    try clear c13
    try clear c13b0
    try clear c13b1
    try clear c14
    try clear c14b0
    try clear c14b1
    try clear p2
    try clear p6
    obtain ⟨kq, x40_11, rfl, HA, HJ11, HO_7, HO_9, BK985, HB⟩ := hcut
    cases kq with
    | zero => exact absurd HA.out (by simp [zbc.j1])
    | succ kj11 =>
     have H := HA.out
     clear HA
     simp only [zbc.j1] at H
     by_cases c16 : x40_11 = true
     ·
      subst c16
      rw [if_pos rfl] at H
      simp only [Option.some.injEq, Prod.mk.injEq] at H
      obtain ⟨rfl, rfl, rfl⟩ := H
      have hcz17_0 : wc.cell? ⟨gb985, 0, none⟩ = some (.slice none 0 0) := (zab BK985.out 0).trans rfl
      have hcz17_1 : wc.cell? ⟨gb985, 1, none⟩ = some (.slice none 0 0) := (zab BK985.out 1).trans rfl
      have hfz17_0 := zao BK985.out 0
      have hfz17_1 := zao BK985.out 1
      go_wp2
      refine bodyPost_ret (results_ct rfl _ _ gb985 28 #[.slice none 0 0, .slice none 0 0] (0, 0) _ rfl (by (with_reducible repeat (first | refine zaj ?_ _ | refine zak ?_ | refine zai ?_ _)); refine zbz (cs := #[.slice none 0 0, .slice none 0 0]) ?_ 1 _ rfl; (with_reducible repeat (first | refine zaj ?_ _ | refine zak ?_ | refine zai ?_ _)); refine zbz (cs := #[.slice none 0 0, .slice none 0 0]) ?_ 0 _ rfl; (with_reducible repeat (first | refine zaj ?_ _ | refine zak ?_ | refine zai ?_ _)); exact BK985.out) Tryd.underlying28 rfl (by kernel_rfl)) rfl ?_
      exact ⟨_, _, zW, Kd.V_nil _ _ _ _ _, Kd.V_nil _ _ _ _ _, zB HB⟩
     ·
      replace c16 := Bool.eq_false_iff.mpr c16
      subst c16
      rw [if_neg (show ¬ (false = true) by decide)] at H
      replace H := zO H
      obtain ⟨⟨t1000, t1003⟩, A180, H⟩ := H
      try dsimp only at H
      have A18 := zA A180
      clear A180
      replace H := zO H
      obtain ⟨t1007, A190, H⟩ := H
      try dsimp only at H
      have A19 := zA A190
      clear A190
      by_cases c20 : t1007.toList = a0.toList
      ·
       rw [if_pos c20] at H
       have c20b0 : (t1007.toList == a0.toList) = true := beq_iff_eq.mpr c20
       have c20b1 : (t1007.toList != a0.toList) = false := bne_eq_false_iff_eq.mpr c20
       clear c20
       simp only [Option.some.injEq, Prod.mk.injEq] at H
       obtain ⟨rfl, rfl, rfl⟩ := H
       obtain ⟨Ao21, co21, eo21⟩ := Kd.zbd HO_7.out
       subst eo21
       obtain ⟨Ao22, co22, eo22⟩ := Kd.zbd HO_9.out
       subst eo22
       go_wp2_with (first | ((with_reducible refine zae (f := 58) rfl ?_); refine za4 (some 44) rfl rfl Tryd.func58 (by kernel_rfl) rfl #[.slice Ao21 t989.length co21, .slice Ao22 x9_4.length co22] rfl (zE) ?_; (with_reducible refine (zca.calls kj11 _ _ t989 _ _ x9_4 t1000 t1003 _ ?side1 ?side2 ?side3 ?side4 A18.out).mono ?_); (case side1 => exact zJ (Kd.zaw HO_7.out).2.2); (case side2 => exact (Kd.zaw HO_7.out).2.1); (case side3 => exact zJ (Kd.zaw HO_9.out).2.2); (case side4 => exact (Kd.zaw HO_9.out).2.1); rintro e w23 ⟨v1001, v1004, rfl, ho0, ho1, hb⟩; refine ⟨_, rfl, ?_⟩; have n0_ := zA (Kd.zav (zV HO_7) hb); have n1_ := zA (Kd.zav (zV HO_9) hb); have n2_ := zA (Kd.zbj (Kd.zar (ok' := fun k_ => (w.heap.size ≤ k_) ∧ k_ ≠ gb985) ho0 (fun k_ hk_ => ⟨(Nat.le_trans (za (zB HB)) hk_), (Kd.freshB (g := gb985) (o := .cells #[.slice none 0 0, .slice none 0 0] 28 (0, 0)) (zK BK985) k_ hk_)⟩)) (za (zB HB))); have n3_ := zA (Kd.zbj (Kd.zar (ok' := fun k_ => (w.heap.size ≤ k_) ∧ k_ ≠ gb985) ho1 (fun k_ hk_ => ⟨(Nat.le_trans (za (zB HB)) hk_), (Kd.freshB (g := gb985) (o := .cells #[.slice none 0 0, .slice none 0 0] 28 (0, 0)) (zK BK985) k_ hk_)⟩)) (za (zB HB))); have n4_ := zA (zad (g := gb985) (o := .cells #[.slice none 0 0, .slice none 0 0] 28 (0, 0)) (zK BK985) hb); have n5_ := zA (zac (zB HB) hb); clear HO_7 HO_9 BK985 HB; have HO_7 := n0_; have HO_9 := n1_; have HO1002 := n2_; have HO1005 := n3_; have BK985 := n4_; have HB := n5_; clear n0_ n1_ n2_ n3_ n4_ n5_; (try clear hb); (try clear hb2); (try clear hk); (try clear hi); (try clear ho0); (try clear ho1)) | ((with_reducible refine zbv (N := 11) rfl ?_); (try (refine gate_guard (by rfl) ?_; dsimp only)); refine zb4 ?hg (N := 11) ?hd (cs := #[.slice none 0 0, .slice none 0 0]) (t := 28) ?hr ?_; (case hd => rfl); (case hg => rfl); (case hr => first | (go_simp; done) | (go_simp; rfl)); intro gb1006 hg w24 hbox hb; have n0_ := zA (Kd.zav (Kd.zb7 (zV HO_7) gb1006 (Nat.le_of_eq hg.symm)) hb); have n1_ := zA (Kd.zav (Kd.zb7 (zV HO_9) gb1006 (Nat.le_of_eq hg.symm)) hb); have n2_ := zA (Kd.zav (Kd.zb7 (zV HO1002) gb1006 (Nat.le_of_eq hg.symm)) hb); have n3_ := zA (Kd.zav (Kd.zb7 (zV HO1005) gb1006 (Nat.le_of_eq hg.symm)) hb); have n4_ := zA (zad (g := gb985) (o := .cells #[.slice none 0 0, .slice none 0 0] 28 (0, 0)) (zK BK985) hb); have n5_ := zA (zac (zB HB) hb); have n6_ := zA (hbox); have n7_ := zA ((by rw [hg]; exact (za (zB HB)) : w.heap.size ≤ gb1006)); have n8_ := zA ((by rw [hg]; exact (za (zB HB)) : w.heap.size ≤ gb1006)); have n9_ := zA ((by rw [hg]; exact Nat.ne_of_lt (za9 (g := gb985) (o := .cells #[.slice none 0 0, .slice none 0 0] 28 (0, 0)) (zK BK985)) : gb985 ≠ gb1006)); have n10_ := zA ((by rw [hg]; exact Nat.ne_of_gt (za9 (g := gb985) (o := .cells #[.slice none 0 0, .slice none 0 0] 28 (0, 0)) (zK BK985)) : gb1006 ≠ gb985)); clear HO_7 HO_9 HO1002 HO1005 BK985 HB; have HO_7 := n0_; have HO_9 := n1_; have HO1002 := n2_; have HO1005 := n3_; have BK985 := n4_; have HB := n5_; have BK1006 := n6_; have GW1006 := n7_; have GE1006 := n8_; have NB985_1006 := n9_; have NB1006_985 := n10_; clear n0_ n1_ n2_ n3_ n4_ n5_ n6_ n7_ n8_ n9_ n10_ hb hbox hg; obtain ⟨Ao25, co25, eo25⟩ := Kd.zbd HO1002.out; subst eo25; have hnb26 := NB1006_985.out; have hnc26 := NB985_1006.out; have hcz27_0 : w24.cell? ⟨gb1006, 0, none⟩ = some (.slice none 0 0) := (zab BK1006.out 0).trans rfl; have hcz27_1 : w24.cell? ⟨gb1006, 1, none⟩ = some (.slice none 0 0) := (zab BK1006.out 1).trans rfl; have hfz27_0 := zao BK1006.out 0; have hfz27_1 := zao BK1006.out 1; obtain ⟨Ao28, co28, eo28⟩ := Kd.zbd HO1005.out; subst eo28) | ((with_reducible refine zae (f := 41) rfl ?_); refine za4 (some 46) rfl rfl Tryd.func41 (by kernel_rfl) rfl #[.agg #[.slice Ao25 t1000.length co25, .slice Ao28 t1003.length co28]] rfl (zE) ?_; (with_reducible refine (za2.calls kj11 _ _ t1000 _ _ t1003 t1007 _ ?side1 ?side2 ?side3 ?side4 ?side5 A19.out).mono ?_); (case side1 => refine (Kd.zaw (e := 57) (base := w.heap.size) (ok := fun k_ => (((w.heap.size ≤ k_) ∧ k_ ≠ gb985) ∧ k_ ≠ gb1006)) (n := t1000.length) (c := co25) ?_).2.2; exact (by (with_reducible repeat (first | apply Kd.zbh | apply Kd.zbg | apply Kd.zbs)); exact (Kd.zar (Kd.V_far (p := ⟨gb1006, 1, none⟩) (Kd.V_far (p := ⟨gb1006, 0, none⟩) (Kd.zar HO1002.out (fun k_ hk => (⟨hk, hk.2⟩ : _ ∧ k_ ≠ gb1006))) (fun _ hk => hk.2) (.slice Ao25 t1000.length co25)) (fun _ hk => hk.2) (.slice Ao28 t1003.length co28)) (fun _ h_ => h_.1)))); (case side2 => exact (Kd.zaw HO1002.out).2.1); (case side3 => refine (Kd.zaw (e := 57) (base := w.heap.size) (ok := fun k_ => (((w.heap.size ≤ k_) ∧ k_ ≠ gb985) ∧ k_ ≠ gb1006)) (n := t1003.length) (c := co28) ?_).2.2; exact (by (with_reducible repeat (first | apply Kd.zbh | apply Kd.zbg | apply Kd.zbs)); exact (Kd.zar (Kd.V_far (p := ⟨gb1006, 1, none⟩) (Kd.V_far (p := ⟨gb1006, 0, none⟩) (Kd.zar HO1005.out (fun k_ hk => (⟨hk, hk.2⟩ : _ ∧ k_ ≠ gb1006))) (fun _ hk => hk.2) (.slice Ao25 t1000.length co25)) (fun _ hk => hk.2) (.slice Ao28 t1003.length co28)) (fun _ h_ => h_.1)))); (case side4 => exact (Kd.zaw HO1005.out).2.1); (case side5 => exact Glob.below HG.out (zB HB)); rintro e w29 ⟨rfl, hb⟩; refine ⟨_, rfl, ?_⟩; have n0_ := zA (Kd.zav (by (with_reducible repeat (first | apply Kd.zbh | apply Kd.zbg | apply Kd.zbs)); exact (Kd.zar (Kd.V_far (p := ⟨gb1006, 1, none⟩) (Kd.V_far (p := ⟨gb1006, 0, none⟩) (Kd.zar HO_7.out (fun k_ hk => (⟨hk, hk.2⟩ : _ ∧ k_ ≠ gb1006))) (fun _ hk => hk.2) (.slice Ao25 t1000.length co25)) (fun _ hk => hk.2) (.slice Ao28 t1003.length co28)) (fun _ h_ => h_.1))) hb); have n1_ := zA (Kd.zav (by (with_reducible repeat (first | apply Kd.zbh | apply Kd.zbg | apply Kd.zbs)); exact (Kd.zar (Kd.V_far (p := ⟨gb1006, 1, none⟩) (Kd.V_far (p := ⟨gb1006, 0, none⟩) (Kd.zar HO_9.out (fun k_ hk => (⟨hk, hk.2⟩ : _ ∧ k_ ≠ gb1006))) (fun _ hk => hk.2) (.slice Ao25 t1000.length co25)) (fun _ hk => hk.2) (.slice Ao28 t1003.length co28)) (fun _ h_ => h_.1))) hb); have n2_ := zA (Kd.zav (by (with_reducible repeat (first | apply Kd.zbh | apply Kd.zbg | apply Kd.zbs)); exact (Kd.zar (Kd.V_far (p := ⟨gb1006, 1, none⟩) (Kd.V_far (p := ⟨gb1006, 0, none⟩) (Kd.zar HO1002.out (fun k_ hk => (⟨hk, hk.2⟩ : _ ∧ k_ ≠ gb1006))) (fun _ hk => hk.2) (.slice Ao25 t1000.length co25)) (fun _ hk => hk.2) (.slice Ao28 t1003.length co28)) (fun _ h_ => h_.1))) hb); have n3_ := zA (Kd.zav (by (with_reducible repeat (first | apply Kd.zbh | apply Kd.zbg | apply Kd.zbs)); exact (Kd.zar (Kd.V_far (p := ⟨gb1006, 1, none⟩) (Kd.V_far (p := ⟨gb1006, 0, none⟩) (Kd.zar HO1005.out (fun k_ hk => (⟨hk, hk.2⟩ : _ ∧ k_ ≠ gb1006))) (fun _ hk => hk.2) (.slice Ao25 t1000.length co25)) (fun _ hk => hk.2) (.slice Ao28 t1003.length co28)) (fun _ h_ => h_.1))) hb); have n4_ := zA (zad (g := gb985) (o := .cells #[.slice none 0 0, .slice none 0 0] 28 (0, 0)) (by (with_reducible repeat (first | refine zaj ?_ _ | refine zak ?_ | refine zai ?_ _)); refine zb3 ?_ NB985_1006.out _; (with_reducible repeat (first | refine zaj ?_ _ | refine zak ?_ | refine zai ?_ _)); refine zb3 ?_ NB985_1006.out _; (with_reducible repeat (first | refine zaj ?_ _ | refine zak ?_ | refine zai ?_ _)); exact BK985.out) hb); have n5_ := zA (zad (g := gb1006) (o := .cells #[.slice Ao25 t1000.length co25, .slice Ao28 t1003.length co28] 28 (0, 0)) (by (with_reducible repeat (first | refine zaj ?_ _ | refine zak ?_ | refine zai ?_ _)); refine zbz (cs := #[.slice Ao25 t1000.length co25, .slice none 0 0]) ?_ 1 _ rfl; (with_reducible repeat (first | refine zaj ?_ _ | refine zak ?_ | refine zai ?_ _)); refine zbz (cs := #[.slice none 0 0, .slice none 0 0]) ?_ 0 _ rfl; (with_reducible repeat (first | refine zaj ?_ _ | refine zak ?_ | refine zai ?_ _)); exact BK1006.out) hb); have n6_ := zA (zac (zB HB) hb); clear HO_7 HO_9 HO1002 HO1005 BK985 BK1006 HB; have HO_7 := n0_; have HO_9 := n1_; have HO1002 := n2_; have HO1005 := n3_; have BK985 := n4_; have BK1006 := n5_; have HB := n6_; clear n0_ n1_ n2_ n3_ n4_ n5_ n6_; (try clear hb); (try clear hb2); (try clear hk); (try clear hi); have hcz30_0 : w29.cell? ⟨gb1006, 0, none⟩ = some (.slice Ao25 t1000.length co25) := (zab BK1006.out 0).trans rfl; have hcz30_1 : w29.cell? ⟨gb1006, 1, none⟩ = some (.slice Ao28 t1003.length co28) := (zab BK1006.out 1).trans rfl; have hfz30_0 := zao BK1006.out 0; have hfz30_1 := zao BK1006.out 1; have hcz31_0 : w29.cell? ⟨gb985, 0, none⟩ = some (.slice none 0 0) := (zab BK985.out 0).trans rfl; have hcz31_1 : w29.cell? ⟨gb985, 1, none⟩ = some (.slice none 0 0) := (zab BK985.out 1).trans rfl; have hfz31_0 := zao BK985.out 0; have hfz31_1 := zao BK985.out 1))
       refine bodyPost_ret (results_ct rfl _ _ gb985 28 #[.slice Ao25 t1000.length co25, .slice Ao28 t1003.length co28] (0, 0) _ rfl (by (with_reducible repeat (first | refine zaj ?_ _ | refine zak ?_ | refine zai ?_ _)); refine zbz (cs := #[.slice Ao25 t1000.length co25, .slice none 0 0]) ?_ 1 _ rfl; (with_reducible repeat (first | refine zaj ?_ _ | refine zak ?_ | refine zai ?_ _)); refine zbz (cs := #[.slice none 0 0, .slice none 0 0]) ?_ 0 _ rfl; (with_reducible repeat (first | refine zaj ?_ _ | refine zak ?_ | refine zai ?_ _)); exact BK985.out) Tryd.underlying28 rfl (by kernel_rfl)) rfl ?_
       exact ⟨_, _, zW, by (with_reducible repeat (first | apply Kd.zbh | apply Kd.zbg | apply Kd.zbs)); exact Kd.zar (Kd.V_far (p := ⟨gb985, 1, none⟩) (Kd.V_far (p := ⟨gb985, 0, none⟩) (Kd.zar HO1002.out (fun k_ hk => (⟨hk, hk.1.2⟩ : _ ∧ k_ ≠ gb985))) (fun _ hk => hk.2) (.slice Ao25 t1000.length co25)) (fun _ hk => hk.2) (.slice Ao28 t1003.length co28)) (fun _ hk => hk.1.1.1), by (with_reducible repeat (first | apply Kd.zbh | apply Kd.zbg | apply Kd.zbs)); exact Kd.zar (Kd.V_far (p := ⟨gb985, 1, none⟩) (Kd.V_far (p := ⟨gb985, 0, none⟩) (Kd.zar HO1005.out (fun k_ hk => (⟨hk, hk.1.2⟩ : _ ∧ k_ ≠ gb985))) (fun _ hk => hk.2) (.slice Ao25 t1000.length co25)) (fun _ hk => hk.2) (.slice Ao28 t1003.length co28)) (fun _ hk => hk.1.1.1), zB HB⟩
      ·
       rw [if_neg c20] at H
       have c20b0 : (t1007.toList == a0.toList) = false := beq_eq_false_iff_ne.mpr c20
       have c20b1 : (t1007.toList != a0.toList) = true := bne_iff_ne.mpr c20
       simp only [Option.some.injEq, Prod.mk.injEq] at H
       obtain ⟨rfl, rfl, rfl⟩ := H
       obtain ⟨Ao32, co32, eo32⟩ := Kd.zbd HO_7.out
       subst eo32
       obtain ⟨Ao33, co33, eo33⟩ := Kd.zbd HO_9.out
       subst eo33
       go_wp2_with (first | ((with_reducible refine zae (f := 58) rfl ?_); refine za4 (some 44) rfl rfl Tryd.func58 (by kernel_rfl) rfl #[.slice Ao32 t989.length co32, .slice Ao33 x9_4.length co33] rfl (zE) ?_; (with_reducible refine (zca.calls kj11 _ _ t989 _ _ x9_4 t1000 t1003 _ ?side1 ?side2 ?side3 ?side4 A18.out).mono ?_); (case side1 => exact zJ (Kd.zaw HO_7.out).2.2); (case side2 => exact (Kd.zaw HO_7.out).2.1); (case side3 => exact zJ (Kd.zaw HO_9.out).2.2); (case side4 => exact (Kd.zaw HO_9.out).2.1); rintro e w34 ⟨v1001, v1004, rfl, ho0, ho1, hb⟩; refine ⟨_, rfl, ?_⟩; have n0_ := zA (Kd.zav (zV HO_7) hb); have n1_ := zA (Kd.zav (zV HO_9) hb); have n2_ := zA (Kd.zbj (Kd.zar (ok' := fun k_ => (w.heap.size ≤ k_) ∧ k_ ≠ gb985) ho0 (fun k_ hk_ => ⟨(Nat.le_trans (za (zB HB)) hk_), (Kd.freshB (g := gb985) (o := .cells #[.slice none 0 0, .slice none 0 0] 28 (0, 0)) (zK BK985) k_ hk_)⟩)) (za (zB HB))); have n3_ := zA (Kd.zbj (Kd.zar (ok' := fun k_ => (w.heap.size ≤ k_) ∧ k_ ≠ gb985) ho1 (fun k_ hk_ => ⟨(Nat.le_trans (za (zB HB)) hk_), (Kd.freshB (g := gb985) (o := .cells #[.slice none 0 0, .slice none 0 0] 28 (0, 0)) (zK BK985) k_ hk_)⟩)) (za (zB HB))); have n4_ := zA (zad (g := gb985) (o := .cells #[.slice none 0 0, .slice none 0 0] 28 (0, 0)) (zK BK985) hb); have n5_ := zA (zac (zB HB) hb); clear HO_7 HO_9 BK985 HB; have HO_7 := n0_; have HO_9 := n1_; have HO1002 := n2_; have HO1005 := n3_; have BK985 := n4_; have HB := n5_; clear n0_ n1_ n2_ n3_ n4_ n5_; (try clear hb); (try clear hb2); (try clear hk); (try clear hi); (try clear ho0); (try clear ho1)) | ((with_reducible refine zbv (N := 11) rfl ?_); (try (refine gate_guard (by rfl) ?_; dsimp only)); refine zb4 ?hg (N := 11) ?hd (cs := #[.slice none 0 0, .slice none 0 0]) (t := 28) ?hr ?_; (case hd => rfl); (case hg => rfl); (case hr => first | (go_simp; done) | (go_simp; rfl)); intro gb1006 hg w35 hbox hb; have n0_ := zA (Kd.zav (Kd.zb7 (zV HO_7) gb1006 (Nat.le_of_eq hg.symm)) hb); have n1_ := zA (Kd.zav (Kd.zb7 (zV HO_9) gb1006 (Nat.le_of_eq hg.symm)) hb); have n2_ := zA (Kd.zav (Kd.zb7 (zV HO1002) gb1006 (Nat.le_of_eq hg.symm)) hb); have n3_ := zA (Kd.zav (Kd.zb7 (zV HO1005) gb1006 (Nat.le_of_eq hg.symm)) hb); have n4_ := zA (zad (g := gb985) (o := .cells #[.slice none 0 0, .slice none 0 0] 28 (0, 0)) (zK BK985) hb); have n5_ := zA (zac (zB HB) hb); have n6_ := zA (hbox); have n7_ := zA ((by rw [hg]; exact (za (zB HB)) : w.heap.size ≤ gb1006)); have n8_ := zA ((by rw [hg]; exact (za (zB HB)) : w.heap.size ≤ gb1006)); have n9_ := zA ((by rw [hg]; exact Nat.ne_of_lt (za9 (g := gb985) (o := .cells #[.slice none 0 0, .slice none 0 0] 28 (0, 0)) (zK BK985)) : gb985 ≠ gb1006)); have n10_ := zA ((by rw [hg]; exact Nat.ne_of_gt (za9 (g := gb985) (o := .cells #[.slice none 0 0, .slice none 0 0] 28 (0, 0)) (zK BK985)) : gb1006 ≠ gb985)); clear HO_7 HO_9 HO1002 HO1005 BK985 HB; have HO_7 := n0_; have HO_9 := n1_; have HO1002 := n2_; have HO1005 := n3_; have BK985 := n4_; have HB := n5_; have BK1006 := n6_; have GW1006 := n7_; have GE1006 := n8_; have NB985_1006 := n9_; have NB1006_985 := n10_; clear n0_ n1_ n2_ n3_ n4_ n5_ n6_ n7_ n8_ n9_ n10_ hb hbox hg; obtain ⟨Ao36, co36, eo36⟩ := Kd.zbd HO1002.out; subst eo36; have hnb37 := NB1006_985.out; have hnc37 := NB985_1006.out; have hcz38_0 : w35.cell? ⟨gb1006, 0, none⟩ = some (.slice none 0 0) := (zab BK1006.out 0).trans rfl; have hcz38_1 : w35.cell? ⟨gb1006, 1, none⟩ = some (.slice none 0 0) := (zab BK1006.out 1).trans rfl; have hfz38_0 := zao BK1006.out 0; have hfz38_1 := zao BK1006.out 1; obtain ⟨Ao39, co39, eo39⟩ := Kd.zbd HO1005.out; subst eo39) | ((with_reducible refine zae (f := 41) rfl ?_); refine za4 (some 46) rfl rfl Tryd.func41 (by kernel_rfl) rfl #[.agg #[.slice Ao36 t1000.length co36, .slice Ao39 t1003.length co39]] rfl (zE) ?_; (with_reducible refine (za2.calls kj11 _ _ t1000 _ _ t1003 t1007 _ ?side1 ?side2 ?side3 ?side4 ?side5 A19.out).mono ?_); (case side1 => refine (Kd.zaw (e := 57) (base := w.heap.size) (ok := fun k_ => (((w.heap.size ≤ k_) ∧ k_ ≠ gb985) ∧ k_ ≠ gb1006)) (n := t1000.length) (c := co36) ?_).2.2; exact (by (with_reducible repeat (first | apply Kd.zbh | apply Kd.zbg | apply Kd.zbs)); exact (Kd.zar (Kd.V_far (p := ⟨gb1006, 1, none⟩) (Kd.V_far (p := ⟨gb1006, 0, none⟩) (Kd.zar HO1002.out (fun k_ hk => (⟨hk, hk.2⟩ : _ ∧ k_ ≠ gb1006))) (fun _ hk => hk.2) (.slice Ao36 t1000.length co36)) (fun _ hk => hk.2) (.slice Ao39 t1003.length co39)) (fun _ h_ => h_.1)))); (case side2 => exact (Kd.zaw HO1002.out).2.1); (case side3 => refine (Kd.zaw (e := 57) (base := w.heap.size) (ok := fun k_ => (((w.heap.size ≤ k_) ∧ k_ ≠ gb985) ∧ k_ ≠ gb1006)) (n := t1003.length) (c := co39) ?_).2.2; exact (by (with_reducible repeat (first | apply Kd.zbh | apply Kd.zbg | apply Kd.zbs)); exact (Kd.zar (Kd.V_far (p := ⟨gb1006, 1, none⟩) (Kd.V_far (p := ⟨gb1006, 0, none⟩) (Kd.zar HO1005.out (fun k_ hk => (⟨hk, hk.2⟩ : _ ∧ k_ ≠ gb1006))) (fun _ hk => hk.2) (.slice Ao36 t1000.length co36)) (fun _ hk => hk.2) (.slice Ao39 t1003.length co39)) (fun _ h_ => h_.1)))); (case side4 => exact (Kd.zaw HO1005.out).2.1); (case side5 => exact Glob.below HG.out (zB HB)); rintro e w40 ⟨rfl, hb⟩; refine ⟨_, rfl, ?_⟩; have n0_ := zA (Kd.zav (by (with_reducible repeat (first | apply Kd.zbh | apply Kd.zbg | apply Kd.zbs)); exact (Kd.zar (Kd.V_far (p := ⟨gb1006, 1, none⟩) (Kd.V_far (p := ⟨gb1006, 0, none⟩) (Kd.zar HO_7.out (fun k_ hk => (⟨hk, hk.2⟩ : _ ∧ k_ ≠ gb1006))) (fun _ hk => hk.2) (.slice Ao36 t1000.length co36)) (fun _ hk => hk.2) (.slice Ao39 t1003.length co39)) (fun _ h_ => h_.1))) hb); have n1_ := zA (Kd.zav (by (with_reducible repeat (first | apply Kd.zbh | apply Kd.zbg | apply Kd.zbs)); exact (Kd.zar (Kd.V_far (p := ⟨gb1006, 1, none⟩) (Kd.V_far (p := ⟨gb1006, 0, none⟩) (Kd.zar HO_9.out (fun k_ hk => (⟨hk, hk.2⟩ : _ ∧ k_ ≠ gb1006))) (fun _ hk => hk.2) (.slice Ao36 t1000.length co36)) (fun _ hk => hk.2) (.slice Ao39 t1003.length co39)) (fun _ h_ => h_.1))) hb); have n2_ := zA (Kd.zav (by (with_reducible repeat (first | apply Kd.zbh | apply Kd.zbg | apply Kd.zbs)); exact (Kd.zar (Kd.V_far (p := ⟨gb1006, 1, none⟩) (Kd.V_far (p := ⟨gb1006, 0, none⟩) (Kd.zar HO1002.out (fun k_ hk => (⟨hk, hk.2⟩ : _ ∧ k_ ≠ gb1006))) (fun _ hk => hk.2) (.slice Ao36 t1000.length co36)) (fun _ hk => hk.2) (.slice Ao39 t1003.length co39)) (fun _ h_ => h_.1))) hb); have n3_ := zA (Kd.zav (by (with_reducible repeat (first | apply Kd.zbh | apply Kd.zbg | apply Kd.zbs)); exact (Kd.zar (Kd.V_far (p := ⟨gb1006, 1, none⟩) (Kd.V_far (p := ⟨gb1006, 0, none⟩) (Kd.zar HO1005.out (fun k_ hk => (⟨hk, hk.2⟩ : _ ∧ k_ ≠ gb1006))) (fun _ hk => hk.2) (.slice Ao36 t1000.length co36)) (fun _ hk => hk.2) (.slice Ao39 t1003.length co39)) (fun _ h_ => h_.1))) hb); have n4_ := zA (zad (g := gb985) (o := .cells #[.slice none 0 0, .slice none 0 0] 28 (0, 0)) (by (with_reducible repeat (first | refine zaj ?_ _ | refine zak ?_ | refine zai ?_ _)); refine zb3 ?_ NB985_1006.out _; (with_reducible repeat (first | refine zaj ?_ _ | refine zak ?_ | refine zai ?_ _)); refine zb3 ?_ NB985_1006.out _; (with_reducible repeat (first | refine zaj ?_ _ | refine zak ?_ | refine zai ?_ _)); exact BK985.out) hb); have n5_ := zA (zad (g := gb1006) (o := .cells #[.slice Ao36 t1000.length co36, .slice Ao39 t1003.length co39] 28 (0, 0)) (by (with_reducible repeat (first | refine zaj ?_ _ | refine zak ?_ | refine zai ?_ _)); refine zbz (cs := #[.slice Ao36 t1000.length co36, .slice none 0 0]) ?_ 1 _ rfl; (with_reducible repeat (first | refine zaj ?_ _ | refine zak ?_ | refine zai ?_ _)); refine zbz (cs := #[.slice none 0 0, .slice none 0 0]) ?_ 0 _ rfl; (with_reducible repeat (first | refine zaj ?_ _ | refine zak ?_ | refine zai ?_ _)); exact BK1006.out) hb); have n6_ := zA (zac (zB HB) hb); clear HO_7 HO_9 HO1002 HO1005 BK985 BK1006 HB; have HO_7 := n0_; have HO_9 := n1_; have HO1002 := n2_; have HO1005 := n3_; have BK985 := n4_; have BK1006 := n5_; have HB := n6_; clear n0_ n1_ n2_ n3_ n4_ n5_ n6_; (try clear hb); (try clear hb2); (try clear hk); (try clear hi); have hcz41_0 : w40.cell? ⟨gb985, 0, none⟩ = some (.slice none 0 0) := (zab BK985.out 0).trans rfl; have hcz41_1 : w40.cell? ⟨gb985, 1, none⟩ = some (.slice none 0 0) := (zab BK985.out 1).trans rfl; have hfz41_0 := zao BK985.out 0; have hfz41_1 := zao BK985.out 1))
       refine bodyPost_ret (results_ct rfl _ _ gb985 28 #[.slice none 0 0, .slice none 0 0] (0, 0) _ rfl (by (with_reducible repeat (first | refine zaj ?_ _ | refine zak ?_ | refine zai ?_ _)); refine zbz (cs := #[.slice none 0 0, .slice none 0 0]) ?_ 1 _ rfl; (with_reducible repeat (first | refine zaj ?_ _ | refine zak ?_ | refine zai ?_ _)); refine zbz (cs := #[.slice none 0 0, .slice none 0 0]) ?_ 0 _ rfl; (with_reducible repeat (first | refine zaj ?_ _ | refine zak ?_ | refine zai ?_ _)); exact BK985.out) Tryd.underlying28 rfl (by kernel_rfl)) rfl ?_
       exact ⟨_, _, zW, Kd.V_nil _ _ _ _ _, Kd.V_nil _ _ _ _ _, zB HB⟩
mutual
def zah.l0 : Nat → List Int → ByteArray → Int → Int → Option (ByteArray)
 | 0, _, _, _, _ => none
 | k + 1, x0, x3, x10, x11 => if x11 < x10 then (if 0 ≤ x11 then (if x11 < (x0.length : Int) then (zah.l1 k x0 x3 (rd x0 x11) x10 x11 0) else (none)) else (none)) else (zah.l2 k x3)
def zah.l1 : Nat → List Int → ByteArray → Int → Int → Int → Int → Option (ByteArray)
 | 0, _, _, _, _, _, _ => none
 | k + 1, x0, x3, x5, x10, x11, x18 => if x18 < 4 then (if 0 ≤ (Int.tmod x5 10) then (if (Int.tmod x5 10) ≤ (wrap64 ((Int.tmod x5 10) + 1)) then (if (wrap64 ((Int.tmod x5 10) + 1)) ≤ 10 then (if ((⟨#[48, 49, 50, 51, 52, 53, 54, 55, 56, 57]⟩ : ByteArray).extract ((Int.tmod x5 10) : Int).toNat ((wrap64 ((Int.tmod x5 10) + 1)) : Int).toNat).size + x3.size ≤ 9223372036854775807 then (zah.l1 k x0 (((⟨#[48, 49, 50, 51, 52, 53, 54, 55, 56, 57]⟩ : ByteArray).extract ((Int.tmod x5 10) : Int).toNat ((wrap64 ((Int.tmod x5 10) + 1)) : Int).toNat) ++ x3) (wrap64 (Int.tdiv x5 10)) x10 x11 (wrap64 (x18 + 1))) else (none)) else (none)) else (none)) else (none)) else (zah.l0 k x0 x3 x10 (wrap64 (x11 + 1)))
def zah.l2 : Nat → ByteArray → Option (ByteArray)
 | 0, _ => none
 | k + 1, x3 => if 0 < (x3.size : Int) then (if (bt x3 0) = 48 then (if 1 ≤ (x3.size : Int) then (zah.l2 k (x3.extract 1 x3.size)) else (none)) else (some x3)) else (none)
end
def zah.f (k : Nat) (l0 : List Int) : Option (ByteArray) := if (l0.length : Int) = 0 then (some (⟨#[48]⟩ : ByteArray)) else (zah.l0 k l0 (⟨#[]⟩ : ByteArray) (l0.length : Int) 0)
theorem zah.calls (k : Nat) (A0 : Option Addr) (c0 : Nat) (l0 : List Int) (r : ByteArray) (w : World) (hr0 : Kd.C (Kd.int .i64) w A0 l0.length l0) (hc0 : l0.length ≤ c0) (h : zah.f k l0 = some r) :
  Calls Tryd.prog 69 #[.slice A0 l0.length c0] w fun e w' => e = .returned (.string r) ∧ Drawn0 w w' := by
 have HR0 := zA hr0
 have HC0 := zA hc0
 clear hr0 hc0
 have H : (if (l0.length : Int) = 0 then (some (⟨#[48]⟩ : ByteArray)) else (zah.l0 k l0 (⟨#[]⟩ : ByteArray) (l0.length : Int) 0)) = some r := h
 clear h
 by_cases c2 : (l0.length : Int) = 0
 ·
  rw [if_pos c2] at H
  have c2b0 : ((l0.length : Int) == 0) = true := beq_iff_eq.mpr c2
  have c2b1 : ((l0.length : Int) != 0) = false := bne_eq_false_iff_eq.mpr c2
  clear c2
  obtain rfl := Option.some.inj H
  go_enter Tryd.func69, Tryd.ntmps69
  go_wp2
  go_ret
  exact ⟨zF, by repeat (first | exact Drawn0.refl _ | apply Drawn0.step)⟩
 ·
  rw [if_neg c2] at H
  have c2b0 : ((l0.length : Int) == 0) = false := beq_eq_false_iff_ne.mpr c2
  have c2b1 : ((l0.length : Int) != 0) = true := bne_iff_ne.mpr c2
  have c2b2 : ¬ (l0 = []) := fun h_ => c2 (by rw [h_]; rfl)
  have H' := zA H
  clear H
  go_enter Tryd.func69, Tryd.ntmps69
  go_wp2
  go_loopg [3, 11] k (fun kq v3 v11 w' => ∃ (x3_1 : ByteArray) (x11_1 : Int), v3 = .string x3_1 ∧ v11 = .int .i64 x11_1 ∧ Aside0 (zah.l0 kq l0 x3_1 (l0.length : Int) x11_1 = some r) ∧ Aside0 (kq ≤ k) ∧ Drawn0 w w')
  case atStart => exact ⟨((⟨#[]⟩ : ByteArray)), (0), (zF), (zF), H', ⟨Nat.le_refl _⟩, by repeat (first | exact Drawn0.refl _ | apply Drawn0.step)⟩
  case round =>
   clear H'
   try clear c2
   try clear c2b0
   try clear c2b1
   try clear c2b2
   try clear p2
   obtain ⟨x3_1, x11_1, rfl, rfl, HA, HK1, ⟨m1, rfl⟩⟩ := hrel
   cases gk with
   | zero => exact absurd HA.out (by simp [zah.l0])
   | succ k1 =>
    have H := HA.out
    clear HA
    simp only [zah.l0] at H
    by_cases c3 : x11_1 < (l0.length : Int)
    ·
     rw [if_pos c3] at H
     have c3b0 : decide (x11_1 < (l0.length : Int)) = true := decide_eq_true c3
     clear c3
     by_cases c4 : 0 ≤ x11_1
     ·
      rw [if_pos c4] at H
      have c4b0 : decide (0 ≤ x11_1) = true := decide_eq_true c4
      clear c4
      by_cases c5 : x11_1 < (l0.length : Int)
      ·
       rw [if_pos c5] at H
       have c5b0 : decide (x11_1 < (l0.length : Int)) = true := decide_eq_true c5
       clear c5
       have H' := zA H
       clear H
       have p1008 : 0 ≤ (x11_1 : Int) := of_decide_eq_true (by first | (with_reducible assumption) | assumption)
       have q1008 : x11_1 < (l0.length : Int) := of_decide_eq_true (by first | (with_reducible assumption) | assumption)
       obtain ⟨ad1008, e1008, hx1008_0⟩ := Kd.at_int HR0.out x11_1 p1008 q1008
       cases e1008
       replace p1008 := eq_true p1008
       replace q1008 := eq_true q1008
       go_wp2
       go_loopg [3, 5, 18] k1 (fun kq v3 v5 v18 w' => ∃ (x3_2 : ByteArray) (x5_2 : Int) (x18_2 : Int), v3 = .string x3_2 ∧ v5 = .int .i64 x5_2 ∧ v18 = .int .i64 x18_2 ∧ Aside0 (zah.l1 kq l0 x3_2 x5_2 (l0.length : Int) x11_1 x18_2 = some r) ∧ Aside0 (kq ≤ k1) ∧ Drawn0 w w')
       case atStart => exact ⟨(x3_1), (rd l0 x11_1), (0), (zF), (zF), (zF), H', ⟨Nat.le_refl _⟩, by repeat (first | exact Drawn0.refl _ | apply Drawn0.step)⟩
       case round =>
        clear H'
        try clear p1
        try clear q1
        try clear hx1
        try clear c2
        try clear c2b0
        try clear c2b1
        try clear c2b2
        try clear p2
        try clear c3
        try clear c3b0
        try clear c4
        try clear c4b0
        try clear c5
        try clear c5b0
        try clear hx1008_0
        try clear p1008
        try clear p2
        try clear q1008
        obtain ⟨x3_2, x5_2, x18_2, rfl, rfl, rfl, HA, HK2, ⟨m2, rfl⟩⟩ := hrel
        cases gk with
        | zero => exact absurd HA.out (by simp [zah.l1])
        | succ k2 =>
         have H := HA.out
         clear HA
         simp only [zah.l1] at H
         by_cases c6 : x18_2 < 4
         ·
          rw [if_pos c6] at H
          have c6b0 : decide (x18_2 < 4) = true := decide_eq_true c6
          clear c6
          obtain ⟨ji7, hji7⟩ : ∃ j_ : Int, (Int.tmod x5_2 10) = j_ := ⟨_, rfl⟩
          replace H : (if 0 ≤ (ji7) then (if (ji7) ≤ (wrap64 ((ji7) + 1)) then (if (wrap64 ((ji7) + 1)) ≤ 10 then (if ((⟨#[48, 49, 50, 51, 52, 53, 54, 55, 56, 57]⟩ : ByteArray).extract ((ji7) : Int).toNat ((wrap64 ((ji7) + 1)) : Int).toNat).size + x3_2.size ≤ 9223372036854775807 then (zah.l1 k2 l0 (((⟨#[48, 49, 50, 51, 52, 53, 54, 55, 56, 57]⟩ : ByteArray).extract ((ji7) : Int).toNat ((wrap64 ((ji7) + 1)) : Int).toNat) ++ x3_2) (wrap64 (Int.tdiv x5_2 10)) (l0.length : Int) x11_1 (wrap64 (x18_2 + 1))) else (none)) else (none)) else (none)) else (none)) = some r := by first | (rw [hji7] at H; exact H) | (simp only [hji7] at H ⊢; exact H)
          by_cases c8 : 0 ≤ (ji7)
          ·
           rw [if_pos c8] at H
           have c8b0 := eq_true c8
           have c8b1 : decide (0 ≤ (ji7)) = true := decide_eq_true c8
           clear c8
           by_cases c9 : (ji7) ≤ (wrap64 ((ji7) + 1))
           ·
            rw [if_pos c9] at H
            have c9b0 := eq_true c9
            have c9b1 : decide ((ji7) ≤ (wrap64 ((ji7) + 1))) = true := decide_eq_true c9
            by_cases c10 : (wrap64 ((ji7) + 1)) ≤ 10
            ·
             rw [if_pos c10] at H
             have c10b0 := eq_true c10
             have c10b1 : decide ((wrap64 ((ji7) + 1)) ≤ 10) = true := decide_eq_true c10
             by_cases c11 : ((⟨#[48, 49, 50, 51, 52, 53, 54, 55, 56, 57]⟩ : ByteArray).extract ((ji7) : Int).toNat ((wrap64 ((ji7) + 1)) : Int).toNat).size + x3_2.size ≤ 9223372036854775807
             ·
              rw [if_pos c11] at H
              have c11b0 := eq_true c11
              have c11b1 : decide (((⟨#[48, 49, 50, 51, 52, 53, 54, 55, 56, 57]⟩ : ByteArray).extract ((ji7) : Int).toNat ((wrap64 ((ji7) + 1)) : Int).toNat).size + x3_2.size ≤ 9223372036854775807) = true := decide_eq_true c11
              try have c11b2 : (9223372036854775807 < ((⟨#[48, 49, 50, 51, 52, 53, 54, 55, 56, 57]⟩ : ByteArray).extract ((ji7) : Int).toNat ((wrap64 ((ji7) + 1)) : Int).toNat).size + x3_2.size) = False := eq_false (Nat.not_lt.2 c11)
              have H' := zA H
              clear H
              go_wp2
              go_roundg k2
              case measure => have := HK1.out; have := HK2.out; omega
              case rel => exact ⟨(((⟨#[48, 49, 50, 51, 52, 53, 54, 55, 56, 57]⟩ : ByteArray).extract ((ji7) : Int).toNat ((wrap64 ((ji7) + 1)) : Int).toNat) ++ x3_2), (wrap64 (Int.tdiv x5_2 10)), (wrap64 (x18_2 + 1)), (by first | rfl | (simp; done) | (simp only [← hji7] <;> (first | rfl | simp)) | (simp [*]; done)), (zF), (zF), H', ⟨by have := HK1.out; have := HK2.out; omega⟩, by repeat (first | exact Drawn0.refl _ | apply Drawn0.step)⟩
             ·
              rw [if_neg c11] at H
              exact absurd H (by simp)
            ·
             rw [if_neg c10] at H
             exact absurd H (by simp)
           ·
            rw [if_neg c9] at H
            exact absurd H (by simp)
          ·
           rw [if_neg c8] at H
           exact absurd H (by simp)
         ·
          rw [if_neg c6] at H
          have c6b0 : decide (x18_2 < 4) = false := decide_eq_false c6
          clear c6
          have H' := zA H
          clear H
          go_wp2
          go_roundg k2
          case measure => have := HK1.out; have := HK2.out; omega
          case rel => exact ⟨(x3_2), (wrap64 (x11_1 + 1)), (zF), (zF), H', ⟨by have := HK1.out; have := HK2.out; omega⟩, by repeat (first | exact Drawn0.refl _ | apply Drawn0.step)⟩
      ·
       rw [if_neg c5] at H
       exact absurd H (by simp)
     ·
      rw [if_neg c4] at H
      exact absurd H (by simp)
    ·
     rw [if_neg c3] at H
     have c3b0 : decide (x11_1 < (l0.length : Int)) = false := decide_eq_false c3
     clear c3
     have H' := zA H
     clear H
     go_wp2
     go_loopg [3] k1 (fun kq v3 w' => ∃ (x3_2 : ByteArray), v3 = .string x3_2 ∧ Aside0 (zah.l2 kq x3_2 = some r) ∧ Aside0 (kq ≤ k1) ∧ Drawn0 w w')
     case atStart => exact ⟨(x3_1), (zF), H', ⟨Nat.le_refl _⟩, by repeat (first | exact Drawn0.refl _ | apply Drawn0.step)⟩
     case round =>
      clear H'
      try clear c1
      try clear p1
      try clear q1
      try clear hx1
      try clear c2
      try clear c2b0
      try clear c2b1
      try clear c2b2
      try clear p2
      try clear c3
      try clear c3b0
      try clear c4
      try clear c4b0
      try clear c5
      try clear c5b0
      try clear c6
      try clear c6b0
      try clear p6
      try clear c8
      try clear c8b0
      try clear c8b1
      try clear c9
      try clear c9b0
      try clear c9b1
      try clear c10
      try clear c10b0
      try clear c10b1
      try clear p10
      try clear q10
      try clear hx10
      try clear c11
      try clear c11b0
      try clear c11b1
      try clear c11b2
      try clear hx1008_0
      try clear p1
      try clear p1008
      try clear p2
      try clear q1
      try clear q1008
      obtain ⟨x3_2, rfl, HA, HK2, ⟨m2, rfl⟩⟩ := hrel
      cases gk with
      | zero => exact absurd HA.out (by simp [zah.l2])
      | succ k2 =>
       have H := HA.out
       clear HA
       simp only [zah.l2] at H
       by_cases c12 : 0 < (x3_2.size : Int)
       ·
        rw [if_pos c12] at H
        have c12b0 : decide (0 < (x3_2.size : Int)) = true := decide_eq_true c12
        have c12b1 : decide (0 < x3_2.size) = true := decide_eq_true (by omega)
        clear c12
        by_cases c14 : (bt x3_2 0) = 48
        ·
         rw [if_pos c14] at H
         have c14b0 : ((bt x3_2 0) == 48) = true := beq_iff_eq.mpr c14
         have c14b1 : ((bt x3_2 0) != 48) = false := bne_eq_false_iff_eq.mpr c14
         clear c14
         by_cases c15 : 1 ≤ (x3_2.size : Int)
         ·
          rw [if_pos c15] at H
          have c15b0 := eq_true c15
          have c15b1 : decide (1 ≤ (x3_2.size : Int)) = true := decide_eq_true c15
          clear c15
          have H' := zA H
          clear H
          have p13 : 0 ≤ (0 : Int) := (by omega)
          have q13 : 0 < x3_2.size := (by have : (0 : Int) < (x3_2.size : Int) := of_decide_eq_true (by first | (with_reducible assumption) | assumption); omega)
          have hx13 : ∀ h : 0 < x3_2.size, ((x3_2[0]'h).toNat : Int) = bt x3_2 0 := bt_at x3_2 0
          clear p13
          have qi13 : (0 < (x3_2.size : Int)) = True := eq_true (of_decide_eq_true (by first | (with_reducible assumption) | assumption))
          replace q13 := eq_true q13
          go_wp2
          go_roundg k2
          case measure => have := HK1.out; have := HK2.out; omega
          case rel => exact ⟨(x3_2.extract 1 x3_2.size), (zF), H', ⟨by have := HK1.out; have := HK2.out; omega⟩, by repeat (first | exact Drawn0.refl _ | apply Drawn0.step)⟩
         ·
          rw [if_neg c15] at H
          exact absurd H (by simp)
        ·
         rw [if_neg c14] at H
         have c14b0 : ((bt x3_2 0) == 48) = false := beq_eq_false_iff_ne.mpr c14
         have c14b1 : ((bt x3_2 0) != 48) = true := bne_iff_ne.mpr c14
         obtain rfl := Option.some.inj H
         have p13 : 0 ≤ (0 : Int) := (by omega)
         have q13 : 0 < x3_2.size := (by have : (0 : Int) < (x3_2.size : Int) := of_decide_eq_true (by first | (with_reducible assumption) | assumption); omega)
         have hx13 : ∀ h : 0 < x3_2.size, ((x3_2[0]'h).toNat : Int) = bt x3_2 0 := bt_at x3_2 0
         clear p13
         have qi13 : (0 < (x3_2.size : Int)) = True := eq_true (of_decide_eq_true (by first | (with_reducible assumption) | assumption))
         replace q13 := eq_true q13
         go_wp2
         go_ret
         exact ⟨zF, by repeat (first | exact Drawn0.refl _ | apply Drawn0.step)⟩
       ·
        rw [if_neg c12] at H
        exact absurd H (by simp)
def zbm.f (k : Nat) (l0_0 : List Int) (l0_1 : List Int) : Option (ByteArray) := (zay.f k 1).bind fun t1010 => ((zaz.f k l0_1 t1010).bind fun t1013 => (if t1013 = 0 then ((zah.f k l0_0).bind fun t1014 => (some t1014)) else ((zah.f k l0_0).bind fun t1015 => (if t1015.size + 1 ≤ 9223372036854775807 then ((zah.f k l0_1).bind fun t1016 => (if (t1015 ++ (⟨#[47]⟩ : ByteArray)).size + t1016.size ≤ 9223372036854775807 then (some ((t1015 ++ (⟨#[47]⟩ : ByteArray)) ++ t1016)) else (none))) else (none)))))
def zbm.T3 : Bool × List (List Nat × List Nat) := (true, [([], []), ([0], [0]), ([1], [1]), ([2], [2]), ([], []), ([4], [4]), ([5, 2], [5]), ([3, 6], [3, 6]), ([7, 6, 0, 1, 2, 3, 4, 5, 6, 7], [7])])
def zbm.B3 : List Nat := [0, 1, 3, 7, 0, 16, 55, 127, 255]
theorem zbm.tab3 : rtab .any (opsOf Tryd.f42 3) = zbm.T3 := by kernel_rfl
theorem zbm.bits3 : waitsOk zbm.T3.2 zbm.B3 = true := by kernel_rfl
theorem zbm.calls (k : Nat) (A0_0 : Option Addr) (c0_0 : Nat) (l0_0 : List Int) (A0_1 : Option Addr) (c0_1 : Nat) (l0_1 : List Int) (r : ByteArray) (w : World) (hr0_0 : Kd.C (Kd.int .i64) w A0_0 l0_0.length l0_0) (hc0_0 : l0_0.length ≤ c0_0) (hr0_1 : Kd.C (Kd.int .i64) w A0_1 l0_1.length l0_1) (hc0_1 : l0_1.length ≤ c0_1) (h : zbm.f k l0_0 l0_1 = some r) :
  Calls Tryd.prog 42 #[.agg #[.slice A0_0 l0_0.length c0_0, .slice A0_1 l0_1.length c0_1]] w fun e w' => e = .returned (.string r) ∧ Below w.heap.size w w' := by
 have hu40 := Tryd.underlying40
 have HR0_0 := zA hr0_0
 have HC0_0 := zA hc0_0
 clear hr0_0 hc0_0
 have HR0_1 := zA hr0_1
 have HC0_1 := zA hc0_1
 clear hr0_1 hc0_1
 have HB := zA (Below.refl w.heap.size w)
 have H : ((zay.f k 1).bind fun t1010 => ((zaz.f k l0_1 t1010).bind fun t1013 => (if t1013 = 0 then ((zah.f k l0_0).bind fun t1014 => (some t1014)) else ((zah.f k l0_0).bind fun t1015 => (if t1015.size + 1 ≤ 9223372036854775807 then ((zah.f k l0_1).bind fun t1016 => (if (t1015 ++ (⟨#[47]⟩ : ByteArray)).size + t1016.size ≤ 9223372036854775807 then (some ((t1015 ++ (⟨#[47]⟩ : ByteArray)) ++ t1016)) else (none))) else (none)))))) = some r := h
 clear h
 replace H := zO H
 obtain ⟨t1010, A20, H⟩ := H
 try dsimp only at H
 have A2 := zA A20
 clear A20
 replace H := zO H
 obtain ⟨t1013, A30, H⟩ := H
 try dsimp only at H
 have A3 := zA A30
 clear A30
 by_cases c4 : t1013 = 0
 ·
  rw [if_pos c4] at H
  have c4b0 : (t1013 == 0) = true := beq_iff_eq.mpr c4
  have c4b1 : (t1013 != 0) = false := bne_eq_false_iff_eq.mpr c4
  clear c4
  replace H := zO H
  obtain ⟨t1014, A50, H⟩ := H
  try dsimp only at H
  have A5 := zA A50
  clear A50
  obtain rfl := Option.some.inj H
  go_enter Tryd.func42, Tryd.ntmps42
  try go_wp2_with (first | ((with_reducible refine zbv (N := 1) rfl ?_); refine zb4 ?hg (N := 1) ?hd (cs := #[.slice A0_0 l0_0.length c0_0, .slice A0_1 l0_1.length c0_1]) (t := 40) ?hr ?_; (case hd => rfl); (case hg => rfl); (case hr => first | (go_simp; done) | (go_simp; rfl)); intro gb1009 hg w6 hbox hb; have n0_ := zA (zac (zB HB) hb); have n1_ := zA (hbox); have n2_ := zA ((by rw [hg]; exact (za (zB HB)) : w.heap.size ≤ gb1009)); have n3_ := zA ((by rw [hg]; exact (za (zB HB)) : w.heap.size ≤ gb1009)); clear HB; have HB := n0_; have BK1009 := n1_; have GW1009 := n2_; have GE1009 := n3_; clear n0_ n1_ n2_ n3_ hb hbox hg))
  have n0_ := zA (zak BK1009.out)
  have n1_ := zA (zby HB.out)
  clear BK1009 HB
  have BK1009 := n0_
  have HB := n1_
  clear n0_ n1_
  refine start_ (n := 5) (S := fun w' => w'.cell? ⟨gb1009, 0, none⟩ = some (.slice A0_0 l0_0.length c0_0) ∧ w'.cell? ⟨gb1009, 1, none⟩ = some (.slice A0_1 l0_1.length c0_1)) (ds := []) #[false, false, false, false, false] (by kernel_rfl) rfl rfl ⟨(zab BK1009.out 0).trans rfl, (zab BK1009.out 1).trans rfl⟩ (fun hHeld => ?_)
  generalize w6.drew = w7 at BK1009 HB hHeld ⊢
  refine pure_ (i := 0) (N := some 3) (v := ?_) (a' := ?_) #[true, false, false, false, false] rfl rfl (by kernel_rfl) (fun _ _ _ h => h) (Or.inl ⟨by rfl, ?_⟩) ?_ ?_
  rotate_left
  ·
   intro w'
   go_simp
   with_reducible rfl
  rotate_left
  ·
   simp only [Act.put, zs1, zs2, zs3, i64_w, i32_w]
   rfl
  refine take_ (i := 1) (N := some 4) (v := ?_) (a' := ?_) #[true, true, false, false, false] rfl rfl (by kernel_rfl) (fun _ _ _ h => h) (Or.inl ⟨by rfl, ?_⟩) hHeld ?_ ?_
  rotate_left
  ·
   rintro w' ⟨s0, s1⟩
   go_simp
   with_reducible rfl
  rotate_left
  ·
   simp only [Act.put, zs1, zs2, zs3, i64_w, i32_w]
   rfl
  refine one_ (i := 2) (N := some 5) #[true, true, true, false, false] rfl rfl (by kernel_rfl) (by decide) (fun K hK => ?_)
  refine goes_ Tryd.func20 (by kernel_rfl) rfl #[.int .i64 1] (by rfl) rfl rfl (zE) ?_
  with_reducible refine (zay.calls k 1 t1010 _ A2.out).mono ?_
  rintro e w8 ⟨v1011, rfl, ho0, hb⟩
  refine ⟨_, rfl, ?_⟩
  have n0_ := zA (Kd.zbn ho0 (za (zB HB)))
  have n1_ := zA (zad (g := gb1009) (o := .cells #[.slice A0_0 l0_0.length c0_0, .slice A0_1 l0_1.length c0_1] 40 (0, 0)) (zK BK1009) hb)
  have n2_ := zA (zac (zB HB) hb)
  clear BK1009 HB
  have HO1012 := n0_
  have BK1009 := n1_
  have HB := n2_
  clear n0_ n1_ n2_
  (try clear hb)
  (try clear hb2)
  (try clear hk)
  (try clear hi)
  (try clear ho0)
  obtain ⟨Ao9, co9, eo9⟩ := Kd.zbr HO1012.out
  (first | subst eo9 | (injection eo9 with f1_ f2_ f3_; have f4_ := f1_.symm; have f5_ := f3_.symm; clear f1_ f2_ f3_; subst f4_; subst f5_))
  refine hK.out _ _ ⟨(zab BK1009.out 0).trans rfl, (zab BK1009.out 1).trans rfl⟩ (fun hHeld => ?_)
  clear hK K
  refine norm_ (a' := ?_) ?_ ?_
  rotate_left
  ·
   show Act.put _ (some 5) _ = _
   simp only [Act.put, zs1, zs2, zs3, i64_w, i32_w]
   rfl
  refine one_ (i := 3) (N := some 6) #[true, true, true, true, false] rfl rfl (by kernel_rfl) (by decide) (fun K hK => ?_)
  refine goes_ Tryd.func18 (by kernel_rfl) rfl #[.slice A0_1 l0_1.length c0_1, .slice Ao9 t1010.length co9] (by rfl) rfl rfl (zE) ?_
  with_reducible refine (zaz.calls k _ _ l0_1 _ _ t1010 t1013 _ ?side1 ?side2 ?side3 ?side4 A3.out).mono ?_
  (case side1 => exact zJ (Kd.zb HR0_1.out HB.out))
  (case side2 => exact HC0_1.out)
  (case side3 => exact zJ (Kd.za1 HO1012.out).2.2)
  (case side4 => exact (Kd.za1 HO1012.out).2.1)
  rintro e w' ⟨rfl, ⟨nd, rfl⟩⟩
  refine ⟨_, rfl, ?_⟩
  refine hK.out _ _ ⟨(zab BK1009.out 0).trans rfl, (zab BK1009.out 1).trans rfl⟩ (fun hHeld => ?_)
  clear hK K
  refine norm_ (a' := ?_) ?_ ?_
  rotate_left
  ·
   show Act.put _ (some 6) _ = _
   simp only [Act.put, zs1, zs2, zs3, i64_w, i32_w]
   rfl
  refine pure_ (i := 4) (N := some 7) (v := ?_) (a' := ?_) #[true, true, true, true, true] rfl rfl (by kernel_rfl) (fun _ _ _ h => h) (Or.inl ⟨by rfl, ?_⟩) ?_ ?_
  rotate_left
  ·
   intro w'
   go_simp
   with_reducible rfl
  rotate_left
  ·
   simp only [Act.put, zs1, zs2, zs3, i64_w, i32_w]
   rfl
  refine done_ (by kernel_rfl) ?_
  have hcz10_0 : w8.cell? ⟨gb1009, 0, none⟩ = some (.slice A0_0 l0_0.length c0_0) := (zab BK1009.out 0).trans rfl
  have hcz10_1 : w8.cell? ⟨gb1009, 1, none⟩ = some (.slice A0_1 l0_1.length c0_1) := (zab BK1009.out 1).trans rfl
  have hfz10_0 := zao BK1009.out 0
  have hfz10_1 := zao BK1009.out 1
  try go_wp2_with (first | ((with_reducible refine zae (f := 69) rfl ?_); refine za4 (some 10) rfl rfl Tryd.func69 (by kernel_rfl) rfl #[.slice A0_0 l0_0.length c0_0] rfl (zE) ?_; (with_reducible refine (zah.calls k _ _ l0_0 t1014 _ ?side1 ?side2 A5.out).mono ?_); (case side1 => exact zJ (Kd.zb HR0_0.out (zB HB))); (case side2 => exact HC0_0.out); rintro e w' ⟨rfl, ⟨nd, rfl⟩⟩; refine ⟨_, rfl, ?_⟩))
  go_ret
  exact ⟨zW, zB HB⟩
 ·
  rw [if_neg c4] at H
  have c4b0 : (t1013 == 0) = false := beq_eq_false_iff_ne.mpr c4
  have c4b1 : (t1013 != 0) = true := bne_iff_ne.mpr c4
  replace H := zO H
  obtain ⟨t1015, A110, H⟩ := H
  try dsimp only at H
  have A11 := zA A110
  clear A110
  by_cases c12 : t1015.size + 1 ≤ 9223372036854775807
  ·
   rw [if_pos c12] at H
   have c12b0 := eq_true c12
   have c12b1 : decide (t1015.size + 1 ≤ 9223372036854775807) = true := decide_eq_true c12
   try have c12b2 : (9223372036854775807 < t1015.size + 1) = False := eq_false (Nat.not_lt.2 c12)
   replace H := zO H
   obtain ⟨t1016, A130, H⟩ := H
   try dsimp only at H
   have A13 := zA A130
   clear A130
   by_cases c14 : (t1015 ++ (⟨#[47]⟩ : ByteArray)).size + t1016.size ≤ 9223372036854775807
   ·
    rw [if_pos c14] at H
    have c14b0 := eq_true c14
    have c14b1 : decide ((t1015 ++ (⟨#[47]⟩ : ByteArray)).size + t1016.size ≤ 9223372036854775807) = true := decide_eq_true c14
    try have c14b3 : (9223372036854775807 < t1015.size + 1 + t1016.size) = False := by have h_ := eq_false (Nat.not_lt.2 c14); rw [ByteArray.size_append] at h_; exact h_
    try have c14b2 : (9223372036854775807 < (t1015 ++ (⟨#[47]⟩ : ByteArray)).size + t1016.size) = False := eq_false (Nat.not_lt.2 c14)
    obtain rfl := Option.some.inj H
    go_enter Tryd.func42, Tryd.ntmps42
    try go_wp2_with (first | ((with_reducible refine zbv (N := 1) rfl ?_); refine zb4 ?hg (N := 1) ?hd (cs := #[.slice A0_0 l0_0.length c0_0, .slice A0_1 l0_1.length c0_1]) (t := 40) ?hr ?_; (case hd => rfl); (case hg => rfl); (case hr => first | (go_simp; done) | (go_simp; rfl)); intro gb1009 hg w15 hbox hb; have n0_ := zA (zac (zB HB) hb); have n1_ := zA (hbox); have n2_ := zA ((by rw [hg]; exact (za (zB HB)) : w.heap.size ≤ gb1009)); have n3_ := zA ((by rw [hg]; exact (za (zB HB)) : w.heap.size ≤ gb1009)); clear HB; have HB := n0_; have BK1009 := n1_; have GW1009 := n2_; have GE1009 := n3_; clear n0_ n1_ n2_ n3_ hb hbox hg))
    have n0_ := zA (zak BK1009.out)
    have n1_ := zA (zby HB.out)
    clear BK1009 HB
    have BK1009 := n0_
    have HB := n1_
    clear n0_ n1_
    refine start_ (n := 5) (S := fun w' => w'.cell? ⟨gb1009, 0, none⟩ = some (.slice A0_0 l0_0.length c0_0) ∧ w'.cell? ⟨gb1009, 1, none⟩ = some (.slice A0_1 l0_1.length c0_1)) (ds := []) #[false, false, false, false, false] (by kernel_rfl) rfl rfl ⟨(zab BK1009.out 0).trans rfl, (zab BK1009.out 1).trans rfl⟩ (fun hHeld => ?_)
    generalize w15.drew = w16 at BK1009 HB hHeld ⊢
    refine pure_ (i := 0) (N := some 3) (v := ?_) (a' := ?_) #[true, false, false, false, false] rfl rfl (by kernel_rfl) (fun _ _ _ h => h) (Or.inl ⟨by rfl, ?_⟩) ?_ ?_
    rotate_left
    ·
     intro w'
     go_simp
     with_reducible rfl
    rotate_left
    ·
     simp only [Act.put, zs1, zs2, zs3, i64_w, i32_w]
     rfl
    refine take_ (i := 1) (N := some 4) (v := ?_) (a' := ?_) #[true, true, false, false, false] rfl rfl (by kernel_rfl) (fun _ _ _ h => h) (Or.inl ⟨by rfl, ?_⟩) hHeld ?_ ?_
    rotate_left
    ·
     rintro w' ⟨s0, s1⟩
     go_simp
     with_reducible rfl
    rotate_left
    ·
     simp only [Act.put, zs1, zs2, zs3, i64_w, i32_w]
     rfl
    refine one_ (i := 2) (N := some 5) #[true, true, true, false, false] rfl rfl (by kernel_rfl) (by decide) (fun K hK => ?_)
    refine goes_ Tryd.func20 (by kernel_rfl) rfl #[.int .i64 1] (by rfl) rfl rfl (zE) ?_
    with_reducible refine (zay.calls k 1 t1010 _ A2.out).mono ?_
    rintro e w17 ⟨v1011, rfl, ho0, hb⟩
    refine ⟨_, rfl, ?_⟩
    have n0_ := zA (Kd.zbn ho0 (za (zB HB)))
    have n1_ := zA (zad (g := gb1009) (o := .cells #[.slice A0_0 l0_0.length c0_0, .slice A0_1 l0_1.length c0_1] 40 (0, 0)) (zK BK1009) hb)
    have n2_ := zA (zac (zB HB) hb)
    clear BK1009 HB
    have HO1012 := n0_
    have BK1009 := n1_
    have HB := n2_
    clear n0_ n1_ n2_
    (try clear hb)
    (try clear hb2)
    (try clear hk)
    (try clear hi)
    (try clear ho0)
    obtain ⟨Ao18, co18, eo18⟩ := Kd.zbr HO1012.out
    (first | subst eo18 | (injection eo18 with f1_ f2_ f3_; have f4_ := f1_.symm; have f5_ := f3_.symm; clear f1_ f2_ f3_; subst f4_; subst f5_))
    refine hK.out _ _ ⟨(zab BK1009.out 0).trans rfl, (zab BK1009.out 1).trans rfl⟩ (fun hHeld => ?_)
    clear hK K
    refine norm_ (a' := ?_) ?_ ?_
    rotate_left
    ·
     show Act.put _ (some 5) _ = _
     simp only [Act.put, zs1, zs2, zs3, i64_w, i32_w]
     rfl
    refine one_ (i := 3) (N := some 6) #[true, true, true, true, false] rfl rfl (by kernel_rfl) (by decide) (fun K hK => ?_)
    refine goes_ Tryd.func18 (by kernel_rfl) rfl #[.slice A0_1 l0_1.length c0_1, .slice Ao18 t1010.length co18] (by rfl) rfl rfl (zE) ?_
    with_reducible refine (zaz.calls k _ _ l0_1 _ _ t1010 t1013 _ ?side1 ?side2 ?side3 ?side4 A3.out).mono ?_
    (case side1 => exact zJ (Kd.zb HR0_1.out HB.out))
    (case side2 => exact HC0_1.out)
    (case side3 => exact zJ (Kd.za1 HO1012.out).2.2)
    (case side4 => exact (Kd.za1 HO1012.out).2.1)
    rintro e w' ⟨rfl, ⟨nd, rfl⟩⟩
    refine ⟨_, rfl, ?_⟩
    refine hK.out _ _ ⟨(zab BK1009.out 0).trans rfl, (zab BK1009.out 1).trans rfl⟩ (fun hHeld => ?_)
    clear hK K
    refine norm_ (a' := ?_) ?_ ?_
    rotate_left
    ·
     show Act.put _ (some 6) _ = _
     simp only [Act.put, zs1, zs2, zs3, i64_w, i32_w]
     rfl
    refine pure_ (i := 4) (N := some 7) (v := ?_) (a' := ?_) #[true, true, true, true, true] rfl rfl (by kernel_rfl) (fun _ _ _ h => h) (Or.inl ⟨by rfl, ?_⟩) ?_ ?_
    rotate_left
    ·
     intro w'
     go_simp
     with_reducible rfl
    rotate_left
    ·
     simp only [Act.put, zs1, zs2, zs3, i64_w, i32_w]
     rfl
    refine done_ (by kernel_rfl) ?_
    try go_wp2
    (try (rw [zdd w17]; generalize hq_ : World.drewN w17 _ = w17; have n0_ : Aside0 (Kd.R (Kd.int .i64) 3 w17 w.heap.size (fun _ => True) (.slice Ao18 t1010.length co18) t1010) := ⟨by rw [← hq_]; exact (zR HO1012)⟩; have n1_ : Aside0 (w17.heap[gb1009]? = some (.cells #[.slice A0_0 l0_0.length c0_0, .slice A0_1 l0_1.length c0_1] 40 (0, 0))) := ⟨by rw [← hq_]; exact (zK BK1009)⟩; have n2_ : Aside0 (Below w.heap.size w w17) := ⟨by rw [← hq_]; exact (zB HB)⟩; clear HO1012 BK1009 HB hq_; have HO1012 := n0_; have BK1009 := n1_; have HB := n2_; clear n0_ n1_ n2_))
    have n0_ := zA (Kd.zb5 HO1012.out)
    have n1_ := zA (zak BK1009.out)
    have n2_ := zA (zby HB.out)
    clear HO1012 BK1009 HB
    have HO1012 := n0_
    have BK1009 := n1_
    have HB := n2_
    clear n0_ n1_ n2_
    refine start_ (n := 9) (S := fun w' => w'.cell? ⟨gb1009, 0, none⟩ = some (.slice A0_0 l0_0.length c0_0) ∧ w'.cell? ⟨gb1009, 1, none⟩ = some (.slice A0_1 l0_1.length c0_1)) (ds := []) #[false, false, false, false, false, false, false, false, false] (by kernel_rfl) rfl rfl ⟨(zab BK1009.out 0).trans rfl, (zab BK1009.out 1).trans rfl⟩ (fun hHeld => ?_); refine with_tabW zbm.tab3 zbm.bits3 (fun HT_ HW_ => ?_)
    generalize w17.drew = w19 at HO1012 BK1009 HB hHeld ⊢
    refine pure_ (i := 0) (N := some 11) (v := ?_) (a' := ?_) #[true, false, false, false, false, false, false, false, false] rfl rfl (zbq HT_.out (by kernel_rfl)) (fun _ _ _ h => h) (Or.inl ⟨by rfl, ?_⟩) ?_ ?_
    rotate_left
    ·
     intro w'
     go_simp
     with_reducible rfl
    rotate_left
    ·
     simp only [Act.put, zs1, zs2, zs3, i64_w, i32_w]
     rfl
    refine pure_ (i := 4) (N := some 15) (v := ?_) (a' := ?_) #[true, false, false, false, true, false, false, false, false] rfl rfl (zbq HT_.out (by kernel_rfl)) (fun _ _ _ h => h) (Or.inl ⟨by rfl, ?_⟩) ?_ ?_
    rotate_left
    ·
     intro w'
     go_simp
     with_reducible rfl
    rotate_left
    ·
     simp only [Act.put, zs1, zs2, zs3, i64_w, i32_w]
     rfl
    refine take_ (i := 1) (N := some 12) (v := ?_) (a' := ?_) #[true, true, false, false, true, false, false, false, false] rfl rfl (zcq HT_.out HW_.out (by kernel_rfl)) (fun _ _ _ h => h) (Or.inl ⟨by rfl, ?_⟩) hHeld ?_ ?_
    rotate_left
    ·
     rintro w' ⟨s0, s1⟩
     go_simp
     with_reducible rfl
    rotate_left
    ·
     simp only [Act.put, zs1, zs2, zs3, i64_w, i32_w]
     rfl
    refine take_ (i := 5) (N := some 16) (v := ?_) (a' := ?_) #[true, true, false, false, true, true, false, false, false] rfl rfl (zcq HT_.out HW_.out (by kernel_rfl)) (fun _ _ _ h => h) (Or.inl ⟨by rfl, ?_⟩) hHeld ?_ ?_
    rotate_left
    ·
     rintro w' ⟨s0, s1⟩
     go_simp
     with_reducible rfl
    rotate_left
    ·
     simp only [Act.put, zs1, zs2, zs3, i64_w, i32_w]
     rfl
    refine one_ (i := 2) (N := some 13) #[true, true, true, false, true, true, false, false, false] rfl rfl (zc0 HT_.out (by kernel_rfl)) (by decide) (fun K hK => ?_)
    refine goes_ Tryd.func69 (by kernel_rfl) rfl #[.slice A0_0 l0_0.length c0_0] (by rfl) rfl rfl (zE) ?_
    with_reducible refine (zah.calls k _ _ l0_0 t1015 _ ?side1 ?side2 A11.out).mono ?_
    (case side1 => exact zJ (Kd.zb HR0_0.out HB.out))
    (case side2 => exact HC0_0.out)
    rintro e w' ⟨rfl, ⟨nd, rfl⟩⟩
    refine ⟨_, rfl, ?_⟩
    refine hK.out _ _ ⟨(zab BK1009.out 0).trans rfl, (zab BK1009.out 1).trans rfl⟩ (fun hHeld => ?_)
    clear hK K
    refine norm_ (a' := ?_) ?_ ?_
    rotate_left
    ·
     show Act.put _ (some 13) _ = _
     simp only [Act.put, zs1, zs2, zs3, i64_w, i32_w]
     rfl
    refine pure_ (i := 3) (N := some 14) (v := ?_) (a' := ?_) #[true, true, true, true, true, true, false, false, false] rfl rfl (zbq HT_.out (by kernel_rfl)) (fun _ _ _ h => h) (Or.inl ⟨by rfl, ?_⟩) ?_ ?_
    rotate_left
    ·
     intro w'
     go_simp
     with_reducible rfl
    rotate_left
    ·
     simp only [Act.put, zs1, zs2, zs3, i64_w, i32_w]
     rfl
    refine one_ (i := 6) (N := some 17) #[true, true, true, true, true, true, true, false, false] rfl rfl (zc0 HT_.out (by kernel_rfl)) (by decide) (fun K hK => ?_)
    refine goes_ Tryd.func69 (by kernel_rfl) rfl #[.slice A0_1 l0_1.length c0_1] (by rfl) rfl rfl (zE) ?_
    with_reducible refine (zah.calls k _ _ l0_1 t1016 _ ?side1 ?side2 A13.out).mono ?_
    (case side1 => exact zJ (Kd.zb HR0_1.out (zB HB)))
    (case side2 => exact HC0_1.out)
    rintro e w' ⟨rfl, ⟨nd, rfl⟩⟩
    refine ⟨_, rfl, ?_⟩
    refine hK.out _ _ ⟨(zab BK1009.out 0).trans rfl, (zab BK1009.out 1).trans rfl⟩ (fun hHeld => ?_)
    clear hK K
    refine norm_ (a' := ?_) ?_ ?_
    rotate_left
    ·
     show Act.put _ (some 17) _ = _
     simp only [Act.put, zs1, zs2, zs3, i64_w, i32_w]
     rfl
    refine pure_ (i := 7) (N := some 18) (v := ?_) (a' := ?_) #[true, true, true, true, true, true, true, true, false] rfl rfl (zbq HT_.out (by kernel_rfl)) (fun _ _ _ h => h) (Or.inl ⟨by rfl, ?_⟩) ?_ ?_
    rotate_left
    ·
     intro w'
     go_simp
     with_reducible rfl
    rotate_left
    ·
     simp only [Act.put, zs1, zs2, zs3, i64_w, i32_w]
     rfl
    refine pure_ (i := 8) (N := some 2) (v := ?_) (a' := ?_) #[true, true, true, true, true, true, true, true, true] rfl rfl (zbq HT_.out (by kernel_rfl)) (fun _ _ _ h => h) (Or.inl ⟨by rfl, ?_⟩) ?_ ?_
    rotate_left
    ·
     intro w'
     go_simp
     with_reducible rfl
    rotate_left
    ·
     simp only [Act.put, zs1, zs2, zs3, i64_w, i32_w]
     rfl
    refine done_ (done_of HT_.out (by kernel_rfl)) ?_
    try go_wp2
    go_ret
    exact ⟨zW, zB HB⟩
   ·
    rw [if_neg c14] at H
    exact absurd H (by simp)
  ·
   rw [if_neg c12] at H
   exact absurd H (by simp)
end Go.Proofs.YtfjkamhcabckeaaDoor.P
end
