-- Written by a program of this session (wip/tools/shake.py) out of its own texts and of the kit's printed ones; not trusted: Lean checks it.
import Derived.Test.YtfjkamhcabckeaaDoorZRatioSums6
set_option maxHeartbeats 8000000
set_option maxRecDepth 100000
set_option linter.unusedVariables false
set_option linter.unusedSimpArgs false
section
namespace Go.Proofs.YtfjkamhcabckeaaDoor.P
open Go.RowKit Go.Proofs.YtfjkamhcabckeaaDoorW.PrintWords Go.Proofs.YtfjkamhcabckeaaDoorW.PrintLast Go.Proofs.YtfjkamhcabckeaaDoorW.PrintMore
attribute [local go_sem] zdo zdl max_two min_two zc9 zdb zdm zdk
def bits_Mul64.f (a0 : Int) (a1 : Int) : Option (Int × Int) := some (IntKind.u64.wrap ((IntKind.u64.wrap ((IntKind.u64.wrap ((a0 / 4294967296) * (a1 / 4294967296))) + ((IntKind.u64.wrap ((IntKind.u64.wrap ((a0 / 4294967296) * (Go.bits .and .u64 a1 4294967295))) + ((IntKind.u64.wrap ((Go.bits .and .u64 a0 4294967295) * (Go.bits .and .u64 a1 4294967295))) / 4294967296))) / 4294967296))) + ((IntKind.u64.wrap ((Go.bits .and .u64 (IntKind.u64.wrap ((IntKind.u64.wrap ((a0 / 4294967296) * (Go.bits .and .u64 a1 4294967295))) + ((IntKind.u64.wrap ((Go.bits .and .u64 a0 4294967295) * (Go.bits .and .u64 a1 4294967295))) / 4294967296))) 4294967295) + (IntKind.u64.wrap ((Go.bits .and .u64 a0 4294967295) * (a1 / 4294967296))))) / 4294967296)), IntKind.u64.wrap (a0 * a1))
theorem bits_Mul64.calls (a0 : Int) (a1 : Int) (r1 : Int) (r2 : Int) (w : World) (h : bits_Mul64.f a0 a1 = some (r1, r2)) :
  Calls Tryd.prog 87 #[.int .u64 a0, .int .u64 a1] w fun e w' => e = .returned (.tuple #[.int .u64 r1, .int .u64 r2]) ∧ Drawn0 w w' := by
 have H : (some (IntKind.u64.wrap ((IntKind.u64.wrap ((IntKind.u64.wrap ((a0 / 4294967296) * (a1 / 4294967296))) + ((IntKind.u64.wrap ((IntKind.u64.wrap ((a0 / 4294967296) * (Go.bits .and .u64 a1 4294967295))) + ((IntKind.u64.wrap ((Go.bits .and .u64 a0 4294967295) * (Go.bits .and .u64 a1 4294967295))) / 4294967296))) / 4294967296))) + ((IntKind.u64.wrap ((Go.bits .and .u64 (IntKind.u64.wrap ((IntKind.u64.wrap ((a0 / 4294967296) * (Go.bits .and .u64 a1 4294967295))) + ((IntKind.u64.wrap ((Go.bits .and .u64 a0 4294967295) * (Go.bits .and .u64 a1 4294967295))) / 4294967296))) 4294967295) + (IntKind.u64.wrap ((Go.bits .and .u64 a0 4294967295) * (a1 / 4294967296))))) / 4294967296)), IntKind.u64.wrap (a0 * a1))) = some (r1, r2) := h
 clear h
 simp only [Option.some.injEq, Prod.mk.injEq] at H
 obtain ⟨rfl, rfl⟩ := H
 go_enter Tryd.func87, Tryd.ntmps87
 go_wp2
 go_ret2
 exact ⟨zF, by repeat (first | exact Drawn0.refl _ | apply Drawn0.step)⟩
def bits_Add64.f (x y c : Int) : Option (Int × Int) := if c ≤ 1 then some (((x.toNat + y.toNat + c.toNat) % 18446744073709551616 : Nat), ((x.toNat + y.toNat + c.toNat) / 18446744073709551616 : Nat)) else none
def bits_Add64.entry : Array Value → Sem Value := fun args => do
 let (x, y, c) ← Extern.MathBitsCarry.three "Add64" args
 pure (Extern.MathBitsCarry.pair ((x + y + c) % Extern.MathBitsCarry.m64) ((x + y + c) / Extern.MathBitsCarry.m64))
theorem bits_Add64.run_entry (x y c : Int) (hc : c ≤ 1) (w : World) : (bits_Add64.entry #[.int .u64 x, .int .u64 y, .int .u64 c]).run Tryd.prog w = .ok (.tuple #[.int .u64 ((x.toNat + y.toNat + c.toNat) % 18446744073709551616 : Nat), .int .u64 ((x.toNat + y.toNat + c.toNat) / 18446744073709551616 : Nat)]) w := by
 rcases c with n | n
 ·
  match n, hc with
  | 0, _ => rfl
  | 1, _ => rfl
  | n + 2, hc => exact absurd hc (by simp; omega)
 ·
  rfl
theorem bits_Add64.run {W : World} {x y c r1 r2 : Int} (h : bits_Add64.f x y c = some (r1, r2)) : (callFunc 88 #[.int .u64 x, .int .u64 y, .int .u64 c]).run Tryd.prog W = .ok (.value (.tuple #[.int .u64 r1, .int .u64 r2])) W := by
 unfold bits_Add64.f at h
 split at h
 ·
  rename_i hc
  injection h with h
  injection h with h1 h2
  subst h1; subst h2
  rw [run_callFunc_extern Tryd.func88 (by kernel_rfl) (by kernel_rfl) (by kernel_rfl) (e := bits_Add64.entry) (by kernel_rfl), bits_Add64.run_entry x y c hc]
  rfl
 ·
  cases h
mutual
def zcb.l0 : Nat → List Int → List Int → List Int → Int → Int → Option (List Int)
 | 0, _, _, _, _, _ => none
 | k + 1, x1, x5, x20, x21, x22 => if x22 < x21 then (if 0 ≤ x22 then (if x22 < (x20.length : Int) then (zcb.l1 k x1 x5 x22 (rd x20 x22) 0 x20 x21 x22 x1 (x1.length : Int) 0) else (none)) else (none)) else ((zbd.f k x5).bind fun t549 => (some t549))
def zcb.l1 : Nat → List Int → List Int → Int → Int → Int → List Int → Int → Int → List Int → Int → Int → Option (List Int)
 | 0, _, _, _, _, _, _, _, _, _, _, _ => none
 | k + 1, x1, x5, x6, x7, x8, x20, x21, x22, x27, x28, x29 => if x29 < x28 then (if 0 ≤ x29 then (if x29 < (x27.length : Int) then ((bits_Mul64.f x7 (rd x27 x29)).bind fun bt554 => (if 0 ≤ (wrap64 (x6 + x29)) then (if (wrap64 (x6 + x29)) < (x5.length : Int) then ((bits_Add64.f bt554.2 (rd x5 (wrap64 (x6 + x29))) 0).bind fun bt557 => ((bits_Add64.f bt557.1 x8 0).bind fun bt559 => (zcb.l1 k x1 (x5.set ((wrap64 (x6 + x29)) : Int).toNat bt559.1) x6 x7 (IntKind.u64.wrap ((IntKind.u64.wrap (bt554.1 + bt557.2)) + bt559.2)) x20 x21 x22 x27 x28 (wrap64 (x29 + 1))))) else (none)) else (none))) else (none)) else (none)) else (if 0 ≤ (wrap64 (x6 + (x1.length : Int))) then (if (wrap64 (x6 + (x1.length : Int))) < (x5.length : Int) then (zcb.l0 k x1 (x5.set ((wrap64 (x6 + (x1.length : Int))) : Int).toNat x8) x20 x21 (wrap64 (x22 + 1))) else (none)) else (none))
end
def zcb.f (k : Nat) (l0 : List Int) (l1 : List Int) : Option (List Int) := if 0 ≤ (wrap64 ((l0.length : Int) + (l1.length : Int))) then (if (wrap64 ((l0.length : Int) + (l1.length : Int)) : Int).toNat ≤ 35184372088832 then (zcb.l0 k l1 (List.replicate (wrap64 ((l0.length : Int) + (l1.length : Int)) : Int).toNat 0) l0 (l0.length : Int) 0) else (none)) else (none)
theorem zcb.calls (k : Nat) (A0 : Option Addr) (c0 : Nat) (l0 : List Int) (A1 : Option Addr) (c1 : Nat) (l1 : List Int) (r : List Int) (w : World) (hr0 : Kd.C (Kd.int .u64) w A0 l0.length l0) (hc0 : l0.length ≤ c0) (hr1 : Kd.C (Kd.int .u64) w A1 l1.length l1) (hc1 : l1.length ≤ c1) (h : zcb.f k l0 l1 = some r) :
  Calls Tryd.prog 61 #[.slice A0 l0.length c0, .slice A1 l1.length c1] w fun e w' => ∃ v0_ : Value, e = .returned (v0_) ∧ Kd.V (Kd.int .u64) 57 w' w.heap.size (fun k_ => (w.heap.size ≤ k_)) v0_ r ∧ Below w.heap.size w w' := by
 have HR0 := zA hr0
 have HC0 := zA hc0
 clear hr0 hc0
 have HR1 := zA hr1
 have HC1 := zA hc1
 clear hr1 hc1
 have HB := zA (Below.refl w.heap.size w)
 have H : (if 0 ≤ (wrap64 ((l0.length : Int) + (l1.length : Int))) then (if (wrap64 ((l0.length : Int) + (l1.length : Int)) : Int).toNat ≤ 35184372088832 then (zcb.l0 k l1 (List.replicate (wrap64 ((l0.length : Int) + (l1.length : Int)) : Int).toNat 0) l0 (l0.length : Int) 0) else (none)) else (none)) = some r := h
 clear h
 obtain ⟨ji3, hji3⟩ : ∃ j_ : Int, (wrap64 ((l0.length : Int) + (l1.length : Int))) = j_ := ⟨_, rfl⟩
 replace H : (if 0 ≤ (ji3) then (if (ji3 : Int).toNat ≤ 35184372088832 then (zcb.l0 k l1 (List.replicate (ji3 : Int).toNat 0) l0 (l0.length : Int) 0) else (none)) else (none)) = some r := by first | (rw [hji3] at H; exact H) | (simp only [hji3] at H ⊢; exact H)
 have hji3w : (IntKind.i64.wrap ((l0.length : Int) + (l1.length : Int))) = ji3 := (i64_w _).trans hji3
 by_cases c4 : 0 ≤ (ji3)
 ·
  rw [if_pos c4] at H
  have c4b0 := eq_true c4
  have c4b1 : decide (0 ≤ (ji3)) = true := decide_eq_true c4
  clear c4
  by_cases c5 : (ji3 : Int).toNat ≤ 35184372088832
  ·
   rw [if_pos c5] at H
   have c5b0 := eq_true c5
   have c5b1 : decide ((ji3 : Int).toNat ≤ 35184372088832) = true := decide_eq_true c5
   clear c5
   obtain ⟨y546, hy546⟩ : ∃ y_ : List Int, y_ = (List.replicate (ji3 : Int).toNat 0) := ⟨_, rfl⟩
   replace H : (zcb.l0 k l1 y546 l0 (l0.length : Int) 0) = some r := by first | (rw [hy546]; with_reducible exact H) | (have H2_ := (Option.bind_some _ _).symm.trans H; rw [hy546]; with_reducible exact H2_) | (have H2_ := (Option.bind_some _ _).symm.trans H; with_reducible exact H2_) | with_reducible exact H | (rw [hy546]; exact H) | exact H
   have Ny546 := zA hy546
   clear hy546
   have H' := zA H
   clear H
   go_enter Tryd.func61, Tryd.ntmps61
   go_wp2_with (first | ((with_reducible refine zbh (N := 19) rfl ?_); refine Kd.R_make (Kd.int .u64) _ 57 rfl (N := 19) rfl 26 _ _ rfl ji3 rfl rfl Tryd.underlying26 (.int .u64 0) 8 info57 rfl (by decide) (by omega) 0 (ok := fun _ => True) (okp := fun _ => True) rfl (fun _ hk => hk) trivial (of_decide_eq_true (by first | (with_reducible assumption) | assumption)) (Nat.le_trans (Nat.mul_le_mul_right _ (of_decide_eq_true (by first | (with_reducible assumption) | assumption) : ji3.toNat ≤ 35184372088832)) (by omega)) (Below.refl _ _) (Nat.le_refl _) ?_; intro v547 w6 ho7 hb hg_ hnew_; clear hg_ hnew_; (first | rw [← Ny546.out] at ho7 | (simp only [Int.reduceToNat] at ho7; rw [← Ny546.out] at ho7)); have n0_ := zA (Kd.zbm (Kd.zc4 (M := fun k_ => (w.heap.size ≤ k_)) ho7 (za (zB HB)) (fun k_ h_ => h_)) (za (zB HB))); have n1_ := zA (zaf (zB HB) hb); clear HB; have HO548 := n0_; have HB := n1_; clear n0_ n1_ hb ho7))
   go_loopg [22] k (fun kq v22 w' => ∃ (x5_1 : List Int) (x22_1 : Int), v22 = .int .i64 x22_1 ∧ Aside0 (zcb.l0 kq l1 x5_1 l0 (l0.length : Int) x22_1 = some r) ∧ Aside0 (kq ≤ k) ∧ Aside0 (Kd.R (Kd.int .u64) 57 w' w.heap.size (fun k_ => (w.heap.size ≤ k_)) v547 x5_1) ∧ Aside0 (Below w.heap.size w w'))
   case atStart => exact ⟨(y546), (0), (zF), H', ⟨Nat.le_refl _⟩, ⟨by (with_reducible repeat (first | apply Kd.za3 | apply Kd.za4 | apply Kd.zbb)); exact Kd.zav HO548.out (fun _ hk => hk.1)⟩, ⟨zB HB⟩⟩
   case round =>
    clear H'
    try clear c1
    try clear p2
    try clear c4
    try clear c4b0
    try clear c4b1
    try clear c5
    try clear c5b0
    try clear c5b1
    try clear c6
    try clear p6
    obtain ⟨x5_1, x22_1, rfl, HA, HK1, HO_5, HB⟩ := hrel
    cases gk with
    | zero => exact absurd HA.out (by simp [zcb.l0])
    | succ k1 =>
     have H := HA.out
     clear HA
     simp only [zcb.l0] at H
     by_cases c8 : x22_1 < (l0.length : Int)
     ·
      rw [if_pos c8] at H
      have c8b0 : decide (x22_1 < (l0.length : Int)) = true := decide_eq_true c8
      clear c8
      by_cases c9 : 0 ≤ x22_1
      ·
       rw [if_pos c9] at H
       have c9b0 : decide (0 ≤ x22_1) = true := decide_eq_true c9
       clear c9
       by_cases c10 : x22_1 < (l0.length : Int)
       ·
        rw [if_pos c10] at H
        have c10b0 : decide (x22_1 < (l0.length : Int)) = true := decide_eq_true c10
        clear c10
        have H' := zA H
        clear H
        have p552 : 0 ≤ (x22_1 : Int) := of_decide_eq_true (by first | (with_reducible assumption) | assumption)
        have q552 : x22_1 < (l0.length : Int) := of_decide_eq_true (by first | (with_reducible assumption) | assumption)
        obtain ⟨ad552, e552, hx552_0⟩ := Kd.at_int HR0.out x22_1 p552 q552
        cases e552
        replace hx552_0 := (HB.out.cell (World.block_lt_of_cell? w _ hx552_0)).trans hx552_0
        replace p552 := eq_true p552
        replace q552 := eq_true q552
        go_wp2
        go_loopg [8, 29] k1 (fun kq v8 v29 w' => ∃ (x5_2 : List Int) (x8_2 : Int) (x29_2 : Int), v8 = .int .u64 x8_2 ∧ v29 = .int .i64 x29_2 ∧ Aside0 (zcb.l1 kq l1 x5_2 x22_1 (rd l0 x22_1) x8_2 l0 (l0.length : Int) x22_1 l1 (l1.length : Int) x29_2 = some r) ∧ Aside0 (kq ≤ k1) ∧ Aside0 (Kd.R (Kd.int .u64) 57 w' w.heap.size (fun k_ => (w.heap.size ≤ k_)) v547 x5_2) ∧ Aside0 (Below w.heap.size w w'))
        case atStart => exact ⟨(x5_1), (0), (0), (zF), (zF), H', ⟨Nat.le_refl _⟩, ⟨zR HO_5⟩, ⟨zB HB⟩⟩
        case round =>
         clear H'
         try clear c1
         try clear p2
         try clear c4
         try clear c4b0
         try clear c4b1
         try clear c5
         try clear c5b0
         try clear c5b1
         try clear p5
         try clear q5
         try clear hx5
         try clear c6
         try clear p6
         try clear c8
         try clear c8b0
         try clear c9
         try clear c9b0
         try clear c10
         try clear c10b0
         try clear hx552_0
         try clear p2
         try clear p552
         try clear p6
         try clear q552
         obtain ⟨x5_2, x8_2, x29_2, rfl, rfl, HA, HK2, HO_5, HB⟩ := hrel
         cases gk with
         | zero => exact absurd HA.out (by simp [zcb.l1])
         | succ k2 =>
          have H := HA.out
          clear HA
          simp only [zcb.l1] at H
          by_cases c11 : x29_2 < (l1.length : Int)
          ·
           rw [if_pos c11] at H
           have c11b0 : decide (x29_2 < (l1.length : Int)) = true := decide_eq_true c11
           clear c11
           by_cases c12 : 0 ≤ x29_2
           ·
            rw [if_pos c12] at H
            have c12b0 : decide (0 ≤ x29_2) = true := decide_eq_true c12
            clear c12
            by_cases c13 : x29_2 < (l1.length : Int)
            ·
             rw [if_pos c13] at H
             have c13b0 : decide (x29_2 < (l1.length : Int)) = true := decide_eq_true c13
             clear c13
             replace H := zO H
             obtain ⟨⟨t554, t555⟩, A140, H⟩ := H
             try dsimp only at H
             have A14 := zA A140
             clear A140
             obtain ⟨ji15, hji15⟩ : ∃ j_ : Int, (wrap64 (x22_1 + x29_2)) = j_ := ⟨_, rfl⟩
             replace H : (if 0 ≤ (ji15) then (if (ji15) < (x5_2.length : Int) then ((bits_Add64.f t555 (rd x5_2 (ji15)) 0).bind fun bt557 => ((bits_Add64.f bt557.1 x8_2 0).bind fun bt559 => (zcb.l1 k2 l1 (x5_2.set ((ji15) : Int).toNat bt559.1) x22_1 (rd l0 x22_1) (IntKind.u64.wrap ((IntKind.u64.wrap (t554 + bt557.2)) + bt559.2)) l0 (l0.length : Int) x22_1 l1 (l1.length : Int) (wrap64 (x29_2 + 1))))) else (none)) else (none)) = some r := by first | (rw [hji15] at H; exact H) | (simp only [hji15] at H ⊢; exact H)
             (try rw [hji15] at A14)
             have hji15w : (IntKind.i64.wrap (x22_1 + x29_2)) = ji15 := (i64_w _).trans hji15
             by_cases c16 : 0 ≤ (ji15)
             ·
              rw [if_pos c16] at H
              have c16b0 : decide (0 ≤ (ji15)) = true := decide_eq_true c16
              clear c16
              by_cases c17 : (ji15) < (x5_2.length : Int)
              ·
               rw [if_pos c17] at H
               have c17b0 : decide ((ji15) < (x5_2.length : Int)) = true := decide_eq_true c17
               clear c17
               replace H := zO H
               obtain ⟨⟨t557, t558⟩, A180, H⟩ := H
               try dsimp only at H
               have A18 := fun W_ => bits_Add64.run (W := W_) A180
               clear A180
               replace H := zO H
               obtain ⟨⟨t559, t560⟩, A190, H⟩ := H
               try dsimp only at H
               have A19 := fun W_ => bits_Add64.run (W := W_) A190
               clear A190
               obtain ⟨y561, hy561⟩ : ∃ y_ : List Int, y_ = (x5_2.set ((ji15) : Int).toNat t559) := ⟨_, rfl⟩
               replace H : (zcb.l1 k2 l1 y561 x22_1 (rd l0 x22_1) (IntKind.u64.wrap ((IntKind.u64.wrap (t554 + t558)) + t560)) l0 (l0.length : Int) x22_1 l1 (l1.length : Int) (wrap64 (x29_2 + 1))) = some r := by first | (rw [hy561]; with_reducible exact H) | (have H2_ := (Option.bind_some _ _).symm.trans H; rw [hy561]; with_reducible exact H2_) | (have H2_ := (Option.bind_some _ _).symm.trans H; with_reducible exact H2_) | with_reducible exact H | (rw [hy561]; exact H) | exact H
               have Ny561 := zA hy561
               clear hy561
               have H' := zA H
               clear H
               have p553 : 0 ≤ (x29_2 : Int) := of_decide_eq_true (by first | (with_reducible assumption) | assumption)
               have q553 : x29_2 < (l1.length : Int) := of_decide_eq_true (by first | (with_reducible assumption) | assumption)
               obtain ⟨ad553, e553, hx553_0⟩ := Kd.at_int HR1.out x29_2 p553 q553
               cases e553
               replace hx553_0 := (HB.out.cell (World.block_lt_of_cell? w _ hx553_0)).trans hx553_0
               replace p553 := eq_true p553
               replace q553 := eq_true q553
               go_wp2_with (first | ((with_reducible refine zah (f := 87) rfl ?_); refine zba (some 37) rfl rfl Tryd.func87 (by kernel_rfl) rfl #[.int .u64 (rd l0 x22_1), .int .u64 (rd l1 x29_2)] rfl (zE) ?_; (with_reducible refine (bits_Mul64.calls (rd l0 x22_1) (rd l1 x29_2) t554 t555 _ A14.out).mono ?_); rintro e w' ⟨rfl, ⟨nd, rfl⟩⟩; refine ⟨_, rfl, ?_⟩; (try (rw [drewN_self wr]; generalize hq_ : World.drewN wr _ = wr; have n0_ : Aside0 (Kd.R (Kd.int .u64) 57 wr w.heap.size (fun k_ => (w.heap.size ≤ k_)) v547 x5_2) := ⟨by rw [← hq_]; exact (zR HO_5)⟩; have n1_ : Aside0 (Below w.heap.size w wr) := ⟨by rw [← hq_]; exact (zB HB)⟩; clear HO_5 HB hq_; have HO_5 := n0_; have HB := n1_; clear n0_ n1_)); obtain ⟨Ao21, co21, eo21⟩ := Kd.zbn HO_5.out; subst eo21; have p556 : 0 ≤ ((ji15) : Int) := of_decide_eq_true (by first | (with_reducible assumption) | assumption); have q556 : (ji15) < (x5_2.length : Int) := of_decide_eq_true (by first | (with_reducible assumption) | assumption); obtain ⟨ad556, e556, hx556_0⟩ := Kd.at_int (Kd.zat HO_5.out).2.2 (ji15) p556 q556; cases e556; replace p556 := eq_true p556; replace q556 := eq_true q556; have p20 : 0 ≤ ((ji15) : Int) := of_decide_eq_true (by first | (with_reducible assumption) | assumption); have q20 : ((ji15) : Int) < ((x5_2.length : Int) : Int) := of_decide_eq_true (by first | (with_reducible assumption) | assumption); obtain ⟨go20, co20, eo20, gb20, gl20, cl20, HG20⟩ := Kd.R_form HO_5.out (by omega); (first | cases eo20 | (injection eo20 with ea_ en_ ec_; (first | subst ea_ | (injection ea_ with ea_; subst ea_)); subst ec_; clear en_)); have GB20 := zA gb20; have GG20 := zA HG20; clear gb20 gl20 HG20; (first | simp only [add_plain] at hx556_0 | skip); obtain ⟨hx20_0, hf20_0⟩ := Kd.zda 0 HO_5.out ((ji15) : Int) p20 q20; replace p20 := eq_true p20; replace q20 := eq_true q20; obtain ⟨hy22_, hz22_⟩ := Kd.zda 0 HO_5.out ((ji15) : Int) (of_decide_eq_true (by first | (with_reducible assumption) | assumption)) (of_decide_eq_true (by first | (with_reducible assumption) | assumption)); have HP22 := Kd.R_putg HO_5.out ((ji15) : Int) t559) | ((with_reducible refine zde (t := 57) (p := 68) rfl ?_); refine zc1 (t := 57) (p := 68) (v := ?vo_w23) (w1 := (wr.setCell ⟨go20, ((ji15) : Int).toNat, none⟩ (.int .u64 t559))) ?hg ?ho ?hn ?hr ?_; (case ho => rfl); (case hg => rfl); (case hn => rfl); (case hr => first | (go_simp; done) | (go_simp; rfl)); intro w23 hw; have hg : wr.grownBy w23 (some go20) := (by rw [hw]; exact HP22.2); have hp_ : Kd.R (Kd.int .u64) 57 w23 w.heap.size (fun k_ => (w.heap.size ≤ k_)) (.slice (some ⟨go20, 0, none⟩) x5_2.length co21) y561 := (by rw [hw, Ny561.out]; exact HP22.1); clear HP22; have n0_ := zA (hp_); have n1_ := zA ((by rw [hw]; exact zdg (HB.out) GB20.out : Below w.heap.size w w23)); clear HO_5 HB; have HO_5 := n0_; have HB := n1_; clear n0_ n1_ hg hw hp_))
               go_roundg k2
               case measure => have := HK1.out; have := HK2.out; omega
               case rel => exact ⟨(y561), (IntKind.u64.wrap ((IntKind.u64.wrap (t554 + t558)) + t560)), (wrap64 (x29_2 + 1)), (zF), (zF), H', ⟨by have := HK1.out; have := HK2.out; omega⟩, ⟨zR HO_5⟩, ⟨zB HB⟩⟩
              ·
               rw [if_neg c17] at H
               exact absurd H (by simp)
             ·
              rw [if_neg c16] at H
              exact absurd H (by simp)
            ·
             rw [if_neg c13] at H
             exact absurd H (by simp)
           ·
            rw [if_neg c12] at H
            exact absurd H (by simp)
          ·
           rw [if_neg c11] at H
           have c11b0 : decide (x29_2 < (l1.length : Int)) = false := decide_eq_false c11
           clear c11
           obtain ⟨ji24, hji24⟩ : ∃ j_ : Int, (wrap64 (x22_1 + (l1.length : Int))) = j_ := ⟨_, rfl⟩
           replace H : (if 0 ≤ (ji24) then (if (ji24) < (x5_2.length : Int) then (zcb.l0 k2 l1 (x5_2.set ((ji24) : Int).toNat x8_2) l0 (l0.length : Int) (wrap64 (x22_1 + 1))) else (none)) else (none)) = some r := by first | (rw [hji24] at H; exact H) | (simp only [hji24] at H ⊢; exact H)
           have hji24w : (IntKind.i64.wrap (x22_1 + (l1.length : Int))) = ji24 := (i64_w _).trans hji24
           by_cases c25 : 0 ≤ (ji24)
           ·
            rw [if_pos c25] at H
            have c25b0 : decide (0 ≤ (ji24)) = true := decide_eq_true c25
            clear c25
            by_cases c26 : (ji24) < (x5_2.length : Int)
            ·
             rw [if_pos c26] at H
             have c26b0 : decide ((ji24) < (x5_2.length : Int)) = true := decide_eq_true c26
             clear c26
             obtain ⟨y562, hy562⟩ : ∃ y_ : List Int, y_ = (x5_2.set ((ji24) : Int).toNat x8_2) := ⟨_, rfl⟩
             replace H : (zcb.l0 k2 l1 y562 l0 (l0.length : Int) (wrap64 (x22_1 + 1))) = some r := by first | (rw [hy562]; with_reducible exact H) | (have H2_ := (Option.bind_some _ _).symm.trans H; rw [hy562]; with_reducible exact H2_) | (have H2_ := (Option.bind_some _ _).symm.trans H; with_reducible exact H2_) | with_reducible exact H | (rw [hy562]; exact H) | exact H
             have Ny562 := zA hy562
             clear hy562
             have H' := zA H
             clear H
             have p27 : 0 ≤ ((ji24) : Int) := of_decide_eq_true (by first | (with_reducible assumption) | assumption)
             have q27 : ((ji24) : Int) < ((x5_2.length : Int) : Int) := of_decide_eq_true (by first | (with_reducible assumption) | assumption)
             obtain ⟨go27, co27, eo27, gb27, gl27, cl27, HG27⟩ := Kd.R_form HO_5.out (by omega)
             (first | cases eo27 | (injection eo27 with ea_ en_ ec_; (first | subst ea_ | (injection ea_ with ea_; subst ea_)); subst ec_; clear en_))
             have GB27 := zA gb27
             have GG27 := zA HG27
             clear gb27 gl27 HG27
             obtain ⟨hx27_0, hf27_0⟩ := Kd.zda 0 HO_5.out ((ji24) : Int) p27 q27
             replace p27 := eq_true p27
             replace q27 := eq_true q27
             have HP28 := Kd.R_putg HO_5.out ((ji24) : Int) x8_2
             go_wp2_with (first | ((with_reducible refine zde (t := 57) (p := 76) rfl ?_); refine zc1 (t := 57) (p := 76) (v := ?vo_w29) (w1 := (wr.setCell ⟨go27, ((ji24) : Int).toNat, none⟩ (.int .u64 x8_2))) ?hg ?ho ?hn ?hr ?_; (case ho => rfl); (case hg => rfl); (case hn => rfl); (case hr => first | (go_simp; done) | (go_simp; rfl)); intro w29 hw; have hg : wr.grownBy w29 (some go27) := (by rw [hw]; exact HP28.2); have hp_ : Kd.R (Kd.int .u64) 57 w29 w.heap.size (fun k_ => (w.heap.size ≤ k_)) (.slice (some ⟨go27, 0, none⟩) x5_2.length co27) y562 := (by rw [hw, Ny562.out]; exact HP28.1); clear HP28; have n0_ := zA (hp_); have n1_ := zA ((by rw [hw]; exact zdg (HB.out) GB27.out : Below w.heap.size w w29)); clear HO_5 HB; have HO_5 := n0_; have HB := n1_; clear n0_ n1_ hg hw hp_))
             go_roundg k2
             case measure => have := HK1.out; have := HK2.out; omega
             case rel => exact ⟨(y562), (wrap64 (x22_1 + 1)), (zF), H', ⟨by have := HK1.out; have := HK2.out; omega⟩, ⟨zR HO_5⟩, ⟨zB HB⟩⟩
            ·
             rw [if_neg c26] at H
             exact absurd H (by simp)
           ·
            rw [if_neg c25] at H
            exact absurd H (by simp)
       ·
        rw [if_neg c10] at H
        exact absurd H (by simp)
      ·
       rw [if_neg c9] at H
       exact absurd H (by simp)
     ·
      rw [if_neg c8] at H
      have c8b0 : decide (x22_1 < (l0.length : Int)) = false := decide_eq_false c8
      clear c8
      replace H := zO H
      obtain ⟨t549, A300, H⟩ := H
      try dsimp only at H
      have A30 := zA A300
      clear A300
      obtain rfl := Option.some.inj H
      obtain ⟨Ao31, co31, eo31⟩ := Kd.zbn HO_5.out
      subst eo31
      go_wp2_with (first | ((with_reducible refine zah (f := 65) rfl ?_); refine zba (some 79) rfl rfl Tryd.func65 (by kernel_rfl) rfl #[.slice Ao31 x5_1.length co31] rfl (zE) ?_; (with_reducible refine (zbd.calls k1 (fun k_ => some k_ = (.slice Ao31 x5_1.length co31 : Value).ownBlock) _ _ x5_1 t549 _ ?side1 A30.out).mono ?_); (case side1 => exact Kd.R_V (Kd.zdf rfl (HO_5.out))); rintro e w32 ⟨v550, rfl, ho0, hb⟩; refine ⟨_, rfl, ?_⟩; have n0_ := zA (Kd.zax (zR HO_5) hb); have n1_ := zA (Kd.zbi (Kd.zak (ok' := fun k_ => (w.heap.size ≤ k_)) ho0 (fun k_ hk_ => Or.elim hk_ (fun hs_ => ((HO_5.out).1 k_ hs_.symm)) (fun hn_ => (Nat.le_trans (za (zB HB)) hn_)))) (za (zB HB))); have n2_ := zA (zaf (zB HB) hb); clear HO_5 HB; have HO_5 := n0_; have HO551 := n1_; have HB := n2_; clear n0_ n1_ n2_; (try clear hb); (try clear hb2); (try clear hk); (try clear hi); (try clear ho0)))
      go_ret
      exact ⟨_, by first | rfl | (simp [zcm, zcl] <;> rfl) | (simp only [← hji3]; first | rfl | (simp [zcm, zcl] <;> rfl)) | (simp [*, zcm, zcl] <;> rfl), zV HO551, zB HB⟩
  ·
   rw [if_neg c5] at H
   exact absurd H (by simp)
 ·
  rw [if_neg c4] at H
  exact absurd H (by simp)
def zbw.f (k : Nat) (l0_0 : List Int) (l0_1 : List Int) (l1_0 : List Int) (l1_1 : List Int) : Option (List Int × List Int × List Int) := (zcb.f k l0_0 l1_1).bind fun t696 => ((zcb.f k l1_0 l0_1).bind fun t699 => ((zcb.f k l0_1 l1_1).bind fun t702 => (some (t696, t699, t702))))
def zbw.T1 : Bool × List (List Nat × List Nat) := (true, [([], []), ([0], [0]), ([], []), ([2], [2]), ([1, 3], [1, 3]), ([], []), ([5], [5]), ([], []), ([7], [7]), ([6, 8, 4], [6, 8]), ([], []), ([10], [10]), ([], []), ([12], [12]), ([11, 13, 9], [11, 13]), ([4, 14, 0, 1, 2, 3, 4], [4]), ([9, 15, 0, 1, 2, 3, 4, 5, 6, 7, 8, 9, 15], [9]), ([14, 16, 0, 1, 2, 3, 4, 5, 6, 7, 8, 9, 10, 11, 12, 13, 14, 15, 16], [14])])
def zbw.B1 : List Nat := [0, 1, 0, 4, 15, 0, 32, 0, 128, 511, 0, 1024, 0, 4096, 16383, 32767, 65535, 131071]
theorem zbw.tab1 : rtab .any (opsOf Tryd.f62 1) = zbw.T1 := by kernel_rfl
theorem zbw.bits1 : waitsOk zbw.T1.2 zbw.B1 = true := by kernel_rfl
theorem zbw.calls (k : Nat) (A0_0 : Option Addr) (c0_0 : Nat) (l0_0 : List Int) (A0_1 : Option Addr) (c0_1 : Nat) (l0_1 : List Int) (A1_0 : Option Addr) (c1_0 : Nat) (l1_0 : List Int) (A1_1 : Option Addr) (c1_1 : Nat) (l1_1 : List Int) (r1 : List Int) (r2 : List Int) (r3 : List Int) (w : World) (hr0_0 : Kd.C (Kd.int .u64) w A0_0 l0_0.length l0_0) (hc0_0 : l0_0.length ≤ c0_0) (hr0_1 : Kd.C (Kd.int .u64) w A0_1 l0_1.length l0_1) (hc0_1 : l0_1.length ≤ c0_1) (hr1_0 : Kd.C (Kd.int .u64) w A1_0 l1_0.length l1_0) (hc1_0 : l1_0.length ≤ c1_0) (hr1_1 : Kd.C (Kd.int .u64) w A1_1 l1_1.length l1_1) (hc1_1 : l1_1.length ≤ c1_1) (h : zbw.f k l0_0 l0_1 l1_0 l1_1 = some (r1, r2, r3)) :
  Calls Tryd.prog 62 #[.agg #[.slice A0_0 l0_0.length c0_0, .slice A0_1 l0_1.length c0_1], .agg #[.slice A1_0 l1_0.length c1_0, .slice A1_1 l1_1.length c1_1]] w fun e w' => ∃ v0_ v1_ v2_ : Value, e = .returned (.tuple #[v0_, v1_, v2_]) ∧ Kd.V (Kd.int .u64) 57 w' w.heap.size (fun k_ => (w.heap.size ≤ k_)) v0_ r1 ∧ Kd.V (Kd.int .u64) 57 w' w.heap.size (fun k_ => (w.heap.size ≤ k_)) v1_ r2 ∧ Kd.V (Kd.int .u64) 57 w' w.heap.size (fun k_ => (w.heap.size ≤ k_)) v2_ r3 ∧ Below w.heap.size w w' := by
 have hu28 := Tryd.underlying28
 have HR0_0 := zA hr0_0
 have HC0_0 := zA hc0_0
 clear hr0_0 hc0_0
 have HR0_1 := zA hr0_1
 have HC0_1 := zA hc0_1
 clear hr0_1 hc0_1
 have HR1_0 := zA hr1_0
 have HC1_0 := zA hc1_0
 clear hr1_0 hc1_0
 have HR1_1 := zA hr1_1
 have HC1_1 := zA hc1_1
 clear hr1_1 hc1_1
 have HB := zA (Below.refl w.heap.size w)
 have H : ((zcb.f k l0_0 l1_1).bind fun t696 => ((zcb.f k l1_0 l0_1).bind fun t699 => ((zcb.f k l0_1 l1_1).bind fun t702 => (some (t696, t699, t702))))) = some (r1, r2, r3) := h
 clear h
 replace H := zO H
 obtain ⟨t696, A30, H⟩ := H
 try dsimp only at H
 have A3 := zA A30
 clear A30
 replace H := zO H
 obtain ⟨t699, A40, H⟩ := H
 try dsimp only at H
 have A4 := zA A40
 clear A40
 replace H := zO H
 obtain ⟨t702, A50, H⟩ := H
 try dsimp only at H
 have A5 := zA A50
 clear A50
 simp only [Option.some.injEq, Prod.mk.injEq] at H
 obtain ⟨rfl, rfl, rfl⟩ := H
 go_enter Tryd.func62, Tryd.ntmps62
 try go_wp2_with (first | ((with_reducible refine zbh (N := 2) rfl ?_); refine zbj ?hg (N := 2) ?hd (cs := #[.slice A0_0 l0_0.length c0_0, .slice A0_1 l0_1.length c0_1]) (t := 28) ?hr ?_; (case hd => rfl); (case hg => rfl); (case hr => first | (go_simp; done) | (go_simp; rfl)); intro gb694 hg w6 hbox hb; have n0_ := zA (zaf (zB HB) hb); have n1_ := zA (hbox); have n2_ := zA ((by rw [hg]; exact (za (zB HB)) : w.heap.size ≤ gb694)); have n3_ := zA ((by rw [hg]; exact (za (zB HB)) : w.heap.size ≤ gb694)); clear HB; have HB := n0_; have BK694 := n1_; have GW694 := n2_; have GE694 := n3_; clear n0_ n1_ n2_ n3_ hb hbox hg) | ((with_reducible refine zbh (N := 3) rfl ?_); refine zbj ?hg (N := 3) ?hd (cs := #[.slice A1_0 l1_0.length c1_0, .slice A1_1 l1_1.length c1_1]) (t := 28) ?hr ?_; (case hd => rfl); (case hg => rfl); (case hr => first | (go_simp; done) | (go_simp; rfl)); intro gb695 hg w7 hbox hb; have n0_ := zA (zaa (g := gb694) (o := .cells #[.slice A0_0 l0_0.length c0_0, .slice A0_1 l0_1.length c0_1] 28 (0, 0)) (zK BK694) hb); have n1_ := zA (zaf (zB HB) hb); have n2_ := zA (hbox); have n3_ := zA ((by rw [hg]; exact (za (zB HB)) : w.heap.size ≤ gb695)); have n4_ := zA ((by rw [hg]; exact (za (zB HB)) : w.heap.size ≤ gb695)); have n5_ := zA ((by rw [hg]; exact Nat.ne_of_lt (za5 (g := gb694) (o := .cells #[.slice A0_0 l0_0.length c0_0, .slice A0_1 l0_1.length c0_1] 28 (0, 0)) (zK BK694)) : gb694 ≠ gb695)); have n6_ := zA ((by rw [hg]; exact Nat.ne_of_gt (za5 (g := gb694) (o := .cells #[.slice A0_0 l0_0.length c0_0, .slice A0_1 l0_1.length c0_1] 28 (0, 0)) (zK BK694)) : gb695 ≠ gb694)); clear BK694 HB; have BK694 := n0_; have HB := n1_; have BK695 := n2_; have GW695 := n3_; have GE695 := n4_; have NB694_695 := n5_; have NB695_694 := n6_; clear n0_ n1_ n2_ n3_ n4_ n5_ n6_ hb hbox hg))
 have n0_ := zA (zae BK694.out)
 have n1_ := zA (zae BK695.out)
 have n2_ := zA (zb0 HB.out)
 clear BK694 BK695 HB
 have BK694 := n0_
 have BK695 := n1_
 have HB := n2_
 clear n0_ n1_ n2_
 refine start_ (n := 18) (S := fun w' => w'.cell? ⟨gb694, 0, none⟩ = some (.slice A0_0 l0_0.length c0_0) ∧ w'.cell? ⟨gb694, 1, none⟩ = some (.slice A0_1 l0_1.length c0_1) ∧ w'.cell? ⟨gb695, 0, none⟩ = some (.slice A1_0 l1_0.length c1_0) ∧ w'.cell? ⟨gb695, 1, none⟩ = some (.slice A1_1 l1_1.length c1_1)) (ds := []) #[false, false, false, false, false, false, false, false, false, false, false, false, false, false, false, false, false, false] (by kernel_rfl) rfl rfl ⟨(zad BK694.out 0).trans rfl, (zad BK694.out 1).trans rfl, (zad BK695.out 0).trans rfl, (zad BK695.out 1).trans rfl⟩ (fun hHeld => ?_); refine zc0 zbw.tab1 zbw.bits1 (fun HT_ HW_ => ?_)
 generalize w7.drew = w8 at BK694 BK695 HB hHeld ⊢
 refine pure_ (i := 0) (N := some 7) (v := ?_) (a' := ?_) #[true, false, false, false, false, false, false, false, false, false, false, false, false, false, false, false, false, false] rfl rfl (zbf HT_.out (by kernel_rfl)) (fun _ _ _ h => h) (Or.inl ⟨by rfl, ?_⟩) ?_ ?_
 rotate_left
 ·
  intro w'
  go_simp
  with_reducible rfl
 rotate_left
 ·
  simp only [Act.put, zs1, zs2, zs3, i64_w, i32_w]
  rfl
 refine pure_ (i := 2) (N := some 9) (v := ?_) (a' := ?_) #[true, false, true, false, false, false, false, false, false, false, false, false, false, false, false, false, false, false] rfl rfl (zbf HT_.out (by kernel_rfl)) (fun _ _ _ h => h) (Or.inl ⟨by rfl, ?_⟩) ?_ ?_
 rotate_left
 ·
  intro w'
  go_simp
  with_reducible rfl
 rotate_left
 ·
  simp only [Act.put, zs1, zs2, zs3, i64_w, i32_w]
  rfl
 refine pure_ (i := 5) (N := some 12) (v := ?_) (a' := ?_) #[true, false, true, false, false, true, false, false, false, false, false, false, false, false, false, false, false, false] rfl rfl (zbf HT_.out (by kernel_rfl)) (fun _ _ _ h => h) (Or.inl ⟨by rfl, ?_⟩) ?_ ?_
 rotate_left
 ·
  intro w'
  go_simp
  with_reducible rfl
 rotate_left
 ·
  simp only [Act.put, zs1, zs2, zs3, i64_w, i32_w]
  rfl
 refine pure_ (i := 7) (N := some 14) (v := ?_) (a' := ?_) #[true, false, true, false, false, true, false, true, false, false, false, false, false, false, false, false, false, false] rfl rfl (zbf HT_.out (by kernel_rfl)) (fun _ _ _ h => h) (Or.inl ⟨by rfl, ?_⟩) ?_ ?_
 rotate_left
 ·
  intro w'
  go_simp
  with_reducible rfl
 rotate_left
 ·
  simp only [Act.put, zs1, zs2, zs3, i64_w, i32_w]
  rfl
 refine pure_ (i := 10) (N := some 17) (v := ?_) (a' := ?_) #[true, false, true, false, false, true, false, true, false, false, true, false, false, false, false, false, false, false] rfl rfl (zbf HT_.out (by kernel_rfl)) (fun _ _ _ h => h) (Or.inl ⟨by rfl, ?_⟩) ?_ ?_
 rotate_left
 ·
  intro w'
  go_simp
  with_reducible rfl
 rotate_left
 ·
  simp only [Act.put, zs1, zs2, zs3, i64_w, i32_w]
  rfl
 refine pure_ (i := 12) (N := some 19) (v := ?_) (a' := ?_) #[true, false, true, false, false, true, false, true, false, false, true, false, true, false, false, false, false, false] rfl rfl (zbf HT_.out (by kernel_rfl)) (fun _ _ _ h => h) (Or.inl ⟨by rfl, ?_⟩) ?_ ?_
 rotate_left
 ·
  intro w'
  go_simp
  with_reducible rfl
 rotate_left
 ·
  simp only [Act.put, zs1, zs2, zs3, i64_w, i32_w]
  rfl
 refine take_ (i := 1) (N := some 8) (v := ?_) (a' := ?_) #[true, true, true, false, false, true, false, true, false, false, true, false, true, false, false, false, false, false] rfl rfl (zbx HT_.out HW_.out (by kernel_rfl)) (fun _ _ _ h => h) (Or.inl ⟨by rfl, ?_⟩) hHeld ?_ ?_
 rotate_left
 ·
  rintro w' ⟨s0, s1, s2, s3⟩
  go_simp
  with_reducible rfl
 rotate_left
 ·
  simp only [Act.put, zs1, zs2, zs3, i64_w, i32_w]
  rfl
 refine take_ (i := 3) (N := some 10) (v := ?_) (a' := ?_) #[true, true, true, true, false, true, false, true, false, false, true, false, true, false, false, false, false, false] rfl rfl (zbx HT_.out HW_.out (by kernel_rfl)) (fun _ _ _ h => h) (Or.inl ⟨by rfl, ?_⟩) hHeld ?_ ?_
 rotate_left
 ·
  rintro w' ⟨s0, s1, s2, s3⟩
  go_simp
  with_reducible rfl
 rotate_left
 ·
  simp only [Act.put, zs1, zs2, zs3, i64_w, i32_w]
  rfl
 refine take_ (i := 6) (N := some 13) (v := ?_) (a' := ?_) #[true, true, true, true, false, true, true, true, false, false, true, false, true, false, false, false, false, false] rfl rfl (zbx HT_.out HW_.out (by kernel_rfl)) (fun _ _ _ h => h) (Or.inl ⟨by rfl, ?_⟩) hHeld ?_ ?_
 rotate_left
 ·
  rintro w' ⟨s0, s1, s2, s3⟩
  go_simp
  with_reducible rfl
 rotate_left
 ·
  simp only [Act.put, zs1, zs2, zs3, i64_w, i32_w]
  rfl
 refine take_ (i := 8) (N := some 15) (v := ?_) (a' := ?_) #[true, true, true, true, false, true, true, true, true, false, true, false, true, false, false, false, false, false] rfl rfl (zbx HT_.out HW_.out (by kernel_rfl)) (fun _ _ _ h => h) (Or.inl ⟨by rfl, ?_⟩) hHeld ?_ ?_
 rotate_left
 ·
  rintro w' ⟨s0, s1, s2, s3⟩
  go_simp
  with_reducible rfl
 rotate_left
 ·
  simp only [Act.put, zs1, zs2, zs3, i64_w, i32_w]
  rfl
 refine take_ (i := 11) (N := some 18) (v := ?_) (a' := ?_) #[true, true, true, true, false, true, true, true, true, false, true, true, true, false, false, false, false, false] rfl rfl (zbx HT_.out HW_.out (by kernel_rfl)) (fun _ _ _ h => h) (Or.inl ⟨by rfl, ?_⟩) hHeld ?_ ?_
 rotate_left
 ·
  rintro w' ⟨s0, s1, s2, s3⟩
  go_simp
  with_reducible rfl
 rotate_left
 ·
  simp only [Act.put, zs1, zs2, zs3, i64_w, i32_w]
  rfl
 refine take_ (i := 13) (N := some 20) (v := ?_) (a' := ?_) #[true, true, true, true, false, true, true, true, true, false, true, true, true, true, false, false, false, false] rfl rfl (zbx HT_.out HW_.out (by kernel_rfl)) (fun _ _ _ h => h) (Or.inl ⟨by rfl, ?_⟩) hHeld ?_ ?_
 rotate_left
 ·
  rintro w' ⟨s0, s1, s2, s3⟩
  go_simp
  with_reducible rfl
 rotate_left
 ·
  simp only [Act.put, zs1, zs2, zs3, i64_w, i32_w]
  rfl
 refine one_ (i := 4) (N := some 11) #[true, true, true, true, true, true, true, true, true, false, true, true, true, true, false, false, false, false] rfl rfl (zcf HT_.out (by kernel_rfl)) (by decide) (fun K hK => ?_)
 refine goes_ Tryd.func61 (by kernel_rfl) rfl #[.slice A0_0 l0_0.length c0_0, .slice A1_1 l1_1.length c1_1] (by rfl) rfl rfl (zE) ?_
 with_reducible refine (zcb.calls k _ _ l0_0 _ _ l1_1 t696 _ ?side1 ?side2 ?side3 ?side4 A3.out).mono ?_
 (case side1 => exact zJ (Kd.za6 HR0_0.out HB.out))
 (case side2 => exact HC0_0.out)
 (case side3 => exact zJ (Kd.za6 HR1_1.out HB.out))
 (case side4 => exact HC1_1.out)
 rintro e w9 ⟨v697, rfl, ho0, hb⟩
 refine ⟨_, rfl, ?_⟩
 have n0_ := zA (Kd.zbi (Kd.zak (ok' := fun k_ => (w.heap.size ≤ k_) ∧ k_ ≠ gb694 ∧ k_ ≠ gb695) ho0 (fun k_ hk_ => ⟨(Nat.le_trans (za (zB HB)) hk_), (Kd.freshB (g := gb694) (o := .cells #[.slice A0_0 l0_0.length c0_0, .slice A0_1 l0_1.length c0_1] 28 (0, 0)) (zK BK694) k_ hk_), (Kd.freshB (g := gb695) (o := .cells #[.slice A1_0 l1_0.length c1_0, .slice A1_1 l1_1.length c1_1] 28 (0, 0)) (zK BK695) k_ hk_)⟩)) (za (zB HB)))
 have n1_ := zA (zaa (g := gb694) (o := .cells #[.slice A0_0 l0_0.length c0_0, .slice A0_1 l0_1.length c0_1] 28 (0, 0)) (zK BK694) hb)
 have n2_ := zA (zaa (g := gb695) (o := .cells #[.slice A1_0 l1_0.length c1_0, .slice A1_1 l1_1.length c1_1] 28 (0, 0)) (zK BK695) hb)
 have n3_ := zA (zaf (zB HB) hb)
 clear BK694 BK695 HB
 have HO698 := n0_
 have BK694 := n1_
 have BK695 := n2_
 have HB := n3_
 clear n0_ n1_ n2_ n3_
 (try clear hb)
 (try clear hb2)
 (try clear hk)
 (try clear hi)
 (try clear ho0)
 refine hK.out _ _ ⟨(zad BK694.out 0).trans rfl, (zad BK694.out 1).trans rfl, (zad BK695.out 0).trans rfl, (zad BK695.out 1).trans rfl⟩ (fun hHeld => ?_)
 clear hK K
 refine norm_ (a' := ?_) ?_ ?_
 rotate_left
 ·
  show Act.put _ (some 11) _ = _
  simp only [Act.put, zs1, zs2, zs3, i64_w, i32_w]
  rfl
 refine one_ (i := 9) (N := some 16) #[true, true, true, true, true, true, true, true, true, true, true, true, true, true, false, false, false, false] rfl rfl (zcf HT_.out (by kernel_rfl)) (by decide) (fun K hK => ?_)
 refine goes_ Tryd.func61 (by kernel_rfl) rfl #[.slice A1_0 l1_0.length c1_0, .slice A0_1 l0_1.length c0_1] (by rfl) rfl rfl (zE) ?_
 with_reducible refine (zcb.calls k _ _ l1_0 _ _ l0_1 t699 _ ?side1 ?side2 ?side3 ?side4 A4.out).mono ?_
 (case side1 => exact zJ (Kd.za6 HR1_0.out HB.out))
 (case side2 => exact HC1_0.out)
 (case side3 => exact zJ (Kd.za6 HR0_1.out HB.out))
 (case side4 => exact HC0_1.out)
 rintro e w10 ⟨v700, rfl, ho0, hb⟩
 refine ⟨_, rfl, ?_⟩
 have n0_ := zA (Kd.zao (zV HO698) hb)
 have n1_ := zA (Kd.zbi (Kd.zak (ok' := fun k_ => (w.heap.size ≤ k_) ∧ k_ ≠ gb694 ∧ k_ ≠ gb695) ho0 (fun k_ hk_ => ⟨(Nat.le_trans (za (zB HB)) hk_), (Kd.freshB (g := gb694) (o := .cells #[.slice A0_0 l0_0.length c0_0, .slice A0_1 l0_1.length c0_1] 28 (0, 0)) (zK BK694) k_ hk_), (Kd.freshB (g := gb695) (o := .cells #[.slice A1_0 l1_0.length c1_0, .slice A1_1 l1_1.length c1_1] 28 (0, 0)) (zK BK695) k_ hk_)⟩)) (za (zB HB)))
 have n2_ := zA (zaa (g := gb694) (o := .cells #[.slice A0_0 l0_0.length c0_0, .slice A0_1 l0_1.length c0_1] 28 (0, 0)) (zK BK694) hb)
 have n3_ := zA (zaa (g := gb695) (o := .cells #[.slice A1_0 l1_0.length c1_0, .slice A1_1 l1_1.length c1_1] 28 (0, 0)) (zK BK695) hb)
 have n4_ := zA (zaf (zB HB) hb)
 clear HO698 BK694 BK695 HB
 have HO698 := n0_
 have HO701 := n1_
 have BK694 := n2_
 have BK695 := n3_
 have HB := n4_
 clear n0_ n1_ n2_ n3_ n4_
 (try clear hb)
 (try clear hb2)
 (try clear hk)
 (try clear hi)
 (try clear ho0)
 refine hK.out _ _ ⟨(zad BK694.out 0).trans rfl, (zad BK694.out 1).trans rfl, (zad BK695.out 0).trans rfl, (zad BK695.out 1).trans rfl⟩ (fun hHeld => ?_)
 clear hK K
 refine norm_ (a' := ?_) ?_ ?_
 rotate_left
 ·
  show Act.put _ (some 16) _ = _
  simp only [Act.put, zs1, zs2, zs3, i64_w, i32_w]
  rfl
 refine one_ (i := 14) (N := some 21) #[true, true, true, true, true, true, true, true, true, true, true, true, true, true, true, false, false, false] rfl rfl (zcf HT_.out (by kernel_rfl)) (by decide) (fun K hK => ?_)
 refine goes_ Tryd.func61 (by kernel_rfl) rfl #[.slice A0_1 l0_1.length c0_1, .slice A1_1 l1_1.length c1_1] (by rfl) rfl rfl (zE) ?_
 with_reducible refine (zcb.calls k _ _ l0_1 _ _ l1_1 t702 _ ?side1 ?side2 ?side3 ?side4 A5.out).mono ?_
 (case side1 => exact zJ (Kd.za6 HR0_1.out HB.out))
 (case side2 => exact HC0_1.out)
 (case side3 => exact zJ (Kd.za6 HR1_1.out HB.out))
 (case side4 => exact HC1_1.out)
 rintro e w11 ⟨v703, rfl, ho0, hb⟩
 refine ⟨_, rfl, ?_⟩
 have n0_ := zA (Kd.zao (zV HO698) hb)
 have n1_ := zA (Kd.zao (zV HO701) hb)
 have n2_ := zA (Kd.zbi (Kd.zak (ok' := fun k_ => (w.heap.size ≤ k_) ∧ k_ ≠ gb694 ∧ k_ ≠ gb695) ho0 (fun k_ hk_ => ⟨(Nat.le_trans (za (zB HB)) hk_), (Kd.freshB (g := gb694) (o := .cells #[.slice A0_0 l0_0.length c0_0, .slice A0_1 l0_1.length c0_1] 28 (0, 0)) (zK BK694) k_ hk_), (Kd.freshB (g := gb695) (o := .cells #[.slice A1_0 l1_0.length c1_0, .slice A1_1 l1_1.length c1_1] 28 (0, 0)) (zK BK695) k_ hk_)⟩)) (za (zB HB)))
 have n3_ := zA (zaa (g := gb694) (o := .cells #[.slice A0_0 l0_0.length c0_0, .slice A0_1 l0_1.length c0_1] 28 (0, 0)) (zK BK694) hb)
 have n4_ := zA (zaa (g := gb695) (o := .cells #[.slice A1_0 l1_0.length c1_0, .slice A1_1 l1_1.length c1_1] 28 (0, 0)) (zK BK695) hb)
 have n5_ := zA (zaf (zB HB) hb)
 clear HO698 HO701 BK694 BK695 HB
 have HO698 := n0_
 have HO701 := n1_
 have HO704 := n2_
 have BK694 := n3_
 have BK695 := n4_
 have HB := n5_
 clear n0_ n1_ n2_ n3_ n4_ n5_
 (try clear hb)
 (try clear hb2)
 (try clear hk)
 (try clear hi)
 (try clear ho0)
 refine hK.out _ _ ⟨(zad BK694.out 0).trans rfl, (zad BK694.out 1).trans rfl, (zad BK695.out 0).trans rfl, (zad BK695.out 1).trans rfl⟩ (fun hHeld => ?_)
 clear hK K
 refine norm_ (a' := ?_) ?_ ?_
 rotate_left
 ·
  show Act.put _ (some 21) _ = _
  simp only [Act.put, zs1, zs2, zs3, i64_w, i32_w]
  rfl
 refine pure_ (i := 15) (N := some 4) (v := ?_) (a' := ?_) #[true, true, true, true, true, true, true, true, true, true, true, true, true, true, true, true, false, false] rfl rfl (zbf HT_.out (by kernel_rfl)) (fun _ _ _ h => h) (Or.inl ⟨by rfl, ?_⟩) ?_ ?_
 rotate_left
 ·
  intro w'
  go_simp
  with_reducible rfl
 rotate_left
 ·
  simp only [Act.put, zs1, zs2, zs3, i64_w, i32_w]
  rfl
 refine pure_ (i := 16) (N := some 5) (v := ?_) (a' := ?_) #[true, true, true, true, true, true, true, true, true, true, true, true, true, true, true, true, true, false] rfl rfl (zbf HT_.out (by kernel_rfl)) (fun _ _ _ h => h) (Or.inl ⟨by rfl, ?_⟩) ?_ ?_
 rotate_left
 ·
  intro w'
  go_simp
  with_reducible rfl
 rotate_left
 ·
  simp only [Act.put, zs1, zs2, zs3, i64_w, i32_w]
  rfl
 refine pure_ (i := 17) (N := some 6) (v := ?_) (a' := ?_) #[true, true, true, true, true, true, true, true, true, true, true, true, true, true, true, true, true, true] rfl rfl (zbf HT_.out (by kernel_rfl)) (fun _ _ _ h => h) (Or.inl ⟨by rfl, ?_⟩) ?_ ?_
 rotate_left
 ·
  intro w'
  go_simp
  with_reducible rfl
 rotate_left
 ·
  simp only [Act.put, zs1, zs2, zs3, i64_w, i32_w]
  rfl
 refine done_ (done_of HT_.out (by kernel_rfl)) ?_
 try go_wp2
 go_ret3
 exact ⟨_, _, _, zW, by (with_reducible repeat (first | apply Kd.za8 | apply Kd.za9 | apply Kd.zbc)); exact Kd.zak HO698.out (fun _ hk => hk.1), by (with_reducible repeat (first | apply Kd.za8 | apply Kd.za9 | apply Kd.zbc)); exact Kd.zak HO701.out (fun _ hk => hk.1), by (with_reducible repeat (first | apply Kd.za8 | apply Kd.za9 | apply Kd.zbc)); exact Kd.zak HO704.out (fun _ hk => hk.1), zB HB⟩
def nat_Sub.f (k : Nat) (l0 : List Int) (l1 : List Int) : Option (List Int × Int) := (zcs.f l0 l1).bind fun t705 => (if t705 < 0 then (some (([] : List Int), 14)) else ((zbu.f k l0 l1).bind fun t706 => (some (t706, 0))))
theorem nat_Sub.calls (k : Nat) (A0 : Option Addr) (c0 : Nat) (l0 : List Int) (A1 : Option Addr) (c1 : Nat) (l1 : List Int) (r1 : List Int) (r2 : Int) (w : World) (hr0 : Kd.C (Kd.int .u64) w A0 l0.length l0) (hc0 : l0.length ≤ c0) (hr1 : Kd.C (Kd.int .u64) w A1 l1.length l1) (hc1 : l1.length ≤ c1) (h : nat_Sub.f k l0 l1 = some (r1, r2)) :
  Calls Tryd.prog 63 #[.slice A0 l0.length c0, .slice A1 l1.length c1] w fun e w' => ∃ v0_ : Value, e = .returned (.tuple #[v0_, .int .i64 r2]) ∧ Kd.V (Kd.int .u64) 57 w' w.heap.size (fun k_ => (w.heap.size ≤ k_)) v0_ r1 ∧ Below w.heap.size w w' := by
 have HR0 := zA hr0
 have HC0 := zA hc0
 clear hr0 hc0
 have HR1 := zA hr1
 have HC1 := zA hc1
 clear hr1 hc1
 have HB := zA (Below.refl w.heap.size w)
 have H : ((zcs.f l0 l1).bind fun t705 => (if t705 < 0 then (some (([] : List Int), 14)) else ((zbu.f k l0 l1).bind fun t706 => (some (t706, 0))))) = some (r1, r2) := h
 clear h
 replace H := zO H
 obtain ⟨t705, A30, H⟩ := H
 try dsimp only at H
 have A3 := zA A30
 clear A30
 by_cases c4 : t705 < 0
 ·
  rw [if_pos c4] at H
  have c4b0 : decide (t705 < 0) = true := decide_eq_true c4
  clear c4
  simp only [Option.some.injEq, Prod.mk.injEq] at H
  obtain ⟨rfl, rfl⟩ := H
  go_enter Tryd.func63, Tryd.ntmps63
  go_wp2_with (first | ((with_reducible refine zah (f := 52) rfl ?_); refine zba (some 8) rfl rfl Tryd.func52 (by kernel_rfl) rfl #[.slice A0 l0.length c0, .slice A1 l1.length c1] rfl (zE) ?_; (with_reducible refine (zcs.calls _ _ l0 _ _ l1 t705 _ ?side1 ?side2 ?side3 ?side4 A3.out).mono ?_); (case side1 => repeat (first | exact HR0.out | (with_reducible refine Kd.C_alloc ?_ _) | (with_reducible refine Kd.C_drewN ?_ _) | (with_reducible refine Kd.C_drew ?_))); (case side2 => exact HC0.out); (case side3 => repeat (first | exact HR1.out | (with_reducible refine Kd.C_alloc ?_ _) | (with_reducible refine Kd.C_drewN ?_ _) | (with_reducible refine Kd.C_drew ?_))); (case side4 => exact HC1.out); rintro e w5 ⟨rfl, hb⟩; refine ⟨_, rfl, ?_⟩; have n0_ := zA (zaf (zB HB) hb); clear HB; have HB := n0_; clear n0_; (try clear hb); (try clear hb2); (try clear hk); (try clear hi)))
  go_ret2
  exact ⟨_, zW, Kd.V_nil _ _ _ _ _, zB HB⟩
 ·
  rw [if_neg c4] at H
  have c4b0 : decide (t705 < 0) = false := decide_eq_false c4
  clear c4
  replace H := zO H
  obtain ⟨t706, A60, H⟩ := H
  try dsimp only at H
  have A6 := zA A60
  clear A60
  simp only [Option.some.injEq, Prod.mk.injEq] at H
  obtain ⟨rfl, rfl⟩ := H
  go_enter Tryd.func63, Tryd.ntmps63
  go_wp2_with (first | ((with_reducible refine zah (f := 52) rfl ?_); refine zba (some 8) rfl rfl Tryd.func52 (by kernel_rfl) rfl #[.slice A0 l0.length c0, .slice A1 l1.length c1] rfl (zE) ?_; (with_reducible refine (zcs.calls _ _ l0 _ _ l1 t705 _ ?side1 ?side2 ?side3 ?side4 A3.out).mono ?_); (case side1 => repeat (first | exact HR0.out | (with_reducible refine Kd.C_alloc ?_ _) | (with_reducible refine Kd.C_drewN ?_ _) | (with_reducible refine Kd.C_drew ?_))); (case side2 => exact HC0.out); (case side3 => repeat (first | exact HR1.out | (with_reducible refine Kd.C_alloc ?_ _) | (with_reducible refine Kd.C_drewN ?_ _) | (with_reducible refine Kd.C_drew ?_))); (case side4 => exact HC1.out); rintro e w7 ⟨rfl, hb⟩; refine ⟨_, rfl, ?_⟩; have n0_ := zA (zaf (zB HB) hb); clear HB; have HB := n0_; clear n0_; (try clear hb); (try clear hb2); (try clear hk); (try clear hi)) | ((with_reducible refine zah (f := 86) rfl ?_); refine zba (some 12) rfl rfl Tryd.func86 (by kernel_rfl) rfl #[.slice A0 l0.length c0, .slice A1 l1.length c1] rfl (zE) ?_; (with_reducible refine (zbu.calls k _ _ l0 _ _ l1 t706 _ ?side1 ?side2 ?side3 ?side4 A6.out).mono ?_); (case side1 => exact zJ (Kd.za6 HR0.out HB.out)); (case side2 => exact HC0.out); (case side3 => exact zJ (Kd.za6 HR1.out HB.out)); (case side4 => exact HC1.out); rintro e w8 ⟨v707, rfl, ho0, hb⟩; refine ⟨_, rfl, ?_⟩; have n0_ := zA (Kd.zbi (Kd.zak (ok' := fun k_ => (w.heap.size ≤ k_)) ho0 (fun k_ hk_ => (Nat.le_trans (za (zB HB)) hk_))) (za (zB HB))); have n1_ := zA (zaf (zB HB) hb); clear HB; have HO708 := n0_; have HB := n1_; clear n0_ n1_; (try clear hb); (try clear hb2); (try clear hk); (try clear hi); (try clear ho0)))
  go_ret2
  exact ⟨_, zW, zV HO708, zB HB⟩
def ratio_Sub.f (k : Nat) (l0_0 : List Int) (l0_1 : List Int) (l1_0 : List Int) (l1_1 : List Int) : Option (List Int × List Int × Int) := (zbw.f k l0_0 l0_1 l1_0 l1_1).bind fun bt712 => ((nat_Sub.f k bt712.1 bt712.2.1).bind fun bt721 => (if bt721.2 = 0 then ((zb7.f k bt721.1 bt712.2.2).bind fun bt725 => (some (bt725.1, bt725.2, 0))) else (some (([] : List Int), ([] : List Int), bt721.2))))
theorem ratio_Sub.calls (k : Nat) (A0_0 : Option Addr) (c0_0 : Nat) (l0_0 : List Int) (A0_1 : Option Addr) (c0_1 : Nat) (l0_1 : List Int) (A1_0 : Option Addr) (c1_0 : Nat) (l1_0 : List Int) (A1_1 : Option Addr) (c1_1 : Nat) (l1_1 : List Int) (r1 : List Int) (r2 : List Int) (r3 : Int) (w : World) (hr0_0 : Kd.C (Kd.int .u64) w A0_0 l0_0.length l0_0) (hc0_0 : l0_0.length ≤ c0_0) (hr0_1 : Kd.C (Kd.int .u64) w A0_1 l0_1.length l0_1) (hc0_1 : l0_1.length ≤ c0_1) (hr1_0 : Kd.C (Kd.int .u64) w A1_0 l1_0.length l1_0) (hc1_0 : l1_0.length ≤ c1_0) (hr1_1 : Kd.C (Kd.int .u64) w A1_1 l1_1.length l1_1) (hc1_1 : l1_1.length ≤ c1_1) (h : ratio_Sub.f k l0_0 l0_1 l1_0 l1_1 = some (r1, r2, r3)) :
  Calls Tryd.prog 33 #[.agg #[.slice A0_0 l0_0.length c0_0, .slice A0_1 l0_1.length c0_1], .agg #[.slice A1_0 l1_0.length c1_0, .slice A1_1 l1_1.length c1_1]] w fun e w' => ∃ v0_ v1_ : Value, e = .returned (.tuple #[.agg #[v0_, v1_], .int .i64 r3]) ∧ Kd.V (Kd.int .u64) 57 w' w.heap.size (fun k_ => (w.heap.size ≤ k_)) v0_ r1 ∧ Kd.V (Kd.int .u64) 57 w' w.heap.size (fun k_ => (w.heap.size ≤ k_)) v1_ r2 ∧ Below w.heap.size w w' := by
 have hu28 := Tryd.underlying28
 have HR0_0 := zA hr0_0
 have HC0_0 := zA hc0_0
 clear hr0_0 hc0_0
 have HR0_1 := zA hr0_1
 have HC0_1 := zA hc0_1
 clear hr0_1 hc0_1
 have HR1_0 := zA hr1_0
 have HC1_0 := zA hc1_0
 clear hr1_0 hc1_0
 have HR1_1 := zA hr1_1
 have HC1_1 := zA hc1_1
 clear hr1_1 hc1_1
 have HB := zA (Below.refl w.heap.size w)
 have H : ((zbw.f k l0_0 l0_1 l1_0 l1_1).bind fun bt712 => ((nat_Sub.f k bt712.1 bt712.2.1).bind fun bt721 => (if bt721.2 = 0 then ((zb7.f k bt721.1 bt712.2.2).bind fun bt725 => (some (bt725.1, bt725.2, 0))) else (some (([] : List Int), ([] : List Int), bt721.2))))) = some (r1, r2, r3) := h
 clear h
 replace H := zO H
 obtain ⟨⟨t712, t715, t718⟩, A30, H⟩ := H
 try dsimp only at H
 have A3 := zA A30
 clear A30
 replace H := zO H
 obtain ⟨⟨t721, t724⟩, A40, H⟩ := H
 try dsimp only at H
 have A4 := zA A40
 clear A40
 by_cases c5 : t724 = 0
 ·
  rw [if_pos c5] at H
  have c5b0 : (t724 == 0) = true := beq_iff_eq.mpr c5
  have c5b1 : (t724 != 0) = false := bne_eq_false_iff_eq.mpr c5
  clear c5
  replace H := zO H
  obtain ⟨⟨t725, t728⟩, A60, H⟩ := H
  try dsimp only at H
  have A6 := zA A60
  clear A60
  simp only [Option.some.injEq, Prod.mk.injEq] at H
  obtain ⟨rfl, rfl, rfl⟩ := H
  go_enter Tryd.func33, Tryd.ntmps33
  go_wp2_with (first | ((with_reducible refine zbh (N := 2) rfl ?_); refine zbj ?hg (N := 2) ?hd (cs := #[.slice A0_0 l0_0.length c0_0, .slice A0_1 l0_1.length c0_1]) (t := 28) ?hr ?_; (case hd => rfl); (case hg => rfl); (case hr => first | (go_simp; done) | (go_simp; rfl)); intro gb709 hg w7 hbox hb; have n0_ := zA (zaf (zB HB) hb); have n1_ := zA (hbox); have n2_ := zA ((by rw [hg]; exact (za (zB HB)) : w.heap.size ≤ gb709)); have n3_ := zA ((by rw [hg]; exact (za (zB HB)) : w.heap.size ≤ gb709)); clear HB; have HB := n0_; have BK709 := n1_; have GW709 := n2_; have GE709 := n3_; clear n0_ n1_ n2_ n3_ hb hbox hg) | ((with_reducible refine zbh (N := 3) rfl ?_); refine zbj ?hg (N := 3) ?hd (cs := #[.slice A1_0 l1_0.length c1_0, .slice A1_1 l1_1.length c1_1]) (t := 28) ?hr ?_; (case hd => rfl); (case hg => rfl); (case hr => first | (go_simp; done) | (go_simp; rfl)); intro gb710 hg w8 hbox hb; have n0_ := zA (zaa (g := gb709) (o := .cells #[.slice A0_0 l0_0.length c0_0, .slice A0_1 l0_1.length c0_1] 28 (0, 0)) (zK BK709) hb); have n1_ := zA (zaf (zB HB) hb); have n2_ := zA (hbox); have n3_ := zA ((by rw [hg]; exact (za (zB HB)) : w.heap.size ≤ gb710)); have n4_ := zA ((by rw [hg]; exact (za (zB HB)) : w.heap.size ≤ gb710)); have n5_ := zA ((by rw [hg]; exact Nat.ne_of_lt (za5 (g := gb709) (o := .cells #[.slice A0_0 l0_0.length c0_0, .slice A0_1 l0_1.length c0_1] 28 (0, 0)) (zK BK709)) : gb709 ≠ gb710)); have n6_ := zA ((by rw [hg]; exact Nat.ne_of_gt (za5 (g := gb709) (o := .cells #[.slice A0_0 l0_0.length c0_0, .slice A0_1 l0_1.length c0_1] 28 (0, 0)) (zK BK709)) : gb710 ≠ gb709)); clear BK709 HB; have BK709 := n0_; have HB := n1_; have BK710 := n2_; have GW710 := n3_; have GE710 := n4_; have NB709_710 := n5_; have NB710_709 := n6_; clear n0_ n1_ n2_ n3_ n4_ n5_ n6_ hb hbox hg) | ((with_reducible refine zbh (N := 4) rfl ?_); refine zbj ?hg (N := 4) ?hd (cs := #[.slice none 0 0, .slice none 0 0]) (t := 28) ?hr ?_; (case hd => rfl); (case hg => rfl); (case hr => first | (go_simp; done) | (go_simp; rfl)); intro gb711 hg w9 hbox hb; have n0_ := zA (zaa (g := gb709) (o := .cells #[.slice A0_0 l0_0.length c0_0, .slice A0_1 l0_1.length c0_1] 28 (0, 0)) (zK BK709) hb); have n1_ := zA (zaa (g := gb710) (o := .cells #[.slice A1_0 l1_0.length c1_0, .slice A1_1 l1_1.length c1_1] 28 (0, 0)) (zK BK710) hb); have n2_ := zA (zaf (zB HB) hb); have n3_ := zA (hbox); have n4_ := zA ((by rw [hg]; exact (za (zB HB)) : w.heap.size ≤ gb711)); have n5_ := zA ((by rw [hg]; exact (za (zB HB)) : w.heap.size ≤ gb711)); have n6_ := zA ((by rw [hg]; exact Nat.ne_of_lt (za5 (g := gb709) (o := .cells #[.slice A0_0 l0_0.length c0_0, .slice A0_1 l0_1.length c0_1] 28 (0, 0)) (zK BK709)) : gb709 ≠ gb711)); have n7_ := zA ((by rw [hg]; exact Nat.ne_of_gt (za5 (g := gb709) (o := .cells #[.slice A0_0 l0_0.length c0_0, .slice A0_1 l0_1.length c0_1] 28 (0, 0)) (zK BK709)) : gb711 ≠ gb709)); have n8_ := zA ((by rw [hg]; exact Nat.ne_of_lt (za5 (g := gb710) (o := .cells #[.slice A1_0 l1_0.length c1_0, .slice A1_1 l1_1.length c1_1] 28 (0, 0)) (zK BK710)) : gb710 ≠ gb711)); have n9_ := zA ((by rw [hg]; exact Nat.ne_of_gt (za5 (g := gb710) (o := .cells #[.slice A1_0 l1_0.length c1_0, .slice A1_1 l1_1.length c1_1] 28 (0, 0)) (zK BK710)) : gb711 ≠ gb710)); clear BK709 BK710 HB; have BK709 := n0_; have BK710 := n1_; have HB := n2_; have BK711 := n3_; have GW711 := n4_; have GE711 := n5_; have NB709_711 := n6_; have NB711_709 := n7_; have NB710_711 := n8_; have NB711_710 := n9_; clear n0_ n1_ n2_ n3_ n4_ n5_ n6_ n7_ n8_ n9_ hb hbox hg; have hnb10 := NB709_710.out; have hnc10 := NB710_709.out; have hnb11 := NB709_711.out; have hnc11 := NB711_709.out; have hcz12_0 : w9.cell? ⟨gb709, 0, none⟩ = some (.slice A0_0 l0_0.length c0_0) := (zad BK709.out 0).trans rfl; have hcz12_1 : w9.cell? ⟨gb709, 1, none⟩ = some (.slice A0_1 l0_1.length c0_1) := (zad BK709.out 1).trans rfl; have hfz12_0 := zal BK709.out 0; have hfz12_1 := zal BK709.out 1; have hnb13 := NB710_711.out; have hnc13 := NB711_710.out; have hcz14_0 : w9.cell? ⟨gb710, 0, none⟩ = some (.slice A1_0 l1_0.length c1_0) := (zad BK710.out 0).trans rfl; have hcz14_1 : w9.cell? ⟨gb710, 1, none⟩ = some (.slice A1_1 l1_1.length c1_1) := (zad BK710.out 1).trans rfl; have hfz14_0 := zal BK710.out 0; have hfz14_1 := zal BK710.out 1) | ((with_reducible refine zah (f := 62) rfl ?_); refine zba (some 14) rfl rfl Tryd.func62 (by kernel_rfl) rfl #[.agg #[.slice A0_0 l0_0.length c0_0, .slice A0_1 l0_1.length c0_1], .agg #[.slice A1_0 l1_0.length c1_0, .slice A1_1 l1_1.length c1_1]] rfl (zE) ?_; (with_reducible refine (zbw.calls k _ _ l0_0 _ _ l0_1 _ _ l1_0 _ _ l1_1 t712 t715 t718 _ ?side1 ?side2 ?side3 ?side4 ?side5 ?side6 ?side7 ?side8 A3.out).mono ?_); (case side1 => exact zJ (Kd.za6 HR0_0.out HB.out)); (case side2 => exact HC0_0.out); (case side3 => exact zJ (Kd.za6 HR0_1.out HB.out)); (case side4 => exact HC0_1.out); (case side5 => exact zJ (Kd.za6 HR1_0.out HB.out)); (case side6 => exact HC1_0.out); (case side7 => exact zJ (Kd.za6 HR1_1.out HB.out)); (case side8 => exact HC1_1.out); rintro e w15 ⟨v713, v716, v719, rfl, ho0, ho1, ho2, hb⟩; refine ⟨_, rfl, ?_⟩; have n0_ := zA (Kd.zbi (Kd.zak (ok' := fun k_ => (w.heap.size ≤ k_) ∧ k_ ≠ gb709 ∧ k_ ≠ gb710 ∧ k_ ≠ gb711) ho0 (fun k_ hk_ => ⟨(Nat.le_trans (za (zB HB)) hk_), (Kd.freshB (g := gb709) (o := .cells #[.slice A0_0 l0_0.length c0_0, .slice A0_1 l0_1.length c0_1] 28 (0, 0)) (zK BK709) k_ hk_), (Kd.freshB (g := gb710) (o := .cells #[.slice A1_0 l1_0.length c1_0, .slice A1_1 l1_1.length c1_1] 28 (0, 0)) (zK BK710) k_ hk_), (Kd.freshB (g := gb711) (o := .cells #[.slice none 0 0, .slice none 0 0] 28 (0, 0)) (zK BK711) k_ hk_)⟩)) (za (zB HB))); have n1_ := zA (Kd.zbi (Kd.zak (ok' := fun k_ => (w.heap.size ≤ k_) ∧ k_ ≠ gb709 ∧ k_ ≠ gb710 ∧ k_ ≠ gb711) ho1 (fun k_ hk_ => ⟨(Nat.le_trans (za (zB HB)) hk_), (Kd.freshB (g := gb709) (o := .cells #[.slice A0_0 l0_0.length c0_0, .slice A0_1 l0_1.length c0_1] 28 (0, 0)) (zK BK709) k_ hk_), (Kd.freshB (g := gb710) (o := .cells #[.slice A1_0 l1_0.length c1_0, .slice A1_1 l1_1.length c1_1] 28 (0, 0)) (zK BK710) k_ hk_), (Kd.freshB (g := gb711) (o := .cells #[.slice none 0 0, .slice none 0 0] 28 (0, 0)) (zK BK711) k_ hk_)⟩)) (za (zB HB))); have n2_ := zA (Kd.zbi (Kd.zak (ok' := fun k_ => (w.heap.size ≤ k_) ∧ k_ ≠ gb709 ∧ k_ ≠ gb710 ∧ k_ ≠ gb711) ho2 (fun k_ hk_ => ⟨(Nat.le_trans (za (zB HB)) hk_), (Kd.freshB (g := gb709) (o := .cells #[.slice A0_0 l0_0.length c0_0, .slice A0_1 l0_1.length c0_1] 28 (0, 0)) (zK BK709) k_ hk_), (Kd.freshB (g := gb710) (o := .cells #[.slice A1_0 l1_0.length c1_0, .slice A1_1 l1_1.length c1_1] 28 (0, 0)) (zK BK710) k_ hk_), (Kd.freshB (g := gb711) (o := .cells #[.slice none 0 0, .slice none 0 0] 28 (0, 0)) (zK BK711) k_ hk_)⟩)) (za (zB HB))); have n3_ := zA (zaa (g := gb709) (o := .cells #[.slice A0_0 l0_0.length c0_0, .slice A0_1 l0_1.length c0_1] 28 (0, 0)) (zK BK709) hb); have n4_ := zA (zaa (g := gb710) (o := .cells #[.slice A1_0 l1_0.length c1_0, .slice A1_1 l1_1.length c1_1] 28 (0, 0)) (zK BK710) hb); have n5_ := zA (zaa (g := gb711) (o := .cells #[.slice none 0 0, .slice none 0 0] 28 (0, 0)) (zK BK711) hb); have n6_ := zA (zaf (zB HB) hb); clear BK709 BK710 BK711 HB; have HO714 := n0_; have HO717 := n1_; have HO720 := n2_; have BK709 := n3_; have BK710 := n4_; have BK711 := n5_; have HB := n6_; clear n0_ n1_ n2_ n3_ n4_ n5_ n6_; (try clear hb); (try clear hb2); (try clear hk); (try clear hi); (try clear ho0); (try clear ho1); (try clear ho2); obtain ⟨Ao16, co16, eo16⟩ := Kd.zbt HO714.out; subst eo16; obtain ⟨Ao17, co17, eo17⟩ := Kd.zbt HO717.out; subst eo17) | ((with_reducible refine zah (f := 63) rfl ?_); refine zba (some 21) rfl rfl Tryd.func63 (by kernel_rfl) rfl #[.slice Ao16 t712.length co16, .slice Ao17 t715.length co17] rfl (zE) ?_; (with_reducible refine (nat_Sub.calls k _ _ t712 _ _ t715 t721 t724 _ ?side1 ?side2 ?side3 ?side4 A4.out).mono ?_); (case side1 => exact zJ (Kd.zas HO714.out).2.2); (case side2 => exact (Kd.zas HO714.out).2.1); (case side3 => exact zJ (Kd.zas HO717.out).2.2); (case side4 => exact (Kd.zas HO717.out).2.1); rintro e w18 ⟨v722, rfl, ho0, hb⟩; refine ⟨_, rfl, ?_⟩; have n0_ := zA (Kd.zao (zV HO714) hb); have n1_ := zA (Kd.zao (zV HO717) hb); have n2_ := zA (Kd.zao (zV HO720) hb); have n3_ := zA (Kd.zbi (Kd.zak (ok' := fun k_ => (w.heap.size ≤ k_) ∧ k_ ≠ gb709 ∧ k_ ≠ gb710 ∧ k_ ≠ gb711) ho0 (fun k_ hk_ => ⟨(Nat.le_trans (za (zB HB)) hk_), (Kd.freshB (g := gb709) (o := .cells #[.slice A0_0 l0_0.length c0_0, .slice A0_1 l0_1.length c0_1] 28 (0, 0)) (zK BK709) k_ hk_), (Kd.freshB (g := gb710) (o := .cells #[.slice A1_0 l1_0.length c1_0, .slice A1_1 l1_1.length c1_1] 28 (0, 0)) (zK BK710) k_ hk_), (Kd.freshB (g := gb711) (o := .cells #[.slice none 0 0, .slice none 0 0] 28 (0, 0)) (zK BK711) k_ hk_)⟩)) (za (zB HB))); have n4_ := zA (zaa (g := gb709) (o := .cells #[.slice A0_0 l0_0.length c0_0, .slice A0_1 l0_1.length c0_1] 28 (0, 0)) (zK BK709) hb); have n5_ := zA (zaa (g := gb710) (o := .cells #[.slice A1_0 l1_0.length c1_0, .slice A1_1 l1_1.length c1_1] 28 (0, 0)) (zK BK710) hb); have n6_ := zA (zaa (g := gb711) (o := .cells #[.slice none 0 0, .slice none 0 0] 28 (0, 0)) (zK BK711) hb); have n7_ := zA (zaf (zB HB) hb); clear HO714 HO717 HO720 BK709 BK710 BK711 HB; have HO714 := n0_; have HO717 := n1_; have HO720 := n2_; have HO723 := n3_; have BK709 := n4_; have BK710 := n5_; have BK711 := n6_; have HB := n7_; clear n0_ n1_ n2_ n3_ n4_ n5_ n6_ n7_; (try clear hb); (try clear hb2); (try clear hk); (try clear hi); (try clear ho0); obtain ⟨Ao19, co19, eo19⟩ := Kd.zbt HO723.out; subst eo19; obtain ⟨Ao20, co20, eo20⟩ := Kd.zbt HO720.out; subst eo20) | ((with_reducible refine zah (f := 58) rfl ?_); refine zba (some 30) rfl rfl Tryd.func58 (by kernel_rfl) rfl #[.slice Ao19 t721.length co19, .slice Ao20 t718.length co20] rfl (zE) ?_; (with_reducible refine (zb7.calls k _ _ t721 _ _ t718 t725 t728 _ ?side1 ?side2 ?side3 ?side4 A6.out).mono ?_); (case side1 => exact zJ (Kd.zas HO723.out).2.2); (case side2 => exact (Kd.zas HO723.out).2.1); (case side3 => exact zJ (Kd.zas HO720.out).2.2); (case side4 => exact (Kd.zas HO720.out).2.1); rintro e w21 ⟨v726, v729, rfl, ho0, ho1, hb⟩; refine ⟨_, rfl, ?_⟩; have n0_ := zA (Kd.zao (zV HO714) hb); have n1_ := zA (Kd.zao (zV HO717) hb); have n2_ := zA (Kd.zao (zV HO720) hb); have n3_ := zA (Kd.zao (zV HO723) hb); have n4_ := zA (Kd.zbi (Kd.zak (ok' := fun k_ => (w.heap.size ≤ k_) ∧ k_ ≠ gb709 ∧ k_ ≠ gb710 ∧ k_ ≠ gb711) ho0 (fun k_ hk_ => ⟨(Nat.le_trans (za (zB HB)) hk_), (Kd.freshB (g := gb709) (o := .cells #[.slice A0_0 l0_0.length c0_0, .slice A0_1 l0_1.length c0_1] 28 (0, 0)) (zK BK709) k_ hk_), (Kd.freshB (g := gb710) (o := .cells #[.slice A1_0 l1_0.length c1_0, .slice A1_1 l1_1.length c1_1] 28 (0, 0)) (zK BK710) k_ hk_), (Kd.freshB (g := gb711) (o := .cells #[.slice none 0 0, .slice none 0 0] 28 (0, 0)) (zK BK711) k_ hk_)⟩)) (za (zB HB))); have n5_ := zA (Kd.zbi (Kd.zak (ok' := fun k_ => (w.heap.size ≤ k_) ∧ k_ ≠ gb709 ∧ k_ ≠ gb710 ∧ k_ ≠ gb711) ho1 (fun k_ hk_ => ⟨(Nat.le_trans (za (zB HB)) hk_), (Kd.freshB (g := gb709) (o := .cells #[.slice A0_0 l0_0.length c0_0, .slice A0_1 l0_1.length c0_1] 28 (0, 0)) (zK BK709) k_ hk_), (Kd.freshB (g := gb710) (o := .cells #[.slice A1_0 l1_0.length c1_0, .slice A1_1 l1_1.length c1_1] 28 (0, 0)) (zK BK710) k_ hk_), (Kd.freshB (g := gb711) (o := .cells #[.slice none 0 0, .slice none 0 0] 28 (0, 0)) (zK BK711) k_ hk_)⟩)) (za (zB HB))); have n6_ := zA (zaa (g := gb709) (o := .cells #[.slice A0_0 l0_0.length c0_0, .slice A0_1 l0_1.length c0_1] 28 (0, 0)) (zK BK709) hb); have n7_ := zA (zaa (g := gb710) (o := .cells #[.slice A1_0 l1_0.length c1_0, .slice A1_1 l1_1.length c1_1] 28 (0, 0)) (zK BK710) hb); have n8_ := zA (zaa (g := gb711) (o := .cells #[.slice none 0 0, .slice none 0 0] 28 (0, 0)) (zK BK711) hb); have n9_ := zA (zaf (zB HB) hb); clear HO714 HO717 HO720 HO723 BK709 BK710 BK711 HB; have HO714 := n0_; have HO717 := n1_; have HO720 := n2_; have HO723 := n3_; have HO727 := n4_; have HO730 := n5_; have BK709 := n6_; have BK710 := n7_; have BK711 := n8_; have HB := n9_; clear n0_ n1_ n2_ n3_ n4_ n5_ n6_ n7_ n8_ n9_; (try clear hb); (try clear hb2); (try clear hk); (try clear hi); (try clear ho0); (try clear ho1); obtain ⟨Ao22, co22, eo22⟩ := Kd.zbt HO727.out; subst eo22; have hcz23_0 : w21.cell? ⟨gb711, 0, none⟩ = some (.slice none 0 0) := (zad BK711.out 0).trans rfl; have hcz23_1 : w21.cell? ⟨gb711, 1, none⟩ = some (.slice none 0 0) := (zad BK711.out 1).trans rfl; have hfz23_0 := zal BK711.out 0; have hfz23_1 := zal BK711.out 1; obtain ⟨Ao24, co24, eo24⟩ := Kd.zbt HO730.out; subst eo24))
  refine bodyPost_ret (results_ct rfl _ _ gb711 28 #[.slice Ao22 t725.length co22, .slice Ao24 t728.length co24] (0, 0) _ rfl (by (with_reducible repeat (first | refine zab ?_ _ | refine zae ?_ | refine zac ?_ _)); refine zbo (cs := #[.slice Ao22 t725.length co22, .slice none 0 0]) ?_ 1 _ rfl; (with_reducible repeat (first | refine zab ?_ _ | refine zae ?_ | refine zac ?_ _)); refine zbo (cs := #[.slice none 0 0, .slice none 0 0]) ?_ 0 _ rfl; (with_reducible repeat (first | refine zab ?_ _ | refine zae ?_ | refine zac ?_ _)); exact BK711.out) Tryd.underlying28 rfl (by kernel_rfl)) rfl ?_
  exact ⟨_, _, zW, by (with_reducible repeat (first | apply Kd.za8 | apply Kd.za9 | apply Kd.zbc)); exact Kd.zak (Kd.V_far (p := ⟨gb711, 1, none⟩) (Kd.V_far (p := ⟨gb711, 0, none⟩) (Kd.zak HO727.out (fun k_ hk => (⟨hk, hk.2.2.2⟩ : _ ∧ k_ ≠ gb711))) (fun _ hk => hk.2) (.slice Ao22 t725.length co22)) (fun _ hk => hk.2) (.slice Ao24 t728.length co24)) (fun _ hk => hk.1.1), by (with_reducible repeat (first | apply Kd.za8 | apply Kd.za9 | apply Kd.zbc)); exact Kd.zak (Kd.V_far (p := ⟨gb711, 1, none⟩) (Kd.V_far (p := ⟨gb711, 0, none⟩) (Kd.zak HO730.out (fun k_ hk => (⟨hk, hk.2.2.2⟩ : _ ∧ k_ ≠ gb711))) (fun _ hk => hk.2) (.slice Ao22 t725.length co22)) (fun _ hk => hk.2) (.slice Ao24 t728.length co24)) (fun _ hk => hk.1.1), zB HB⟩
 ·
  rw [if_neg c5] at H
  have c5b0 : (t724 == 0) = false := beq_eq_false_iff_ne.mpr c5
  have c5b1 : (t724 != 0) = true := bne_iff_ne.mpr c5
  simp only [Option.some.injEq, Prod.mk.injEq] at H
  obtain ⟨rfl, rfl, rfl⟩ := H
  go_enter Tryd.func33, Tryd.ntmps33
  go_wp2_with (first | ((with_reducible refine zbh (N := 2) rfl ?_); refine zbj ?hg (N := 2) ?hd (cs := #[.slice A0_0 l0_0.length c0_0, .slice A0_1 l0_1.length c0_1]) (t := 28) ?hr ?_; (case hd => rfl); (case hg => rfl); (case hr => first | (go_simp; done) | (go_simp; rfl)); intro gb709 hg w25 hbox hb; have n0_ := zA (zaf (zB HB) hb); have n1_ := zA (hbox); have n2_ := zA ((by rw [hg]; exact (za (zB HB)) : w.heap.size ≤ gb709)); have n3_ := zA ((by rw [hg]; exact (za (zB HB)) : w.heap.size ≤ gb709)); clear HB; have HB := n0_; have BK709 := n1_; have GW709 := n2_; have GE709 := n3_; clear n0_ n1_ n2_ n3_ hb hbox hg) | ((with_reducible refine zbh (N := 3) rfl ?_); refine zbj ?hg (N := 3) ?hd (cs := #[.slice A1_0 l1_0.length c1_0, .slice A1_1 l1_1.length c1_1]) (t := 28) ?hr ?_; (case hd => rfl); (case hg => rfl); (case hr => first | (go_simp; done) | (go_simp; rfl)); intro gb710 hg w26 hbox hb; have n0_ := zA (zaa (g := gb709) (o := .cells #[.slice A0_0 l0_0.length c0_0, .slice A0_1 l0_1.length c0_1] 28 (0, 0)) (zK BK709) hb); have n1_ := zA (zaf (zB HB) hb); have n2_ := zA (hbox); have n3_ := zA ((by rw [hg]; exact (za (zB HB)) : w.heap.size ≤ gb710)); have n4_ := zA ((by rw [hg]; exact (za (zB HB)) : w.heap.size ≤ gb710)); have n5_ := zA ((by rw [hg]; exact Nat.ne_of_lt (za5 (g := gb709) (o := .cells #[.slice A0_0 l0_0.length c0_0, .slice A0_1 l0_1.length c0_1] 28 (0, 0)) (zK BK709)) : gb709 ≠ gb710)); have n6_ := zA ((by rw [hg]; exact Nat.ne_of_gt (za5 (g := gb709) (o := .cells #[.slice A0_0 l0_0.length c0_0, .slice A0_1 l0_1.length c0_1] 28 (0, 0)) (zK BK709)) : gb710 ≠ gb709)); clear BK709 HB; have BK709 := n0_; have HB := n1_; have BK710 := n2_; have GW710 := n3_; have GE710 := n4_; have NB709_710 := n5_; have NB710_709 := n6_; clear n0_ n1_ n2_ n3_ n4_ n5_ n6_ hb hbox hg) | ((with_reducible refine zbh (N := 4) rfl ?_); refine zbj ?hg (N := 4) ?hd (cs := #[.slice none 0 0, .slice none 0 0]) (t := 28) ?hr ?_; (case hd => rfl); (case hg => rfl); (case hr => first | (go_simp; done) | (go_simp; rfl)); intro gb711 hg w27 hbox hb; have n0_ := zA (zaa (g := gb709) (o := .cells #[.slice A0_0 l0_0.length c0_0, .slice A0_1 l0_1.length c0_1] 28 (0, 0)) (zK BK709) hb); have n1_ := zA (zaa (g := gb710) (o := .cells #[.slice A1_0 l1_0.length c1_0, .slice A1_1 l1_1.length c1_1] 28 (0, 0)) (zK BK710) hb); have n2_ := zA (zaf (zB HB) hb); have n3_ := zA (hbox); have n4_ := zA ((by rw [hg]; exact (za (zB HB)) : w.heap.size ≤ gb711)); have n5_ := zA ((by rw [hg]; exact (za (zB HB)) : w.heap.size ≤ gb711)); have n6_ := zA ((by rw [hg]; exact Nat.ne_of_lt (za5 (g := gb709) (o := .cells #[.slice A0_0 l0_0.length c0_0, .slice A0_1 l0_1.length c0_1] 28 (0, 0)) (zK BK709)) : gb709 ≠ gb711)); have n7_ := zA ((by rw [hg]; exact Nat.ne_of_gt (za5 (g := gb709) (o := .cells #[.slice A0_0 l0_0.length c0_0, .slice A0_1 l0_1.length c0_1] 28 (0, 0)) (zK BK709)) : gb711 ≠ gb709)); have n8_ := zA ((by rw [hg]; exact Nat.ne_of_lt (za5 (g := gb710) (o := .cells #[.slice A1_0 l1_0.length c1_0, .slice A1_1 l1_1.length c1_1] 28 (0, 0)) (zK BK710)) : gb710 ≠ gb711)); have n9_ := zA ((by rw [hg]; exact Nat.ne_of_gt (za5 (g := gb710) (o := .cells #[.slice A1_0 l1_0.length c1_0, .slice A1_1 l1_1.length c1_1] 28 (0, 0)) (zK BK710)) : gb711 ≠ gb710)); clear BK709 BK710 HB; have BK709 := n0_; have BK710 := n1_; have HB := n2_; have BK711 := n3_; have GW711 := n4_; have GE711 := n5_; have NB709_711 := n6_; have NB711_709 := n7_; have NB710_711 := n8_; have NB711_710 := n9_; clear n0_ n1_ n2_ n3_ n4_ n5_ n6_ n7_ n8_ n9_ hb hbox hg; have hnb28 := NB709_710.out; have hnc28 := NB710_709.out; have hnb29 := NB709_711.out; have hnc29 := NB711_709.out; have hcz30_0 : w27.cell? ⟨gb709, 0, none⟩ = some (.slice A0_0 l0_0.length c0_0) := (zad BK709.out 0).trans rfl; have hcz30_1 : w27.cell? ⟨gb709, 1, none⟩ = some (.slice A0_1 l0_1.length c0_1) := (zad BK709.out 1).trans rfl; have hfz30_0 := zal BK709.out 0; have hfz30_1 := zal BK709.out 1; have hnb31 := NB710_711.out; have hnc31 := NB711_710.out; have hcz32_0 : w27.cell? ⟨gb710, 0, none⟩ = some (.slice A1_0 l1_0.length c1_0) := (zad BK710.out 0).trans rfl; have hcz32_1 : w27.cell? ⟨gb710, 1, none⟩ = some (.slice A1_1 l1_1.length c1_1) := (zad BK710.out 1).trans rfl; have hfz32_0 := zal BK710.out 0; have hfz32_1 := zal BK710.out 1) | ((with_reducible refine zah (f := 62) rfl ?_); refine zba (some 14) rfl rfl Tryd.func62 (by kernel_rfl) rfl #[.agg #[.slice A0_0 l0_0.length c0_0, .slice A0_1 l0_1.length c0_1], .agg #[.slice A1_0 l1_0.length c1_0, .slice A1_1 l1_1.length c1_1]] rfl (zE) ?_; (with_reducible refine (zbw.calls k _ _ l0_0 _ _ l0_1 _ _ l1_0 _ _ l1_1 t712 t715 t718 _ ?side1 ?side2 ?side3 ?side4 ?side5 ?side6 ?side7 ?side8 A3.out).mono ?_); (case side1 => exact zJ (Kd.za6 HR0_0.out HB.out)); (case side2 => exact HC0_0.out); (case side3 => exact zJ (Kd.za6 HR0_1.out HB.out)); (case side4 => exact HC0_1.out); (case side5 => exact zJ (Kd.za6 HR1_0.out HB.out)); (case side6 => exact HC1_0.out); (case side7 => exact zJ (Kd.za6 HR1_1.out HB.out)); (case side8 => exact HC1_1.out); rintro e w33 ⟨v713, v716, v719, rfl, ho0, ho1, ho2, hb⟩; refine ⟨_, rfl, ?_⟩; have n0_ := zA (Kd.zbi (Kd.zak (ok' := fun k_ => (w.heap.size ≤ k_) ∧ k_ ≠ gb709 ∧ k_ ≠ gb710 ∧ k_ ≠ gb711) ho0 (fun k_ hk_ => ⟨(Nat.le_trans (za (zB HB)) hk_), (Kd.freshB (g := gb709) (o := .cells #[.slice A0_0 l0_0.length c0_0, .slice A0_1 l0_1.length c0_1] 28 (0, 0)) (zK BK709) k_ hk_), (Kd.freshB (g := gb710) (o := .cells #[.slice A1_0 l1_0.length c1_0, .slice A1_1 l1_1.length c1_1] 28 (0, 0)) (zK BK710) k_ hk_), (Kd.freshB (g := gb711) (o := .cells #[.slice none 0 0, .slice none 0 0] 28 (0, 0)) (zK BK711) k_ hk_)⟩)) (za (zB HB))); have n1_ := zA (Kd.zbi (Kd.zak (ok' := fun k_ => (w.heap.size ≤ k_) ∧ k_ ≠ gb709 ∧ k_ ≠ gb710 ∧ k_ ≠ gb711) ho1 (fun k_ hk_ => ⟨(Nat.le_trans (za (zB HB)) hk_), (Kd.freshB (g := gb709) (o := .cells #[.slice A0_0 l0_0.length c0_0, .slice A0_1 l0_1.length c0_1] 28 (0, 0)) (zK BK709) k_ hk_), (Kd.freshB (g := gb710) (o := .cells #[.slice A1_0 l1_0.length c1_0, .slice A1_1 l1_1.length c1_1] 28 (0, 0)) (zK BK710) k_ hk_), (Kd.freshB (g := gb711) (o := .cells #[.slice none 0 0, .slice none 0 0] 28 (0, 0)) (zK BK711) k_ hk_)⟩)) (za (zB HB))); have n2_ := zA (Kd.zbi (Kd.zak (ok' := fun k_ => (w.heap.size ≤ k_) ∧ k_ ≠ gb709 ∧ k_ ≠ gb710 ∧ k_ ≠ gb711) ho2 (fun k_ hk_ => ⟨(Nat.le_trans (za (zB HB)) hk_), (Kd.freshB (g := gb709) (o := .cells #[.slice A0_0 l0_0.length c0_0, .slice A0_1 l0_1.length c0_1] 28 (0, 0)) (zK BK709) k_ hk_), (Kd.freshB (g := gb710) (o := .cells #[.slice A1_0 l1_0.length c1_0, .slice A1_1 l1_1.length c1_1] 28 (0, 0)) (zK BK710) k_ hk_), (Kd.freshB (g := gb711) (o := .cells #[.slice none 0 0, .slice none 0 0] 28 (0, 0)) (zK BK711) k_ hk_)⟩)) (za (zB HB))); have n3_ := zA (zaa (g := gb709) (o := .cells #[.slice A0_0 l0_0.length c0_0, .slice A0_1 l0_1.length c0_1] 28 (0, 0)) (zK BK709) hb); have n4_ := zA (zaa (g := gb710) (o := .cells #[.slice A1_0 l1_0.length c1_0, .slice A1_1 l1_1.length c1_1] 28 (0, 0)) (zK BK710) hb); have n5_ := zA (zaa (g := gb711) (o := .cells #[.slice none 0 0, .slice none 0 0] 28 (0, 0)) (zK BK711) hb); have n6_ := zA (zaf (zB HB) hb); clear BK709 BK710 BK711 HB; have HO714 := n0_; have HO717 := n1_; have HO720 := n2_; have BK709 := n3_; have BK710 := n4_; have BK711 := n5_; have HB := n6_; clear n0_ n1_ n2_ n3_ n4_ n5_ n6_; (try clear hb); (try clear hb2); (try clear hk); (try clear hi); (try clear ho0); (try clear ho1); (try clear ho2); obtain ⟨Ao34, co34, eo34⟩ := Kd.zbt HO714.out; subst eo34; obtain ⟨Ao35, co35, eo35⟩ := Kd.zbt HO717.out; subst eo35) | ((with_reducible refine zah (f := 63) rfl ?_); refine zba (some 21) rfl rfl Tryd.func63 (by kernel_rfl) rfl #[.slice Ao34 t712.length co34, .slice Ao35 t715.length co35] rfl (zE) ?_; (with_reducible refine (nat_Sub.calls k _ _ t712 _ _ t715 t721 t724 _ ?side1 ?side2 ?side3 ?side4 A4.out).mono ?_); (case side1 => exact zJ (Kd.zas HO714.out).2.2); (case side2 => exact (Kd.zas HO714.out).2.1); (case side3 => exact zJ (Kd.zas HO717.out).2.2); (case side4 => exact (Kd.zas HO717.out).2.1); rintro e w36 ⟨v722, rfl, ho0, hb⟩; refine ⟨_, rfl, ?_⟩; have n0_ := zA (Kd.zao (zV HO714) hb); have n1_ := zA (Kd.zao (zV HO717) hb); have n2_ := zA (Kd.zao (zV HO720) hb); have n3_ := zA (Kd.zbi (Kd.zak (ok' := fun k_ => (w.heap.size ≤ k_) ∧ k_ ≠ gb709 ∧ k_ ≠ gb710 ∧ k_ ≠ gb711) ho0 (fun k_ hk_ => ⟨(Nat.le_trans (za (zB HB)) hk_), (Kd.freshB (g := gb709) (o := .cells #[.slice A0_0 l0_0.length c0_0, .slice A0_1 l0_1.length c0_1] 28 (0, 0)) (zK BK709) k_ hk_), (Kd.freshB (g := gb710) (o := .cells #[.slice A1_0 l1_0.length c1_0, .slice A1_1 l1_1.length c1_1] 28 (0, 0)) (zK BK710) k_ hk_), (Kd.freshB (g := gb711) (o := .cells #[.slice none 0 0, .slice none 0 0] 28 (0, 0)) (zK BK711) k_ hk_)⟩)) (za (zB HB))); have n4_ := zA (zaa (g := gb709) (o := .cells #[.slice A0_0 l0_0.length c0_0, .slice A0_1 l0_1.length c0_1] 28 (0, 0)) (zK BK709) hb); have n5_ := zA (zaa (g := gb710) (o := .cells #[.slice A1_0 l1_0.length c1_0, .slice A1_1 l1_1.length c1_1] 28 (0, 0)) (zK BK710) hb); have n6_ := zA (zaa (g := gb711) (o := .cells #[.slice none 0 0, .slice none 0 0] 28 (0, 0)) (zK BK711) hb); have n7_ := zA (zaf (zB HB) hb); clear HO714 HO717 HO720 BK709 BK710 BK711 HB; have HO714 := n0_; have HO717 := n1_; have HO720 := n2_; have HO723 := n3_; have BK709 := n4_; have BK710 := n5_; have BK711 := n6_; have HB := n7_; clear n0_ n1_ n2_ n3_ n4_ n5_ n6_ n7_; (try clear hb); (try clear hb2); (try clear hk); (try clear hi); (try clear ho0); have hcz37_0 : w36.cell? ⟨gb711, 0, none⟩ = some (.slice none 0 0) := (zad BK711.out 0).trans rfl; have hcz37_1 : w36.cell? ⟨gb711, 1, none⟩ = some (.slice none 0 0) := (zad BK711.out 1).trans rfl; have hfz37_0 := zal BK711.out 0; have hfz37_1 := zal BK711.out 1))
  refine bodyPost_ret (results_ct rfl _ _ gb711 28 #[.slice none 0 0, .slice none 0 0] (0, 0) _ rfl (by (with_reducible repeat (first | refine zab ?_ _ | refine zae ?_ | refine zac ?_ _)); refine zbo (cs := #[.slice none 0 0, .slice none 0 0]) ?_ 1 _ rfl; (with_reducible repeat (first | refine zab ?_ _ | refine zae ?_ | refine zac ?_ _)); refine zbo (cs := #[.slice none 0 0, .slice none 0 0]) ?_ 0 _ rfl; (with_reducible repeat (first | refine zab ?_ _ | refine zae ?_ | refine zac ?_ _)); exact BK711.out) Tryd.underlying28 rfl (by kernel_rfl)) rfl ?_
  exact ⟨_, _, zW, Kd.V_nil _ _ _ _ _, Kd.V_nil _ _ _ _ _, zB HB⟩
def zc3.l0 : Nat → List Int → List Int → List Int → Int → Int → Int → Option (List Int)
 | 0, _, _, _, _, _, _ => none
 | k + 1, x0, x1, x5, x6, x13, x14 => if x14 < x13 then ((zc6.f x0 x14).bind fun t731 => ((zc6.f x1 x14).bind fun t732 => ((bits_Add64.f t731 t732 x6).bind fun bt733 => (if x5.length < 17592186044416 then (zc3.l0 k x0 x1 (x5 ++ [bt733.1]) bt733.2 x13 (wrap64 (x14 + 1))) else (none))))) else (if x5.length < 17592186044416 then ((zbd.f k (x5 ++ [x6])).bind fun t741 => (some t741)) else (none))
def zc3.f (k : Nat) (l0 : List Int) (l1 : List Int) : Option (List Int) := zc3.l0 k l0 l1 ([] : List Int) 0 (mx (l0.length : Int) (l1.length : Int)) 0
theorem zc3.calls (k : Nat) (A0 : Option Addr) (c0 : Nat) (l0 : List Int) (A1 : Option Addr) (c1 : Nat) (l1 : List Int) (r : List Int) (w : World) (hr0 : Kd.C (Kd.int .u64) w A0 l0.length l0) (hc0 : l0.length ≤ c0) (hr1 : Kd.C (Kd.int .u64) w A1 l1.length l1) (hc1 : l1.length ≤ c1) (h : zc3.f k l0 l1 = some r) :
  Calls Tryd.prog 64 #[.slice A0 l0.length c0, .slice A1 l1.length c1] w fun e w' => ∃ v0_ : Value, e = .returned (v0_) ∧ Kd.V (Kd.int .u64) 57 w' w.heap.size (fun k_ => (w.heap.size ≤ k_)) v0_ r ∧ Below w.heap.size w w' := by
 have HR0 := zA hr0
 have HC0 := zA hc0
 clear hr0 hc0
 have HR1 := zA hr1
 have HC1 := zA hc1
 clear hr1 hc1
 have HB := zA (Below.refl w.heap.size w)
 have H : (zc3.l0 k l0 l1 ([] : List Int) 0 (mx (l0.length : Int) (l1.length : Int)) 0) = some r := h
 clear h
 obtain ⟨ji3, hji3⟩ : ∃ j_ : Int, (mx (l0.length : Int) (l1.length : Int)) = j_ := ⟨_, rfl⟩
 replace H : (zc3.l0 k l0 l1 ([] : List Int) 0 ji3 0) = some r := by first | (rw [hji3] at H; exact H) | (simp only [hji3] at H ⊢; exact H)
 (try (have hji3l : 0 ≤ ji3 := by (rw [← hji3]; unfold mx; (repeat' split) <;> omega)))
 (try (have hji3m : 0 ≤ ji3 := by omega))
 have hji3_ : (if (l0.length : Int) < (l1.length : Int) then (l1.length : Int) else (l0.length : Int)) = ji3 := hji3
 (try (have hji3n_ := hji3_; simp only [Int.ofNat_lt] at hji3n_))
 have H' := zA H
 clear H
 go_enter Tryd.func64, Tryd.ntmps64
 go_wp2
 go_loopg [5, 6, 14] k (fun kq v5 v6 v14 w' => ∃ (x5_1 : List Int) (x6_1 : Int) (x14_1 : Int), v6 = .int .u64 x6_1 ∧ v14 = .int .i64 x14_1 ∧ Aside0 (zc3.l0 kq l0 l1 x5_1 x6_1 ji3 x14_1 = some r) ∧ Aside0 (kq ≤ k) ∧ Aside0 (Kd.R (Kd.int .u64) 57 w' w.heap.size (fun k_ => (w.heap.size ≤ k_)) v5 x5_1) ∧ Aside0 (Below w.heap.size w w'))
 case atStart => exact ⟨(([] : List Int)), (0), (0), (zF), (zF), H', ⟨Nat.le_refl _⟩, ⟨by first | exact Kd.R_nil _ _ _ _ _ | exact Kd.N_nil _ _ _ _ _ | exact Kd.V_nil _ _ _ _ _ | exact Kd.Q_nil _ _ _ _ _ | exact Kd.S_nil _ _ _ _ _⟩, ⟨zB HB⟩⟩
 case round =>
  clear H'
  try clear c1
  try clear p2
  obtain ⟨x5_1, x6_1, x14_1, rfl, rfl, HA, HK1, HO_5, HB⟩ := hrel
  cases gk with
  | zero => exact absurd HA.out (by simp [zc3.l0])
  | succ k1 =>
   have H := HA.out
   clear HA
   simp only [zc3.l0] at H
   by_cases c4 : x14_1 < ji3
   ·
    rw [if_pos c4] at H
    have c4b0 : decide (x14_1 < ji3) = true := decide_eq_true c4
    clear c4
    replace H := zO H
    obtain ⟨t731, A50, H⟩ := H
    try dsimp only at H
    have A5 := zA A50
    clear A50
    replace H := zO H
    obtain ⟨t732, A60, H⟩ := H
    try dsimp only at H
    have A6 := zA A60
    clear A60
    replace H := zO H
    obtain ⟨⟨t733, t734⟩, A70, H⟩ := H
    try dsimp only at H
    have A7 := fun W_ => bits_Add64.run (W := W_) A70
    clear A70
    by_cases c8 : x5_1.length < 17592186044416
    ·
     rw [if_pos c8] at H
     have LMc8 := zA c8
     clear c8
     obtain ⟨y735, hy735⟩ : ∃ y_ : List Int, y_ = (x5_1 ++ [t733]) := ⟨_, rfl⟩
     replace H : (zc3.l0 k1 l0 l1 y735 t734 ji3 (wrap64 (x14_1 + 1))) = some r := by first | (rw [hy735]; with_reducible exact H) | (have H2_ := (Option.bind_some _ _).symm.trans H; rw [hy735]; with_reducible exact H2_) | (have H2_ := (Option.bind_some _ _).symm.trans H; with_reducible exact H2_) | with_reducible exact H | (rw [hy735]; exact H) | exact H
     have Ny735 := zA hy735
     clear hy735
     have H' := zA H
     clear H
     go_wp2_with (first | ((with_reducible refine zah (f := 89) rfl ?_); refine zba (some 20) rfl rfl Tryd.func89 (by kernel_rfl) rfl #[.slice A0 l0.length c0, .int .i64 x14_1] rfl (zE) ?_; (with_reducible refine (zc6.calls _ _ l0 x14_1 t731 _ ?side1 ?side2 A5.out).mono ?_); (case side1 => exact zJ (Kd.za6 HR0.out HB.out)); (case side2 => exact HC0.out); rintro e w' ⟨rfl, ⟨nd, rfl⟩⟩; refine ⟨_, rfl, ?_⟩) | ((with_reducible refine zah (f := 89) rfl ?_); refine zba (some 23) rfl rfl Tryd.func89 (by kernel_rfl) rfl #[.slice A1 l1.length c1, .int .i64 x14_1] rfl (zE) ?_; (with_reducible refine (zc6.calls _ _ l1 x14_1 t732 _ ?side1 ?side2 A6.out).mono ?_); (case side1 => exact zJ (Kd.za6 HR1.out (zB HB))); (case side2 => exact HC1.out); rintro e w' ⟨rfl, ⟨nd, rfl⟩⟩; refine ⟨_, rfl, ?_⟩) | ((with_reducible refine zce (b := .append) (xs := #[.tmp 28, .tmp 30]) rfl ?_); at_builtin; refine Kd.zc8 (Kd.int .u64) (w0 := w) w.heap.size rfl (.tmp 28) (.tmp 30) 26 57 (.int .u64 0) 8 rfl Tryd.underlying26 info57 rfl (by decide) (by omega) u5 x5_1 t733 [.int .u64 t733] (fun k_ => (w.heap.size ≤ k_)) (fun _ => False) rfl rfl ?aP (fun _ hk => hk.elim) ?aF ?aO ?aB ?aS ?aL ?_; (case aP => exact rfl); (case aB => exact (zB HB)); (case aF => exact (fun k_ hk => (Nat.le_trans (za (zB HB)) hk))); (case aO => exact (zR HO_5)); (case aS => exact (za (zB HB))); (case aL => have := LMc8.out; omega); intro v736 w9 ho hb hg hat; rw [← Ny735.out] at ho; have n0_ := zA (hb); have n1_ := zA (ho); clear HB HO_5; have HB := n0_; have HO737 := n1_; clear n0_ n1_ ho hb hg hat))
     go_roundg k1
     case measure => have := HK1.out; omega
     case rel => exact ⟨(y735), (t734), (wrap64 (x14_1 + 1)), (zF), (zF), H', ⟨by have := HK1.out; omega⟩, ⟨zR HO737⟩, ⟨zB HB⟩⟩
    ·
     rw [if_neg c8] at H
     exact absurd H (by simp)
   ·
    rw [if_neg c4] at H
    have c4b0 : decide (x14_1 < ji3) = false := decide_eq_false c4
    clear c4
    by_cases c10 : x5_1.length < 17592186044416
    ·
     rw [if_pos c10] at H
     have LMc10 := zA c10
     clear c10
     obtain ⟨y738, hy738⟩ : ∃ y_ : List Int, y_ = (x5_1 ++ [x6_1]) := ⟨_, rfl⟩
     replace H : ((zbd.f k1 y738).bind fun t741 => (some t741)) = some r := by first | (rw [hy738]; with_reducible exact H) | (have H2_ := (Option.bind_some _ _).symm.trans H; rw [hy738]; with_reducible exact H2_) | (have H2_ := (Option.bind_some _ _).symm.trans H; with_reducible exact H2_) | with_reducible exact H | (rw [hy738]; exact H) | exact H
     have Ny738 := zA hy738
     clear hy738
     replace H := zO H
     obtain ⟨t741, A110, H⟩ := H
     try dsimp only at H
     have A11 := zA A110
     clear A110
     obtain rfl := Option.some.inj H
     go_wp2_with (first | ((with_reducible refine zce (b := .append) (xs := #[.tmp 33, .tmp 35]) rfl ?_); at_builtin; refine Kd.zc8 (Kd.int .u64) (w0 := w) w.heap.size rfl (.tmp 33) (.tmp 35) 26 57 (.int .u64 0) 8 rfl Tryd.underlying26 info57 rfl (by decide) (by omega) u5 x5_1 x6_1 [.int .u64 x6_1] (fun k_ => (w.heap.size ≤ k_)) (fun _ => False) rfl rfl ?aP (fun _ hk => hk.elim) ?aF ?aO ?aB ?aS ?aL ?_; (case aP => exact rfl); (case aB => exact (zB HB)); (case aF => exact (fun k_ hk => (Nat.le_trans (za (zB HB)) hk))); (case aO => exact (zR HO_5)); (case aS => exact (za (zB HB))); (case aL => have := LMc10.out; omega); intro v739 w12 ho hb hg hat; rw [← Ny738.out] at ho; have n0_ := zA (hb); have n1_ := zA (ho); clear HB HO_5; have HB := n0_; have HO740 := n1_; clear n0_ n1_ ho hb hg hat; obtain ⟨Ao13, co13, eo13⟩ := Kd.zbn HO740.out; subst eo13) | ((with_reducible refine zah (f := 65) rfl ?_); refine zba (some 37) rfl rfl Tryd.func65 (by kernel_rfl) rfl #[.slice Ao13 y738.length co13] rfl (zE) ?_; (with_reducible refine (zbd.calls k1 (fun k_ => some k_ = (.slice Ao13 y738.length co13 : Value).ownBlock) _ _ y738 t741 _ ?side1 A11.out).mono ?_); (case side1 => exact Kd.R_V (Kd.zdf rfl (HO740.out))); rintro e w14 ⟨v742, rfl, ho0, hb⟩; refine ⟨_, rfl, ?_⟩; have n0_ := zA (Kd.zax (zR HO740) hb); have n1_ := zA (Kd.zbi (Kd.zak (ok' := fun k_ => (w.heap.size ≤ k_)) ho0 (fun k_ hk_ => Or.elim hk_ (fun hs_ => ((HO740.out).1 k_ hs_.symm)) (fun hn_ => (Nat.le_trans (za (zB HB)) hn_)))) (za (zB HB))); have n2_ := zA (zaf (zB HB) hb); clear HO740 HB; have HO740 := n0_; have HO743 := n1_; have HB := n2_; clear n0_ n1_ n2_; (try clear hb); (try clear hb2); (try clear hk); (try clear hi); (try clear ho0)))
     go_ret
     exact ⟨_, by first | rfl | (simp [zcm, zcl] <;> rfl) | (simp only [← hji3]; first | rfl | (simp [zcm, zcl] <;> rfl)) | (simp [*, zcm, zcl] <;> rfl), zV HO743, zB HB⟩
    ·
     rw [if_neg c10] at H
     exact absurd H (by simp)
def ratio_Add.f (k : Nat) (l0_0 : List Int) (l0_1 : List Int) (l1_0 : List Int) (l1_1 : List Int) : Option (List Int × List Int) := (zbw.f k l0_0 l0_1 l1_0 l1_1).bind fun bt747 => ((zc3.f k bt747.1 bt747.2.1).bind fun t756 => ((zb7.f k t756 bt747.2.2).bind fun bt759 => (some (bt759.1, bt759.2))))
theorem ratio_Add.calls (k : Nat) (A0_0 : Option Addr) (c0_0 : Nat) (l0_0 : List Int) (A0_1 : Option Addr) (c0_1 : Nat) (l0_1 : List Int) (A1_0 : Option Addr) (c1_0 : Nat) (l1_0 : List Int) (A1_1 : Option Addr) (c1_1 : Nat) (l1_1 : List Int) (r1 : List Int) (r2 : List Int) (w : World) (hr0_0 : Kd.C (Kd.int .u64) w A0_0 l0_0.length l0_0) (hc0_0 : l0_0.length ≤ c0_0) (hr0_1 : Kd.C (Kd.int .u64) w A0_1 l0_1.length l0_1) (hc0_1 : l0_1.length ≤ c0_1) (hr1_0 : Kd.C (Kd.int .u64) w A1_0 l1_0.length l1_0) (hc1_0 : l1_0.length ≤ c1_0) (hr1_1 : Kd.C (Kd.int .u64) w A1_1 l1_1.length l1_1) (hc1_1 : l1_1.length ≤ c1_1) (h : ratio_Add.f k l0_0 l0_1 l1_0 l1_1 = some (r1, r2)) :
  Calls Tryd.prog 34 #[.agg #[.slice A0_0 l0_0.length c0_0, .slice A0_1 l0_1.length c0_1], .agg #[.slice A1_0 l1_0.length c1_0, .slice A1_1 l1_1.length c1_1]] w fun e w' => ∃ v0_ v1_ : Value, e = .returned (.agg #[v0_, v1_]) ∧ Kd.V (Kd.int .u64) 57 w' w.heap.size (fun k_ => (w.heap.size ≤ k_)) v0_ r1 ∧ Kd.V (Kd.int .u64) 57 w' w.heap.size (fun k_ => (w.heap.size ≤ k_)) v1_ r2 ∧ Below w.heap.size w w' := by
 have hu28 := Tryd.underlying28
 have HR0_0 := zA hr0_0
 have HC0_0 := zA hc0_0
 clear hr0_0 hc0_0
 have HR0_1 := zA hr0_1
 have HC0_1 := zA hc0_1
 clear hr0_1 hc0_1
 have HR1_0 := zA hr1_0
 have HC1_0 := zA hc1_0
 clear hr1_0 hc1_0
 have HR1_1 := zA hr1_1
 have HC1_1 := zA hc1_1
 clear hr1_1 hc1_1
 have HB := zA (Below.refl w.heap.size w)
 have H : ((zbw.f k l0_0 l0_1 l1_0 l1_1).bind fun bt747 => ((zc3.f k bt747.1 bt747.2.1).bind fun t756 => ((zb7.f k t756 bt747.2.2).bind fun bt759 => (some (bt759.1, bt759.2))))) = some (r1, r2) := h
 clear h
 replace H := zO H
 obtain ⟨⟨t747, t750, t753⟩, A30, H⟩ := H
 try dsimp only at H
 have A3 := zA A30
 clear A30
 replace H := zO H
 obtain ⟨t756, A40, H⟩ := H
 try dsimp only at H
 have A4 := zA A40
 clear A40
 replace H := zO H
 obtain ⟨⟨t759, t762⟩, A50, H⟩ := H
 try dsimp only at H
 have A5 := zA A50
 clear A50
 simp only [Option.some.injEq, Prod.mk.injEq] at H
 obtain ⟨rfl, rfl⟩ := H
 go_enter Tryd.func34, Tryd.ntmps34
 go_wp2_with (first | ((with_reducible refine zbh (N := 2) rfl ?_); refine zbj ?hg (N := 2) ?hd (cs := #[.slice A0_0 l0_0.length c0_0, .slice A0_1 l0_1.length c0_1]) (t := 28) ?hr ?_; (case hd => rfl); (case hg => rfl); (case hr => first | (go_simp; done) | (go_simp; rfl)); intro gb744 hg w6 hbox hb; have n0_ := zA (zaf (zB HB) hb); have n1_ := zA (hbox); have n2_ := zA ((by rw [hg]; exact (za (zB HB)) : w.heap.size ≤ gb744)); have n3_ := zA ((by rw [hg]; exact (za (zB HB)) : w.heap.size ≤ gb744)); clear HB; have HB := n0_; have BK744 := n1_; have GW744 := n2_; have GE744 := n3_; clear n0_ n1_ n2_ n3_ hb hbox hg) | ((with_reducible refine zbh (N := 3) rfl ?_); refine zbj ?hg (N := 3) ?hd (cs := #[.slice A1_0 l1_0.length c1_0, .slice A1_1 l1_1.length c1_1]) (t := 28) ?hr ?_; (case hd => rfl); (case hg => rfl); (case hr => first | (go_simp; done) | (go_simp; rfl)); intro gb745 hg w7 hbox hb; have n0_ := zA (zaa (g := gb744) (o := .cells #[.slice A0_0 l0_0.length c0_0, .slice A0_1 l0_1.length c0_1] 28 (0, 0)) (zK BK744) hb); have n1_ := zA (zaf (zB HB) hb); have n2_ := zA (hbox); have n3_ := zA ((by rw [hg]; exact (za (zB HB)) : w.heap.size ≤ gb745)); have n4_ := zA ((by rw [hg]; exact (za (zB HB)) : w.heap.size ≤ gb745)); have n5_ := zA ((by rw [hg]; exact Nat.ne_of_lt (za5 (g := gb744) (o := .cells #[.slice A0_0 l0_0.length c0_0, .slice A0_1 l0_1.length c0_1] 28 (0, 0)) (zK BK744)) : gb744 ≠ gb745)); have n6_ := zA ((by rw [hg]; exact Nat.ne_of_gt (za5 (g := gb744) (o := .cells #[.slice A0_0 l0_0.length c0_0, .slice A0_1 l0_1.length c0_1] 28 (0, 0)) (zK BK744)) : gb745 ≠ gb744)); clear BK744 HB; have BK744 := n0_; have HB := n1_; have BK745 := n2_; have GW745 := n3_; have GE745 := n4_; have NB744_745 := n5_; have NB745_744 := n6_; clear n0_ n1_ n2_ n3_ n4_ n5_ n6_ hb hbox hg) | ((with_reducible refine zbh (N := 4) rfl ?_); refine zbj ?hg (N := 4) ?hd (cs := #[.slice none 0 0, .slice none 0 0]) (t := 28) ?hr ?_; (case hd => rfl); (case hg => rfl); (case hr => first | (go_simp; done) | (go_simp; rfl)); intro gb746 hg w8 hbox hb; have n0_ := zA (zaa (g := gb744) (o := .cells #[.slice A0_0 l0_0.length c0_0, .slice A0_1 l0_1.length c0_1] 28 (0, 0)) (zK BK744) hb); have n1_ := zA (zaa (g := gb745) (o := .cells #[.slice A1_0 l1_0.length c1_0, .slice A1_1 l1_1.length c1_1] 28 (0, 0)) (zK BK745) hb); have n2_ := zA (zaf (zB HB) hb); have n3_ := zA (hbox); have n4_ := zA ((by rw [hg]; exact (za (zB HB)) : w.heap.size ≤ gb746)); have n5_ := zA ((by rw [hg]; exact (za (zB HB)) : w.heap.size ≤ gb746)); have n6_ := zA ((by rw [hg]; exact Nat.ne_of_lt (za5 (g := gb744) (o := .cells #[.slice A0_0 l0_0.length c0_0, .slice A0_1 l0_1.length c0_1] 28 (0, 0)) (zK BK744)) : gb744 ≠ gb746)); have n7_ := zA ((by rw [hg]; exact Nat.ne_of_gt (za5 (g := gb744) (o := .cells #[.slice A0_0 l0_0.length c0_0, .slice A0_1 l0_1.length c0_1] 28 (0, 0)) (zK BK744)) : gb746 ≠ gb744)); have n8_ := zA ((by rw [hg]; exact Nat.ne_of_lt (za5 (g := gb745) (o := .cells #[.slice A1_0 l1_0.length c1_0, .slice A1_1 l1_1.length c1_1] 28 (0, 0)) (zK BK745)) : gb745 ≠ gb746)); have n9_ := zA ((by rw [hg]; exact Nat.ne_of_gt (za5 (g := gb745) (o := .cells #[.slice A1_0 l1_0.length c1_0, .slice A1_1 l1_1.length c1_1] 28 (0, 0)) (zK BK745)) : gb746 ≠ gb745)); clear BK744 BK745 HB; have BK744 := n0_; have BK745 := n1_; have HB := n2_; have BK746 := n3_; have GW746 := n4_; have GE746 := n5_; have NB744_746 := n6_; have NB746_744 := n7_; have NB745_746 := n8_; have NB746_745 := n9_; clear n0_ n1_ n2_ n3_ n4_ n5_ n6_ n7_ n8_ n9_ hb hbox hg; have hnb9 := NB744_745.out; have hnc9 := NB745_744.out; have hnb10 := NB744_746.out; have hnc10 := NB746_744.out; have hcz11_0 : w8.cell? ⟨gb744, 0, none⟩ = some (.slice A0_0 l0_0.length c0_0) := (zad BK744.out 0).trans rfl; have hcz11_1 : w8.cell? ⟨gb744, 1, none⟩ = some (.slice A0_1 l0_1.length c0_1) := (zad BK744.out 1).trans rfl; have hfz11_0 := zal BK744.out 0; have hfz11_1 := zal BK744.out 1; have hnb12 := NB745_746.out; have hnc12 := NB746_745.out; have hcz13_0 : w8.cell? ⟨gb745, 0, none⟩ = some (.slice A1_0 l1_0.length c1_0) := (zad BK745.out 0).trans rfl; have hcz13_1 : w8.cell? ⟨gb745, 1, none⟩ = some (.slice A1_1 l1_1.length c1_1) := (zad BK745.out 1).trans rfl; have hfz13_0 := zal BK745.out 0; have hfz13_1 := zal BK745.out 1) | ((with_reducible refine zah (f := 62) rfl ?_); refine zba (some 11) rfl rfl Tryd.func62 (by kernel_rfl) rfl #[.agg #[.slice A0_0 l0_0.length c0_0, .slice A0_1 l0_1.length c0_1], .agg #[.slice A1_0 l1_0.length c1_0, .slice A1_1 l1_1.length c1_1]] rfl (zE) ?_; (with_reducible refine (zbw.calls k _ _ l0_0 _ _ l0_1 _ _ l1_0 _ _ l1_1 t747 t750 t753 _ ?side1 ?side2 ?side3 ?side4 ?side5 ?side6 ?side7 ?side8 A3.out).mono ?_); (case side1 => exact zJ (Kd.za6 HR0_0.out HB.out)); (case side2 => exact HC0_0.out); (case side3 => exact zJ (Kd.za6 HR0_1.out HB.out)); (case side4 => exact HC0_1.out); (case side5 => exact zJ (Kd.za6 HR1_0.out HB.out)); (case side6 => exact HC1_0.out); (case side7 => exact zJ (Kd.za6 HR1_1.out HB.out)); (case side8 => exact HC1_1.out); rintro e w14 ⟨v748, v751, v754, rfl, ho0, ho1, ho2, hb⟩; refine ⟨_, rfl, ?_⟩; have n0_ := zA (Kd.zbi (Kd.zak (ok' := fun k_ => (w.heap.size ≤ k_) ∧ k_ ≠ gb744 ∧ k_ ≠ gb745 ∧ k_ ≠ gb746) ho0 (fun k_ hk_ => ⟨(Nat.le_trans (za (zB HB)) hk_), (Kd.freshB (g := gb744) (o := .cells #[.slice A0_0 l0_0.length c0_0, .slice A0_1 l0_1.length c0_1] 28 (0, 0)) (zK BK744) k_ hk_), (Kd.freshB (g := gb745) (o := .cells #[.slice A1_0 l1_0.length c1_0, .slice A1_1 l1_1.length c1_1] 28 (0, 0)) (zK BK745) k_ hk_), (Kd.freshB (g := gb746) (o := .cells #[.slice none 0 0, .slice none 0 0] 28 (0, 0)) (zK BK746) k_ hk_)⟩)) (za (zB HB))); have n1_ := zA (Kd.zbi (Kd.zak (ok' := fun k_ => (w.heap.size ≤ k_) ∧ k_ ≠ gb744 ∧ k_ ≠ gb745 ∧ k_ ≠ gb746) ho1 (fun k_ hk_ => ⟨(Nat.le_trans (za (zB HB)) hk_), (Kd.freshB (g := gb744) (o := .cells #[.slice A0_0 l0_0.length c0_0, .slice A0_1 l0_1.length c0_1] 28 (0, 0)) (zK BK744) k_ hk_), (Kd.freshB (g := gb745) (o := .cells #[.slice A1_0 l1_0.length c1_0, .slice A1_1 l1_1.length c1_1] 28 (0, 0)) (zK BK745) k_ hk_), (Kd.freshB (g := gb746) (o := .cells #[.slice none 0 0, .slice none 0 0] 28 (0, 0)) (zK BK746) k_ hk_)⟩)) (za (zB HB))); have n2_ := zA (Kd.zbi (Kd.zak (ok' := fun k_ => (w.heap.size ≤ k_) ∧ k_ ≠ gb744 ∧ k_ ≠ gb745 ∧ k_ ≠ gb746) ho2 (fun k_ hk_ => ⟨(Nat.le_trans (za (zB HB)) hk_), (Kd.freshB (g := gb744) (o := .cells #[.slice A0_0 l0_0.length c0_0, .slice A0_1 l0_1.length c0_1] 28 (0, 0)) (zK BK744) k_ hk_), (Kd.freshB (g := gb745) (o := .cells #[.slice A1_0 l1_0.length c1_0, .slice A1_1 l1_1.length c1_1] 28 (0, 0)) (zK BK745) k_ hk_), (Kd.freshB (g := gb746) (o := .cells #[.slice none 0 0, .slice none 0 0] 28 (0, 0)) (zK BK746) k_ hk_)⟩)) (za (zB HB))); have n3_ := zA (zaa (g := gb744) (o := .cells #[.slice A0_0 l0_0.length c0_0, .slice A0_1 l0_1.length c0_1] 28 (0, 0)) (zK BK744) hb); have n4_ := zA (zaa (g := gb745) (o := .cells #[.slice A1_0 l1_0.length c1_0, .slice A1_1 l1_1.length c1_1] 28 (0, 0)) (zK BK745) hb); have n5_ := zA (zaa (g := gb746) (o := .cells #[.slice none 0 0, .slice none 0 0] 28 (0, 0)) (zK BK746) hb); have n6_ := zA (zaf (zB HB) hb); clear BK744 BK745 BK746 HB; have HO749 := n0_; have HO752 := n1_; have HO755 := n2_; have BK744 := n3_; have BK745 := n4_; have BK746 := n5_; have HB := n6_; clear n0_ n1_ n2_ n3_ n4_ n5_ n6_; (try clear hb); (try clear hb2); (try clear hk); (try clear hi); (try clear ho0); (try clear ho1); (try clear ho2); obtain ⟨Ao15, co15, eo15⟩ := Kd.zbt HO749.out; subst eo15; obtain ⟨Ao16, co16, eo16⟩ := Kd.zbt HO752.out; subst eo16) | ((with_reducible refine zah (f := 64) rfl ?_); refine zba (some 17) rfl rfl Tryd.func64 (by kernel_rfl) rfl #[.slice Ao15 t747.length co15, .slice Ao16 t750.length co16] rfl (zE) ?_; (with_reducible refine (zc3.calls k _ _ t747 _ _ t750 t756 _ ?side1 ?side2 ?side3 ?side4 A4.out).mono ?_); (case side1 => exact zJ (Kd.zas HO749.out).2.2); (case side2 => exact (Kd.zas HO749.out).2.1); (case side3 => exact zJ (Kd.zas HO752.out).2.2); (case side4 => exact (Kd.zas HO752.out).2.1); rintro e w17 ⟨v757, rfl, ho0, hb⟩; refine ⟨_, rfl, ?_⟩; have n0_ := zA (Kd.zao (zV HO749) hb); have n1_ := zA (Kd.zao (zV HO752) hb); have n2_ := zA (Kd.zao (zV HO755) hb); have n3_ := zA (Kd.zbi (Kd.zak (ok' := fun k_ => (w.heap.size ≤ k_) ∧ k_ ≠ gb744 ∧ k_ ≠ gb745 ∧ k_ ≠ gb746) ho0 (fun k_ hk_ => ⟨(Nat.le_trans (za (zB HB)) hk_), (Kd.freshB (g := gb744) (o := .cells #[.slice A0_0 l0_0.length c0_0, .slice A0_1 l0_1.length c0_1] 28 (0, 0)) (zK BK744) k_ hk_), (Kd.freshB (g := gb745) (o := .cells #[.slice A1_0 l1_0.length c1_0, .slice A1_1 l1_1.length c1_1] 28 (0, 0)) (zK BK745) k_ hk_), (Kd.freshB (g := gb746) (o := .cells #[.slice none 0 0, .slice none 0 0] 28 (0, 0)) (zK BK746) k_ hk_)⟩)) (za (zB HB))); have n4_ := zA (zaa (g := gb744) (o := .cells #[.slice A0_0 l0_0.length c0_0, .slice A0_1 l0_1.length c0_1] 28 (0, 0)) (zK BK744) hb); have n5_ := zA (zaa (g := gb745) (o := .cells #[.slice A1_0 l1_0.length c1_0, .slice A1_1 l1_1.length c1_1] 28 (0, 0)) (zK BK745) hb); have n6_ := zA (zaa (g := gb746) (o := .cells #[.slice none 0 0, .slice none 0 0] 28 (0, 0)) (zK BK746) hb); have n7_ := zA (zaf (zB HB) hb); clear HO749 HO752 HO755 BK744 BK745 BK746 HB; have HO749 := n0_; have HO752 := n1_; have HO755 := n2_; have HO758 := n3_; have BK744 := n4_; have BK745 := n5_; have BK746 := n6_; have HB := n7_; clear n0_ n1_ n2_ n3_ n4_ n5_ n6_ n7_; (try clear hb); (try clear hb2); (try clear hk); (try clear hi); (try clear ho0); obtain ⟨Ao18, co18, eo18⟩ := Kd.zbt HO758.out; subst eo18; obtain ⟨Ao19, co19, eo19⟩ := Kd.zbt HO755.out; subst eo19) | ((with_reducible refine zah (f := 58) rfl ?_); refine zba (some 19) rfl rfl Tryd.func58 (by kernel_rfl) rfl #[.slice Ao18 t756.length co18, .slice Ao19 t753.length co19] rfl (zE) ?_; (with_reducible refine (zb7.calls k _ _ t756 _ _ t753 t759 t762 _ ?side1 ?side2 ?side3 ?side4 A5.out).mono ?_); (case side1 => exact zJ (Kd.zas HO758.out).2.2); (case side2 => exact (Kd.zas HO758.out).2.1); (case side3 => exact zJ (Kd.zas HO755.out).2.2); (case side4 => exact (Kd.zas HO755.out).2.1); rintro e w20 ⟨v760, v763, rfl, ho0, ho1, hb⟩; refine ⟨_, rfl, ?_⟩; have n0_ := zA (Kd.zao (zV HO749) hb); have n1_ := zA (Kd.zao (zV HO752) hb); have n2_ := zA (Kd.zao (zV HO755) hb); have n3_ := zA (Kd.zao (zV HO758) hb); have n4_ := zA (Kd.zbi (Kd.zak (ok' := fun k_ => (w.heap.size ≤ k_) ∧ k_ ≠ gb744 ∧ k_ ≠ gb745 ∧ k_ ≠ gb746) ho0 (fun k_ hk_ => ⟨(Nat.le_trans (za (zB HB)) hk_), (Kd.freshB (g := gb744) (o := .cells #[.slice A0_0 l0_0.length c0_0, .slice A0_1 l0_1.length c0_1] 28 (0, 0)) (zK BK744) k_ hk_), (Kd.freshB (g := gb745) (o := .cells #[.slice A1_0 l1_0.length c1_0, .slice A1_1 l1_1.length c1_1] 28 (0, 0)) (zK BK745) k_ hk_), (Kd.freshB (g := gb746) (o := .cells #[.slice none 0 0, .slice none 0 0] 28 (0, 0)) (zK BK746) k_ hk_)⟩)) (za (zB HB))); have n5_ := zA (Kd.zbi (Kd.zak (ok' := fun k_ => (w.heap.size ≤ k_) ∧ k_ ≠ gb744 ∧ k_ ≠ gb745 ∧ k_ ≠ gb746) ho1 (fun k_ hk_ => ⟨(Nat.le_trans (za (zB HB)) hk_), (Kd.freshB (g := gb744) (o := .cells #[.slice A0_0 l0_0.length c0_0, .slice A0_1 l0_1.length c0_1] 28 (0, 0)) (zK BK744) k_ hk_), (Kd.freshB (g := gb745) (o := .cells #[.slice A1_0 l1_0.length c1_0, .slice A1_1 l1_1.length c1_1] 28 (0, 0)) (zK BK745) k_ hk_), (Kd.freshB (g := gb746) (o := .cells #[.slice none 0 0, .slice none 0 0] 28 (0, 0)) (zK BK746) k_ hk_)⟩)) (za (zB HB))); have n6_ := zA (zaa (g := gb744) (o := .cells #[.slice A0_0 l0_0.length c0_0, .slice A0_1 l0_1.length c0_1] 28 (0, 0)) (zK BK744) hb); have n7_ := zA (zaa (g := gb745) (o := .cells #[.slice A1_0 l1_0.length c1_0, .slice A1_1 l1_1.length c1_1] 28 (0, 0)) (zK BK745) hb); have n8_ := zA (zaa (g := gb746) (o := .cells #[.slice none 0 0, .slice none 0 0] 28 (0, 0)) (zK BK746) hb); have n9_ := zA (zaf (zB HB) hb); clear HO749 HO752 HO755 HO758 BK744 BK745 BK746 HB; have HO749 := n0_; have HO752 := n1_; have HO755 := n2_; have HO758 := n3_; have HO761 := n4_; have HO764 := n5_; have BK744 := n6_; have BK745 := n7_; have BK746 := n8_; have HB := n9_; clear n0_ n1_ n2_ n3_ n4_ n5_ n6_ n7_ n8_ n9_; (try clear hb); (try clear hb2); (try clear hk); (try clear hi); (try clear ho0); (try clear ho1); obtain ⟨Ao21, co21, eo21⟩ := Kd.zbt HO761.out; subst eo21; have hcz22_0 : w20.cell? ⟨gb746, 0, none⟩ = some (.slice none 0 0) := (zad BK746.out 0).trans rfl; have hcz22_1 : w20.cell? ⟨gb746, 1, none⟩ = some (.slice none 0 0) := (zad BK746.out 1).trans rfl; have hfz22_0 := zal BK746.out 0; have hfz22_1 := zal BK746.out 1; obtain ⟨Ao23, co23, eo23⟩ := Kd.zbt HO764.out; subst eo23))
 refine bodyPost_ret (results_cell_row rfl _ _ gb746 28 #[.slice Ao21 t759.length co21, .slice Ao23 t762.length co23] (0, 0) _ rfl (by (with_reducible repeat (first | refine zab ?_ _ | refine zae ?_ | refine zac ?_ _)); refine zbo (cs := #[.slice Ao21 t759.length co21, .slice none 0 0]) ?_ 1 _ rfl; (with_reducible repeat (first | refine zab ?_ _ | refine zae ?_ | refine zac ?_ _)); refine zbo (cs := #[.slice none 0 0, .slice none 0 0]) ?_ 0 _ rfl; (with_reducible repeat (first | refine zab ?_ _ | refine zae ?_ | refine zac ?_ _)); exact BK746.out) Tryd.underlying28 rfl (by kernel_rfl)) rfl ?_
 exact ⟨_, _, zW, by (with_reducible repeat (first | apply Kd.za8 | apply Kd.za9 | apply Kd.zbc)); exact Kd.zak (Kd.V_far (p := ⟨gb746, 1, none⟩) (Kd.V_far (p := ⟨gb746, 0, none⟩) (Kd.zak HO761.out (fun k_ hk => (⟨hk, hk.2.2.2⟩ : _ ∧ k_ ≠ gb746))) (fun _ hk => hk.2) (.slice Ao21 t759.length co21)) (fun _ hk => hk.2) (.slice Ao23 t762.length co23)) (fun _ hk => hk.1.1), by (with_reducible repeat (first | apply Kd.za8 | apply Kd.za9 | apply Kd.zbc)); exact Kd.zak (Kd.V_far (p := ⟨gb746, 1, none⟩) (Kd.V_far (p := ⟨gb746, 0, none⟩) (Kd.zak HO764.out (fun k_ hk => (⟨hk, hk.2.2.2⟩ : _ ∧ k_ ≠ gb746))) (fun _ hk => hk.2) (.slice Ao21 t759.length co21)) (fun _ hk => hk.2) (.slice Ao23 t762.length co23)) (fun _ hk => hk.1.1), zB HB⟩
def ratio_Cmp.f (k : Nat) (l0_0 : List Int) (l0_1 : List Int) (l1_0 : List Int) (l1_1 : List Int) : Option (Int) := (zbw.f k l0_0 l0_1 l1_0 l1_1).bind fun bt767 => ((zcs.f bt767.1 bt767.2.1).bind fun t776 => (some t776))
theorem ratio_Cmp.calls (k : Nat) (A0_0 : Option Addr) (c0_0 : Nat) (l0_0 : List Int) (A0_1 : Option Addr) (c0_1 : Nat) (l0_1 : List Int) (A1_0 : Option Addr) (c1_0 : Nat) (l1_0 : List Int) (A1_1 : Option Addr) (c1_1 : Nat) (l1_1 : List Int) (r : Int) (w : World) (hr0_0 : Kd.C (Kd.int .u64) w A0_0 l0_0.length l0_0) (hc0_0 : l0_0.length ≤ c0_0) (hr0_1 : Kd.C (Kd.int .u64) w A0_1 l0_1.length l0_1) (hc0_1 : l0_1.length ≤ c0_1) (hr1_0 : Kd.C (Kd.int .u64) w A1_0 l1_0.length l1_0) (hc1_0 : l1_0.length ≤ c1_0) (hr1_1 : Kd.C (Kd.int .u64) w A1_1 l1_1.length l1_1) (hc1_1 : l1_1.length ≤ c1_1) (h : ratio_Cmp.f k l0_0 l0_1 l1_0 l1_1 = some r) :
  Calls Tryd.prog 35 #[.agg #[.slice A0_0 l0_0.length c0_0, .slice A0_1 l0_1.length c0_1], .agg #[.slice A1_0 l1_0.length c1_0, .slice A1_1 l1_1.length c1_1]] w fun e w' => e = .returned (.int .i64 r) ∧ Below w.heap.size w w' := by
 have hu28 := Tryd.underlying28
 have HR0_0 := zA hr0_0
 have HC0_0 := zA hc0_0
 clear hr0_0 hc0_0
 have HR0_1 := zA hr0_1
 have HC0_1 := zA hc0_1
 clear hr0_1 hc0_1
 have HR1_0 := zA hr1_0
 have HC1_0 := zA hc1_0
 clear hr1_0 hc1_0
 have HR1_1 := zA hr1_1
 have HC1_1 := zA hc1_1
 clear hr1_1 hc1_1
 have HB := zA (Below.refl w.heap.size w)
 have H : ((zbw.f k l0_0 l0_1 l1_0 l1_1).bind fun bt767 => ((zcs.f bt767.1 bt767.2.1).bind fun t776 => (some t776))) = some r := h
 clear h
 replace H := zO H
 obtain ⟨⟨t767, t770, t773⟩, A30, H⟩ := H
 try dsimp only at H
 have A3 := zA A30
 clear A30
 replace H := zO H
 obtain ⟨t776, A40, H⟩ := H
 try dsimp only at H
 have A4 := zA A40
 clear A40
 obtain rfl := Option.some.inj H
 go_enter Tryd.func35, Tryd.ntmps35
 go_wp2_with (first | ((with_reducible refine zbh (N := 2) rfl ?_); refine zbj ?hg (N := 2) ?hd (cs := #[.slice A0_0 l0_0.length c0_0, .slice A0_1 l0_1.length c0_1]) (t := 28) ?hr ?_; (case hd => rfl); (case hg => rfl); (case hr => first | (go_simp; done) | (go_simp; rfl)); intro gb765 hg w5 hbox hb; have n0_ := zA (zaf (zB HB) hb); have n1_ := zA (hbox); have n2_ := zA ((by rw [hg]; exact (za (zB HB)) : w.heap.size ≤ gb765)); have n3_ := zA ((by rw [hg]; exact (za (zB HB)) : w.heap.size ≤ gb765)); clear HB; have HB := n0_; have BK765 := n1_; have GW765 := n2_; have GE765 := n3_; clear n0_ n1_ n2_ n3_ hb hbox hg) | ((with_reducible refine zbh (N := 3) rfl ?_); refine zbj ?hg (N := 3) ?hd (cs := #[.slice A1_0 l1_0.length c1_0, .slice A1_1 l1_1.length c1_1]) (t := 28) ?hr ?_; (case hd => rfl); (case hg => rfl); (case hr => first | (go_simp; done) | (go_simp; rfl)); intro gb766 hg w6 hbox hb; have n0_ := zA (zaa (g := gb765) (o := .cells #[.slice A0_0 l0_0.length c0_0, .slice A0_1 l0_1.length c0_1] 28 (0, 0)) (zK BK765) hb); have n1_ := zA (zaf (zB HB) hb); have n2_ := zA (hbox); have n3_ := zA ((by rw [hg]; exact (za (zB HB)) : w.heap.size ≤ gb766)); have n4_ := zA ((by rw [hg]; exact (za (zB HB)) : w.heap.size ≤ gb766)); have n5_ := zA ((by rw [hg]; exact Nat.ne_of_lt (za5 (g := gb765) (o := .cells #[.slice A0_0 l0_0.length c0_0, .slice A0_1 l0_1.length c0_1] 28 (0, 0)) (zK BK765)) : gb765 ≠ gb766)); have n6_ := zA ((by rw [hg]; exact Nat.ne_of_gt (za5 (g := gb765) (o := .cells #[.slice A0_0 l0_0.length c0_0, .slice A0_1 l0_1.length c0_1] 28 (0, 0)) (zK BK765)) : gb766 ≠ gb765)); clear BK765 HB; have BK765 := n0_; have HB := n1_; have BK766 := n2_; have GW766 := n3_; have GE766 := n4_; have NB765_766 := n5_; have NB766_765 := n6_; clear n0_ n1_ n2_ n3_ n4_ n5_ n6_ hb hbox hg; have hnb7 := NB765_766.out; have hnc7 := NB766_765.out; have hcz8_0 : w6.cell? ⟨gb765, 0, none⟩ = some (.slice A0_0 l0_0.length c0_0) := (zad BK765.out 0).trans rfl; have hcz8_1 : w6.cell? ⟨gb765, 1, none⟩ = some (.slice A0_1 l0_1.length c0_1) := (zad BK765.out 1).trans rfl; have hfz8_0 := zal BK765.out 0; have hfz8_1 := zal BK765.out 1; have hcz9_0 : w6.cell? ⟨gb766, 0, none⟩ = some (.slice A1_0 l1_0.length c1_0) := (zad BK766.out 0).trans rfl; have hcz9_1 : w6.cell? ⟨gb766, 1, none⟩ = some (.slice A1_1 l1_1.length c1_1) := (zad BK766.out 1).trans rfl; have hfz9_0 := zal BK766.out 0; have hfz9_1 := zal BK766.out 1) | ((with_reducible refine zah (f := 62) rfl ?_); refine zba (some 11) rfl rfl Tryd.func62 (by kernel_rfl) rfl #[.agg #[.slice A0_0 l0_0.length c0_0, .slice A0_1 l0_1.length c0_1], .agg #[.slice A1_0 l1_0.length c1_0, .slice A1_1 l1_1.length c1_1]] rfl (zE) ?_; (with_reducible refine (zbw.calls k _ _ l0_0 _ _ l0_1 _ _ l1_0 _ _ l1_1 t767 t770 t773 _ ?side1 ?side2 ?side3 ?side4 ?side5 ?side6 ?side7 ?side8 A3.out).mono ?_); (case side1 => exact zJ (Kd.za6 HR0_0.out HB.out)); (case side2 => exact HC0_0.out); (case side3 => exact zJ (Kd.za6 HR0_1.out HB.out)); (case side4 => exact HC0_1.out); (case side5 => exact zJ (Kd.za6 HR1_0.out HB.out)); (case side6 => exact HC1_0.out); (case side7 => exact zJ (Kd.za6 HR1_1.out HB.out)); (case side8 => exact HC1_1.out); rintro e w10 ⟨v768, v771, v774, rfl, ho0, ho1, ho2, hb⟩; refine ⟨_, rfl, ?_⟩; have n0_ := zA (Kd.zbi (Kd.zak (ok' := fun k_ => k_ ≠ gb765 ∧ k_ ≠ gb766) ho0 (fun k_ hk_ => ⟨(Kd.freshB (g := gb765) (o := .cells #[.slice A0_0 l0_0.length c0_0, .slice A0_1 l0_1.length c0_1] 28 (0, 0)) (zK BK765) k_ hk_), (Kd.freshB (g := gb766) (o := .cells #[.slice A1_0 l1_0.length c1_0, .slice A1_1 l1_1.length c1_1] 28 (0, 0)) (zK BK766) k_ hk_)⟩)) (za (zB HB))); have n1_ := zA (Kd.zbi (Kd.zak (ok' := fun k_ => k_ ≠ gb765 ∧ k_ ≠ gb766) ho1 (fun k_ hk_ => ⟨(Kd.freshB (g := gb765) (o := .cells #[.slice A0_0 l0_0.length c0_0, .slice A0_1 l0_1.length c0_1] 28 (0, 0)) (zK BK765) k_ hk_), (Kd.freshB (g := gb766) (o := .cells #[.slice A1_0 l1_0.length c1_0, .slice A1_1 l1_1.length c1_1] 28 (0, 0)) (zK BK766) k_ hk_)⟩)) (za (zB HB))); have n2_ := zA (Kd.zbi (Kd.zak (ok' := fun k_ => k_ ≠ gb765 ∧ k_ ≠ gb766) ho2 (fun k_ hk_ => ⟨(Kd.freshB (g := gb765) (o := .cells #[.slice A0_0 l0_0.length c0_0, .slice A0_1 l0_1.length c0_1] 28 (0, 0)) (zK BK765) k_ hk_), (Kd.freshB (g := gb766) (o := .cells #[.slice A1_0 l1_0.length c1_0, .slice A1_1 l1_1.length c1_1] 28 (0, 0)) (zK BK766) k_ hk_)⟩)) (za (zB HB))); have n3_ := zA (zaa (g := gb765) (o := .cells #[.slice A0_0 l0_0.length c0_0, .slice A0_1 l0_1.length c0_1] 28 (0, 0)) (zK BK765) hb); have n4_ := zA (zaa (g := gb766) (o := .cells #[.slice A1_0 l1_0.length c1_0, .slice A1_1 l1_1.length c1_1] 28 (0, 0)) (zK BK766) hb); have n5_ := zA (zaf (zB HB) hb); clear BK765 BK766 HB; have HO769 := n0_; have HO772 := n1_; have HO775 := n2_; have BK765 := n3_; have BK766 := n4_; have HB := n5_; clear n0_ n1_ n2_ n3_ n4_ n5_; (try clear hb); (try clear hb2); (try clear hk); (try clear hi); (try clear ho0); (try clear ho1); (try clear ho2); obtain ⟨Ao11, co11, eo11⟩ := Kd.zbt HO769.out; subst eo11; obtain ⟨Ao12, co12, eo12⟩ := Kd.zbt HO772.out; subst eo12) | ((with_reducible refine zah (f := 52) rfl ?_); refine zba (some 17) rfl rfl Tryd.func52 (by kernel_rfl) rfl #[.slice Ao11 t767.length co11, .slice Ao12 t770.length co12] rfl (zE) ?_; (with_reducible refine (zcs.calls _ _ t767 _ _ t770 t776 _ ?side1 ?side2 ?side3 ?side4 A4.out).mono ?_); (case side1 => exact zJ (Kd.zas HO769.out).2.2); (case side2 => exact (Kd.zas HO769.out).2.1); (case side3 => exact zJ (Kd.zas HO772.out).2.2); (case side4 => exact (Kd.zas HO772.out).2.1); rintro e w13 ⟨rfl, hb⟩; refine ⟨_, rfl, ?_⟩; have n0_ := zA (Kd.zao (zV HO769) hb); have n1_ := zA (Kd.zao (zV HO772) hb); have n2_ := zA (Kd.zao (zV HO775) hb); have n3_ := zA (zaa (g := gb765) (o := .cells #[.slice A0_0 l0_0.length c0_0, .slice A0_1 l0_1.length c0_1] 28 (0, 0)) (zK BK765) hb); have n4_ := zA (zaa (g := gb766) (o := .cells #[.slice A1_0 l1_0.length c1_0, .slice A1_1 l1_1.length c1_1] 28 (0, 0)) (zK BK766) hb); have n5_ := zA (zaf (zB HB) hb); clear HO769 HO772 HO775 BK765 BK766 HB; have HO769 := n0_; have HO772 := n1_; have HO775 := n2_; have BK765 := n3_; have BK766 := n4_; have HB := n5_; clear n0_ n1_ n2_ n3_ n4_ n5_; (try clear hb); (try clear hb2); (try clear hk); (try clear hi)))
 go_ret
 exact ⟨zW, zB HB⟩
def zb3.f (k : Nat) (l0_0 : List Int) (l0_1 : List Int) (l1_0 : List Int) (l1_1 : List Int) : Option (Int) := (zam.f k l0_0 l1_1).bind fun t871 => ((zam.f k l1_0 l0_1).bind fun t874 => ((za7.f k t871 t874).bind fun t877 => (some t877)))
def zb3.T1 : Bool × List (List Nat × List Nat) := (true, [([], []), ([0], [0]), ([], []), ([2], [2]), ([1, 3], [1, 3]), ([], []), ([5], [5]), ([], []), ([7], [7]), ([6, 8, 4], [6, 8]), ([4, 9, 9], [4, 9]), ([10, 10, 0, 1, 2, 3, 4, 5, 6, 7, 8, 9, 10], [10])])
def zb3.B1 : List Nat := [0, 1, 0, 4, 15, 0, 32, 0, 128, 511, 1023, 2047]
theorem zb3.tab1 : rtab .any (opsOf Tryd.f37 1) = zb3.T1 := by kernel_rfl
theorem zb3.bits1 : waitsOk zb3.T1.2 zb3.B1 = true := by kernel_rfl
theorem zb3.calls (k : Nat) (A0_0 : Option Addr) (c0_0 : Nat) (l0_0 : List Int) (A0_1 : Option Addr) (c0_1 : Nat) (l0_1 : List Int) (A1_0 : Option Addr) (c1_0 : Nat) (l1_0 : List Int) (A1_1 : Option Addr) (c1_1 : Nat) (l1_1 : List Int) (r : Int) (w : World) (hr0_0 : Kd.C (Kd.int .i64) w A0_0 l0_0.length l0_0) (hc0_0 : l0_0.length ≤ c0_0) (hr0_1 : Kd.C (Kd.int .i64) w A0_1 l0_1.length l0_1) (hc0_1 : l0_1.length ≤ c0_1) (hr1_0 : Kd.C (Kd.int .i64) w A1_0 l1_0.length l1_0) (hc1_0 : l1_0.length ≤ c1_0) (hr1_1 : Kd.C (Kd.int .i64) w A1_1 l1_1.length l1_1) (hc1_1 : l1_1.length ≤ c1_1) (h : zb3.f k l0_0 l0_1 l1_0 l1_1 = some r) :
  Calls Tryd.prog 37 #[.agg #[.slice A0_0 l0_0.length c0_0, .slice A0_1 l0_1.length c0_1], .agg #[.slice A1_0 l1_0.length c1_0, .slice A1_1 l1_1.length c1_1]] w fun e w' => e = .returned (.int .i64 r) ∧ Below w.heap.size w w' := by
 have hu40 := Tryd.underlying40
 have HR0_0 := zA hr0_0
 have HC0_0 := zA hc0_0
 clear hr0_0 hc0_0
 have HR0_1 := zA hr0_1
 have HC0_1 := zA hc0_1
 clear hr0_1 hc0_1
 have HR1_0 := zA hr1_0
 have HC1_0 := zA hc1_0
 clear hr1_0 hc1_0
 have HR1_1 := zA hr1_1
 have HC1_1 := zA hc1_1
 clear hr1_1 hc1_1
 have HB := zA (Below.refl w.heap.size w)
 have H : ((zam.f k l0_0 l1_1).bind fun t871 => ((zam.f k l1_0 l0_1).bind fun t874 => ((za7.f k t871 t874).bind fun t877 => (some t877)))) = some r := h
 clear h
 replace H := zO H
 obtain ⟨t871, A30, H⟩ := H
 try dsimp only at H
 have A3 := zA A30
 clear A30
 replace H := zO H
 obtain ⟨t874, A40, H⟩ := H
 try dsimp only at H
 have A4 := zA A40
 clear A40
 replace H := zO H
 obtain ⟨t877, A50, H⟩ := H
 try dsimp only at H
 have A5 := zA A50
 clear A50
 obtain rfl := Option.some.inj H
 go_enter Tryd.func37, Tryd.ntmps37
 try go_wp2_with (first | ((with_reducible refine zbh (N := 2) rfl ?_); refine zbj ?hg (N := 2) ?hd (cs := #[.slice A0_0 l0_0.length c0_0, .slice A0_1 l0_1.length c0_1]) (t := 40) ?hr ?_; (case hd => rfl); (case hg => rfl); (case hr => first | (go_simp; done) | (go_simp; rfl)); intro gb869 hg w6 hbox hb; have n0_ := zA (zaf (zB HB) hb); have n1_ := zA (hbox); have n2_ := zA ((by rw [hg]; exact (za (zB HB)) : w.heap.size ≤ gb869)); have n3_ := zA ((by rw [hg]; exact (za (zB HB)) : w.heap.size ≤ gb869)); clear HB; have HB := n0_; have BK869 := n1_; have GW869 := n2_; have GE869 := n3_; clear n0_ n1_ n2_ n3_ hb hbox hg) | ((with_reducible refine zbh (N := 3) rfl ?_); refine zbj ?hg (N := 3) ?hd (cs := #[.slice A1_0 l1_0.length c1_0, .slice A1_1 l1_1.length c1_1]) (t := 40) ?hr ?_; (case hd => rfl); (case hg => rfl); (case hr => first | (go_simp; done) | (go_simp; rfl)); intro gb870 hg w7 hbox hb; have n0_ := zA (zaa (g := gb869) (o := .cells #[.slice A0_0 l0_0.length c0_0, .slice A0_1 l0_1.length c0_1] 40 (0, 0)) (zK BK869) hb); have n1_ := zA (zaf (zB HB) hb); have n2_ := zA (hbox); have n3_ := zA ((by rw [hg]; exact (za (zB HB)) : w.heap.size ≤ gb870)); have n4_ := zA ((by rw [hg]; exact (za (zB HB)) : w.heap.size ≤ gb870)); have n5_ := zA ((by rw [hg]; exact Nat.ne_of_lt (za5 (g := gb869) (o := .cells #[.slice A0_0 l0_0.length c0_0, .slice A0_1 l0_1.length c0_1] 40 (0, 0)) (zK BK869)) : gb869 ≠ gb870)); have n6_ := zA ((by rw [hg]; exact Nat.ne_of_gt (za5 (g := gb869) (o := .cells #[.slice A0_0 l0_0.length c0_0, .slice A0_1 l0_1.length c0_1] 40 (0, 0)) (zK BK869)) : gb870 ≠ gb869)); clear BK869 HB; have BK869 := n0_; have HB := n1_; have BK870 := n2_; have GW870 := n3_; have GE870 := n4_; have NB869_870 := n5_; have NB870_869 := n6_; clear n0_ n1_ n2_ n3_ n4_ n5_ n6_ hb hbox hg))
 have n0_ := zA (zae BK869.out)
 have n1_ := zA (zae BK870.out)
 have n2_ := zA (zb0 HB.out)
 clear BK869 BK870 HB
 have BK869 := n0_
 have BK870 := n1_
 have HB := n2_
 clear n0_ n1_ n2_
 refine start_ (n := 12) (S := fun w' => w'.cell? ⟨gb869, 0, none⟩ = some (.slice A0_0 l0_0.length c0_0) ∧ w'.cell? ⟨gb869, 1, none⟩ = some (.slice A0_1 l0_1.length c0_1) ∧ w'.cell? ⟨gb870, 0, none⟩ = some (.slice A1_0 l1_0.length c1_0) ∧ w'.cell? ⟨gb870, 1, none⟩ = some (.slice A1_1 l1_1.length c1_1)) (ds := []) #[false, false, false, false, false, false, false, false, false, false, false, false] (by kernel_rfl) rfl rfl ⟨(zad BK869.out 0).trans rfl, (zad BK869.out 1).trans rfl, (zad BK870.out 0).trans rfl, (zad BK870.out 1).trans rfl⟩ (fun hHeld => ?_); refine zc0 zb3.tab1 zb3.bits1 (fun HT_ HW_ => ?_)
 generalize w7.drew = w8 at BK869 BK870 HB hHeld ⊢
 refine pure_ (i := 0) (N := some 5) (v := ?_) (a' := ?_) #[true, false, false, false, false, false, false, false, false, false, false, false] rfl rfl (zbf HT_.out (by kernel_rfl)) (fun _ _ _ h => h) (Or.inl ⟨by rfl, ?_⟩) ?_ ?_
 rotate_left
 ·
  intro w'
  go_simp
  with_reducible rfl
 rotate_left
 ·
  simp only [Act.put, zs1, zs2, zs3, i64_w, i32_w]
  rfl
 refine pure_ (i := 2) (N := some 7) (v := ?_) (a' := ?_) #[true, false, true, false, false, false, false, false, false, false, false, false] rfl rfl (zbf HT_.out (by kernel_rfl)) (fun _ _ _ h => h) (Or.inl ⟨by rfl, ?_⟩) ?_ ?_
 rotate_left
 ·
  intro w'
  go_simp
  with_reducible rfl
 rotate_left
 ·
  simp only [Act.put, zs1, zs2, zs3, i64_w, i32_w]
  rfl
 refine pure_ (i := 5) (N := some 10) (v := ?_) (a' := ?_) #[true, false, true, false, false, true, false, false, false, false, false, false] rfl rfl (zbf HT_.out (by kernel_rfl)) (fun _ _ _ h => h) (Or.inl ⟨by rfl, ?_⟩) ?_ ?_
 rotate_left
 ·
  intro w'
  go_simp
  with_reducible rfl
 rotate_left
 ·
  simp only [Act.put, zs1, zs2, zs3, i64_w, i32_w]
  rfl
 refine pure_ (i := 7) (N := some 12) (v := ?_) (a' := ?_) #[true, false, true, false, false, true, false, true, false, false, false, false] rfl rfl (zbf HT_.out (by kernel_rfl)) (fun _ _ _ h => h) (Or.inl ⟨by rfl, ?_⟩) ?_ ?_
 rotate_left
 ·
  intro w'
  go_simp
  with_reducible rfl
 rotate_left
 ·
  simp only [Act.put, zs1, zs2, zs3, i64_w, i32_w]
  rfl
 refine take_ (i := 1) (N := some 6) (v := ?_) (a' := ?_) #[true, true, true, false, false, true, false, true, false, false, false, false] rfl rfl (zbx HT_.out HW_.out (by kernel_rfl)) (fun _ _ _ h => h) (Or.inl ⟨by rfl, ?_⟩) hHeld ?_ ?_
 rotate_left
 ·
  rintro w' ⟨s0, s1, s2, s3⟩
  go_simp
  with_reducible rfl
 rotate_left
 ·
  simp only [Act.put, zs1, zs2, zs3, i64_w, i32_w]
  rfl
 refine take_ (i := 3) (N := some 8) (v := ?_) (a' := ?_) #[true, true, true, true, false, true, false, true, false, false, false, false] rfl rfl (zbx HT_.out HW_.out (by kernel_rfl)) (fun _ _ _ h => h) (Or.inl ⟨by rfl, ?_⟩) hHeld ?_ ?_
 rotate_left
 ·
  rintro w' ⟨s0, s1, s2, s3⟩
  go_simp
  with_reducible rfl
 rotate_left
 ·
  simp only [Act.put, zs1, zs2, zs3, i64_w, i32_w]
  rfl
 refine take_ (i := 6) (N := some 11) (v := ?_) (a' := ?_) #[true, true, true, true, false, true, true, true, false, false, false, false] rfl rfl (zbx HT_.out HW_.out (by kernel_rfl)) (fun _ _ _ h => h) (Or.inl ⟨by rfl, ?_⟩) hHeld ?_ ?_
 rotate_left
 ·
  rintro w' ⟨s0, s1, s2, s3⟩
  go_simp
  with_reducible rfl
 rotate_left
 ·
  simp only [Act.put, zs1, zs2, zs3, i64_w, i32_w]
  rfl
 refine take_ (i := 8) (N := some 13) (v := ?_) (a' := ?_) #[true, true, true, true, false, true, true, true, true, false, false, false] rfl rfl (zbx HT_.out HW_.out (by kernel_rfl)) (fun _ _ _ h => h) (Or.inl ⟨by rfl, ?_⟩) hHeld ?_ ?_
 rotate_left
 ·
  rintro w' ⟨s0, s1, s2, s3⟩
  go_simp
  with_reducible rfl
 rotate_left
 ·
  simp only [Act.put, zs1, zs2, zs3, i64_w, i32_w]
  rfl
 refine one_ (i := 4) (N := some 9) #[true, true, true, true, true, true, true, true, true, false, false, false] rfl rfl (zcf HT_.out (by kernel_rfl)) (by decide) (fun K hK => ?_)
 refine goes_ Tryd.func56 (by kernel_rfl) rfl #[.slice A0_0 l0_0.length c0_0, .slice A1_1 l1_1.length c1_1] (by rfl) rfl rfl (zE) ?_
 with_reducible refine (zam.calls k _ _ l0_0 _ _ l1_1 t871 _ ?side1 ?side2 ?side3 ?side4 A3.out).mono ?_
 (case side1 => exact zJ (Kd.za6 HR0_0.out HB.out))
 (case side2 => exact HC0_0.out)
 (case side3 => exact zJ (Kd.za6 HR1_1.out HB.out))
 (case side4 => exact HC1_1.out)
 rintro e w9 ⟨v872, rfl, ho0, hb⟩
 refine ⟨_, rfl, ?_⟩
 have n0_ := zA (Kd.zbm ho0 (za (zB HB)))
 have n1_ := zA (zaa (g := gb869) (o := .cells #[.slice A0_0 l0_0.length c0_0, .slice A0_1 l0_1.length c0_1] 40 (0, 0)) (zK BK869) hb)
 have n2_ := zA (zaa (g := gb870) (o := .cells #[.slice A1_0 l1_0.length c1_0, .slice A1_1 l1_1.length c1_1] 40 (0, 0)) (zK BK870) hb)
 have n3_ := zA (zaf (zB HB) hb)
 clear BK869 BK870 HB
 have HO873 := n0_
 have BK869 := n1_
 have BK870 := n2_
 have HB := n3_
 clear n0_ n1_ n2_ n3_
 (try clear hb)
 (try clear hb2)
 (try clear hk)
 (try clear hi)
 (try clear ho0)
 refine hK.out _ _ ⟨(zad BK869.out 0).trans rfl, (zad BK869.out 1).trans rfl, (zad BK870.out 0).trans rfl, (zad BK870.out 1).trans rfl⟩ (fun hHeld => ?_)
 clear hK K
 refine norm_ (a' := ?_) ?_ ?_
 rotate_left
 ·
  show Act.put _ (some 9) _ = _
  simp only [Act.put, zs1, zs2, zs3, i64_w, i32_w]
  rfl
 refine one_ (i := 9) (N := some 14) #[true, true, true, true, true, true, true, true, true, true, false, false] rfl rfl (zcf HT_.out (by kernel_rfl)) (by decide) (fun K hK => ?_)
 refine goes_ Tryd.func56 (by kernel_rfl) rfl #[.slice A1_0 l1_0.length c1_0, .slice A0_1 l0_1.length c0_1] (by rfl) rfl rfl (zE) ?_
 with_reducible refine (zam.calls k _ _ l1_0 _ _ l0_1 t874 _ ?side1 ?side2 ?side3 ?side4 A4.out).mono ?_
 (case side1 => exact zJ (Kd.za6 HR1_0.out HB.out))
 (case side2 => exact HC1_0.out)
 (case side3 => exact zJ (Kd.za6 HR0_1.out HB.out))
 (case side4 => exact HC0_1.out)
 rintro e w10 ⟨v875, rfl, ho0, hb⟩
 refine ⟨_, rfl, ?_⟩
 have n0_ := zA (Kd.zbp (zR HO873) (Kd.za1 ho0) hb)
 have n1_ := zA (Kd.zbm (Kd.zbk ho0 (Kd.R_lt (zR HO873))) (za (zB HB)))
 have n2_ := zA (zaa (g := gb869) (o := .cells #[.slice A0_0 l0_0.length c0_0, .slice A0_1 l0_1.length c0_1] 40 (0, 0)) (zK BK869) hb)
 have n3_ := zA (zaa (g := gb870) (o := .cells #[.slice A1_0 l1_0.length c1_0, .slice A1_1 l1_1.length c1_1] 40 (0, 0)) (zK BK870) hb)
 have n4_ := zA (zaf (zB HB) hb)
 clear HO873 BK869 BK870 HB
 have HO873 := n0_
 have HO876 := n1_
 have BK869 := n2_
 have BK870 := n3_
 have HB := n4_
 clear n0_ n1_ n2_ n3_ n4_
 (try clear hb)
 (try clear hb2)
 (try clear hk)
 (try clear hi)
 (try clear ho0)
 obtain ⟨Ao11, co11, eo11⟩ := Kd.zbn HO873.out
 (first | subst eo11 | (injection eo11 with f1_ f2_ f3_; have f4_ := f1_.symm; have f5_ := f3_.symm; clear f1_ f2_ f3_; subst f4_; subst f5_))
 obtain ⟨Ao12, co12, eo12⟩ := Kd.zbn HO876.out
 (first | subst eo12 | (injection eo12 with f1_ f2_ f3_; have f4_ := f1_.symm; have f5_ := f3_.symm; clear f1_ f2_ f3_; subst f4_; subst f5_))
 refine hK.out _ _ ⟨(zad BK869.out 0).trans rfl, (zad BK869.out 1).trans rfl, (zad BK870.out 0).trans rfl, (zad BK870.out 1).trans rfl⟩ (fun hHeld => ?_)
 clear hK K
 refine norm_ (a' := ?_) ?_ ?_
 rotate_left
 ·
  show Act.put _ (some 14) _ = _
  simp only [Act.put, zs1, zs2, zs3, i64_w, i32_w]
  rfl
 refine one_ (i := 10) (N := some 15) #[true, true, true, true, true, true, true, true, true, true, true, false] rfl rfl (zcf HT_.out (by kernel_rfl)) (by decide) (fun K hK => ?_)
 refine goes_ Tryd.func18 (by kernel_rfl) rfl #[.slice Ao11 t871.length co11, .slice Ao12 t874.length co12] (by rfl) rfl rfl (zE) ?_
 with_reducible refine (za7.calls k _ _ t871 _ _ t874 t877 _ ?side1 ?side2 ?side3 ?side4 A5.out).mono ?_
 (case side1 => exact zJ (Kd.zat HO873.out).2.2)
 (case side2 => exact (Kd.zat HO873.out).2.1)
 (case side3 => exact zJ (Kd.zat HO876.out).2.2)
 (case side4 => exact (Kd.zat HO876.out).2.1)
 rintro e w' ⟨rfl, ⟨nd, rfl⟩⟩
 refine ⟨_, rfl, ?_⟩
 refine hK.out _ _ ⟨(zad BK869.out 0).trans rfl, (zad BK869.out 1).trans rfl, (zad BK870.out 0).trans rfl, (zad BK870.out 1).trans rfl⟩ (fun hHeld => ?_)
 clear hK K
 refine norm_ (a' := ?_) ?_ ?_
 rotate_left
 ·
  show Act.put _ (some 15) _ = _
  simp only [Act.put, zs1, zs2, zs3, i64_w, i32_w]
  rfl
 refine pure_ (i := 11) (N := some 4) (v := ?_) (a' := ?_) #[true, true, true, true, true, true, true, true, true, true, true, true] rfl rfl (zbf HT_.out (by kernel_rfl)) (fun _ _ _ h => h) (Or.inl ⟨by rfl, ?_⟩) ?_ ?_
 rotate_left
 ·
  intro w'
  go_simp
  with_reducible rfl
 rotate_left
 ·
  simp only [Act.put, zs1, zs2, zs3, i64_w, i32_w]
  rfl
 refine done_ (done_of HT_.out (by kernel_rfl)) ?_
 try go_wp2
 go_ret
 exact ⟨zW, zB HB⟩
end Go.Proofs.YtfjkamhcabckeaaDoor.P
end
