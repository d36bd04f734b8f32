-- Written by a program of this session (wip/tools/shake.py) out of its own texts and of the kit's printed ones; not trusted: Lean checks it.
import Derived.Test.YtlmjdchcgfpngaaZTreeMoves6
set_option maxHeartbeats 8000000
set_option maxRecDepth 100000
set_option linter.unusedVariables false
set_option linter.unusedSimpArgs false
section
namespace Go.Proofs.Ytlmjdchcgfpngaa.P
open Go.RowKit Go.Proofs.YtlmjdchcgfpngaaW.PrintWords Go.Proofs.YtlmjdchcgfpngaaW.PrintLast Go.Proofs.YtlmjdchcgfpngaaW.PrintMore
attribute [local go_sem] zbo zbq zbz zbx zbi zbg zbr zbp
theorem Ints_same (l : List Int) (hl : l.length < 1000000) : Ev (fun k => zaz.f k l l) true := by
 have key : ∀ q i : Nat, i + q = l.length → Ev (fun k => zaz.l0 k l l (l.length : Int) (i : Int)) true := by
  intro q
  induction q with
  | zero =>
   intro i hi
   refine Ev.step (fun _ => zaz.l0.eq_2 ..) ?_
   refine Ev.neg_ (by omega) ?_
   exact Ev.of (fun _ => rfl)
  | succ q ih =>
   intro i hi
   refine Ev.step (fun _ => zaz.l0.eq_2 ..) ?_
   refine Ev.pos_ (by omega) (Ev.pos_ (by omega) (Ev.pos_ (by omega) (Ev.pos_ (by omega) (Ev.pos_ rfl ?_))))
   rw [show wrap64 ((i : Int) + 1) = ((i + 1 : Nat) : Int) by rw [w64s (by omega) (by omega)]; omega]
   exact ih (i + 1) (by omega)
 unfold zaz.f
 refine Ev.pos_ rfl ?_
 exact key l.length 0 (by omega)
theorem idx0 (a b c : Int) (W : World) : (Instr.index 88 (.agg #[.int .i64 a, .int .i64 b, .int .i64 c]) (.int .i64 0)).run Try.prog W = .ok (.int .i64 a) W := by kernel_rfl
theorem idx1 (a b c : Int) (W : World) : (Instr.index 88 (.agg #[.int .i64 a, .int .i64 b, .int .i64 c]) (.int .i64 1)).run Try.prog W = .ok (.int .i64 b) W := by kernel_rfl
theorem idx2 (a b c : Int) (W : World) : (Instr.index 88 (.agg #[.int .i64 a, .int .i64 b, .int .i64 c]) (.int .i64 2)).run Try.prog W = .ok (.int .i64 c) W := by kernel_rfl
def isT9 : Bool × List (List Nat × List Nat) := (true, [([], []), ([0], [0]), ([1], [1]), ([2], [2]), ([3, 2], [2, 3]), ([2], [2]), ([5, 2], [2, 5]), ([4, 6, 2], [2, 4, 6]), ([2, 7], [2, 7]), ([8, 2], [8]), ([9], [9]), ([10, 9], [9, 10]), ([9], [9]), ([12, 9], [9, 12]), ([11, 13, 9], [9, 11, 13]), ([9, 14], [9, 14]), ([15, 9], [15]), ([16], [16]), ([17, 16], [16, 17]), ([16], [16]), ([19, 16], [16, 19]), ([18, 20, 16], [16, 18, 20]), ([16, 21], [16, 21]), ([22, 16], [22]), ([23], [23]), ([24, 23], [23, 24]), ([23], [23]), ([26, 23], [23, 26]), ([25, 27, 23], [23, 25, 27]), ([23, 28], [23, 28]), ([29, 23], [29]), ([30], [30]), ([31, 30], [30, 31]), ([30], [30]), ([33, 30], [30, 33]), ([32, 34, 30], [30, 32, 34]), ([30, 35], [30, 35]), ([36, 30], [36]), ([37], [37]), ([38, 37], [37, 38]), ([37], [37]), ([37], [37]), ([41, 37], [37, 41]), ([40, 42, 37, 37], [37, 40, 42]), ([39, 43, 37], [37, 39, 43]), ([37, 44], [37, 44]), ([45, 43], [45]), ([46], [46]), ([47, 46], [46, 47]), ([46], [46]), ([46], [46]), ([50, 46], [46, 50]), ([49, 51, 46, 46], [46, 49, 51]), ([48, 52, 46], [46, 48, 52]), ([46, 53], [46, 53])])
def isB9 : List Nat := [0, 1, 3, 7, 15, 7, 39, 127, 255, 511, 1023, 2047, 1023, 5119, 16383, 32767, 65535, 131071, 262143, 131071, 655359, 2097151, 4194303, 8388607, 16777215, 33554431, 16777215, 83886079, 268435455, 536870911, 1073741823, 2147483647, 4294967295, 2147483647, 10737418239, 34359738367, 68719476735, 137438953471, 274877906943, 549755813887, 274877906943, 274877906943, 2473901162495, 7971459301375, 17592186044415, 35184372088831, 70368744177663, 140737488355327, 281474976710655, 140737488355327, 140737488355327, 1266637395197951, 4081387162304511, 9007199254740991, 18014398509481983]
theorem istab9 : rtab .any (opsOf Try.f19 9) = isT9 := by kernel_rfl
theorem isbits9 : waitsOk isT9.2 isB9 = true := by kernel_rfl
def isT11 : Bool × List (List Nat × List Nat) := (true, [([], []), ([], []), ([1], [1]), ([0, 2], [0, 2]), ([], []), ([], []), ([5], [5]), ([4, 6, 3], [4, 6]), ([3, 7, 7], [3, 7]), ([8], [8]), ([9, 8], [9]), ([10], [10]), ([10], [10]), ([12, 10], [10, 12]), ([11, 13, 10, 10], [10, 11, 13]), ([10], [10]), ([10], [10]), ([16, 10], [10, 16]), ([15, 17, 14, 10], [10, 15, 17]), ([14, 18, 10], [10, 14, 18]), ([10, 19], [10, 19])])
def isB11 : List Nat := [0, 0, 2, 7, 0, 0, 32, 127, 255, 511, 1023, 2047, 2047, 6143, 16383, 2047, 2047, 67583, 262143, 524287, 1048575]
theorem istab11 : rtab .any (opsOf Try.f19 11) = isT11 := by kernel_rfl
theorem isbits11 : waitsOk isT11.2 isB11 = true := by kernel_rfl
theorem kids_none {room : Nat} {last : Int} {L : List S84} (hG : GoodF room last L) {x : Int} (hf : fnd L x = none) : kidsF L x = [] := by
 refine List.eq_nil_iff_forall_not_mem.2 fun k hk => ?_
 obtain ⟨y, hy, _, h0, rfl⟩ := kidsF_mem.1 hk
 obtain ⟨p, hp, e⟩ := par_in hG hy h0
 exact fnd_none hf p hp e
theorem Is_ok {w : World} {P : Nat → Prop} {v : Value} {fb n room : Nat} {last : Int} {L : List S84} (hb : ForB 0 w fb n room last L) (hr : RefF w P v room last L) (hG : GoodF room last L) (hnn : n < 1000000) :
  Calls Try.prog 19 #[.pointer (some ⟨fb, 0, none⟩), v] w fun e w' => e = .returned (.bool true) ∧ Below w.heap.size w w' := by
 obtain ⟨A, c, rfl, hv⟩ := hr
 have hl : L.length ≤ 64 := Nat.le_trans hG.2.1 hG.1
 have HB := Aside0.mk hb
 have HV := Aside0.mk hv
 have HG := Aside0.mk hG
 obtain ⟨ki, hki⟩ := (Ints_same (L.map (·.f0)) (by rw [List.length_map]; omega)).get
 obtain ⟨ids, hids0⟩ : ∃ ids, L.map (·.f0) = ids := ⟨_, rfl⟩
 rw [hids0] at hki
 have hidl : ids.length = L.length := by rw [← hids0, List.length_map]
 have HKI := Aside0.mk hki
 have HID := Aside0.mk hids0
 have HIL := Aside0.mk hidl
 clear hb hv hG hki hids0 hidl
 go_enter Try.func19, Try.ntmps19
 have hal := zad (Below.refl w.heap.size w) (.cells #[.int .i64 (room : Int), .int .i64 last, .slice A L.length c] 44)
 have hx := za6 w (.cells #[.int .i64 (room : Int), .int .i64 last, .slice A L.length c] 44)
 have p0 : (w.alloc (.cells #[.int .i64 (room : Int), .int .i64 last, .slice A L.length c] 44)).cell? ⟨w.heap.size, 0, none⟩ = some (.int .i64 (room : Int)) := (za hx 0).trans rfl
 have p1 : (w.alloc (.cells #[.int .i64 (room : Int), .int .i64 last, .slice A L.length c] 44)).cell? ⟨w.heap.size, 1, none⟩ = some (.int .i64 last) := (za hx 1).trans rfl
 have p2 : (w.alloc (.cells #[.int .i64 (room : Int), .int .i64 last, .slice A L.length c] 44)).cell? ⟨w.heap.size, 2, none⟩ = some (.slice A L.length c) := (za hx 2).trans rfl
 have HX := Aside0.mk hx
 have HA := Aside0.mk hal
 clear hx hal
 go_wp2_with fail
 generalize w.alloc (.cells #[.int .i64 (room : Int), .int .i64 last, .slice A L.length c] 44) = W0 at HX HA p0 p1 p2 ⊢
 clear p0 p1 p2
 have hW0 := zar HX.out
 have HV0 := Aside0.mk (Kd.za1 HV.out HA.out)
 have HBF := Aside0.mk (HB.out.keep HA.out)
 clear HV HB
 go_loopg [5, 19] L.length (fun gk v5 v19 w' => ∃ i : Nat, v19 = .int .i64 (i : Int) ∧ i + gk = L.length ∧ Aside0 (Kd.R (Kd.int .i64) 3 w' W0.heap.size (fun k => W0.heap.size ≤ k) v5 (ids.take i)) ∧ Aside0 (Below W0.heap.size W0 w'))
 case atStart => exact ⟨0, by go_num, by omega, ⟨Kd.R_nil _ _ _ _ _⟩, ⟨Below.refl _ _⟩⟩
 case round =>
  obtain ⟨i, rfl, hi, HO, HW⟩ := hrel
  have HF := Aside0.mk ((HW.out.block _ hW0).trans HX.out)
  cases gk with
  | zero =>
   have d1 : decide ((i : Int) < (L.length : Int)) = false := decide_eq_false (by omega)
   have d1' : decide (i < L.length) = false := decide_eq_false (by omega)
   have p0 : wr.cell? ⟨w.heap.size, 0, none⟩ = some (.int .i64 (room : Int)) := (za HF.out 0).trans rfl
   have p1 : wr.cell? ⟨w.heap.size, 1, none⟩ = some (.int .i64 last) := (za HF.out 1).trans rfl
   have hlast := HG.out.2.2.1
   have hlast2 := HG.out.2.2.2.1
   have wl1 : wrap64 (last + 1) = last + 1 := w64s (by omega) (by omega)
   have HB0 := Aside0.mk (HBF.out.keep HW.out)
   have HN0 : Aside0 (∀ x, x = 0 ∨ x = -1 ∨ x = last + 1 → fnd L x = none ∧ (Lit.int .i64 x).wf = true) := ⟨fun x hx => by
    refine ⟨?_, wf_i64 (by omega) (by omega)⟩
    cases hf : fnd L x with
    | none => rfl
    | some g =>
     exfalso
     obtain ⟨hg, rfl⟩ := za5 hf
     have := HG.out.2.2.2.2.2 g hg
     have := this.1
     have := this
     have h2 := (HG.out.2.2.2.2.2 g hg).2.1
     omega⟩
   go_wp2_with fail
   clear p0 p1
   go_loopg [116] 3 (fun gk v116 w' => ∃ z : Int, v116 = .int .i64 z ∧ z + (gk : Int) = 3 ∧ 0 ≤ z ∧ Aside0 (Below wr.heap.size wr w'))
   case atStart => exact ⟨0, by go_num, by omega, by omega, ⟨Below.refl _ _⟩⟩
   case round =>
    obtain ⟨z, rfl, hi', hz0, HW'⟩ := hrel
    cases gk with
    | zero =>
     obtain rfl : z = 3 := by omega
     go_wp2_with fail
     go_at_call 20
     refine (forB_Ids (HB0.out.keep HW'.out) HG.out).mono ?_
     rintro e w2 ⟨v2, rfl, hi2, hb2⟩
     rw [HID.out] at hi2
     obtain ⟨A2, c2, rfl, hc2, hC2⟩ := hi2
     have hW' := HW'.out
     have ho2 := Kd.zca (Kd.zca HO.out hW') hb2
     rw [List.take_of_length_le (by have := HIL.out; omega)] at ho2
     have hv2 := Kd.R_V (base' := 0) ho2
     obtain ⟨A3, c3, rfl⟩ := Kd.zbv ho2
     obtain ⟨_, hc3, hC3⟩ := Kd.zay hv2
     have HC2 := Aside0.mk hC2
     have HC3 := Aside0.mk hC3
     have HB2 := Aside0.mk (zab (zab HW.out hW') hb2)
     have HL2 := Aside0.mk hc2
     have HL3 := Aside0.mk hc3
     clear hC2 hC3 hb2 ho2 hv2 hc2 hc3 hW'
     go_wp2_with fail
     go_at_call 45
     refine (zaz.calls ki A2 c2 ids A3 c3 ids true _ HC2.out HL2.out HC3.out HL3.out HKI.out).mono ?_
     rintro e w6 ⟨rfl, hw6⟩
     have HB6 := Aside0.mk (HA.out.trans ((zab HB2.out hw6.below).mono (by have := HA.out.size; omega)))
     clear hw6
     go_wp2_with fail
     go_ret
     exact ⟨rfl, HB6.out⟩
    | succ g1 =>
     rcases (by omega : z = 0 ∨ z = 1 ∨ z = 2) with rfl | rfl | rfl
     ·
      have hN := HN0.out 0 (by omega)
      have hgrp := zbe (HB0.out.keep HW'.out) HG.out hN.2
      rw [show grpV L 0 = .agg #[.int .i64 0, .int .i64 0, .int .i64 0, .int .i64 0, .int .i64 0, .int .i64 0, .int .i64 0] by unfold grpV; rw [hN.1], show grpE L 0 = 4 by unfold grpE; rw [hN.1]; rfl] at hgrp
      have HGR := Aside0.mk hgrp
      have HN := Aside0.mk hN
      clear hgrp hN
      have hix := idx0 0 (-1) (last + 1) wr
      go_wp2_with fail
      clear hix
      refine HGR.out.mono ?_
      rintro e w1 ⟨rfl, hb1⟩
      have hx1 := za6 w1 (.cells #[.int .i64 0, .int .i64 0, .int .i64 0, .int .i64 0, .int .i64 0, .int .i64 0, .int .i64 0] 32)
      have HB1 := Aside0.mk (zad (zab HW'.out hb1) (.cells #[.int .i64 0, .int .i64 0, .int .i64 0, .int .i64 0, .int .i64 0, .int .i64 0, .int .i64 0] 32))
      clear hb1 HGR
      have z0 : (w1.alloc (.cells #[.int .i64 0, .int .i64 0, .int .i64 0, .int .i64 0, .int .i64 0, .int .i64 0, .int .i64 0] 32)).cell? ⟨w1.heap.size, 0, none⟩ = some (.int .i64 0) := (za hx1 0).trans rfl
      have z1 : (w1.alloc (.cells #[.int .i64 0, .int .i64 0, .int .i64 0, .int .i64 0, .int .i64 0, .int .i64 0, .int .i64 0] 32)).cell? ⟨w1.heap.size, 1, none⟩ = some (.int .i64 0) := (za hx1 1).trans rfl
      have z2 : (w1.alloc (.cells #[.int .i64 0, .int .i64 0, .int .i64 0, .int .i64 0, .int .i64 0, .int .i64 0, .int .i64 0] 32)).cell? ⟨w1.heap.size, 2, none⟩ = some (.int .i64 0) := (za hx1 2).trans rfl
      have z3 : (w1.alloc (.cells #[.int .i64 0, .int .i64 0, .int .i64 0, .int .i64 0, .int .i64 0, .int .i64 0, .int .i64 0] 32)).cell? ⟨w1.heap.size, 3, none⟩ = some (.int .i64 0) := (za hx1 3).trans rfl
      have z4 : (w1.alloc (.cells #[.int .i64 0, .int .i64 0, .int .i64 0, .int .i64 0, .int .i64 0, .int .i64 0, .int .i64 0] 32)).cell? ⟨w1.heap.size, 4, none⟩ = some (.int .i64 0) := (za hx1 4).trans rfl
      have z5 : (w1.alloc (.cells #[.int .i64 0, .int .i64 0, .int .i64 0, .int .i64 0, .int .i64 0, .int .i64 0, .int .i64 0] 32)).cell? ⟨w1.heap.size, 5, none⟩ = some (.int .i64 0) := (za hx1 5).trans rfl
      have z6 : (w1.alloc (.cells #[.int .i64 0, .int .i64 0, .int .i64 0, .int .i64 0, .int .i64 0, .int .i64 0, .int .i64 0] 32)).cell? ⟨w1.heap.size, 6, none⟩ = some (.int .i64 0) := (za hx1 6).trans rfl
      go_wp2_with fail
      clear z0 z1 z2 z3 z4 z5 z6 hx1
      generalize w1.alloc (.cells #[.int .i64 0, .int .i64 0, .int .i64 0, .int .i64 0, .int .i64 0, .int .i64 0, .int .i64 0] 32) = W1 at HB1 ⊢
      refine (forB_Children (HB0.out.keep HB1.out) HG.out hnn 0).mono ?_
      rintro e w2 ⟨v2, rfl, hi2, hb2⟩
      rw [kids_none HG.out HN.out.1] at hi2
      obtain ⟨A2, c2, rfl, _, _⟩ := hi2
      have HB2 := Aside0.mk (zab HB1.out hb2)
      clear hb2
      go_wp2_with fail
      have hact := zbw (HB0.out.keep HB2.out) HG.out HN.out.2
      rw [HN.out.1, Option.isSome_none, if_neg (by decide)] at hact
      refine hact.mono ?_
      rintro e w3 ⟨rfl, hb3⟩
      have HB3 := Aside0.mk (zab HB2.out hb3)
      clear hb3 hact
      go_wp2_with fail
      have hbel := forB_Below (HB0.out.keep HB3.out) HG.out HN.out.2 HN.out.2
      rw [HN.out.1, Option.isSome_none, Bool.false_and, Bool.false_and] at hbel
      refine hbel.mono ?_
      rintro e w4 ⟨rfl, hb4⟩
      have HB4 := Aside0.mk (zab HB3.out hb4)
      clear hb4 hbel
      go_wp2_with fail
      go_roundg g1
      case measure => exact Nat.lt_succ_self _
      case rel => exact ⟨1, by go_num, by omega, by omega, HB4⟩
     ·
      have hN := HN0.out (-1) (by omega)
      have hgrp := zbe (HB0.out.keep HW'.out) HG.out hN.2
      rw [show grpV L (-1) = .agg #[.int .i64 0, .int .i64 0, .int .i64 0, .int .i64 0, .int .i64 0, .int .i64 0, .int .i64 0] by unfold grpV; rw [hN.1], show grpE L (-1) = 4 by unfold grpE; rw [hN.1]; rfl] at hgrp
      have HGR := Aside0.mk hgrp
      have HN := Aside0.mk hN
      clear hgrp hN
      have hix := idx1 0 (-1) (last + 1) wr
      go_wp2_with fail
      clear hix
      refine HGR.out.mono ?_
      rintro e w1 ⟨rfl, hb1⟩
      have hx1 := za6 w1 (.cells #[.int .i64 0, .int .i64 0, .int .i64 0, .int .i64 0, .int .i64 0, .int .i64 0, .int .i64 0] 32)
      have HB1 := Aside0.mk (zad (zab HW'.out hb1) (.cells #[.int .i64 0, .int .i64 0, .int .i64 0, .int .i64 0, .int .i64 0, .int .i64 0, .int .i64 0] 32))
      clear hb1 HGR
      have z0 : (w1.alloc (.cells #[.int .i64 0, .int .i64 0, .int .i64 0, .int .i64 0, .int .i64 0, .int .i64 0, .int .i64 0] 32)).cell? ⟨w1.heap.size, 0, none⟩ = some (.int .i64 0) := (za hx1 0).trans rfl
      have z1 : (w1.alloc (.cells #[.int .i64 0, .int .i64 0, .int .i64 0, .int .i64 0, .int .i64 0, .int .i64 0, .int .i64 0] 32)).cell? ⟨w1.heap.size, 1, none⟩ = some (.int .i64 0) := (za hx1 1).trans rfl
      have z2 : (w1.alloc (.cells #[.int .i64 0, .int .i64 0, .int .i64 0, .int .i64 0, .int .i64 0, .int .i64 0, .int .i64 0] 32)).cell? ⟨w1.heap.size, 2, none⟩ = some (.int .i64 0) := (za hx1 2).trans rfl
      have z3 : (w1.alloc (.cells #[.int .i64 0, .int .i64 0, .int .i64 0, .int .i64 0, .int .i64 0, .int .i64 0, .int .i64 0] 32)).cell? ⟨w1.heap.size, 3, none⟩ = some (.int .i64 0) := (za hx1 3).trans rfl
      have z4 : (w1.alloc (.cells #[.int .i64 0, .int .i64 0, .int .i64 0, .int .i64 0, .int .i64 0, .int .i64 0, .int .i64 0] 32)).cell? ⟨w1.heap.size, 4, none⟩ = some (.int .i64 0) := (za hx1 4).trans rfl
      have z5 : (w1.alloc (.cells #[.int .i64 0, .int .i64 0, .int .i64 0, .int .i64 0, .int .i64 0, .int .i64 0, .int .i64 0] 32)).cell? ⟨w1.heap.size, 5, none⟩ = some (.int .i64 0) := (za hx1 5).trans rfl
      have z6 : (w1.alloc (.cells #[.int .i64 0, .int .i64 0, .int .i64 0, .int .i64 0, .int .i64 0, .int .i64 0, .int .i64 0] 32)).cell? ⟨w1.heap.size, 6, none⟩ = some (.int .i64 0) := (za hx1 6).trans rfl
      go_wp2_with fail
      clear z0 z1 z2 z3 z4 z5 z6 hx1
      generalize w1.alloc (.cells #[.int .i64 0, .int .i64 0, .int .i64 0, .int .i64 0, .int .i64 0, .int .i64 0, .int .i64 0] 32) = W1 at HB1 ⊢
      refine (forB_Children (HB0.out.keep HB1.out) HG.out hnn (-1)).mono ?_
      rintro e w2 ⟨v2, rfl, hi2, hb2⟩
      rw [kids_none HG.out HN.out.1] at hi2
      obtain ⟨A2, c2, rfl, _, _⟩ := hi2
      have HB2 := Aside0.mk (zab HB1.out hb2)
      clear hb2
      go_wp2_with fail
      have hact := zbw (HB0.out.keep HB2.out) HG.out HN.out.2
      rw [HN.out.1, Option.isSome_none, if_neg (by decide)] at hact
      refine hact.mono ?_
      rintro e w3 ⟨rfl, hb3⟩
      have HB3 := Aside0.mk (zab HB2.out hb3)
      clear hb3 hact
      go_wp2_with fail
      have hbel := forB_Below (HB0.out.keep HB3.out) HG.out HN.out.2 HN.out.2
      rw [HN.out.1, Option.isSome_none, Bool.false_and, Bool.false_and] at hbel
      refine hbel.mono ?_
      rintro e w4 ⟨rfl, hb4⟩
      have HB4 := Aside0.mk (zab HB3.out hb4)
      clear hb4 hbel
      go_wp2_with fail
      go_roundg g1
      case measure => exact Nat.lt_succ_self _
      case rel => exact ⟨2, by go_num, by omega, by omega, HB4⟩
     ·
      have hN := HN0.out (last + 1) (by omega)
      have hgrp := zbe (HB0.out.keep HW'.out) HG.out hN.2
      rw [show grpV L (last + 1) = .agg #[.int .i64 0, .int .i64 0, .int .i64 0, .int .i64 0, .int .i64 0, .int .i64 0, .int .i64 0] by unfold grpV; rw [hN.1], show grpE L (last + 1) = 4 by unfold grpE; rw [hN.1]; rfl] at hgrp
      have HGR := Aside0.mk hgrp
      have HN := Aside0.mk hN
      clear hgrp hN
      have hix := idx2 0 (-1) (last + 1) wr
      go_wp2_with fail
      clear hix
      refine HGR.out.mono ?_
      rintro e w1 ⟨rfl, hb1⟩
      have hx1 := za6 w1 (.cells #[.int .i64 0, .int .i64 0, .int .i64 0, .int .i64 0, .int .i64 0, .int .i64 0, .int .i64 0] 32)
      have HB1 := Aside0.mk (zad (zab HW'.out hb1) (.cells #[.int .i64 0, .int .i64 0, .int .i64 0, .int .i64 0, .int .i64 0, .int .i64 0, .int .i64 0] 32))
      clear hb1 HGR
      have z0 : (w1.alloc (.cells #[.int .i64 0, .int .i64 0, .int .i64 0, .int .i64 0, .int .i64 0, .int .i64 0, .int .i64 0] 32)).cell? ⟨w1.heap.size, 0, none⟩ = some (.int .i64 0) := (za hx1 0).trans rfl
      have z1 : (w1.alloc (.cells #[.int .i64 0, .int .i64 0, .int .i64 0, .int .i64 0, .int .i64 0, .int .i64 0, .int .i64 0] 32)).cell? ⟨w1.heap.size, 1, none⟩ = some (.int .i64 0) := (za hx1 1).trans rfl
      have z2 : (w1.alloc (.cells #[.int .i64 0, .int .i64 0, .int .i64 0, .int .i64 0, .int .i64 0, .int .i64 0, .int .i64 0] 32)).cell? ⟨w1.heap.size, 2, none⟩ = some (.int .i64 0) := (za hx1 2).trans rfl
      have z3 : (w1.alloc (.cells #[.int .i64 0, .int .i64 0, .int .i64 0, .int .i64 0, .int .i64 0, .int .i64 0, .int .i64 0] 32)).cell? ⟨w1.heap.size, 3, none⟩ = some (.int .i64 0) := (za hx1 3).trans rfl
      have z4 : (w1.alloc (.cells #[.int .i64 0, .int .i64 0, .int .i64 0, .int .i64 0, .int .i64 0, .int .i64 0, .int .i64 0] 32)).cell? ⟨w1.heap.size, 4, none⟩ = some (.int .i64 0) := (za hx1 4).trans rfl
      have z5 : (w1.alloc (.cells #[.int .i64 0, .int .i64 0, .int .i64 0, .int .i64 0, .int .i64 0, .int .i64 0, .int .i64 0] 32)).cell? ⟨w1.heap.size, 5, none⟩ = some (.int .i64 0) := (za hx1 5).trans rfl
      have z6 : (w1.alloc (.cells #[.int .i64 0, .int .i64 0, .int .i64 0, .int .i64 0, .int .i64 0, .int .i64 0, .int .i64 0] 32)).cell? ⟨w1.heap.size, 6, none⟩ = some (.int .i64 0) := (za hx1 6).trans rfl
      go_wp2_with fail
      clear z0 z1 z2 z3 z4 z5 z6 hx1
      generalize w1.alloc (.cells #[.int .i64 0, .int .i64 0, .int .i64 0, .int .i64 0, .int .i64 0, .int .i64 0, .int .i64 0] 32) = W1 at HB1 ⊢
      refine (forB_Children (HB0.out.keep HB1.out) HG.out hnn (last + 1)).mono ?_
      rintro e w2 ⟨v2, rfl, hi2, hb2⟩
      rw [kids_none HG.out HN.out.1] at hi2
      obtain ⟨A2, c2, rfl, _, _⟩ := hi2
      have HB2 := Aside0.mk (zab HB1.out hb2)
      clear hb2
      go_wp2_with fail
      have hact := zbw (HB0.out.keep HB2.out) HG.out HN.out.2
      rw [HN.out.1, Option.isSome_none, if_neg (by decide)] at hact
      refine hact.mono ?_
      rintro e w3 ⟨rfl, hb3⟩
      have HB3 := Aside0.mk (zab HB2.out hb3)
      clear hb3 hact
      go_wp2_with fail
      have hbel := forB_Below (HB0.out.keep HB3.out) HG.out HN.out.2 HN.out.2
      rw [HN.out.1, Option.isSome_none, Bool.false_and, Bool.false_and] at hbel
      refine hbel.mono ?_
      rintro e w4 ⟨rfl, hb4⟩
      have HB4 := Aside0.mk (zab HB3.out hb4)
      clear hb4 hbel
      go_wp2_with fail
      go_roundg g1
      case measure => exact Nat.lt_succ_self _
      case rel => exact ⟨3, by go_num, by omega, by omega, HB4⟩
  | succ g1 =>
   have d1 : decide ((i : Int) < (L.length : Int)) = true := decide_eq_true (by omega)
   have d2 : 0 ≤ (i : Int) ∧ (i : Int) < (L.length : Int) := by omega
   have hil : i < L.length := by omega
   obtain ⟨_, hcl, hC⟩ := Kd.zay (Kd.za1 HV0.out HW.out)
   obtain ⟨ad, rfl, x0, x1, x2, x3, x4⟩ := at_T84 hC (i : Int) (by omega) (by omega)
   have hgi := rd_nat84 hil
   have hmem : rd_T84 L (i : Int) ∈ L := by
    rw [hgi]
    exact List.getElem_mem hil
   have hids : ids.take (i + 1) = ids.take i ++ [(rd_T84 L (i : Int)).f0] := by
    rw [← HID.out, List.take_succ_eq_append_getElem (by rw [List.length_map]; exact hil)]
    simp [rd_T84, hil]
   simp only [Int.toNat_natCast] at x0 x1 x2 x3 x4
   generalize rd_T84 L (i : Int) = g at x0 x1 x2 x3 x4 hids hmem
   have HIDS := Aside0.mk hids
   have HM := Aside0.mk hmem
   have HFN := Aside0.mk (fnd_mem HG.out.2.2.2.2.1 hmem)
   obtain ⟨g1', g2', g3', g4', g5', g6', g7', g8'⟩ := HG.out.2.2.2.2.2 g hmem
   have WF := Aside0.mk (wf_of HG.out hmem)
   clear hC hids hgi hmem
   have hb1 := zad HW.out (.cells #[.int .i64 g.f0, .int .i64 g.f1, .int .i64 g.f2, .int .i64 g.f3, .int .i64 g.f4] 84)
   have ho1 := Kd.zca HO.out (zad (Below.refl _ wr) (.cells #[.int .i64 g.f0, .int .i64 g.f1, .int .i64 g.f2, .int .i64 g.f3, .int .i64 g.f4] 84))
   have hown := Kd.R_lt HO.out
   have HE1 := Aside0.mk (za6 wr (.cells #[.int .i64 g.f0, .int .i64 g.f1, .int .i64 g.f2, .int .i64 g.f3, .int .i64 g.f4] 84))
   have HF1 := Aside0.mk (zac HF.out (.cells #[.int .i64 g.f0, .int .i64 g.f1, .int .i64 g.f2, .int .i64 g.f3, .int .i64 g.f4] 84))
   have hfl := zar HF.out
   have hsz1 : W0.heap.size ≤ (wr.alloc (.cells #[.int .i64 g.f0, .int .i64 g.f1, .int .i64 g.f2, .int .i64 g.f3, .int .i64 g.f4] 84)).heap.size := hb1.size
   have hwr := HW.out.size
   have hll : (ids.take i).length + 1 < 1000000 := by rw [List.length_take]; omega
   have HB1 := Aside0.mk hb1
   have HO1 := Aside0.mk ho1
   clear hb1 ho1
   have y0' : (wr.alloc (.cells #[.int .i64 g.f0, .int .i64 g.f1, .int .i64 g.f2, .int .i64 g.f3, .int .i64 g.f4] 84)).cell? ⟨wr.heap.size, 0, none⟩ = some (.int .i64 g.f0) := (za HE1.out 0).trans rfl
   go_wp2_with (first | ((with_reducible refine zcc (b := .append) (xs := #[.tmp 23, .tmp 26]) rfl ?_); at_builtin; refine Kd.R_append (Kd.int .i64) (w0 := W0) W0.heap.size rfl (.tmp 23) (.tmp 26) 38 3 (.int .i64 0) 8 rfl Try.underlying38 info3t rfl (by decide) (by omega) u5 (ids.take i) g.f0 [.int .i64 g.f0] (fun k_ => W0.heap.size ≤ k_) (fun _ => False) rfl (by first | rfl | simp [Act.eval]) rfl (fun _ hk => hk.elim) (fun k_ hk => Nat.le_trans hsz1 hk) HO1.out HB1.out hsz1 (by omega) ?_; intro v9 w9 ho9 hb9 hg9 hat9; have HO9 := Aside0.mk ho9; have HB9 := Aside0.mk hb9; have he9 := (hg9.block _ (zar HE1.out) (fun e => Nat.lt_irrefl _ (hown _ e.symm))).trans HE1.out; have HE9 := Aside0.mk he9; have z0 : w9.cell? ⟨wr.heap.size, 0, none⟩ = some (.int .i64 g.f0) := (za he9 0).trans rfl; clear ho9 hb9 hg9 hat9 he9))
   clear y0' z0
   have hgrp := zbe (HBF.out.keep HB9.out) HG.out WF.out
   rw [show grpV L g.f0 = .agg #[.int .i64 g.f0, .int .i64 g.f1, .int .i64 g.f2, .int .i64 ((way L g.f0).length : Nat), .int .i64 (rootG L g.f0), .int .i64 g.f3, .int .i64 g.f4] by unfold grpV; rw [HFN.out], show grpE L g.f0 = 0 by unfold grpE; rw [HFN.out]; rfl] at hgrp
   have HGR := Aside0.mk hgrp
   clear hgrp
   refine HGR.out.mono ?_
   rintro e w10 ⟨rfl, hb10⟩
   have HX10 := Aside0.mk (za6 w10 (.cells #[.int .i64 g.f0, .int .i64 g.f1, .int .i64 g.f2, .int .i64 ((way L g.f0).length : Nat), .int .i64 (rootG L g.f0), .int .i64 g.f3, .int .i64 g.f4] 32))
   have HB10 := Aside0.mk (zad (zab HB9.out hb10) (.cells #[.int .i64 g.f0, .int .i64 g.f1, .int .i64 g.f2, .int .i64 ((way L g.f0).length : Nat), .int .i64 (rootG L g.f0), .int .i64 g.f3, .int .i64 g.f4] 32))
   have HO10 := Aside0.mk (Kd.zca HO9.out (zad hb10 (.cells #[.int .i64 g.f0, .int .i64 g.f1, .int .i64 g.f2, .int .i64 ((way L g.f0).length : Nat), .int .i64 (rootG L g.f0), .int .i64 g.f3, .int .i64 g.f4] 32)))
   have HE10 := Aside0.mk (zac ((hb10.block _ (zar HE9.out)).trans HE9.out) (.cells #[.int .i64 g.f0, .int .i64 g.f1, .int .i64 g.f2, .int .i64 ((way L g.f0).length : Nat), .int .i64 (rootG L g.f0), .int .i64 g.f3, .int .i64 g.f4] 32))
   have h10 := hb10.size
   clear hb10 HGR
   obtain ⟨wl, hwl0⟩ : ∃ wl : Nat, (way L g.f0).length = wl := ⟨_, rfl⟩
   obtain ⟨rt, hrt0⟩ : ∃ rt : Int, rootG L g.f0 = rt := ⟨_, rfl⟩
   rw [hwl0, hrt0] at HX10 HB10 HO10 HE10 ⊢
   have HWL := Aside0.mk hwl0
   have HRT := Aside0.mk hrt0
   go_wp2_with fail
   generalize hW10 : w10.alloc (.cells #[.int .i64 g.f0, .int .i64 g.f1, .int .i64 g.f2, .int .i64 (wl : Int), .int .i64 rt, .int .i64 g.f3, .int .i64 g.f4] 32) = W10 at HX10 HB10 HO10 HE10 ⊢
   have HW10 := Aside0.mk hW10
   have HF10 := Aside0.mk ((HB10.out.block _ hW0).trans HX.out)
   have HRW : Aside0 (∀ W, Below W10.heap.size W10 W → W.cell? ⟨w.heap.size, 0, none⟩ = some (.int .i64 (room : Int)) ∧ W.cell? ⟨w.heap.size, 1, none⟩ = some (.int .i64 last) ∧ W.cell? ⟨w.heap.size, 2, none⟩ = some (.slice (some ad) L.length c) ∧ W.cell? ⟨wr.heap.size, 0, none⟩ = some (.int .i64 g.f0) ∧ W.cell? ⟨wr.heap.size, 1, none⟩ = some (.int .i64 g.f1) ∧ W.cell? ⟨wr.heap.size, 2, none⟩ = some (.int .i64 g.f2) ∧ W.cell? ⟨wr.heap.size, 3, none⟩ = some (.int .i64 g.f3) ∧ W.cell? ⟨wr.heap.size, 4, none⟩ = some (.int .i64 g.f4) ∧ W.cell? ⟨w10.heap.size, 0, none⟩ = some (.int .i64 g.f0) ∧ W.cell? ⟨w10.heap.size, 1, none⟩ = some (.int .i64 g.f1) ∧ W.cell? ⟨w10.heap.size, 2, none⟩ = some (.int .i64 g.f2) ∧ W.cell? ⟨w10.heap.size, 3, none⟩ = some (.int .i64 (wl : Int)) ∧ W.cell? ⟨w10.heap.size, 4, none⟩ = some (.int .i64 rt) ∧ W.cell? ⟨w10.heap.size, 5, none⟩ = some (.int .i64 g.f3) ∧ W.cell? ⟨w10.heap.size, 6, none⟩ = some (.int .i64 g.f4)) := ⟨fun W h => by
    have h1 := (h.block _ (zar HF10.out)).trans HF10.out
    have h2 := (h.block _ (zar HE10.out)).trans HE10.out
    have h3 := (h.block _ (zar HX10.out)).trans HX10.out
    exact ⟨(za h1 0).trans rfl, (za h1 1).trans rfl, (za h1 2).trans rfl, (za h2 0).trans rfl, (za h2 1).trans rfl, (za h2 2).trans rfl, (za h2 3).trans rfl, (za h2 4).trans rfl, (za h3 0).trans rfl, (za h3 1).trans rfl, (za h3 2).trans rfl, (za h3 3).trans rfl, (za h3 4).trans rfl, (za h3 5).trans rfl, (za h3 6).trans rfl⟩⟩
   have HRW2 : Aside0 (∀ W, Below W10.heap.size W10 W → W.cell? ⟨w.heap.size, 0, none⟩ = some (.int .i64 (room : Int)) ∧ W.cell? ⟨w.heap.size, 1, none⟩ = some (.int .i64 last) ∧ W.cell? ⟨w.heap.size, 2, none⟩ = some (.slice (some ad) L.length c) ∧ W.cell? ⟨wr.heap.size, 0, none⟩ = some (.int .i64 g.f0) ∧ W.cell? ⟨wr.heap.size, 1, none⟩ = some (.int .i64 g.f1) ∧ W.cell? ⟨wr.heap.size, 2, none⟩ = some (.int .i64 g.f2) ∧ W.cell? ⟨wr.heap.size, 3, none⟩ = some (.int .i64 g.f3) ∧ W.cell? ⟨wr.heap.size, 4, none⟩ = some (.int .i64 g.f4)) := ⟨fun W h => by
    have h1 := (h.block _ (zar HF10.out)).trans HF10.out
    have h2 := (h.block _ (zar HE10.out)).trans HE10.out
    exact ⟨(za h1 0).trans rfl, (za h1 1).trans rfl, (za h1 2).trans rfl, (za h2 0).trans rfl, (za h2 1).trans rfl, (za h2 2).trans rfl, (za h2 3).trans rfl, (za h2 4).trans rfl⟩⟩
   obtain ⟨kd, hkd⟩ := (depth_f HG.out HM.out (room : Int) last).get
   obtain ⟨kr, hkr⟩ := (root_f HG.out HM.out (room : Int) last).get
   obtain ⟨ka, hka⟩ := (active_f HG.out HM.out (room : Int) last).get
   obtain ⟨kc, hkc⟩ := (children_f HG.out (id := g.f0) (by omega) (room : Int) last).get
   obtain ⟨kj, hkj⟩ := (Ints_same (kidsF L g.f0) (by have := kidsF_kid (L := L) (id := g.f0) (by omega); have := kid_le L g.f0; omega)).get
   rw [HWL.out] at hkd
   rw [HRT.out] at hkr
   have HKD := Aside0.mk hkd
   have HKR := Aside0.mk hkr
   have HKA := Aside0.mk hka
   have HKC := Aside0.mk hkc
   have HKJ := Aside0.mk hkj
   obtain ⟨_, hcl, hC0⟩ := Kd.zay HV0.out
   have HC0 := Aside0.mk hC0
   have Hcl := Aside0.mk hcl
   clear hkd hkr hka hkc hkj hC0 hcl x0 x1 x2 x3 x4 hW10 hwl0 hrt0 g1' g2' g3' g4' g5' g6' g7' g8' hown hll
   have hAct : ∀ W, Below W10.heap.size W10 W → Calls Try.prog 21 #[.pointer (some ⟨fb, 0, none⟩), .int .i64 g.f0] W fun e w' => e = .returned (.int .i64 (act L g.f0)) ∧ Below W.heap.size W w' := fun W h => by
    have := zbw (HBF.out.keep (zab HB10.out h)) HG.out WF.out
    rw [HFN.out, Option.isSome_some, if_pos rfl] at this
    exact this
   generalize act L g.f0 = ac at HKA hAct
   have HACT := Aside0.mk hAct
   clear hAct
   refine start_ (n := 55) (S := fun W => W.cell? ⟨w.heap.size, 0, none⟩ = some (.int .i64 (room : Int)) ∧ W.cell? ⟨w.heap.size, 1, none⟩ = some (.int .i64 last) ∧ W.cell? ⟨w.heap.size, 2, none⟩ = some (.slice (some ad) L.length c) ∧ W.cell? ⟨wr.heap.size, 0, none⟩ = some (.int .i64 g.f0) ∧ W.cell? ⟨wr.heap.size, 1, none⟩ = some (.int .i64 g.f1) ∧ W.cell? ⟨wr.heap.size, 2, none⟩ = some (.int .i64 g.f2) ∧ W.cell? ⟨wr.heap.size, 3, none⟩ = some (.int .i64 g.f3) ∧ W.cell? ⟨wr.heap.size, 4, none⟩ = some (.int .i64 g.f4) ∧ W.cell? ⟨w10.heap.size, 0, none⟩ = some (.int .i64 g.f0) ∧ W.cell? ⟨w10.heap.size, 1, none⟩ = some (.int .i64 g.f1) ∧ W.cell? ⟨w10.heap.size, 2, none⟩ = some (.int .i64 g.f2) ∧ W.cell? ⟨w10.heap.size, 3, none⟩ = some (.int .i64 (wl : Int)) ∧ W.cell? ⟨w10.heap.size, 4, none⟩ = some (.int .i64 rt) ∧ W.cell? ⟨w10.heap.size, 5, none⟩ = some (.int .i64 g.f3) ∧ W.cell? ⟨w10.heap.size, 6, none⟩ = some (.int .i64 g.f4)) (ds := []) #[false, false, false, false, false, false, false, false, false, false, false, false, false, false, false, false, false, false, false, false, false, false, false, false, false, false, false, false, false, false, false, false, false, false, false, false, false, false, false, false, false, false, false, false, false, false, false, false, false, false, false, false, false, false, false] (by kernel_rfl) rfl rfl (HRW.out _ (Below.refl W10.heap.size W10).drew) (fun hHeld => ?_); refine zbj istab9 isbits9 (fun HT_ HW_ => ?_)
   refine pure_ (i := 0) (N := some 35) (v := ?_) (a' := ?_) #[true, false, false, false, false, false, false, false, false, false, false, false, false, false, false, false, false, false, false, false, false, false, false, false, false, false, false, false, false, false, false, false, false, false, false, false, false, false, false, false, false, false, false, false, false, false, false, false, false, false, false, false, false, false, false] rfl rfl (zah HT_.out (by kernel_rfl)) (fun _ _ _ h => h) (Or.inl ⟨by rfl, ?_⟩) ?_ ?_
   rotate_left
   ·
    intro w'
    go_simp
    with_reducible rfl
   rotate_left
   ·
    simp only [Act.put, List.setIfInBounds_toArray, List.set_cons_zero, List.set_cons_succ, i64_w, i32_w]
    rfl
   refine pure_ (i := 1) (N := some 36) (v := ?_) (a' := ?_) #[true, true, false, false, false, false, false, false, false, false, false, false, false, false, false, false, false, false, false, false, false, false, false, false, false, false, false, false, false, false, false, false, false, false, false, false, false, false, false, false, false, false, false, false, false, false, false, false, false, false, false, false, false, false, false] rfl rfl (zah HT_.out (by kernel_rfl)) (fun _ _ _ h => h) (Or.inl ⟨by rfl, ?_⟩) ?_ ?_
   rotate_left
   ·
    intro w'
    go_simp
    with_reducible rfl
   rotate_left
   ·
    simp only [Act.put, List.setIfInBounds_toArray, List.set_cons_zero, List.set_cons_succ, i64_w, i32_w]
    rfl
   refine pure_ (i := 2) (N := some 37) (v := ?_) (a' := ?_) #[true, true, true, false, false, false, false, false, false, false, false, false, false, false, false, false, false, false, false, false, false, false, false, false, false, false, false, false, false, false, false, false, false, false, false, false, false, false, false, false, false, false, false, false, false, false, false, false, false, false, false, false, false, false, false] rfl rfl (zah HT_.out (by kernel_rfl)) (fun _ _ _ h => h) (Or.inl ⟨by rfl, ?_⟩) ?_ ?_
   rotate_left
   ·
    intro w'
    go_simp
    with_reducible rfl
   rotate_left
   ·
    simp only [Act.put, List.setIfInBounds_toArray, List.set_cons_zero, List.set_cons_succ, i64_w, i32_w]
    rfl
   refine pure_ (i := 3) (N := some 38) (v := ?_) (a' := ?_) #[true, true, true, true, false, false, false, false, false, false, false, false, false, false, false, false, false, false, false, false, false, false, false, false, false, false, false, false, false, false, false, false, false, false, false, false, false, false, false, false, false, false, false, false, false, false, false, false, false, false, false, false, false, false, false] rfl rfl (zah HT_.out (by kernel_rfl)) (fun _ _ _ h => h) (Or.inl ⟨by rfl, ?_⟩) ?_ ?_
   rotate_left
   ·
    intro w'
    go_simp
    with_reducible rfl
   rotate_left
   ·
    simp only [Act.put, List.setIfInBounds_toArray, List.set_cons_zero, List.set_cons_succ, i64_w, i32_w]
    rfl
   refine take_ (i := 4) (N := some 39) (v := ?_) (a' := ?_) #[true, true, true, true, true, false, false, false, false, false, false, false, false, false, false, false, false, false, false, false, false, false, false, false, false, false, false, false, false, false, false, false, false, false, false, false, false, false, false, false, false, false, false, false, false, false, false, false, false, false, false, false, false, false, false] rfl rfl (zat HT_.out HW_.out (by kernel_rfl)) (fun _ _ _ h => h) (Or.inl ⟨by rfl, ?_⟩) hHeld ?_ ?_
   rotate_left
   ·
    rintro w' ⟨s0, s1, s2, s3, s4, s5, s6, s7, s8, s9, s10, s11, s12, s13, s14⟩
    go_simp
    with_reducible rfl
   rotate_left
   ·
    simp only [Act.put, List.setIfInBounds_toArray, List.set_cons_zero, List.set_cons_succ, i64_w, i32_w]
    rfl
   refine pure_ (i := 5) (N := some 40) (v := ?_) (a' := ?_) #[true, true, true, true, true, true, false, false, false, false, false, false, false, false, false, false, false, false, false, false, false, false, false, false, false, false, false, false, false, false, false, false, false, false, false, false, false, false, false, false, false, false, false, false, false, false, false, false, false, false, false, false, false, false, false] rfl rfl (zah HT_.out (by kernel_rfl)) (fun _ _ _ h => h) (Or.inl ⟨by rfl, ?_⟩) ?_ ?_
   rotate_left
   ·
    intro w'
    go_simp
    with_reducible rfl
   rotate_left
   ·
    simp only [Act.put, List.setIfInBounds_toArray, List.set_cons_zero, List.set_cons_succ, i64_w, i32_w]
    rfl
   refine take_ (i := 6) (N := some 41) (v := ?_) (a' := ?_) #[true, true, true, true, true, true, true, false, false, false, false, false, false, false, false, false, false, false, false, false, false, false, false, false, false, false, false, false, false, false, false, false, false, false, false, false, false, false, false, false, false, false, false, false, false, false, false, false, false, false, false, false, false, false, false] rfl rfl (zat HT_.out HW_.out (by kernel_rfl)) (fun _ _ _ h => h) (Or.inl ⟨by rfl, ?_⟩) hHeld ?_ ?_
   rotate_left
   ·
    rintro w' ⟨s0, s1, s2, s3, s4, s5, s6, s7, s8, s9, s10, s11, s12, s13, s14⟩
    go_simp
    with_reducible rfl
   rotate_left
   ·
    simp only [Act.put, List.setIfInBounds_toArray, List.set_cons_zero, List.set_cons_succ, i64_w, i32_w]
    rfl
   refine pure_ (i := 7) (N := some 42) (v := ?_) (a' := ?_) #[true, true, true, true, true, true, true, true, false, false, false, false, false, false, false, false, false, false, false, false, false, false, false, false, false, false, false, false, false, false, false, false, false, false, false, false, false, false, false, false, false, false, false, false, false, false, false, false, false, false, false, false, false, false, false] rfl rfl (zah HT_.out (by kernel_rfl)) (fun _ _ _ h => h) (Or.inl ⟨by rfl, ?_⟩) ?_ ?_
   rotate_left
   ·
    intro w'
    go_simp
    with_reducible rfl
   rotate_left
   ·
    simp only [Act.put, List.setIfInBounds_toArray, List.set_cons_zero, List.set_cons_succ, i64_w, i32_w]
    rfl
   refine pure_ (i := 8) (N := some 43) (v := ?_) (a' := ?_) #[true, true, true, true, true, true, true, true, true, false, false, false, false, false, false, false, false, false, false, false, false, false, false, false, false, false, false, false, false, false, false, false, false, false, false, false, false, false, false, false, false, false, false, false, false, false, false, false, false, false, false, false, false, false, false] rfl rfl (zah HT_.out (by kernel_rfl)) (fun _ _ _ h => h) (Or.inl ⟨by rfl, ?_⟩) ?_ ?_
   rotate_left
   ·
    intro w'
    go_simp
    with_reducible rfl
   rotate_left
   ·
    simp only [Act.put, List.setIfInBounds_toArray, List.set_cons_zero, List.set_cons_succ, i64_w, i32_w]
    rfl
   refine pure_ (i := 9) (N := some 44) (v := ?_) (a' := ?_) #[true, true, true, true, true, true, true, true, true, true, false, false, false, false, false, false, false, false, false, false, false, false, false, false, false, false, false, false, false, false, false, false, false, false, false, false, false, false, false, false, false, false, false, false, false, false, false, false, false, false, false, false, false, false, false] rfl rfl (zah HT_.out (by kernel_rfl)) (fun _ _ _ h => h) (Or.inl ⟨by rfl, ?_⟩) ?_ ?_
   rotate_left
   ·
    intro w'
    go_simp
    with_reducible rfl
   rotate_left
   ·
    simp only [Act.put, List.setIfInBounds_toArray, List.set_cons_zero, List.set_cons_succ, i64_w, i32_w]
    rfl
   refine pure_ (i := 10) (N := some 45) (v := ?_) (a' := ?_) #[true, true, true, true, true, true, true, true, true, true, true, false, false, false, false, false, false, false, false, false, false, false, false, false, false, false, false, false, false, false, false, false, false, false, false, false, false, false, false, false, false, false, false, false, false, false, false, false, false, false, false, false, false, false, false] rfl rfl (zah HT_.out (by kernel_rfl)) (fun _ _ _ h => h) (Or.inl ⟨by rfl, ?_⟩) ?_ ?_
   rotate_left
   ·
    intro w'
    go_simp
    with_reducible rfl
   rotate_left
   ·
    simp only [Act.put, List.setIfInBounds_toArray, List.set_cons_zero, List.set_cons_succ, i64_w, i32_w]
    rfl
   refine take_ (i := 11) (N := some 46) (v := ?_) (a' := ?_) #[true, true, true, true, true, true, true, true, true, true, true, true, false, false, false, false, false, false, false, false, false, false, false, false, false, false, false, false, false, false, false, false, false, false, false, false, false, false, false, false, false, false, false, false, false, false, false, false, false, false, false, false, false, false, false] rfl rfl (zat HT_.out HW_.out (by kernel_rfl)) (fun _ _ _ h => h) (Or.inl ⟨by rfl, ?_⟩) hHeld ?_ ?_
   rotate_left
   ·
    rintro w' ⟨s0, s1, s2, s3, s4, s5, s6, s7, s8, s9, s10, s11, s12, s13, s14⟩
    go_simp
    with_reducible rfl
   rotate_left
   ·
    simp only [Act.put, List.setIfInBounds_toArray, List.set_cons_zero, List.set_cons_succ, i64_w, i32_w]
    rfl
   refine pure_ (i := 12) (N := some 47) (v := ?_) (a' := ?_) #[true, true, true, true, true, true, true, true, true, true, true, true, true, false, false, false, false, false, false, false, false, false, false, false, false, false, false, false, false, false, false, false, false, false, false, false, false, false, false, false, false, false, false, false, false, false, false, false, false, false, false, false, false, false, false] rfl rfl (zah HT_.out (by kernel_rfl)) (fun _ _ _ h => h) (Or.inl ⟨by rfl, ?_⟩) ?_ ?_
   rotate_left
   ·
    intro w'
    go_simp
    with_reducible rfl
   rotate_left
   ·
    simp only [Act.put, List.setIfInBounds_toArray, List.set_cons_zero, List.set_cons_succ, i64_w, i32_w]
    rfl
   refine take_ (i := 13) (N := some 48) (v := ?_) (a' := ?_) #[true, true, true, true, true, true, true, true, true, true, true, true, true, true, false, false, false, false, false, false, false, false, false, false, false, false, false, false, false, false, false, false, false, false, false, false, false, false, false, false, false, false, false, false, false, false, false, false, false, false, false, false, false, false, false] rfl rfl (zat HT_.out HW_.out (by kernel_rfl)) (fun _ _ _ h => h) (Or.inl ⟨by rfl, ?_⟩) hHeld ?_ ?_
   rotate_left
   ·
    rintro w' ⟨s0, s1, s2, s3, s4, s5, s6, s7, s8, s9, s10, s11, s12, s13, s14⟩
    go_simp
    with_reducible rfl
   rotate_left
   ·
    simp only [Act.put, List.setIfInBounds_toArray, List.set_cons_zero, List.set_cons_succ, i64_w, i32_w]
    rfl
   refine pure_ (i := 14) (N := some 49) (v := ?_) (a' := ?_) #[true, true, true, true, true, true, true, true, true, true, true, true, true, true, true, false, false, false, false, false, false, false, false, false, false, false, false, false, false, false, false, false, false, false, false, false, false, false, false, false, false, false, false, false, false, false, false, false, false, false, false, false, false, false, false] rfl rfl (zah HT_.out (by kernel_rfl)) (fun _ _ _ h => h) (Or.inl ⟨by rfl, ?_⟩) ?_ ?_
   rotate_left
   ·
    intro w'
    go_simp
    with_reducible rfl
   rotate_left
   ·
    simp only [Act.put, List.setIfInBounds_toArray, List.set_cons_zero, List.set_cons_succ, i64_w, i32_w]
    rfl
   refine pure_ (i := 15) (N := some 50) (v := ?_) (a' := ?_) #[true, true, true, true, true, true, true, true, true, true, true, true, true, true, true, true, false, false, false, false, false, false, false, false, false, false, false, false, false, false, false, false, false, false, false, false, false, false, false, false, false, false, false, false, false, false, false, false, false, false, false, false, false, false, false] rfl rfl (zah HT_.out (by kernel_rfl)) (fun _ _ _ h => h) (Or.inl ⟨by rfl, ?_⟩) ?_ ?_
   rotate_left
   ·
    intro w'
    go_simp
    with_reducible rfl
   rotate_left
   ·
    simp only [Act.put, List.setIfInBounds_toArray, List.set_cons_zero, List.set_cons_succ, i64_w, i32_w]
    rfl
   refine pure_ (i := 16) (N := some 51) (v := ?_) (a' := ?_) #[true, true, true, true, true, true, true, true, true, true, true, true, true, true, true, true, true, false, false, false, false, false, false, false, false, false, false, false, false, false, false, false, false, false, false, false, false, false, false, false, false, false, false, false, false, false, false, false, false, false, false, false, false, false, false] rfl rfl (zah HT_.out (by kernel_rfl)) (fun _ _ _ h => h) (Or.inl ⟨by rfl, ?_⟩) ?_ ?_
   rotate_left
   ·
    intro w'
    go_simp
    with_reducible rfl
   rotate_left
   ·
    simp only [Act.put, List.setIfInBounds_toArray, List.set_cons_zero, List.set_cons_succ, i64_w, i32_w]
    rfl
   refine pure_ (i := 17) (N := some 52) (v := ?_) (a' := ?_) #[true, true, true, true, true, true, true, true, true, true, true, true, true, true, true, true, true, true, false, false, false, false, false, false, false, false, false, false, false, false, false, false, false, false, false, false, false, false, false, false, false, false, false, false, false, false, false, false, false, false, false, false, false, false, false] rfl rfl (zah HT_.out (by kernel_rfl)) (fun _ _ _ h => h) (Or.inl ⟨by rfl, ?_⟩) ?_ ?_
   rotate_left
   ·
    intro w'
    go_simp
    with_reducible rfl
   rotate_left
   ·
    simp only [Act.put, List.setIfInBounds_toArray, List.set_cons_zero, List.set_cons_succ, i64_w, i32_w]
    rfl
   refine take_ (i := 18) (N := some 53) (v := ?_) (a' := ?_) #[true, true, true, true, true, true, true, true, true, true, true, true, true, true, true, true, true, true, true, false, false, false, false, false, false, false, false, false, false, false, false, false, false, false, false, false, false, false, false, false, false, false, false, false, false, false, false, false, false, false, false, false, false, false, false] rfl rfl (zat HT_.out HW_.out (by kernel_rfl)) (fun _ _ _ h => h) (Or.inl ⟨by rfl, ?_⟩) hHeld ?_ ?_
   rotate_left
   ·
    rintro w' ⟨s0, s1, s2, s3, s4, s5, s6, s7, s8, s9, s10, s11, s12, s13, s14⟩
    go_simp
    with_reducible rfl
   rotate_left
   ·
    simp only [Act.put, List.setIfInBounds_toArray, List.set_cons_zero, List.set_cons_succ, i64_w, i32_w]
    rfl
   refine pure_ (i := 19) (N := some 54) (v := ?_) (a' := ?_) #[true, true, true, true, true, true, true, true, true, true, true, true, true, true, true, true, true, true, true, true, false, false, false, false, false, false, false, false, false, false, false, false, false, false, false, false, false, false, false, false, false, false, false, false, false, false, false, false, false, false, false, false, false, false, false] rfl rfl (zah HT_.out (by kernel_rfl)) (fun _ _ _ h => h) (Or.inl ⟨by rfl, ?_⟩) ?_ ?_
   rotate_left
   ·
    intro w'
    go_simp
    with_reducible rfl
   rotate_left
   ·
    simp only [Act.put, List.setIfInBounds_toArray, List.set_cons_zero, List.set_cons_succ, i64_w, i32_w]
    rfl
   refine take_ (i := 20) (N := some 55) (v := ?_) (a' := ?_) #[true, true, true, true, true, true, true, true, true, true, true, true, true, true, true, true, true, true, true, true, true, false, false, false, false, false, false, false, false, false, false, false, false, false, false, false, false, false, false, false, false, false, false, false, false, false, false, false, false, false, false, false, false, false, false] rfl rfl (zat HT_.out HW_.out (by kernel_rfl)) (fun _ _ _ h => h) (Or.inl ⟨by rfl, ?_⟩) hHeld ?_ ?_
   rotate_left
   ·
    rintro w' ⟨s0, s1, s2, s3, s4, s5, s6, s7, s8, s9, s10, s11, s12, s13, s14⟩
    go_simp
    with_reducible rfl
   rotate_left
   ·
    simp only [Act.put, List.setIfInBounds_toArray, List.set_cons_zero, List.set_cons_succ, i64_w, i32_w]
    rfl
   refine pure_ (i := 21) (N := some 56) (v := ?_) (a' := ?_) #[true, true, true, true, true, true, true, true, true, true, true, true, true, true, true, true, true, true, true, true, true, true, false, false, false, false, false, false, false, false, false, false, false, false, false, false, false, false, false, false, false, false, false, false, false, false, false, false, false, false, false, false, false, false, false] rfl rfl (zah HT_.out (by kernel_rfl)) (fun _ _ _ h => h) (Or.inl ⟨by rfl, ?_⟩) ?_ ?_
   rotate_left
   ·
    intro w'
    go_simp
    with_reducible rfl
   rotate_left
   ·
    simp only [Act.put, List.setIfInBounds_toArray, List.set_cons_zero, List.set_cons_succ, i64_w, i32_w]
    rfl
   refine pure_ (i := 22) (N := some 57) (v := ?_) (a' := ?_) #[true, true, true, true, true, true, true, true, true, true, true, true, true, true, true, true, true, true, true, true, true, true, true, false, false, false, false, false, false, false, false, false, false, false, false, false, false, false, false, false, false, false, false, false, false, false, false, false, false, false, false, false, false, false, false] rfl rfl (zah HT_.out (by kernel_rfl)) (fun _ _ _ h => h) (Or.inl ⟨by rfl, ?_⟩) ?_ ?_
   rotate_left
   ·
    intro w'
    go_simp
    with_reducible rfl
   rotate_left
   ·
    simp only [Act.put, List.setIfInBounds_toArray, List.set_cons_zero, List.set_cons_succ, i64_w, i32_w]
    rfl
   refine pure_ (i := 23) (N := some 58) (v := ?_) (a' := ?_) #[true, true, true, true, true, true, true, true, true, true, true, true, true, true, true, true, true, true, true, true, true, true, true, true, false, false, false, false, false, false, false, false, false, false, false, false, false, false, false, false, false, false, false, false, false, false, false, false, false, false, false, false, false, false, false] rfl rfl (zah HT_.out (by kernel_rfl)) (fun _ _ _ h => h) (Or.inl ⟨by rfl, ?_⟩) ?_ ?_
   rotate_left
   ·
    intro w'
    go_simp
    with_reducible rfl
   rotate_left
   ·
    simp only [Act.put, List.setIfInBounds_toArray, List.set_cons_zero, List.set_cons_succ, i64_w, i32_w]
    rfl
   refine pure_ (i := 24) (N := some 59) (v := ?_) (a' := ?_) #[true, true, true, true, true, true, true, true, true, true, true, true, true, true, true, true, true, true, true, true, true, true, true, true, true, false, false, false, false, false, false, false, false, false, false, false, false, false, false, false, false, false, false, false, false, false, false, false, false, false, false, false, false, false, false] rfl rfl (zah HT_.out (by kernel_rfl)) (fun _ _ _ h => h) (Or.inl ⟨by rfl, ?_⟩) ?_ ?_
   rotate_left
   ·
    intro w'
    go_simp
    with_reducible rfl
   rotate_left
   ·
    simp only [Act.put, List.setIfInBounds_toArray, List.set_cons_zero, List.set_cons_succ, i64_w, i32_w]
    rfl
   refine take_ (i := 25) (N := some 60) (v := ?_) (a' := ?_) #[true, true, true, true, true, true, true, true, true, true, true, true, true, true, true, true, true, true, true, true, true, true, true, true, true, true, false, false, false, false, false, false, false, false, false, false, false, false, false, false, false, false, false, false, false, false, false, false, false, false, false, false, false, false, false] rfl rfl (zat HT_.out HW_.out (by kernel_rfl)) (fun _ _ _ h => h) (Or.inl ⟨by rfl, ?_⟩) hHeld ?_ ?_
   rotate_left
   ·
    rintro w' ⟨s0, s1, s2, s3, s4, s5, s6, s7, s8, s9, s10, s11, s12, s13, s14⟩
    go_simp
    with_reducible rfl
   rotate_left
   ·
    simp only [Act.put, List.setIfInBounds_toArray, List.set_cons_zero, List.set_cons_succ, i64_w, i32_w]
    rfl
   refine pure_ (i := 26) (N := some 61) (v := ?_) (a' := ?_) #[true, true, true, true, true, true, true, true, true, true, true, true, true, true, true, true, true, true, true, true, true, true, true, true, true, true, true, false, false, false, false, false, false, false, false, false, false, false, false, false, false, false, false, false, false, false, false, false, false, false, false, false, false, false, false] rfl rfl (zah HT_.out (by kernel_rfl)) (fun _ _ _ h => h) (Or.inl ⟨by rfl, ?_⟩) ?_ ?_
   rotate_left
   ·
    intro w'
    go_simp
    with_reducible rfl
   rotate_left
   ·
    simp only [Act.put, List.setIfInBounds_toArray, List.set_cons_zero, List.set_cons_succ, i64_w, i32_w]
    rfl
   refine take_ (i := 27) (N := some 62) (v := ?_) (a' := ?_) #[true, true, true, true, true, true, true, true, true, true, true, true, true, true, true, true, true, true, true, true, true, true, true, true, true, true, true, true, false, false, false, false, false, false, false, false, false, false, false, false, false, false, false, false, false, false, false, false, false, false, false, false, false, false, false] rfl rfl (zat HT_.out HW_.out (by kernel_rfl)) (fun _ _ _ h => h) (Or.inl ⟨by rfl, ?_⟩) hHeld ?_ ?_
   rotate_left
   ·
    rintro w' ⟨s0, s1, s2, s3, s4, s5, s6, s7, s8, s9, s10, s11, s12, s13, s14⟩
    go_simp
    with_reducible rfl
   rotate_left
   ·
    simp only [Act.put, List.setIfInBounds_toArray, List.set_cons_zero, List.set_cons_succ, i64_w, i32_w]
    rfl
   refine pure_ (i := 28) (N := some 63) (v := ?_) (a' := ?_) #[true, true, true, true, true, true, true, true, true, true, true, true, true, true, true, true, true, true, true, true, true, true, true, true, true, true, true, true, true, false, false, false, false, false, false, false, false, false, false, false, false, false, false, false, false, false, false, false, false, false, false, false, false, false, false] rfl rfl (zah HT_.out (by kernel_rfl)) (fun _ _ _ h => h) (Or.inl ⟨by rfl, ?_⟩) ?_ ?_
   rotate_left
   ·
    intro w'
    go_simp
    with_reducible rfl
   rotate_left
   ·
    simp only [Act.put, List.setIfInBounds_toArray, List.set_cons_zero, List.set_cons_succ, i64_w, i32_w]
    rfl
   refine pure_ (i := 29) (N := some 64) (v := ?_) (a' := ?_) #[true, true, true, true, true, true, true, true, true, true, true, true, true, true, true, true, true, true, true, true, true, true, true, true, true, true, true, true, true, true, false, false, false, false, false, false, false, false, false, false, false, false, false, false, false, false, false, false, false, false, false, false, false, false, false] rfl rfl (zah HT_.out (by kernel_rfl)) (fun _ _ _ h => h) (Or.inl ⟨by rfl, ?_⟩) ?_ ?_
   rotate_left
   ·
    intro w'
    go_simp
    with_reducible rfl
   rotate_left
   ·
    simp only [Act.put, List.setIfInBounds_toArray, List.set_cons_zero, List.set_cons_succ, i64_w, i32_w]
    rfl
   refine pure_ (i := 30) (N := some 65) (v := ?_) (a' := ?_) #[true, true, true, true, true, true, true, true, true, true, true, true, true, true, true, true, true, true, true, true, true, true, true, true, true, true, true, true, true, true, true, false, false, false, false, false, false, false, false, false, false, false, false, false, false, false, false, false, false, false, false, false, false, false, false] rfl rfl (zah HT_.out (by kernel_rfl)) (fun _ _ _ h => h) (Or.inl ⟨by rfl, ?_⟩) ?_ ?_
   rotate_left
   ·
    intro w'
    go_simp
    with_reducible rfl
   rotate_left
   ·
    simp only [Act.put, List.setIfInBounds_toArray, List.set_cons_zero, List.set_cons_succ, i64_w, i32_w]
    rfl
   refine pure_ (i := 31) (N := some 66) (v := ?_) (a' := ?_) #[true, true, true, true, true, true, true, true, true, true, true, true, true, true, true, true, true, true, true, true, true, true, true, true, true, true, true, true, true, true, true, true, false, false, false, false, false, false, false, false, false, false, false, false, false, false, false, false, false, false, false, false, false, false, false] rfl rfl (zah HT_.out (by kernel_rfl)) (fun _ _ _ h => h) (Or.inl ⟨by rfl, ?_⟩) ?_ ?_
   rotate_left
   ·
    intro w'
    go_simp
    with_reducible rfl
   rotate_left
   ·
    simp only [Act.put, List.setIfInBounds_toArray, List.set_cons_zero, List.set_cons_succ, i64_w, i32_w]
    rfl
   refine take_ (i := 32) (N := some 67) (v := ?_) (a' := ?_) #[true, true, true, true, true, true, true, true, true, true, true, true, true, true, true, true, true, true, true, true, true, true, true, true, true, true, true, true, true, true, true, true, true, false, false, false, false, false, false, false, false, false, false, false, false, false, false, false, false, false, false, false, false, false, false] rfl rfl (zat HT_.out HW_.out (by kernel_rfl)) (fun _ _ _ h => h) (Or.inl ⟨by rfl, ?_⟩) hHeld ?_ ?_
   rotate_left
   ·
    rintro w' ⟨s0, s1, s2, s3, s4, s5, s6, s7, s8, s9, s10, s11, s12, s13, s14⟩
    go_simp
    with_reducible rfl
   rotate_left
   ·
    simp only [Act.put, List.setIfInBounds_toArray, List.set_cons_zero, List.set_cons_succ, i64_w, i32_w]
    rfl
   refine pure_ (i := 33) (N := some 68) (v := ?_) (a' := ?_) #[true, true, true, true, true, true, true, true, true, true, true, true, true, true, true, true, true, true, true, true, true, true, true, true, true, true, true, true, true, true, true, true, true, true, false, false, false, false, false, false, false, false, false, false, false, false, false, false, false, false, false, false, false, false, false] rfl rfl (zah HT_.out (by kernel_rfl)) (fun _ _ _ h => h) (Or.inl ⟨by rfl, ?_⟩) ?_ ?_
   rotate_left
   ·
    intro w'
    go_simp
    with_reducible rfl
   rotate_left
   ·
    simp only [Act.put, List.setIfInBounds_toArray, List.set_cons_zero, List.set_cons_succ, i64_w, i32_w]
    rfl
   refine take_ (i := 34) (N := some 69) (v := ?_) (a' := ?_) #[true, true, true, true, true, true, true, true, true, true, true, true, true, true, true, true, true, true, true, true, true, true, true, true, true, true, true, true, true, true, true, true, true, true, true, false, false, false, false, false, false, false, false, false, false, false, false, false, false, false, false, false, false, false, false] rfl rfl (zat HT_.out HW_.out (by kernel_rfl)) (fun _ _ _ h => h) (Or.inl ⟨by rfl, ?_⟩) hHeld ?_ ?_
   rotate_left
   ·
    rintro w' ⟨s0, s1, s2, s3, s4, s5, s6, s7, s8, s9, s10, s11, s12, s13, s14⟩
    go_simp
    with_reducible rfl
   rotate_left
   ·
    simp only [Act.put, List.setIfInBounds_toArray, List.set_cons_zero, List.set_cons_succ, i64_w, i32_w]
    rfl
   refine pure_ (i := 35) (N := some 70) (v := ?_) (a' := ?_) #[true, true, true, true, true, true, true, true, true, true, true, true, true, true, true, true, true, true, true, true, true, true, true, true, true, true, true, true, true, true, true, true, true, true, true, true, false, false, false, false, false, false, false, false, false, false, false, false, false, false, false, false, false, false, false] rfl rfl (zah HT_.out (by kernel_rfl)) (fun _ _ _ h => h) (Or.inl ⟨by rfl, ?_⟩) ?_ ?_
   rotate_left
   ·
    intro w'
    go_simp
    with_reducible rfl
   rotate_left
   ·
    simp only [Act.put, List.setIfInBounds_toArray, List.set_cons_zero, List.set_cons_succ, i64_w, i32_w]
    rfl
   refine pure_ (i := 36) (N := some 71) (v := ?_) (a' := ?_) #[true, true, true, true, true, true, true, true, true, true, true, true, true, true, true, true, true, true, true, true, true, true, true, true, true, true, true, true, true, true, true, true, true, true, true, true, true, false, false, false, false, false, false, false, false, false, false, false, false, false, false, false, false, false, false] rfl rfl (zah HT_.out (by kernel_rfl)) (fun _ _ _ h => h) (Or.inl ⟨by rfl, ?_⟩) ?_ ?_
   rotate_left
   ·
    intro w'
    go_simp
    with_reducible rfl
   rotate_left
   ·
    simp only [Act.put, List.setIfInBounds_toArray, List.set_cons_zero, List.set_cons_succ, i64_w, i32_w]
    rfl
   refine pure_ (i := 37) (N := some 72) (v := ?_) (a' := ?_) #[true, true, true, true, true, true, true, true, true, true, true, true, true, true, true, true, true, true, true, true, true, true, true, true, true, true, true, true, true, true, true, true, true, true, true, true, true, true, false, false, false, false, false, false, false, false, false, false, false, false, false, false, false, false, false] rfl rfl (zah HT_.out (by kernel_rfl)) (fun _ _ _ h => h) (Or.inl ⟨by rfl, ?_⟩) ?_ ?_
   rotate_left
   ·
    intro w'
    go_simp
    with_reducible rfl
   rotate_left
   ·
    simp only [Act.put, List.setIfInBounds_toArray, List.set_cons_zero, List.set_cons_succ, i64_w, i32_w]
    rfl
   refine pure_ (i := 38) (N := some 73) (v := ?_) (a' := ?_) #[true, true, true, true, true, true, true, true, true, true, true, true, true, true, true, true, true, true, true, true, true, true, true, true, true, true, true, true, true, true, true, true, true, true, true, true, true, true, true, false, false, false, false, false, false, false, false, false, false, false, false, false, false, false, false] rfl rfl (zah HT_.out (by kernel_rfl)) (fun _ _ _ h => h) (Or.inl ⟨by rfl, ?_⟩) ?_ ?_
   rotate_left
   ·
    intro w'
    go_simp
    with_reducible rfl
   rotate_left
   ·
    simp only [Act.put, List.setIfInBounds_toArray, List.set_cons_zero, List.set_cons_succ, i64_w, i32_w]
    rfl
   refine take_ (i := 39) (N := some 74) (v := ?_) (a' := ?_) #[true, true, true, true, true, true, true, true, true, true, true, true, true, true, true, true, true, true, true, true, true, true, true, true, true, true, true, true, true, true, true, true, true, true, true, true, true, true, true, true, false, false, false, false, false, false, false, false, false, false, false, false, false, false, false] rfl rfl (zat HT_.out HW_.out (by kernel_rfl)) (fun _ _ _ h => h) (Or.inl ⟨by rfl, ?_⟩) hHeld ?_ ?_
   rotate_left
   ·
    rintro w' ⟨s0, s1, s2, s3, s4, s5, s6, s7, s8, s9, s10, s11, s12, s13, s14⟩
    go_simp
    with_reducible rfl
   rotate_left
   ·
    simp only [Act.put, List.setIfInBounds_toArray, List.set_cons_zero, List.set_cons_succ, i64_w, i32_w]
    rfl
   refine take_ (i := 40) (N := some 75) (v := ?_) (a' := ?_) #[true, true, true, true, true, true, true, true, true, true, true, true, true, true, true, true, true, true, true, true, true, true, true, true, true, true, true, true, true, true, true, true, true, true, true, true, true, true, true, true, true, false, false, false, false, false, false, false, false, false, false, false, false, false, false] rfl rfl (zat HT_.out HW_.out (by kernel_rfl)) (fun _ _ _ h => h) (Or.inl ⟨by rfl, ?_⟩) hHeld ?_ ?_
   rotate_left
   ·
    rintro w' ⟨s0, s1, s2, s3, s4, s5, s6, s7, s8, s9, s10, s11, s12, s13, s14⟩
    go_simp
    with_reducible rfl
   rotate_left
   ·
    simp only [Act.put, List.setIfInBounds_toArray, List.set_cons_zero, List.set_cons_succ, i64_w, i32_w]
    rfl
   refine pure_ (i := 41) (N := some 76) (v := ?_) (a' := ?_) #[true, true, true, true, true, true, true, true, true, true, true, true, true, true, true, true, true, true, true, true, true, true, true, true, true, true, true, true, true, true, true, true, true, true, true, true, true, true, true, true, true, true, false, false, false, false, false, false, false, false, false, false, false, false, false] rfl rfl (zah HT_.out (by kernel_rfl)) (fun _ _ _ h => h) (Or.inl ⟨by rfl, ?_⟩) ?_ ?_
   rotate_left
   ·
    intro w'
    go_simp
    with_reducible rfl
   rotate_left
   ·
    simp only [Act.put, List.setIfInBounds_toArray, List.set_cons_zero, List.set_cons_succ, i64_w, i32_w]
    rfl
   refine take_ (i := 42) (N := some 77) (v := ?_) (a' := ?_) #[true, true, true, true, true, true, true, true, true, true, true, true, true, true, true, true, true, true, true, true, true, true, true, true, true, true, true, true, true, true, true, true, true, true, true, true, true, true, true, true, true, true, true, false, false, false, false, false, false, false, false, false, false, false, false] rfl rfl (zat HT_.out HW_.out (by kernel_rfl)) (fun _ _ _ h => h) (Or.inl ⟨by rfl, ?_⟩) hHeld ?_ ?_
   rotate_left
   ·
    rintro w' ⟨s0, s1, s2, s3, s4, s5, s6, s7, s8, s9, s10, s11, s12, s13, s14⟩
    go_simp
    with_reducible rfl
   rotate_left
   ·
    simp only [Act.put, List.setIfInBounds_toArray, List.set_cons_zero, List.set_cons_succ, i64_w, i32_w]
    rfl
   refine one_ (i := 43) (N := some 78) #[true, true, true, true, true, true, true, true, true, true, true, true, true, true, true, true, true, true, true, true, true, true, true, true, true, true, true, true, true, true, true, true, true, true, true, true, true, true, true, true, true, true, true, true, false, false, false, false, false, false, false, false, false, false, false] rfl rfl (zbb HT_.out (by kernel_rfl)) (by decide) (fun K hK => ?_)
   refine goes_ Try.func43 (by kernel_rfl) rfl #[.agg #[.int .i64 (room : Int), .int .i64 last, .slice (some ad) L.length c], .int .i64 g.f0] (by rfl) rfl rfl (by (try simp only [List.map_toArray, List.map_cons, List.map_nil]); first | done | rfl) ?_
   refine (zaj.calls kd (room : Int) last (some ad) c L g.f0 (wl : Int) W10.drew (Kd.za0 HC0.out (zab HB10.out (Below.refl W10.heap.size W10).drew)) Hcl.out HKD.out).mono ?_
   rintro e w11 ⟨rfl, hb⟩
   skip
   refine ⟨_, rfl, ?_⟩
   have HB11 : Aside0 (Below W10.heap.size W10 w11) := ⟨zab (Below.refl W10.heap.size W10).drew hb⟩
   clear hb
   refine hK.out _ _ (HRW.out _ HB11.out) (fun hHeld => ?_)
   clear hK K
   refine norm_ (a' := ?_) ?_ ?_
   rotate_left
   ·
    show Act.put _ (some 78) _ = _
    simp only [Act.put, List.setIfInBounds_toArray, List.set_cons_zero, List.set_cons_succ, i64_w, i32_w]
    rfl
   refine pure_ (i := 44) (N := some 79) (v := ?_) (a' := ?_) #[true, true, true, true, true, true, true, true, true, true, true, true, true, true, true, true, true, true, true, true, true, true, true, true, true, true, true, true, true, true, true, true, true, true, true, true, true, true, true, true, true, true, true, true, true, false, false, false, false, false, false, false, false, false, false] rfl rfl (zah HT_.out (by kernel_rfl)) (fun _ _ _ h => h) (Or.inl ⟨by rfl, ?_⟩) ?_ ?_
   rotate_left
   ·
    intro w'
    go_simp
    with_reducible rfl
   rotate_left
   ·
    simp only [Act.put, List.setIfInBounds_toArray, List.set_cons_zero, List.set_cons_succ, i64_w, i32_w]
    rfl
   refine pure_ (i := 45) (N := some 80) (v := ?_) (a' := ?_) #[true, true, true, true, true, true, true, true, true, true, true, true, true, true, true, true, true, true, true, true, true, true, true, true, true, true, true, true, true, true, true, true, true, true, true, true, true, true, true, true, true, true, true, true, true, true, false, false, false, false, false, false, false, false, false] rfl rfl (zah HT_.out (by kernel_rfl)) (fun _ _ _ h => h) (Or.inl ⟨by rfl, ?_⟩) ?_ ?_
   rotate_left
   ·
    intro w'
    go_simp
    with_reducible rfl
   rotate_left
   ·
    simp only [Act.put, List.setIfInBounds_toArray, List.set_cons_zero, List.set_cons_succ, i64_w, i32_w]
    rfl
   refine pure_ (i := 46) (N := some 81) (v := ?_) (a' := ?_) #[true, true, true, true, true, true, true, true, true, true, true, true, true, true, true, true, true, true, true, true, true, true, true, true, true, true, true, true, true, true, true, true, true, true, true, true, true, true, true, true, true, true, true, true, true, true, true, false, false, false, false, false, false, false, false] rfl rfl (zah HT_.out (by kernel_rfl)) (fun _ _ _ h => h) (Or.inl ⟨by rfl, ?_⟩) ?_ ?_
   rotate_left
   ·
    intro w'
    go_simp
    with_reducible rfl
   rotate_left
   ·
    simp only [Act.put, List.setIfInBounds_toArray, List.set_cons_zero, List.set_cons_succ, i64_w, i32_w]
    rfl
   refine pure_ (i := 47) (N := some 82) (v := ?_) (a' := ?_) #[true, true, true, true, true, true, true, true, true, true, true, true, true, true, true, true, true, true, true, true, true, true, true, true, true, true, true, true, true, true, true, true, true, true, true, true, true, true, true, true, true, true, true, true, true, true, true, true, false, false, false, false, false, false, false] rfl rfl (zah HT_.out (by kernel_rfl)) (fun _ _ _ h => h) (Or.inl ⟨by rfl, ?_⟩) ?_ ?_
   rotate_left
   ·
    intro w'
    go_simp
    with_reducible rfl
   rotate_left
   ·
    simp only [Act.put, List.setIfInBounds_toArray, List.set_cons_zero, List.set_cons_succ, i64_w, i32_w]
    rfl
   refine take_ (i := 48) (N := some 83) (v := ?_) (a' := ?_) #[true, true, true, true, true, true, true, true, true, true, true, true, true, true, true, true, true, true, true, true, true, true, true, true, true, true, true, true, true, true, true, true, true, true, true, true, true, true, true, true, true, true, true, true, true, true, true, true, true, false, false, false, false, false, false] rfl rfl (zat HT_.out HW_.out (by kernel_rfl)) (fun _ _ _ h => h) (Or.inl ⟨by rfl, ?_⟩) hHeld ?_ ?_
   rotate_left
   ·
    rintro w' ⟨s0, s1, s2, s3, s4, s5, s6, s7, s8, s9, s10, s11, s12, s13, s14⟩
    go_simp
    with_reducible rfl
   rotate_left
   ·
    simp only [Act.put, List.setIfInBounds_toArray, List.set_cons_zero, List.set_cons_succ, i64_w, i32_w]
    rfl
   refine take_ (i := 49) (N := some 84) (v := ?_) (a' := ?_) #[true, true, true, true, true, true, true, true, true, true, true, true, true, true, true, true, true, true, true, true, true, true, true, true, true, true, true, true, true, true, true, true, true, true, true, true, true, true, true, true, true, true, true, true, true, true, true, true, true, true, false, false, false, false, false] rfl rfl (zat HT_.out HW_.out (by kernel_rfl)) (fun _ _ _ h => h) (Or.inl ⟨by rfl, ?_⟩) hHeld ?_ ?_
   rotate_left
   ·
    rintro w' ⟨s0, s1, s2, s3, s4, s5, s6, s7, s8, s9, s10, s11, s12, s13, s14⟩
    go_simp
    with_reducible rfl
   rotate_left
   ·
    simp only [Act.put, List.setIfInBounds_toArray, List.set_cons_zero, List.set_cons_succ, i64_w, i32_w]
    rfl
   refine pure_ (i := 50) (N := some 85) (v := ?_) (a' := ?_) #[true, true, true, true, true, true, true, true, true, true, true, true, true, true, true, true, true, true, true, true, true, true, true, true, true, true, true, true, true, true, true, true, true, true, true, true, true, true, true, true, true, true, true, true, true, true, true, true, true, true, true, false, false, false, false] rfl rfl (zah HT_.out (by kernel_rfl)) (fun _ _ _ h => h) (Or.inl ⟨by rfl, ?_⟩) ?_ ?_
   rotate_left
   ·
    intro w'
    go_simp
    with_reducible rfl
   rotate_left
   ·
    simp only [Act.put, List.setIfInBounds_toArray, List.set_cons_zero, List.set_cons_succ, i64_w, i32_w]
    rfl
   refine take_ (i := 51) (N := some 86) (v := ?_) (a' := ?_) #[true, true, true, true, true, true, true, true, true, true, true, true, true, true, true, true, true, true, true, true, true, true, true, true, true, true, true, true, true, true, true, true, true, true, true, true, true, true, true, true, true, true, true, true, true, true, true, true, true, true, true, true, false, false, false] rfl rfl (zat HT_.out HW_.out (by kernel_rfl)) (fun _ _ _ h => h) (Or.inl ⟨by rfl, ?_⟩) hHeld ?_ ?_
   rotate_left
   ·
    rintro w' ⟨s0, s1, s2, s3, s4, s5, s6, s7, s8, s9, s10, s11, s12, s13, s14⟩
    go_simp
    with_reducible rfl
   rotate_left
   ·
    simp only [Act.put, List.setIfInBounds_toArray, List.set_cons_zero, List.set_cons_succ, i64_w, i32_w]
    rfl
   refine one_ (i := 52) (N := some 87) #[true, true, true, true, true, true, true, true, true, true, true, true, true, true, true, true, true, true, true, true, true, true, true, true, true, true, true, true, true, true, true, true, true, true, true, true, true, true, true, true, true, true, true, true, true, true, true, true, true, true, true, true, true, false, false] rfl rfl (zbb HT_.out (by kernel_rfl)) (by decide) (fun K hK => ?_)
   refine goes_ Try.func44 (by kernel_rfl) rfl #[.agg #[.int .i64 (room : Int), .int .i64 last, .slice (some ad) L.length c], .int .i64 g.f0] (by rfl) rfl rfl (by (try simp only [List.map_toArray, List.map_cons, List.map_nil]); first | done | rfl) ?_
   refine (zai.calls kr (room : Int) last (some ad) c L g.f0 rt w11 (Kd.za0 HC0.out (zab HB10.out HB11.out)) Hcl.out HKR.out).mono ?_
   rintro e w12 ⟨rfl, hb⟩
   skip
   refine ⟨_, rfl, ?_⟩
   have HB12 : Aside0 (Below W10.heap.size W10 w12) := ⟨zab HB11.out hb⟩
   clear hb
   refine hK.out _ _ (HRW.out _ HB12.out) (fun hHeld => ?_)
   clear hK K
   refine norm_ (a' := ?_) ?_ ?_
   rotate_left
   ·
    show Act.put _ (some 87) _ = _
    simp only [Act.put, List.setIfInBounds_toArray, List.set_cons_zero, List.set_cons_succ, i64_w, i32_w]
    rfl
   refine pure_ (i := 53) (N := some 88) (v := ?_) (a' := ?_) #[true, true, true, true, true, true, true, true, true, true, true, true, true, true, true, true, true, true, true, true, true, true, true, true, true, true, true, true, true, true, true, true, true, true, true, true, true, true, true, true, true, true, true, true, true, true, true, true, true, true, true, true, true, true, false] rfl rfl (zah HT_.out (by kernel_rfl)) (fun _ _ _ h => h) (Or.inl ⟨by rfl, ?_⟩) ?_ ?_
   rotate_left
   ·
    intro w'
    go_simp
    with_reducible rfl
   rotate_left
   ·
    simp only [Act.put, List.setIfInBounds_toArray, List.set_cons_zero, List.set_cons_succ, i64_w, i32_w]
    rfl
   refine pure_ (i := 54) (N := some 89) (v := ?_) (a' := ?_) #[true, true, true, true, true, true, true, true, true, true, true, true, true, true, true, true, true, true, true, true, true, true, true, true, true, true, true, true, true, true, true, true, true, true, true, true, true, true, true, true, true, true, true, true, true, true, true, true, true, true, true, true, true, true, true] rfl rfl (zah HT_.out (by kernel_rfl)) (fun _ _ _ h => h) (Or.inl ⟨by rfl, ?_⟩) ?_ ?_
   rotate_left
   ·
    intro w'
    go_simp
    with_reducible rfl
   rotate_left
   ·
    simp only [Act.put, List.setIfInBounds_toArray, List.set_cons_zero, List.set_cons_succ, i64_w, i32_w]
    rfl
   refine done_ (zby HT_.out (by kernel_rfl)) ?_
   go_wp2_with fail
   clear hHeld HT_ HW_
   refine start_ (n := 21) (S := fun W => W.cell? ⟨w.heap.size, 0, none⟩ = some (.int .i64 (room : Int)) ∧ W.cell? ⟨w.heap.size, 1, none⟩ = some (.int .i64 last) ∧ W.cell? ⟨w.heap.size, 2, none⟩ = some (.slice (some ad) L.length c) ∧ W.cell? ⟨wr.heap.size, 0, none⟩ = some (.int .i64 g.f0) ∧ W.cell? ⟨wr.heap.size, 1, none⟩ = some (.int .i64 g.f1) ∧ W.cell? ⟨wr.heap.size, 2, none⟩ = some (.int .i64 g.f2) ∧ W.cell? ⟨wr.heap.size, 3, none⟩ = some (.int .i64 g.f3) ∧ W.cell? ⟨wr.heap.size, 4, none⟩ = some (.int .i64 g.f4)) (ds := []) #[false, false, false, false, false, false, false, false, false, false, false, false, false, false, false, false, false, false, false, false, false] (by kernel_rfl) rfl rfl (HRW2.out _ HB12.out.drew) (fun hHeld => ?_); refine zbj istab11 isbits11 (fun HT_ HW_ => ?_)
   refine pure_ (i := 0) (N := some 90) (v := ?_) (a' := ?_) #[true, false, false, false, false, false, false, false, false, false, false, false, false, false, false, false, false, false, false, false, false] rfl rfl (zah HT_.out (by kernel_rfl)) (fun _ _ _ h => h) (Or.inl ⟨by rfl, ?_⟩) ?_ ?_
   rotate_left
   ·
    intro w'
    go_simp
    with_reducible rfl
   rotate_left
   ·
    simp only [Act.put, List.setIfInBounds_toArray, List.set_cons_zero, List.set_cons_succ, i64_w, i32_w]
    rfl
   refine pure_ (i := 1) (N := some 91) (v := ?_) (a' := ?_) #[true, true, false, false, false, false, false, false, false, false, false, false, false, false, false, false, false, false, false, false, false] rfl rfl (zah HT_.out (by kernel_rfl)) (fun _ _ _ h => h) (Or.inl ⟨by rfl, ?_⟩) ?_ ?_
   rotate_left
   ·
    intro w'
    go_simp
    with_reducible rfl
   rotate_left
   ·
    simp only [Act.put, List.setIfInBounds_toArray, List.set_cons_zero, List.set_cons_succ, i64_w, i32_w]
    rfl
   refine take_ (i := 2) (N := some 92) (v := ?_) (a' := ?_) #[true, true, true, false, false, false, false, false, false, false, false, false, false, false, false, false, false, false, false, false, false] rfl rfl (zat HT_.out HW_.out (by kernel_rfl)) (fun _ _ _ h => h) (Or.inl ⟨by rfl, ?_⟩) hHeld ?_ ?_
   rotate_left
   ·
    rintro w' ⟨s0, s1, s2, s3, s4, s5, s6, s7⟩
    go_simp
    with_reducible rfl
   rotate_left
   ·
    simp only [Act.put, List.setIfInBounds_toArray, List.set_cons_zero, List.set_cons_succ, i64_w, i32_w]
    rfl
   refine take_ (i := 4) (N := some 94) (v := ?_) (a' := ?_) #[true, true, true, false, true, false, false, false, false, false, false, false, false, false, false, false, false, false, false, false, false] rfl rfl (zat HT_.out HW_.out (by kernel_rfl)) (fun _ _ _ h => h) (Or.inl ⟨by rfl, ?_⟩) hHeld ?_ ?_
   rotate_left
   ·
    rintro w' ⟨s0, s1, s2, s3, s4, s5, s6, s7⟩
    go_simp
    with_reducible rfl
   rotate_left
   ·
    simp only [Act.put, List.setIfInBounds_toArray, List.set_cons_zero, List.set_cons_succ, i64_w, i32_w]
    rfl
   refine pure_ (i := 5) (N := some 95) (v := ?_) (a' := ?_) #[true, true, true, false, true, true, false, false, false, false, false, false, false, false, false, false, false, false, false, false, false] rfl rfl (zah HT_.out (by kernel_rfl)) (fun _ _ _ h => h) (Or.inl ⟨by rfl, ?_⟩) ?_ ?_
   rotate_left
   ·
    intro w'
    go_simp
    with_reducible rfl
   rotate_left
   ·
    simp only [Act.put, List.setIfInBounds_toArray, List.set_cons_zero, List.set_cons_succ, i64_w, i32_w]
    rfl
   refine take_ (i := 6) (N := some 96) (v := ?_) (a' := ?_) #[true, true, true, false, true, true, true, false, false, false, false, false, false, false, false, false, false, false, false, false, false] rfl rfl (zat HT_.out HW_.out (by kernel_rfl)) (fun _ _ _ h => h) (Or.inl ⟨by rfl, ?_⟩) hHeld ?_ ?_
   rotate_left
   ·
    rintro w' ⟨s0, s1, s2, s3, s4, s5, s6, s7⟩
    go_simp
    with_reducible rfl
   rotate_left
   ·
    simp only [Act.put, List.setIfInBounds_toArray, List.set_cons_zero, List.set_cons_succ, i64_w, i32_w]
    rfl
   refine one_ (i := 3) (N := some 93) #[true, true, true, true, true, true, true, false, false, false, false, false, false, false, false, false, false, false, false, false, false] rfl rfl (zbb HT_.out (by kernel_rfl)) (by decide) (fun K hK => ?_)
   refine goes_ Try.func16 (by kernel_rfl) rfl #[.pointer (some ⟨fb, 0, none⟩), .int .i64 g.f0] (by rfl) rfl rfl (by (try simp only [List.map_toArray, List.map_cons, List.map_nil]); first | done | rfl) ?_
   refine (forB_Children (w := w12.drew) (HBF.out.keep (zab HB10.out HB12.out.drew)) HG.out hnn g.f0).mono ?_
   rintro e w13 ⟨v1, rfl, hi1, hb⟩
   obtain ⟨A1, c1, rfl, hc1, hC1⟩ := hi1
   have HC1 := Aside0.mk hC1
   have Hc1 := Aside0.mk hc1
   clear hC1 hc1
   refine ⟨_, rfl, ?_⟩
   have HB13 : Aside0 (Below W10.heap.size W10 w13) := ⟨zab HB12.out.drew hb⟩
   clear hb
   refine hK.out _ _ (HRW2.out _ HB13.out) (fun hHeld => ?_)
   clear hK K
   refine norm_ (a' := ?_) ?_ ?_
   rotate_left
   ·
    show Act.put _ (some 93) _ = _
    simp only [Act.put, List.setIfInBounds_toArray, List.set_cons_zero, List.set_cons_succ, i64_w, i32_w]
    rfl
   refine one_ (i := 7) (N := some 97) #[true, true, true, true, true, true, true, true, false, false, false, false, false, false, false, false, false, false, false, false, false] rfl rfl (zbb HT_.out (by kernel_rfl)) (by decide) (fun K hK => ?_)
   refine goes_ Try.func46 (by kernel_rfl) rfl #[.agg #[.int .i64 (room : Int), .int .i64 last, .slice (some ad) L.length c], .int .i64 g.f0] (by rfl) rfl rfl (by (try simp only [List.map_toArray, List.map_cons, List.map_nil]); first | done | rfl) ?_
   refine (zas.calls kc (room : Int) last (some ad) c L g.f0 _ w13 (Kd.za0 HC0.out (zab HB10.out HB13.out)) Hcl.out HKC.out).mono ?_
   rintro e w14 ⟨v2, rfl, hr2, hb⟩
   have hV2 := Kd.R_V (base' := 0) hr2
   obtain ⟨A2, c2, rfl⟩ := Kd.zbv hr2
   obtain ⟨_, hc2, hC2⟩ := Kd.zay hV2
   have HC2 := Aside0.mk hC2
   have Hc2 := Aside0.mk hc2
   have HC1' := Aside0.mk (Kd.za0 HC1.out hb)
   clear hC2 hc2 hV2 hr2
   refine ⟨_, rfl, ?_⟩
   have HB14 : Aside0 (Below W10.heap.size W10 w14) := ⟨zab HB13.out hb⟩
   clear hb
   refine hK.out _ _ (HRW2.out _ HB14.out) (fun hHeld => ?_)
   clear hK K
   refine norm_ (a' := ?_) ?_ ?_
   rotate_left
   ·
    show Act.put _ (some 97) _ = _
    simp only [Act.put, List.setIfInBounds_toArray, List.set_cons_zero, List.set_cons_succ, i64_w, i32_w]
    rfl
   refine one_ (i := 8) (N := some 98) #[true, true, true, true, true, true, true, true, true, false, false, false, false, false, false, false, false, false, false, false, false] rfl rfl (zbb HT_.out (by kernel_rfl)) (by decide) (fun K hK => ?_)
   refine goes_ Try.func45 (by kernel_rfl) rfl #[.slice A1 (kidsF L g.f0).length c1, .slice A2 (kidsF L g.f0).length c2] (by rfl) rfl rfl (by (try simp only [List.map_toArray, List.map_cons, List.map_nil]); first | done | rfl) ?_
   refine (zaz.calls kj A1 c1 (kidsF L g.f0) A2 c2 (kidsF L g.f0) true w14 HC1'.out Hc1.out HC2.out Hc2.out HKJ.out).mono ?_
   rintro e w15 ⟨rfl, hd⟩
   have hb := hd.below
   clear hd
   refine ⟨_, rfl, ?_⟩
   have HB15 : Aside0 (Below W10.heap.size W10 w15) := ⟨zab HB14.out hb⟩
   clear hb
   refine hK.out _ _ (HRW2.out _ HB15.out) (fun hHeld => ?_)
   clear hK K
   refine norm_ (a' := ?_) ?_ ?_
   rotate_left
   ·
    show Act.put _ (some 98) _ = _
    simp only [Act.put, List.setIfInBounds_toArray, List.set_cons_zero, List.set_cons_succ, i64_w, i32_w]
    rfl
   refine pure_ (i := 9) (N := some 99) (v := ?_) (a' := ?_) #[true, true, true, true, true, true, true, true, true, true, false, false, false, false, false, false, false, false, false, false, false] rfl rfl (zah HT_.out (by kernel_rfl)) (fun _ _ _ h => h) (Or.inl ⟨by rfl, ?_⟩) ?_ ?_
   rotate_left
   ·
    intro w'
    go_simp
    with_reducible rfl
   rotate_left
   ·
    simp only [Act.put, List.setIfInBounds_toArray, List.set_cons_zero, List.set_cons_succ, i64_w, i32_w]
    rfl
   refine pure_ (i := 10) (N := some 100) (v := ?_) (a' := ?_) #[true, true, true, true, true, true, true, true, true, true, true, false, false, false, false, false, false, false, false, false, false] rfl rfl (zah HT_.out (by kernel_rfl)) (fun _ _ _ h => h) (Or.inl ⟨by rfl, ?_⟩) ?_ ?_
   rotate_left
   ·
    intro w'
    go_simp
    with_reducible rfl
   rotate_left
   ·
    simp only [Act.put, List.setIfInBounds_toArray, List.set_cons_zero, List.set_cons_succ, i64_w, i32_w]
    rfl
   refine pure_ (i := 11) (N := some 101) (v := ?_) (a' := ?_) #[true, true, true, true, true, true, true, true, true, true, true, true, false, false, false, false, false, false, false, false, false] rfl rfl (zah HT_.out (by kernel_rfl)) (fun _ _ _ h => h) (Or.inl ⟨by rfl, ?_⟩) ?_ ?_
   rotate_left
   ·
    intro w'
    go_simp
    with_reducible rfl
   rotate_left
   ·
    simp only [Act.put, List.setIfInBounds_toArray, List.set_cons_zero, List.set_cons_succ, i64_w, i32_w]
    rfl
   refine pure_ (i := 12) (N := some 102) (v := ?_) (a' := ?_) #[true, true, true, true, true, true, true, true, true, true, true, true, true, false, false, false, false, false, false, false, false] rfl rfl (zah HT_.out (by kernel_rfl)) (fun _ _ _ h => h) (Or.inl ⟨by rfl, ?_⟩) ?_ ?_
   rotate_left
   ·
    intro w'
    go_simp
    with_reducible rfl
   rotate_left
   ·
    simp only [Act.put, List.setIfInBounds_toArray, List.set_cons_zero, List.set_cons_succ, i64_w, i32_w]
    rfl
   refine take_ (i := 13) (N := some 103) (v := ?_) (a' := ?_) #[true, true, true, true, true, true, true, true, true, true, true, true, true, true, false, false, false, false, false, false, false] rfl rfl (zat HT_.out HW_.out (by kernel_rfl)) (fun _ _ _ h => h) (Or.inl ⟨by rfl, ?_⟩) hHeld ?_ ?_
   rotate_left
   ·
    rintro w' ⟨s0, s1, s2, s3, s4, s5, s6, s7⟩
    go_simp
    with_reducible rfl
   rotate_left
   ·
    simp only [Act.put, List.setIfInBounds_toArray, List.set_cons_zero, List.set_cons_succ, i64_w, i32_w]
    rfl
   refine take_ (i := 15) (N := some 105) (v := ?_) (a' := ?_) #[true, true, true, true, true, true, true, true, true, true, true, true, true, true, false, true, false, false, false, false, false] rfl rfl (zat HT_.out HW_.out (by kernel_rfl)) (fun _ _ _ h => h) (Or.inl ⟨by rfl, ?_⟩) hHeld ?_ ?_
   rotate_left
   ·
    rintro w' ⟨s0, s1, s2, s3, s4, s5, s6, s7⟩
    go_simp
    with_reducible rfl
   rotate_left
   ·
    simp only [Act.put, List.setIfInBounds_toArray, List.set_cons_zero, List.set_cons_succ, i64_w, i32_w]
    rfl
   refine pure_ (i := 16) (N := some 106) (v := ?_) (a' := ?_) #[true, true, true, true, true, true, true, true, true, true, true, true, true, true, false, true, true, false, false, false, false] rfl rfl (zah HT_.out (by kernel_rfl)) (fun _ _ _ h => h) (Or.inl ⟨by rfl, ?_⟩) ?_ ?_
   rotate_left
   ·
    intro w'
    go_simp
    with_reducible rfl
   rotate_left
   ·
    simp only [Act.put, List.setIfInBounds_toArray, List.set_cons_zero, List.set_cons_succ, i64_w, i32_w]
    rfl
   refine take_ (i := 17) (N := some 107) (v := ?_) (a' := ?_) #[true, true, true, true, true, true, true, true, true, true, true, true, true, true, false, true, true, true, false, false, false] rfl rfl (zat HT_.out HW_.out (by kernel_rfl)) (fun _ _ _ h => h) (Or.inl ⟨by rfl, ?_⟩) hHeld ?_ ?_
   rotate_left
   ·
    rintro w' ⟨s0, s1, s2, s3, s4, s5, s6, s7⟩
    go_simp
    with_reducible rfl
   rotate_left
   ·
    simp only [Act.put, List.setIfInBounds_toArray, List.set_cons_zero, List.set_cons_succ, i64_w, i32_w]
    rfl
   refine one_ (i := 14) (N := some 104) #[true, true, true, true, true, true, true, true, true, true, true, true, true, true, true, true, true, true, false, false, false] rfl rfl (zbb HT_.out (by kernel_rfl)) (by decide) (fun K hK => ?_)
   refine goes_ Try.func21 (by kernel_rfl) rfl #[.pointer (some ⟨fb, 0, none⟩), .int .i64 g.f0] (by rfl) rfl rfl (by (try simp only [List.map_toArray, List.map_cons, List.map_nil]); first | done | rfl) ?_
   refine (HACT.out w15 HB15.out).mono ?_
   rintro e w16 ⟨rfl, hb⟩
   skip
   refine ⟨_, rfl, ?_⟩
   have HB16 : Aside0 (Below W10.heap.size W10 w16) := ⟨zab HB15.out hb⟩
   clear hb
   refine hK.out _ _ (HRW2.out _ HB16.out) (fun hHeld => ?_)
   clear hK K
   refine norm_ (a' := ?_) ?_ ?_
   rotate_left
   ·
    show Act.put _ (some 104) _ = _
    simp only [Act.put, List.setIfInBounds_toArray, List.set_cons_zero, List.set_cons_succ, i64_w, i32_w]
    rfl
   refine one_ (i := 18) (N := some 108) #[true, true, true, true, true, true, true, true, true, true, true, true, true, true, true, true, true, true, true, false, false] rfl rfl (zbb HT_.out (by kernel_rfl)) (by decide) (fun K hK => ?_)
   refine goes_ Try.func47 (by kernel_rfl) rfl #[.agg #[.int .i64 (room : Int), .int .i64 last, .slice (some ad) L.length c], .int .i64 g.f0] (by rfl) rfl rfl (by (try simp only [List.map_toArray, List.map_cons, List.map_nil]); first | done | rfl) ?_
   refine (zak.calls ka (room : Int) last (some ad) c L g.f0 ac w16 (Kd.za0 HC0.out (zab HB10.out HB16.out)) Hcl.out HKA.out).mono ?_
   rintro e w17 ⟨rfl, hb⟩
   skip
   refine ⟨_, rfl, ?_⟩
   have HB17 : Aside0 (Below W10.heap.size W10 w17) := ⟨zab HB16.out hb⟩
   clear hb
   refine hK.out _ _ (HRW2.out _ HB17.out) (fun hHeld => ?_)
   clear hK K
   refine norm_ (a' := ?_) ?_ ?_
   rotate_left
   ·
    show Act.put _ (some 108) _ = _
    simp only [Act.put, List.setIfInBounds_toArray, List.set_cons_zero, List.set_cons_succ, i64_w, i32_w]
    rfl
   refine pure_ (i := 19) (N := some 109) (v := ?_) (a' := ?_) #[true, true, true, true, true, true, true, true, true, true, true, true, true, true, true, true, true, true, true, true, false] rfl rfl (zah HT_.out (by kernel_rfl)) (fun _ _ _ h => h) (Or.inl ⟨by rfl, ?_⟩) ?_ ?_
   rotate_left
   ·
    intro w'
    go_simp
    with_reducible rfl
   rotate_left
   ·
    simp only [Act.put, List.setIfInBounds_toArray, List.set_cons_zero, List.set_cons_succ, i64_w, i32_w]
    rfl
   refine pure_ (i := 20) (N := some 110) (v := ?_) (a' := ?_) #[true, true, true, true, true, true, true, true, true, true, true, true, true, true, true, true, true, true, true, true, true] rfl rfl (zah HT_.out (by kernel_rfl)) (fun _ _ _ h => h) (Or.inl ⟨by rfl, ?_⟩) ?_ ?_
   rotate_left
   ·
    intro w'
    go_simp
    with_reducible rfl
   rotate_left
   ·
    simp only [Act.put, List.setIfInBounds_toArray, List.set_cons_zero, List.set_cons_succ, i64_w, i32_w]
    rfl
   refine done_ (zby HT_.out (by kernel_rfl)) ?_
   all_goals
    go_wp2
    go_roundg g1
    case measure => exact Nat.lt_succ_self _
    case rel => exact ⟨i + 1, by go_num, by omega, ⟨by rw [HIDS.out]; exact Kd.zca HO10.out HB17.out⟩, ⟨zab HB10.out HB17.out⟩⟩
def Boxes4 (w W : World) (room : Nat) (last : Int) (A : Option Addr) (len c : Nat) (k gg nn : Int) : Prop :=
 Below w.heap.size w W ∧ W.heap.size = w.heap.size + 4 ∧ W.heap[w.heap.size]? = some (.cells #[.int .i64 (room : Int), .int .i64 last, .slice A len c] 44 (0, 0)) ∧
 W.heap[w.heap.size + 1]? = some (.cells #[.int .u8 k, .int .i64 gg, .int .i64 nn] 48 (0, 0)) ∧
 W.heap[w.heap.size + 1 + 1]? = some (.cells #[.int .i64 0, .int .i64 0, .slice none 0 0] 44 (0, 0)) ∧
 W.heap[w.heap.size + 1 + 1 + 1]? = some (.cells #[.int .i64 (room : Int), .int .i64 last, .slice A len c] 44 (0, 0))
theorem Boxes4.at (w : World) (room : Nat) (last : Int) (A : Option Addr) (len c : Nat) (k gg nn : Int) :
  Boxes4 w ((((w.alloc (.cells #[.int .i64 (room : Int), .int .i64 last, .slice A len c] 44)).alloc (.cells #[.int .u8 k, .int .i64 gg, .int .i64 nn] 48)).alloc (.cells #[.int .i64 0, .int .i64 0, .slice none 0 0] 44)).alloc (.cells #[.int .i64 (room : Int), .int .i64 last, .slice A len c] 44)) room last A len c k gg nn := by
 have h1 := zac (zac (zac (za6 w (.cells #[.int .i64 (room : Int), .int .i64 last, .slice A len c] 44)) (.cells #[.int .u8 k, .int .i64 gg, .int .i64 nn] 48)) (.cells #[.int .i64 0, .int .i64 0, .slice none 0 0] 44)) (.cells #[.int .i64 (room : Int), .int .i64 last, .slice A len c] 44)
 have h2 := zac (zac (za6 (w.alloc (.cells #[.int .i64 (room : Int), .int .i64 last, .slice A len c] 44)) (.cells #[.int .u8 k, .int .i64 gg, .int .i64 nn] 48)) (.cells #[.int .i64 0, .int .i64 0, .slice none 0 0] 44)) (.cells #[.int .i64 (room : Int), .int .i64 last, .slice A len c] 44)
 have h3 := zac (za6 ((w.alloc (.cells #[.int .i64 (room : Int), .int .i64 last, .slice A len c] 44)).alloc (.cells #[.int .u8 k, .int .i64 gg, .int .i64 nn] 48)) (.cells #[.int .i64 0, .int .i64 0, .slice none 0 0] 44)) (.cells #[.int .i64 (room : Int), .int .i64 last, .slice A len c] 44)
 have h4 := za6 (((w.alloc (.cells #[.int .i64 (room : Int), .int .i64 last, .slice A len c] 44)).alloc (.cells #[.int .u8 k, .int .i64 gg, .int .i64 nn] 48)).alloc (.cells #[.int .i64 0, .int .i64 0, .slice none 0 0] 44)) (.cells #[.int .i64 (room : Int), .int .i64 last, .slice A len c] 44)
 have hB := zad (zad (zad (zad (Below.refl _ w) (.cells #[.int .i64 (room : Int), .int .i64 last, .slice A len c] 44)) (.cells #[.int .u8 k, .int .i64 gg, .int .i64 nn] 48)) (.cells #[.int .i64 0, .int .i64 0, .slice none 0 0] 44)) (.cells #[.int .i64 (room : Int), .int .i64 last, .slice A len c] 44)
 rw [show (w.alloc (.cells #[.int .i64 (room : Int), .int .i64 last, .slice A len c] 44)).heap.size = w.heap.size + 1 by simp] at h2
 rw [show ((w.alloc (.cells #[.int .i64 (room : Int), .int .i64 last, .slice A len c] 44)).alloc (.cells #[.int .u8 k, .int .i64 gg, .int .i64 nn] 48)).heap.size = w.heap.size + 1 + 1 by simp] at h3
 rw [show (((w.alloc (.cells #[.int .i64 (room : Int), .int .i64 last, .slice A len c] 44)).alloc (.cells #[.int .u8 k, .int .i64 gg, .int .i64 nn] 48)).alloc (.cells #[.int .i64 0, .int .i64 0, .slice none 0 0] 44)).heap.size = w.heap.size + 1 + 1 + 1 by simp] at h4
 exact ⟨hB, by simp, h1, h2, h3, h4⟩
theorem ForS.lt {S : Nat → Prop} {w : World} {fb n room : Nat} {last : Int} {L : List S84} (h : ForS S w fb n room last L) {k : Nat} (hk : S k) : k < w.heap.size := by
 obtain ⟨_, _, _, _, _, _, h3⟩ := h
 exact h3 k hk
theorem RefF.old {w w' : World} {P : Nat → Prop} {v : Value} {room : Nat} {last : Int} {L : List S84} (h : RefF w P v room last L) (hb : Below w.heap.size w w') : RefF w' (fun k => P k ∧ k < w.heap.size) v room last L := by
 obtain ⟨A, c, e, h⟩ := h
 exact ⟨A, c, e, Kd.V_old h hb⟩
def DoneS (S S' P : Nat → Prop) (w w' : World) (fb n room : Nat) (last last' : Int) (L' : List S84) (v' : Value) : Prop :=
 ForS S' w' fb (n + 1) room last' L' ∧ (∃ P', RefF w' P' v' room last' L' ∧ ∀ k, P' k → (P k ∨ w.heap.size ≤ k) ∧ ¬ S' k) ∧ (∀ k, S k → S' k) ∧ (∀ k, S' k → S k ∨ w.heap.size ≤ k) ∧ GoodF room last' L' ∧ last ≤ last' ∧ last' ≤ last + 1 ∧ Wr S w w'
theorem do_end {S S' P : Nat → Prop} {w W w3 w4 : World} {fb n room n' : Nat} {last last' k gg nn : Int} {L L' : List S84} {A A' : Option Addr} {c c' : Nat} (hb : ForS S w fb n room last L) (hX : Boxes4 w W room last A L.length c k gg nn) (hP : ∀ k, P k → ¬ S k)
  (hF3 : ForS S' w3 fb n' room last' L') (hn : n' ≤ n + 1) (h1 : ∀ k, S k → S' k) (h2 : ∀ k, S' k → S k ∨ W.heap.size ≤ k) (hW3 : Wr S W w3) (h4 : Below w3.heap.size w3 w4) (hG' : GoodF room last' L') (hl1 : last ≤ last') (hl2 : last' ≤ last + 1)
  (hv4 : Kd.V k84 84 w4 0 (fun k => (P k ∧ k < w.heap.size) ∨ w3.heap.size ≤ k) (.slice A' L'.length c') L') :
  (((((((w4.setCell ⟨w.heap.size + 1 + 1 + 1, 0, none⟩ (.int .i64 (room : Int))).setCell ⟨w.heap.size + 1 + 1 + 1, 1, none⟩ (.int .i64 last')).setCell ⟨w.heap.size + 1 + 1 + 1, 2, none⟩ (.slice A' L'.length c')).setCell ⟨w.heap.size + 1 + 1, 0, none⟩ (.int .i64 (room : Int))).setCell ⟨w.heap.size + 1 + 1, 1, none⟩ (.int .i64 last')).setCell ⟨w.heap.size + 1 + 1, 2, none⟩ (.slice A' L'.length c'))).heap[w.heap.size + 1 + 1]? = some (.cells #[.int .i64 (room : Int), .int .i64 last', .slice A' L'.length c'] 44 (0, 0)) ∧ DoneS S S' P w (((((((w4.setCell ⟨w.heap.size + 1 + 1 + 1, 0, none⟩ (.int .i64 (room : Int))).setCell ⟨w.heap.size + 1 + 1 + 1, 1, none⟩ (.int .i64 last')).setCell ⟨w.heap.size + 1 + 1 + 1, 2, none⟩ (.slice A' L'.length c')).setCell ⟨w.heap.size + 1 + 1, 0, none⟩ (.int .i64 (room : Int))).setCell ⟨w.heap.size + 1 + 1, 1, none⟩ (.int .i64 last')).setCell ⟨w.heap.size + 1 + 1, 2, none⟩ (.slice A' L'.length c'))) fb n room last last' L' (.agg #[.int .i64 (room : Int), .int .i64 last', .slice A' L'.length c']) := by
 obtain ⟨x1, x2, x3, x4, x5, x6⟩ := hX
 have hsz : w3.heap.size ≤ w4.heap.size := h4.size
 have hsz3 := hW3.size
 have hS : ∀ k, S k → k < w.heap.size := fun k hk => hb.lt hk
 have hS' : ∀ k, S' k → k < w3.heap.size := fun k hk => hF3.lt hk
 have nS : ∀ q, w.heap.size ≤ q → q < W.heap.size → ¬ S' q := fun q h0 h1' h => (h2 q h).elim (fun h => by have := hS q h; omega) (fun h => by omega)
 have e3 : w4.heap[w.heap.size + 1 + 1]? = some (.cells #[.int .i64 0, .int .i64 0, .slice none 0 0] 44 (0, 0)) := (h4.block _ (by omega)).trans ((hW3.2 _ (by omega) (fun h => by have := hS _ h; omega)).trans x5)
 have e4 : w4.heap[w.heap.size + 1 + 1 + 1]? = some (.cells #[.int .i64 (room : Int), .int .i64 last, .slice A L.length c] 44 (0, 0)) := (h4.block _ (by omega)).trans ((hW3.2 _ (by omega) (fun h => by have := hS _ h; omega)).trans x6)
 have n1 := nS (w.heap.size + 1 + 1) (by omega) (by omega)
 have n2 := nS (w.heap.size + 1 + 1 + 1) (by omega) (by omega)
 have f4 : ForS S' w4 fb n' room last' L' := hF3.keep h4
 have g4 : Wr S w w4 := (Wr.of_below x1).trans (hW3.step h4) (fun k hk => .inl hk)
 have m1 : ¬ w.heap.size + 1 + 1 = w.heap.size + 1 + 1 + 1 := by omega
 refine ⟨?_, ⟨(((((((f4.up hn).other n2 _).other n2 _).other n2 _).other n1 _).other n1 _).other n1 _), ⟨fun k => ((P k ∧ k < w.heap.size) ∨ w3.heap.size ≤ k), ⟨A', c', rfl, ?_⟩, ?_⟩, h1, fun k hk => (h2 k hk).elim .inl (fun h => .inr (by omega)), hG', hl1, hl2, (((((g4.set (p := ⟨w.heap.size + 1 + 1 + 1, 0, none⟩) (.inr (by show w.heap.size ≤ w.heap.size + 1 + 1 + 1; omega)) _).set (p := ⟨w.heap.size + 1 + 1 + 1, 1, none⟩) (.inr (by show w.heap.size ≤ w.heap.size + 1 + 1 + 1; omega)) _).set (p := ⟨w.heap.size + 1 + 1 + 1, 2, none⟩) (.inr (by show w.heap.size ≤ w.heap.size + 1 + 1 + 1; omega)) _).set (p := ⟨w.heap.size + 1 + 1, 0, none⟩) (.inr (by show w.heap.size ≤ w.heap.size + 1 + 1; omega)) _).set (p := ⟨w.heap.size + 1 + 1, 1, none⟩) (.inr (by show w.heap.size ≤ w.heap.size + 1 + 1; omega)) _).set (p := ⟨w.heap.size + 1 + 1, 2, none⟩) (.inr (by show w.heap.size ≤ w.heap.size + 1 + 1; omega)) _⟩⟩
 ·
  have q0 := fun (X : World) (i : Nat) (u : Value) (h : X.heap[w.heap.size + 1 + 1]? = some (.cells #[.int .i64 0, .int .i64 0, .slice none 0 0] 44 (0, 0))) => (Below.heap_setCell X ⟨w.heap.size + 1 + 1 + 1, i, none⟩ u (w.heap.size + 1 + 1) m1).trans h
  exact zau (zau (zau (q0 _ 2 _ (q0 _ 1 _ (q0 _ 0 _ e3))) 0 _ rfl) 1 _ rfl) 2 _ rfl
 ·
  refine Kd.V_far (p := ⟨w.heap.size + 1 + 1, 2, none⟩) (Kd.V_far (p := ⟨w.heap.size + 1 + 1, 1, none⟩) (Kd.V_far (p := ⟨w.heap.size + 1 + 1, 0, none⟩) (Kd.V_far (p := ⟨w.heap.size + 1 + 1 + 1, 2, none⟩) (Kd.V_far (p := ⟨w.heap.size + 1 + 1 + 1, 1, none⟩) (Kd.V_far (p := ⟨w.heap.size + 1 + 1 + 1, 0, none⟩) hv4 (fun k hk => ?_) _) (fun k hk => ?_) _) (fun k hk => ?_) _) (fun k hk => ?_) _) (fun k hk => ?_) _) (fun k hk => ?_) _
  all_goals
   dsimp only
   omega
 ·
  intro k hk
  refine ⟨hk.elim (fun h => .inl h.1) (fun h => .inr (by omega)), fun hs => ?_⟩
  rcases hk with h | h
  ·
   exact (h2 k hs).elim (fun h' => hP k h.1 h') (fun h' => by omega)
  ·
   have := hS' k hs
   omega
theorem do_0 {S P : Nat → Prop} {w : World} {v : Value} {fb n room : Nat} {last : Int} {L : List S84} (hb : ForS S w fb n room last L) (hr : RefF w P v room last L) (hP : ∀ k, P k → ¬ S k) (hG : GoodF room last L) (hnn : n < 900000) (h9 : last < 99999) (k gg nn : Int) (hk : k.tmod 9 = 0) (wf1 : (Lit.int .i64 gg).wf = true) (wf2 : (Lit.int .i64 nn).wf = true) :
  Calls Try.prog 18 #[.pointer (some ⟨fb, 0, none⟩), v, .agg #[.int .u8 k, .int .i64 gg, .int .i64 nn]] w fun e w' => ∃ v' last' L' S', e = .returned (.tuple #[v', .bool true]) ∧ DoneS S S' P w w' fb n room last last' L' v' := by
 have d0 : (k.tmod 9 == 0) = true := beq_iff_eq.mpr hk
 have HB := Aside0.mk hb
 have HR := Aside0.mk hr
 have HP := Aside0.mk hP
 have HG := Aside0.mk hG
 obtain ⟨A, c, rfl, hv⟩ := hr
 clear hk hb hG hv hP
 go_enter Try.func18, Try.ntmps18
 go_wp2_with fail
 have hX := Boxes4.at w room last A L.length c k gg nn
 generalize (((w.alloc (.cells #[.int .i64 (room : Int), .int .i64 last, .slice A L.length c] 44)).alloc (.cells #[.int .u8 k, .int .i64 gg, .int .i64 nn] 48)).alloc (.cells #[.int .i64 0, .int .i64 0, .slice none 0 0] 44)).alloc (.cells #[.int .i64 (room : Int), .int .i64 last, .slice A L.length c] 44) = W at hX ⊢
 have HX := Aside0.mk hX
 have hF0 := HB.out.keep hX.1
 have hR0 := HR.out.old hX.1
 clear hX
 refine (forS_Root hF0 HG.out (by omega)).mono ?_
 rintro e w3 ⟨rfl, hst⟩
 obtain ⟨S', hF3, hs1, hs2, hW3⟩ := hst
 have HF3 := Aside0.mk hF3
 have HS1 := Aside0.mk hs1
 have HS2 := Aside0.mk hs2
 have HW3 := Aside0.mk hW3
 have hSl : ∀ k, S k → k < w.heap.size := fun k hk => HB.out.lt hk
 have HR3 := Aside0.mk (hR0.step (w' := w3) fun k hk hl => hW3.2 k hl fun h => HP.out k hk.1 h)
 have hbx : ∀ q, w.heap.size ≤ q → q < W.heap.size → w3.heap[q]? = W.heap[q]? := fun q h0 h1 => hW3.2 q h1 fun h => by have := hSl q h; omega
 have hsW := HX.out.2.1
 have e0 := (hbx w.heap.size (by omega) (by omega)).trans HX.out.2.2.1
 have e1 := (hbx (w.heap.size + 1) (by omega) (by omega)).trans HX.out.2.2.2.1
 have e2 := (hbx (w.heap.size + 1 + 1) (by omega) (by omega)).trans HX.out.2.2.2.2.1
 have e3 := (hbx (w.heap.size + 1 + 1 + 1) (by omega) (by omega)).trans HX.out.2.2.2.2.2
 have p0 : w3.cell? ⟨w.heap.size, 0, none⟩ = some (.int .i64 (room : Int)) := (za e0 0).trans rfl
 have p1 : w3.cell? ⟨w.heap.size, 1, none⟩ = some (.int .i64 last) := (za e0 1).trans rfl
 have p2 : w3.cell? ⟨w.heap.size, 2, none⟩ = some (.slice A L.length c) := (za e0 2).trans rfl
 have a1 : w3.cell? ⟨w.heap.size + 1, 1, none⟩ = some (.int .i64 gg) := (za e1 1).trans rfl
 have a2 : w3.cell? ⟨w.heap.size + 1, 2, none⟩ = some (.int .i64 nn) := (za e1 2).trans rfl
 have HE2 := Aside0.mk e2
 have HE3 := Aside0.mk e3
 have HSL := Aside0.mk hSl
 clear hF3 hs1 hs2 hW3 hSl hbx e0 e1 e2 e3 hR0 hF0
 go_wp2_with fail
 clear p0 p1 p2 a1 a2
 refine (call_AddRoot HR3.out HG.out).mono ?_
 rintro e w4 ⟨v', rfl, hr4, hb4⟩
 obtain ⟨A', c', rfl, hv4⟩ := hr4
 have HV4 := Aside0.mk hv4
 have HB4 := Aside0.mk hb4
 have e2 := (hb4.block _ (zar HE2.out)).trans HE2.out
 have e3 := (hb4.block _ (zar HE3.out)).trans HE3.out
 have y0 : w4.cell? ⟨w.heap.size + 1 + 1, 0, none⟩ = some (.int .i64 0) := (za e2 0).trans rfl
 have y1 : w4.cell? ⟨w.heap.size + 1 + 1, 1, none⟩ = some (.int .i64 0) := (za e2 1).trans rfl
 have y2 : w4.cell? ⟨w.heap.size + 1 + 1, 2, none⟩ = some (.slice none 0 0) := (za e2 2).trans rfl
 have z0 := zaa e2 0
 have z1 := zaa e2 1
 have z2 := zaa e2 2
 have n0 : w4.cell? ⟨w.heap.size + 1 + 1 + 1, 0, none⟩ = some (.int .i64 (room : Int)) := (za e3 0).trans rfl
 have n1 : w4.cell? ⟨w.heap.size + 1 + 1 + 1, 1, none⟩ = some (.int .i64 last) := (za e3 1).trans rfl
 have n2 : w4.cell? ⟨w.heap.size + 1 + 1 + 1, 2, none⟩ = some (.slice A L.length c) := (za e3 2).trans rfl
 have m0 := zaa e3 0
 have m1 := zaa e3 1
 have m2 := zaa e3 2
 clear hv4 hb4 e2 e3
 go_wp2_with fail
 obtain ⟨r1, r2⟩ := do_end HB.out HX.out HP.out HF3.out (Nat.le_refl _) HS1.out HS2.out HW3.out HB4.out (rootF_good HG.out h9).1 (rootF_good HG.out h9).2.1 (rootF_good HG.out h9).2.2 HV4.out
 exact bodyPost_ret (zav rfl _ _ (w.heap.size + 1 + 1) 44 #[.int .i64 (room : Int), .int .i64 _, .slice A' _ c'] (0, 0) _ rfl r1 Try.underlying44 rfl (by kernel_rfl)) rfl ⟨_, _, _, _, rfl, r2⟩
theorem do_1 {S P : Nat → Prop} {w : World} {v : Value} {fb n room : Nat} {last : Int} {L : List S84} (hb : ForS S w fb n room last L) (hr : RefF w P v room last L) (hP : ∀ k, P k → ¬ S k) (hG : GoodF room last L) (hnn : n < 900000) (h9 : last < 99999) (k gg nn : Int) (hk : k.tmod 9 = 1) (wf1 : (Lit.int .i64 gg).wf = true) (wf2 : (Lit.int .i64 nn).wf = true) :
  Calls Try.prog 18 #[.pointer (some ⟨fb, 0, none⟩), v, .agg #[.int .u8 k, .int .i64 gg, .int .i64 nn]] w fun e w' => ∃ v' last' L' S', e = .returned (.tuple #[v', .bool true]) ∧ DoneS S S' P w w' fb n room last last' L' v' := by
 have d0 : (k.tmod 9 == 0) = false := beq_eq_false_iff_ne.mpr (by omega)
 have d1 : (k.tmod 9 == 1) = true := beq_iff_eq.mpr hk
 have HB := Aside0.mk hb
 have HR := Aside0.mk hr
 have HP := Aside0.mk hP
 have HG := Aside0.mk hG
 obtain ⟨A, c, rfl, hv⟩ := hr
 clear hk hb hG hv hP
 go_enter Try.func18, Try.ntmps18
 go_wp2_with fail
 have hX := Boxes4.at w room last A L.length c k gg nn
 generalize (((w.alloc (.cells #[.int .i64 (room : Int), .int .i64 last, .slice A L.length c] 44)).alloc (.cells #[.int .u8 k, .int .i64 gg, .int .i64 nn] 48)).alloc (.cells #[.int .i64 0, .int .i64 0, .slice none 0 0] 44)).alloc (.cells #[.int .i64 (room : Int), .int .i64 last, .slice A L.length c] 44) = W at hX ⊢
 have HX := Aside0.mk hX
 have hF0 := HB.out.keep hX.1
 have hR0 := HR.out.old hX.1
 clear hX
 refine (forS_Add hF0 HG.out (by omega) nn wf1).mono ?_
 rintro e w3 ⟨rfl, hst⟩
 obtain ⟨S', hF3, hs1, hs2, hW3⟩ := hst
 have HF3 := Aside0.mk hF3
 have HS1 := Aside0.mk hs1
 have HS2 := Aside0.mk hs2
 have HW3 := Aside0.mk hW3
 have hSl : ∀ k, S k → k < w.heap.size := fun k hk => HB.out.lt hk
 have HR3 := Aside0.mk (hR0.step (w' := w3) fun k hk hl => hW3.2 k hl fun h => HP.out k hk.1 h)
 have hbx : ∀ q, w.heap.size ≤ q → q < W.heap.size → w3.heap[q]? = W.heap[q]? := fun q h0 h1 => hW3.2 q h1 fun h => by have := hSl q h; omega
 have hsW := HX.out.2.1
 have e0 := (hbx w.heap.size (by omega) (by omega)).trans HX.out.2.2.1
 have e1 := (hbx (w.heap.size + 1) (by omega) (by omega)).trans HX.out.2.2.2.1
 have e2 := (hbx (w.heap.size + 1 + 1) (by omega) (by omega)).trans HX.out.2.2.2.2.1
 have e3 := (hbx (w.heap.size + 1 + 1 + 1) (by omega) (by omega)).trans HX.out.2.2.2.2.2
 have p0 : w3.cell? ⟨w.heap.size, 0, none⟩ = some (.int .i64 (room : Int)) := (za e0 0).trans rfl
 have p1 : w3.cell? ⟨w.heap.size, 1, none⟩ = some (.int .i64 last) := (za e0 1).trans rfl
 have p2 : w3.cell? ⟨w.heap.size, 2, none⟩ = some (.slice A L.length c) := (za e0 2).trans rfl
 have a1 : w3.cell? ⟨w.heap.size + 1, 1, none⟩ = some (.int .i64 gg) := (za e1 1).trans rfl
 have a2 : w3.cell? ⟨w.heap.size + 1, 2, none⟩ = some (.int .i64 nn) := (za e1 2).trans rfl
 have HE2 := Aside0.mk e2
 have HE3 := Aside0.mk e3
 have HSL := Aside0.mk hSl
 clear hF3 hs1 hs2 hW3 hSl hbx e0 e1 e2 e3 hR0 hF0
 go_wp2_with fail
 clear p0 p1 p2 a1 a2
 refine (call_Add HR3.out HG.out gg nn).mono ?_
 rintro e w4 ⟨v', rfl, hr4, hb4⟩
 obtain ⟨A', c', rfl, hv4⟩ := hr4
 have HV4 := Aside0.mk hv4
 have HB4 := Aside0.mk hb4
 have e2 := (hb4.block _ (zar HE2.out)).trans HE2.out
 have e3 := (hb4.block _ (zar HE3.out)).trans HE3.out
 have y0 : w4.cell? ⟨w.heap.size + 1 + 1, 0, none⟩ = some (.int .i64 0) := (za e2 0).trans rfl
 have y1 : w4.cell? ⟨w.heap.size + 1 + 1, 1, none⟩ = some (.int .i64 0) := (za e2 1).trans rfl
 have y2 : w4.cell? ⟨w.heap.size + 1 + 1, 2, none⟩ = some (.slice none 0 0) := (za e2 2).trans rfl
 have z0 := zaa e2 0
 have z1 := zaa e2 1
 have z2 := zaa e2 2
 have n0 : w4.cell? ⟨w.heap.size + 1 + 1 + 1, 0, none⟩ = some (.int .i64 (room : Int)) := (za e3 0).trans rfl
 have n1 : w4.cell? ⟨w.heap.size + 1 + 1 + 1, 1, none⟩ = some (.int .i64 last) := (za e3 1).trans rfl
 have n2 : w4.cell? ⟨w.heap.size + 1 + 1 + 1, 2, none⟩ = some (.slice A L.length c) := (za e3 2).trans rfl
 have m0 := zaa e3 0
 have m1 := zaa e3 1
 have m2 := zaa e3 2
 clear hv4 hb4 e2 e3
 go_wp2_with fail
 obtain ⟨r1, r2⟩ := do_end HB.out HX.out HP.out HF3.out (Nat.le_refl _) HS1.out HS2.out HW3.out HB4.out (addF_good HG.out h9 gg nn).1 (addF_good HG.out h9 gg nn).2.1 (addF_good HG.out h9 gg nn).2.2 HV4.out
 exact bodyPost_ret (zav rfl _ _ (w.heap.size + 1 + 1) 44 #[.int .i64 (room : Int), .int .i64 _, .slice A' _ c'] (0, 0) _ rfl r1 Try.underlying44 rfl (by kernel_rfl)) rfl ⟨_, _, _, _, rfl, r2⟩
theorem do_2 {S P : Nat → Prop} {w : World} {v : Value} {fb n room : Nat} {last : Int} {L : List S84} (hb : ForS S w fb n room last L) (hr : RefF w P v room last L) (hP : ∀ k, P k → ¬ S k) (hG : GoodF room last L) (hnn : n < 900000) (h9 : last < 99999) (k gg nn : Int) (hk : k.tmod 9 = 2) (wf1 : (Lit.int .i64 gg).wf = true) (wf2 : (Lit.int .i64 nn).wf = true) :
  Calls Try.prog 18 #[.pointer (some ⟨fb, 0, none⟩), v, .agg #[.int .u8 k, .int .i64 gg, .int .i64 nn]] w fun e w' => ∃ v' last' L' S', e = .returned (.tuple #[v', .bool true]) ∧ DoneS S S' P w w' fb n room last last' L' v' := by
 have d0 : (k.tmod 9 == 0) = false := beq_eq_false_iff_ne.mpr (by omega)
 have d1 : (k.tmod 9 == 1) = false := beq_eq_false_iff_ne.mpr (by omega)
 have d2 : (k.tmod 9 == 2) = true := beq_iff_eq.mpr hk
 have HB := Aside0.mk hb
 have HR := Aside0.mk hr
 have HP := Aside0.mk hP
 have HG := Aside0.mk hG
 obtain ⟨A, c, rfl, hv⟩ := hr
 clear hk hb hG hv hP
 go_enter Try.func18, Try.ntmps18
 go_wp2_with fail
 have hX := Boxes4.at w room last A L.length c k gg nn
 generalize (((w.alloc (.cells #[.int .i64 (room : Int), .int .i64 last, .slice A L.length c] 44)).alloc (.cells #[.int .u8 k, .int .i64 gg, .int .i64 nn] 48)).alloc (.cells #[.int .i64 0, .int .i64 0, .slice none 0 0] 44)).alloc (.cells #[.int .i64 (room : Int), .int .i64 last, .slice A L.length c] 44) = W at hX ⊢
 have HX := Aside0.mk hX
 have hF0 := HB.out.keep hX.1
 have hR0 := HR.out.old hX.1
 clear hX
 refine (forS_Drop hF0 HG.out wf1).mono ?_
 rintro e w3 ⟨rfl, hst⟩
 obtain ⟨S', hF3, hs1, hs2, hW3⟩ := hst
 have HF3 := Aside0.mk hF3
 have HS1 := Aside0.mk hs1
 have HS2 := Aside0.mk hs2
 have HW3 := Aside0.mk hW3
 have hSl : ∀ k, S k → k < w.heap.size := fun k hk => HB.out.lt hk
 have HR3 := Aside0.mk (hR0.step (w' := w3) fun k hk hl => hW3.2 k hl fun h => HP.out k hk.1 h)
 have hbx : ∀ q, w.heap.size ≤ q → q < W.heap.size → w3.heap[q]? = W.heap[q]? := fun q h0 h1 => hW3.2 q h1 fun h => by have := hSl q h; omega
 have hsW := HX.out.2.1
 have e0 := (hbx w.heap.size (by omega) (by omega)).trans HX.out.2.2.1
 have e1 := (hbx (w.heap.size + 1) (by omega) (by omega)).trans HX.out.2.2.2.1
 have e2 := (hbx (w.heap.size + 1 + 1) (by omega) (by omega)).trans HX.out.2.2.2.2.1
 have e3 := (hbx (w.heap.size + 1 + 1 + 1) (by omega) (by omega)).trans HX.out.2.2.2.2.2
 have p0 : w3.cell? ⟨w.heap.size, 0, none⟩ = some (.int .i64 (room : Int)) := (za e0 0).trans rfl
 have p1 : w3.cell? ⟨w.heap.size, 1, none⟩ = some (.int .i64 last) := (za e0 1).trans rfl
 have p2 : w3.cell? ⟨w.heap.size, 2, none⟩ = some (.slice A L.length c) := (za e0 2).trans rfl
 have a1 : w3.cell? ⟨w.heap.size + 1, 1, none⟩ = some (.int .i64 gg) := (za e1 1).trans rfl
 have a2 : w3.cell? ⟨w.heap.size + 1, 2, none⟩ = some (.int .i64 nn) := (za e1 2).trans rfl
 have HE2 := Aside0.mk e2
 have HE3 := Aside0.mk e3
 have HSL := Aside0.mk hSl
 clear hF3 hs1 hs2 hW3 hSl hbx e0 e1 e2 e3 hR0 hF0
 go_wp2_with fail
 clear p0 p1 p2 a1 a2
 refine (call_Drop HR3.out HG.out gg).mono ?_
 rintro e w4 ⟨v', rfl, hr4, hb4⟩
 obtain ⟨A', c', rfl, hv4⟩ := hr4
 have HV4 := Aside0.mk hv4
 have HB4 := Aside0.mk hb4
 have e2 := (hb4.block _ (zar HE2.out)).trans HE2.out
 have e3 := (hb4.block _ (zar HE3.out)).trans HE3.out
 have y0 : w4.cell? ⟨w.heap.size + 1 + 1, 0, none⟩ = some (.int .i64 0) := (za e2 0).trans rfl
 have y1 : w4.cell? ⟨w.heap.size + 1 + 1, 1, none⟩ = some (.int .i64 0) := (za e2 1).trans rfl
 have y2 : w4.cell? ⟨w.heap.size + 1 + 1, 2, none⟩ = some (.slice none 0 0) := (za e2 2).trans rfl
 have z0 := zaa e2 0
 have z1 := zaa e2 1
 have z2 := zaa e2 2
 have n0 : w4.cell? ⟨w.heap.size + 1 + 1 + 1, 0, none⟩ = some (.int .i64 (room : Int)) := (za e3 0).trans rfl
 have n1 : w4.cell? ⟨w.heap.size + 1 + 1 + 1, 1, none⟩ = some (.int .i64 last) := (za e3 1).trans rfl
 have n2 : w4.cell? ⟨w.heap.size + 1 + 1 + 1, 2, none⟩ = some (.slice A L.length c) := (za e3 2).trans rfl
 have m0 := zaa e3 0
 have m1 := zaa e3 1
 have m2 := zaa e3 2
 clear hv4 hb4 e2 e3
 go_wp2_with fail
 obtain ⟨r1, r2⟩ := do_end HB.out HX.out HP.out HF3.out (Nat.le_succ _) HS1.out HS2.out HW3.out HB4.out (drpF_good HG.out gg) (Int.le_refl _) (by omega) HV4.out
 exact bodyPost_ret (zav rfl _ _ (w.heap.size + 1 + 1) 44 #[.int .i64 (room : Int), .int .i64 last, .slice A' _ c'] (0, 0) _ rfl r1 Try.underlying44 rfl (by kernel_rfl)) rfl ⟨_, _, _, _, rfl, r2⟩
theorem do_3 {S P : Nat → Prop} {w : World} {v : Value} {fb n room : Nat} {last : Int} {L : List S84} (hb : ForS S w fb n room last L) (hr : RefF w P v room last L) (hP : ∀ k, P k → ¬ S k) (hG : GoodF room last L) (hnn : n < 900000) (h9 : last < 99999) (k gg nn : Int) (hk : k.tmod 9 = 3) (wf1 : (Lit.int .i64 gg).wf = true) (wf2 : (Lit.int .i64 nn).wf = true) :
  Calls Try.prog 18 #[.pointer (some ⟨fb, 0, none⟩), v, .agg #[.int .u8 k, .int .i64 gg, .int .i64 nn]] w fun e w' => ∃ v' last' L' S', e = .returned (.tuple #[v', .bool true]) ∧ DoneS S S' P w w' fb n room last last' L' v' := by
 have d0 : (k.tmod 9 == 0) = false := beq_eq_false_iff_ne.mpr (by omega)
 have d1 : (k.tmod 9 == 1) = false := beq_eq_false_iff_ne.mpr (by omega)
 have d2 : (k.tmod 9 == 2) = false := beq_eq_false_iff_ne.mpr (by omega)
 have d3 : (k.tmod 9 == 3) = true := beq_iff_eq.mpr hk
 have HB := Aside0.mk hb
 have HR := Aside0.mk hr
 have HP := Aside0.mk hP
 have HG := Aside0.mk hG
 obtain ⟨A, c, rfl, hv⟩ := hr
 clear hk hb hG hv hP
 go_enter Try.func18, Try.ntmps18
 go_wp2_with fail
 have hX := Boxes4.at w room last A L.length c k gg nn
 generalize (((w.alloc (.cells #[.int .i64 (room : Int), .int .i64 last, .slice A L.length c] 44)).alloc (.cells #[.int .u8 k, .int .i64 gg, .int .i64 nn] 48)).alloc (.cells #[.int .i64 0, .int .i64 0, .slice none 0 0] 44)).alloc (.cells #[.int .i64 (room : Int), .int .i64 last, .slice A L.length c] 44) = W at hX ⊢
 have HX := Aside0.mk hX
 have hF0 := HB.out.keep hX.1
 have hR0 := HR.out.old hX.1
 clear hX
 refine (forS_Move hF0 HG.out wf1 wf2).mono ?_
 rintro e w3 ⟨rfl, hst⟩
 obtain ⟨S', hF3, hs1, hs2, hW3⟩ := hst
 have HF3 := Aside0.mk hF3
 have HS1 := Aside0.mk hs1
 have HS2 := Aside0.mk hs2
 have HW3 := Aside0.mk hW3
 have hSl : ∀ k, S k → k < w.heap.size := fun k hk => HB.out.lt hk
 have HR3 := Aside0.mk (hR0.step (w' := w3) fun k hk hl => hW3.2 k hl fun h => HP.out k hk.1 h)
 have hbx : ∀ q, w.heap.size ≤ q → q < W.heap.size → w3.heap[q]? = W.heap[q]? := fun q h0 h1 => hW3.2 q h1 fun h => by have := hSl q h; omega
 have hsW := HX.out.2.1
 have e0 := (hbx w.heap.size (by omega) (by omega)).trans HX.out.2.2.1
 have e1 := (hbx (w.heap.size + 1) (by omega) (by omega)).trans HX.out.2.2.2.1
 have e2 := (hbx (w.heap.size + 1 + 1) (by omega) (by omega)).trans HX.out.2.2.2.2.1
 have e3 := (hbx (w.heap.size + 1 + 1 + 1) (by omega) (by omega)).trans HX.out.2.2.2.2.2
 have p0 : w3.cell? ⟨w.heap.size, 0, none⟩ = some (.int .i64 (room : Int)) := (za e0 0).trans rfl
 have p1 : w3.cell? ⟨w.heap.size, 1, none⟩ = some (.int .i64 last) := (za e0 1).trans rfl
 have p2 : w3.cell? ⟨w.heap.size, 2, none⟩ = some (.slice A L.length c) := (za e0 2).trans rfl
 have a1 : w3.cell? ⟨w.heap.size + 1, 1, none⟩ = some (.int .i64 gg) := (za e1 1).trans rfl
 have a2 : w3.cell? ⟨w.heap.size + 1, 2, none⟩ = some (.int .i64 nn) := (za e1 2).trans rfl
 have HE2 := Aside0.mk e2
 have HE3 := Aside0.mk e3
 have HSL := Aside0.mk hSl
 clear hF3 hs1 hs2 hW3 hSl hbx e0 e1 e2 e3 hR0 hF0
 go_wp2_with fail
 clear p0 p1 p2 a1 a2
 refine (call_Move HR3.out HG.out gg nn).mono ?_
 rintro e w4 ⟨v', rfl, hr4, hb4⟩
 obtain ⟨A', c', rfl, hv4⟩ := hr4
 have HV4 := Aside0.mk hv4
 have HB4 := Aside0.mk hb4
 have e2 := (hb4.block _ (zar HE2.out)).trans HE2.out
 have e3 := (hb4.block _ (zar HE3.out)).trans HE3.out
 have y0 : w4.cell? ⟨w.heap.size + 1 + 1, 0, none⟩ = some (.int .i64 0) := (za e2 0).trans rfl
 have y1 : w4.cell? ⟨w.heap.size + 1 + 1, 1, none⟩ = some (.int .i64 0) := (za e2 1).trans rfl
 have y2 : w4.cell? ⟨w.heap.size + 1 + 1, 2, none⟩ = some (.slice none 0 0) := (za e2 2).trans rfl
 have z0 := zaa e2 0
 have z1 := zaa e2 1
 have z2 := zaa e2 2
 have n0 : w4.cell? ⟨w.heap.size + 1 + 1 + 1, 0, none⟩ = some (.int .i64 (room : Int)) := (za e3 0).trans rfl
 have n1 : w4.cell? ⟨w.heap.size + 1 + 1 + 1, 1, none⟩ = some (.int .i64 last) := (za e3 1).trans rfl
 have n2 : w4.cell? ⟨w.heap.size + 1 + 1 + 1, 2, none⟩ = some (.slice A L.length c) := (za e3 2).trans rfl
 have m0 := zaa e3 0
 have m1 := zaa e3 1
 have m2 := zaa e3 2
 clear hv4 hb4 e2 e3
 go_wp2_with fail
 obtain ⟨r1, r2⟩ := do_end HB.out HX.out HP.out HF3.out (Nat.le_succ _) HS1.out HS2.out HW3.out HB4.out (movF_good HG.out gg nn) (Int.le_refl _) (by omega) HV4.out
 exact bodyPost_ret (zav rfl _ _ (w.heap.size + 1 + 1) 44 #[.int .i64 (room : Int), .int .i64 last, .slice A' _ c'] (0, 0) _ rfl r1 Try.underlying44 rfl (by kernel_rfl)) rfl ⟨_, _, _, _, rfl, r2⟩
theorem do_4 {S P : Nat → Prop} {w : World} {v : Value} {fb n room : Nat} {last : Int} {L : List S84} (hb : ForS S w fb n room last L) (hr : RefF w P v room last L) (hP : ∀ k, P k → ¬ S k) (hG : GoodF room last L) (hnn : n < 900000) (h9 : last < 99999) (k gg nn : Int) (hk : k.tmod 9 = 4) (wf1 : (Lit.int .i64 gg).wf = true) (wf2 : (Lit.int .i64 nn).wf = true) :
  Calls Try.prog 18 #[.pointer (some ⟨fb, 0, none⟩), v, .agg #[.int .u8 k, .int .i64 gg, .int .i64 nn]] w fun e w' => ∃ v' last' L' S', e = .returned (.tuple #[v', .bool true]) ∧ DoneS S S' P w w' fb n room last last' L' v' := by
 have d0 : (k.tmod 9 == 0) = false := beq_eq_false_iff_ne.mpr (by omega)
 have d1 : (k.tmod 9 == 1) = false := beq_eq_false_iff_ne.mpr (by omega)
 have d2 : (k.tmod 9 == 2) = false := beq_eq_false_iff_ne.mpr (by omega)
 have d3 : (k.tmod 9 == 3) = false := beq_eq_false_iff_ne.mpr (by omega)
 have d4 : (k.tmod 9 == 4) = true := beq_iff_eq.mpr hk
 have HB := Aside0.mk hb
 have HR := Aside0.mk hr
 have HP := Aside0.mk hP
 have HG := Aside0.mk hG
 obtain ⟨A, c, rfl, hv⟩ := hr
 clear hk hb hG hv hP
 go_enter Try.func18, Try.ntmps18
 go_wp2_with fail
 have hX := Boxes4.at w room last A L.length c k gg nn
 generalize (((w.alloc (.cells #[.int .i64 (room : Int), .int .i64 last, .slice A L.length c] 44)).alloc (.cells #[.int .u8 k, .int .i64 gg, .int .i64 nn] 48)).alloc (.cells #[.int .i64 0, .int .i64 0, .slice none 0 0] 44)).alloc (.cells #[.int .i64 (room : Int), .int .i64 last, .slice A L.length c] 44) = W at hX ⊢
 have HX := Aside0.mk hX
 have hF0 := HB.out.keep hX.1
 have hR0 := HR.out.old hX.1
 clear hX
 refine (forS_Weight hF0 HG.out nn wf1).mono ?_
 rintro e w3 ⟨rfl, hst⟩
 obtain ⟨S', hF3, hs1, hs2, hW3⟩ := hst
 have HF3 := Aside0.mk hF3
 have HS1 := Aside0.mk hs1
 have HS2 := Aside0.mk hs2
 have HW3 := Aside0.mk hW3
 have hSl : ∀ k, S k → k < w.heap.size := fun k hk => HB.out.lt hk
 have HR3 := Aside0.mk (hR0.step (w' := w3) fun k hk hl => hW3.2 k hl fun h => HP.out k hk.1 h)
 have hbx : ∀ q, w.heap.size ≤ q → q < W.heap.size → w3.heap[q]? = W.heap[q]? := fun q h0 h1 => hW3.2 q h1 fun h => by have := hSl q h; omega
 have hsW := HX.out.2.1
 have e0 := (hbx w.heap.size (by omega) (by omega)).trans HX.out.2.2.1
 have e1 := (hbx (w.heap.size + 1) (by omega) (by omega)).trans HX.out.2.2.2.1
 have e2 := (hbx (w.heap.size + 1 + 1) (by omega) (by omega)).trans HX.out.2.2.2.2.1
 have e3 := (hbx (w.heap.size + 1 + 1 + 1) (by omega) (by omega)).trans HX.out.2.2.2.2.2
 have p0 : w3.cell? ⟨w.heap.size, 0, none⟩ = some (.int .i64 (room : Int)) := (za e0 0).trans rfl
 have p1 : w3.cell? ⟨w.heap.size, 1, none⟩ = some (.int .i64 last) := (za e0 1).trans rfl
 have p2 : w3.cell? ⟨w.heap.size, 2, none⟩ = some (.slice A L.length c) := (za e0 2).trans rfl
 have a1 : w3.cell? ⟨w.heap.size + 1, 1, none⟩ = some (.int .i64 gg) := (za e1 1).trans rfl
 have a2 : w3.cell? ⟨w.heap.size + 1, 2, none⟩ = some (.int .i64 nn) := (za e1 2).trans rfl
 have HE2 := Aside0.mk e2
 have HE3 := Aside0.mk e3
 have HSL := Aside0.mk hSl
 clear hF3 hs1 hs2 hW3 hSl hbx e0 e1 e2 e3 hR0 hF0
 go_wp2_with fail
 clear p0 p1 p2 a1 a2
 refine (call_Weight HR3.out HG.out gg nn).mono ?_
 rintro e w4 ⟨v', rfl, hr4, hb4⟩
 obtain ⟨A', c', rfl, hv4⟩ := hr4
 have HV4 := Aside0.mk hv4
 have HB4 := Aside0.mk hb4
 have e2 := (hb4.block _ (zar HE2.out)).trans HE2.out
 have e3 := (hb4.block _ (zar HE3.out)).trans HE3.out
 have y0 : w4.cell? ⟨w.heap.size + 1 + 1, 0, none⟩ = some (.int .i64 0) := (za e2 0).trans rfl
 have y1 : w4.cell? ⟨w.heap.size + 1 + 1, 1, none⟩ = some (.int .i64 0) := (za e2 1).trans rfl
 have y2 : w4.cell? ⟨w.heap.size + 1 + 1, 2, none⟩ = some (.slice none 0 0) := (za e2 2).trans rfl
 have z0 := zaa e2 0
 have z1 := zaa e2 1
 have z2 := zaa e2 2
 have n0 : w4.cell? ⟨w.heap.size + 1 + 1 + 1, 0, none⟩ = some (.int .i64 (room : Int)) := (za e3 0).trans rfl
 have n1 : w4.cell? ⟨w.heap.size + 1 + 1 + 1, 1, none⟩ = some (.int .i64 last) := (za e3 1).trans rfl
 have n2 : w4.cell? ⟨w.heap.size + 1 + 1 + 1, 2, none⟩ = some (.slice A L.length c) := (za e3 2).trans rfl
 have m0 := zaa e3 0
 have m1 := zaa e3 1
 have m2 := zaa e3 2
 clear hv4 hb4 e2 e3
 go_wp2_with fail
 obtain ⟨r1, r2⟩ := do_end HB.out HX.out HP.out HF3.out (Nat.le_succ _) HS1.out HS2.out HW3.out HB4.out (wgtF_good HG.out gg nn) (Int.le_refl _) (by omega) HV4.out
 exact bodyPost_ret (zav rfl _ _ (w.heap.size + 1 + 1) 44 #[.int .i64 (room : Int), .int .i64 last, .slice A' _ c'] (0, 0) _ rfl r1 Try.underlying44 rfl (by kernel_rfl)) rfl ⟨_, _, _, _, rfl, r2⟩
theorem do_5 {S P : Nat → Prop} {w : World} {v : Value} {fb n room : Nat} {last : Int} {L : List S84} (hb : ForS S w fb n room last L) (hr : RefF w P v room last L) (hP : ∀ k, P k → ¬ S k) (hG : GoodF room last L) (hnn : n < 900000) (h9 : last < 99999) (k gg nn : Int) (hk : k.tmod 9 = 5) (wf1 : (Lit.int .i64 gg).wf = true) (wf2 : (Lit.int .i64 nn).wf = true) :
  Calls Try.prog 18 #[.pointer (some ⟨fb, 0, none⟩), v, .agg #[.int .u8 k, .int .i64 gg, .int .i64 nn]] w fun e w' => ∃ v' last' L' S', e = .returned (.tuple #[v', .bool true]) ∧ DoneS S S' P w w' fb n room last last' L' v' := by
 have d0 : (k.tmod 9 == 0) = false := beq_eq_false_iff_ne.mpr (by omega)
 have d1 : (k.tmod 9 == 1) = false := beq_eq_false_iff_ne.mpr (by omega)
 have d2 : (k.tmod 9 == 2) = false := beq_eq_false_iff_ne.mpr (by omega)
 have d3 : (k.tmod 9 == 3) = false := beq_eq_false_iff_ne.mpr (by omega)
 have d4 : (k.tmod 9 == 4) = false := beq_eq_false_iff_ne.mpr (by omega)
 have d5 : (k.tmod 9 == 5) = true := beq_iff_eq.mpr hk
 have HB := Aside0.mk hb
 have HR := Aside0.mk hr
 have HP := Aside0.mk hP
 have HG := Aside0.mk hG
 obtain ⟨A, c, rfl, hv⟩ := hr
 clear hk hb hG hv hP
 go_enter Try.func18, Try.ntmps18
 go_wp2_with fail
 have hX := Boxes4.at w room last A L.length c k gg nn
 generalize (((w.alloc (.cells #[.int .i64 (room : Int), .int .i64 last, .slice A L.length c] 44)).alloc (.cells #[.int .u8 k, .int .i64 gg, .int .i64 nn] 48)).alloc (.cells #[.int .i64 0, .int .i64 0, .slice none 0 0] 44)).alloc (.cells #[.int .i64 (room : Int), .int .i64 last, .slice A L.length c] 44) = W at hX ⊢
 have HX := Aside0.mk hX
 have hF0 := HB.out.keep hX.1
 have hR0 := HR.out.old hX.1
 clear hX
 refine (forS_Join hF0 HG.out wf1).mono ?_
 rintro e w3 ⟨rfl, hst⟩
 obtain ⟨S', hF3, hs1, hs2, hW3⟩ := hst
 have HF3 := Aside0.mk hF3
 have HS1 := Aside0.mk hs1
 have HS2 := Aside0.mk hs2
 have HW3 := Aside0.mk hW3
 have hSl : ∀ k, S k → k < w.heap.size := fun k hk => HB.out.lt hk
 have HR3 := Aside0.mk (hR0.step (w' := w3) fun k hk hl => hW3.2 k hl fun h => HP.out k hk.1 h)
 have hbx : ∀ q, w.heap.size ≤ q → q < W.heap.size → w3.heap[q]? = W.heap[q]? := fun q h0 h1 => hW3.2 q h1 fun h => by have := hSl q h; omega
 have hsW := HX.out.2.1
 have e0 := (hbx w.heap.size (by omega) (by omega)).trans HX.out.2.2.1
 have e1 := (hbx (w.heap.size + 1) (by omega) (by omega)).trans HX.out.2.2.2.1
 have e2 := (hbx (w.heap.size + 1 + 1) (by omega) (by omega)).trans HX.out.2.2.2.2.1
 have e3 := (hbx (w.heap.size + 1 + 1 + 1) (by omega) (by omega)).trans HX.out.2.2.2.2.2
 have p0 : w3.cell? ⟨w.heap.size, 0, none⟩ = some (.int .i64 (room : Int)) := (za e0 0).trans rfl
 have p1 : w3.cell? ⟨w.heap.size, 1, none⟩ = some (.int .i64 last) := (za e0 1).trans rfl
 have p2 : w3.cell? ⟨w.heap.size, 2, none⟩ = some (.slice A L.length c) := (za e0 2).trans rfl
 have a1 : w3.cell? ⟨w.heap.size + 1, 1, none⟩ = some (.int .i64 gg) := (za e1 1).trans rfl
 have a2 : w3.cell? ⟨w.heap.size + 1, 2, none⟩ = some (.int .i64 nn) := (za e1 2).trans rfl
 have HE2 := Aside0.mk e2
 have HE3 := Aside0.mk e3
 have HSL := Aside0.mk hSl
 clear hF3 hs1 hs2 hW3 hSl hbx e0 e1 e2 e3 hR0 hF0
 go_wp2_with fail
 clear p0 p1 p2 a1 a2
 refine (call_Count HR3.out HG.out gg 1 0 (by decide) (by decide)).mono ?_
 rintro e w4 ⟨v', rfl, hr4, hb4⟩
 obtain ⟨A', c', rfl, hv4⟩ := hr4
 have HV4 := Aside0.mk hv4
 have HB4 := Aside0.mk hb4
 have e2 := (hb4.block _ (zar HE2.out)).trans HE2.out
 have e3 := (hb4.block _ (zar HE3.out)).trans HE3.out
 have y0 : w4.cell? ⟨w.heap.size + 1 + 1, 0, none⟩ = some (.int .i64 0) := (za e2 0).trans rfl
 have y1 : w4.cell? ⟨w.heap.size + 1 + 1, 1, none⟩ = some (.int .i64 0) := (za e2 1).trans rfl
 have y2 : w4.cell? ⟨w.heap.size + 1 + 1, 2, none⟩ = some (.slice none 0 0) := (za e2 2).trans rfl
 have z0 := zaa e2 0
 have z1 := zaa e2 1
 have z2 := zaa e2 2
 have n0 : w4.cell? ⟨w.heap.size + 1 + 1 + 1, 0, none⟩ = some (.int .i64 (room : Int)) := (za e3 0).trans rfl
 have n1 : w4.cell? ⟨w.heap.size + 1 + 1 + 1, 1, none⟩ = some (.int .i64 last) := (za e3 1).trans rfl
 have n2 : w4.cell? ⟨w.heap.size + 1 + 1 + 1, 2, none⟩ = some (.slice A L.length c) := (za e3 2).trans rfl
 have m0 := zaa e3 0
 have m1 := zaa e3 1
 have m2 := zaa e3 2
 clear hv4 hb4 e2 e3
 go_wp2_with fail
 obtain ⟨r1, r2⟩ := do_end HB.out HX.out HP.out HF3.out (Nat.le_succ _) HS1.out HS2.out HW3.out HB4.out (cntF_good HG.out gg 1 0 (by decide)) (Int.le_refl _) (by omega) HV4.out
 exact bodyPost_ret (zav rfl _ _ (w.heap.size + 1 + 1) 44 #[.int .i64 (room : Int), .int .i64 last, .slice A' _ c'] (0, 0) _ rfl r1 Try.underlying44 rfl (by kernel_rfl)) rfl ⟨_, _, _, _, rfl, r2⟩
theorem do_6 {S P : Nat → Prop} {w : World} {v : Value} {fb n room : Nat} {last : Int} {L : List S84} (hb : ForS S w fb n room last L) (hr : RefF w P v room last L) (hP : ∀ k, P k → ¬ S k) (hG : GoodF room last L) (hnn : n < 900000) (h9 : last < 99999) (k gg nn : Int) (hk : k.tmod 9 = 6) (wf1 : (Lit.int .i64 gg).wf = true) (wf2 : (Lit.int .i64 nn).wf = true) :
  Calls Try.prog 18 #[.pointer (some ⟨fb, 0, none⟩), v, .agg #[.int .u8 k, .int .i64 gg, .int .i64 nn]] w fun e w' => ∃ v' last' L' S', e = .returned (.tuple #[v', .bool true]) ∧ DoneS S S' P w w' fb n room last last' L' v' := by
 have d0 : (k.tmod 9 == 0) = false := beq_eq_false_iff_ne.mpr (by omega)
 have d1 : (k.tmod 9 == 1) = false := beq_eq_false_iff_ne.mpr (by omega)
 have d2 : (k.tmod 9 == 2) = false := beq_eq_false_iff_ne.mpr (by omega)
 have d3 : (k.tmod 9 == 3) = false := beq_eq_false_iff_ne.mpr (by omega)
 have d4 : (k.tmod 9 == 4) = false := beq_eq_false_iff_ne.mpr (by omega)
 have d5 : (k.tmod 9 == 5) = false := beq_eq_false_iff_ne.mpr (by omega)
 have d6 : (k.tmod 9 == 6) = true := beq_iff_eq.mpr hk
 have HB := Aside0.mk hb
 have HR := Aside0.mk hr
 have HP := Aside0.mk hP
 have HG := Aside0.mk hG
 obtain ⟨A, c, rfl, hv⟩ := hr
 clear hk hb hG hv hP
 go_enter Try.func18, Try.ntmps18
 go_wp2_with fail
 have hX := Boxes4.at w room last A L.length c k gg nn
 generalize (((w.alloc (.cells #[.int .i64 (room : Int), .int .i64 last, .slice A L.length c] 44)).alloc (.cells #[.int .u8 k, .int .i64 gg, .int .i64 nn] 48)).alloc (.cells #[.int .i64 0, .int .i64 0, .slice none 0 0] 44)).alloc (.cells #[.int .i64 (room : Int), .int .i64 last, .slice A L.length c] 44) = W at hX ⊢
 have HX := Aside0.mk hX
 have hF0 := HB.out.keep hX.1
 have hR0 := HR.out.old hX.1
 clear hX
 refine (forS_Leave hF0 HG.out wf1).mono ?_
 rintro e w3 ⟨rfl, hst⟩
 obtain ⟨S', hF3, hs1, hs2, hW3⟩ := hst
 have HF3 := Aside0.mk hF3
 have HS1 := Aside0.mk hs1
 have HS2 := Aside0.mk hs2
 have HW3 := Aside0.mk hW3
 have hSl : ∀ k, S k → k < w.heap.size := fun k hk => HB.out.lt hk
 have HR3 := Aside0.mk (hR0.step (w' := w3) fun k hk hl => hW3.2 k hl fun h => HP.out k hk.1 h)
 have hbx : ∀ q, w.heap.size ≤ q → q < W.heap.size → w3.heap[q]? = W.heap[q]? := fun q h0 h1 => hW3.2 q h1 fun h => by have := hSl q h; omega
 have hsW := HX.out.2.1
 have e0 := (hbx w.heap.size (by omega) (by omega)).trans HX.out.2.2.1
 have e1 := (hbx (w.heap.size + 1) (by omega) (by omega)).trans HX.out.2.2.2.1
 have e2 := (hbx (w.heap.size + 1 + 1) (by omega) (by omega)).trans HX.out.2.2.2.2.1
 have e3 := (hbx (w.heap.size + 1 + 1 + 1) (by omega) (by omega)).trans HX.out.2.2.2.2.2
 have p0 : w3.cell? ⟨w.heap.size, 0, none⟩ = some (.int .i64 (room : Int)) := (za e0 0).trans rfl
 have p1 : w3.cell? ⟨w.heap.size, 1, none⟩ = some (.int .i64 last) := (za e0 1).trans rfl
 have p2 : w3.cell? ⟨w.heap.size, 2, none⟩ = some (.slice A L.length c) := (za e0 2).trans rfl
 have a1 : w3.cell? ⟨w.heap.size + 1, 1, none⟩ = some (.int .i64 gg) := (za e1 1).trans rfl
 have a2 : w3.cell? ⟨w.heap.size + 1, 2, none⟩ = some (.int .i64 nn) := (za e1 2).trans rfl
 have HE2 := Aside0.mk e2
 have HE3 := Aside0.mk e3
 have HSL := Aside0.mk hSl
 clear hF3 hs1 hs2 hW3 hSl hbx e0 e1 e2 e3 hR0 hF0
 go_wp2_with fail
 clear p0 p1 p2 a1 a2
 refine (call_Count HR3.out HG.out gg (-1) 0 (by decide) (by decide)).mono ?_
 rintro e w4 ⟨v', rfl, hr4, hb4⟩
 obtain ⟨A', c', rfl, hv4⟩ := hr4
 have HV4 := Aside0.mk hv4
 have HB4 := Aside0.mk hb4
 have e2 := (hb4.block _ (zar HE2.out)).trans HE2.out
 have e3 := (hb4.block _ (zar HE3.out)).trans HE3.out
 have y0 : w4.cell? ⟨w.heap.size + 1 + 1, 0, none⟩ = some (.int .i64 0) := (za e2 0).trans rfl
 have y1 : w4.cell? ⟨w.heap.size + 1 + 1, 1, none⟩ = some (.int .i64 0) := (za e2 1).trans rfl
 have y2 : w4.cell? ⟨w.heap.size + 1 + 1, 2, none⟩ = some (.slice none 0 0) := (za e2 2).trans rfl
 have z0 := zaa e2 0
 have z1 := zaa e2 1
 have z2 := zaa e2 2
 have n0 : w4.cell? ⟨w.heap.size + 1 + 1 + 1, 0, none⟩ = some (.int .i64 (room : Int)) := (za e3 0).trans rfl
 have n1 : w4.cell? ⟨w.heap.size + 1 + 1 + 1, 1, none⟩ = some (.int .i64 last) := (za e3 1).trans rfl
 have n2 : w4.cell? ⟨w.heap.size + 1 + 1 + 1, 2, none⟩ = some (.slice A L.length c) := (za e3 2).trans rfl
 have m0 := zaa e3 0
 have m1 := zaa e3 1
 have m2 := zaa e3 2
 clear hv4 hb4 e2 e3
 go_wp2_with fail
 obtain ⟨r1, r2⟩ := do_end HB.out HX.out HP.out HF3.out (Nat.le_succ _) HS1.out HS2.out HW3.out HB4.out (cntF_good HG.out gg (-1) 0 (by decide)) (Int.le_refl _) (by omega) HV4.out
 exact bodyPost_ret (zav rfl _ _ (w.heap.size + 1 + 1) 44 #[.int .i64 (room : Int), .int .i64 last, .slice A' _ c'] (0, 0) _ rfl r1 Try.underlying44 rfl (by kernel_rfl)) rfl ⟨_, _, _, _, rfl, r2⟩
theorem do_7 {S P : Nat → Prop} {w : World} {v : Value} {fb n room : Nat} {last : Int} {L : List S84} (hb : ForS S w fb n room last L) (hr : RefF w P v room last L) (hP : ∀ k, P k → ¬ S k) (hG : GoodF room last L) (hnn : n < 900000) (h9 : last < 99999) (k gg nn : Int) (hk : k.tmod 9 = 7) (wf1 : (Lit.int .i64 gg).wf = true) (wf2 : (Lit.int .i64 nn).wf = true) :
  Calls Try.prog 18 #[.pointer (some ⟨fb, 0, none⟩), v, .agg #[.int .u8 k, .int .i64 gg, .int .i64 nn]] w fun e w' => ∃ v' last' L' S', e = .returned (.tuple #[v', .bool true]) ∧ DoneS S S' P w w' fb n room last last' L' v' := by
 have d0 : (k.tmod 9 == 0) = false := beq_eq_false_iff_ne.mpr (by omega)
 have d1 : (k.tmod 9 == 1) = false := beq_eq_false_iff_ne.mpr (by omega)
 have d2 : (k.tmod 9 == 2) = false := beq_eq_false_iff_ne.mpr (by omega)
 have d3 : (k.tmod 9 == 3) = false := beq_eq_false_iff_ne.mpr (by omega)
 have d4 : (k.tmod 9 == 4) = false := beq_eq_false_iff_ne.mpr (by omega)
 have d5 : (k.tmod 9 == 5) = false := beq_eq_false_iff_ne.mpr (by omega)
 have d6 : (k.tmod 9 == 6) = false := beq_eq_false_iff_ne.mpr (by omega)
 have d7 : (k.tmod 9 == 7) = true := beq_iff_eq.mpr hk
 have HB := Aside0.mk hb
 have HR := Aside0.mk hr
 have HP := Aside0.mk hP
 have HG := Aside0.mk hG
 obtain ⟨A, c, rfl, hv⟩ := hr
 clear hk hb hG hv hP
 go_enter Try.func18, Try.ntmps18
 go_wp2_with fail
 have hX := Boxes4.at w room last A L.length c k gg nn
 generalize (((w.alloc (.cells #[.int .i64 (room : Int), .int .i64 last, .slice A L.length c] 44)).alloc (.cells #[.int .u8 k, .int .i64 gg, .int .i64 nn] 48)).alloc (.cells #[.int .i64 0, .int .i64 0, .slice none 0 0] 44)).alloc (.cells #[.int .i64 (room : Int), .int .i64 last, .slice A L.length c] 44) = W at hX ⊢
 have HX := Aside0.mk hX
 have hF0 := HB.out.keep hX.1
 have hR0 := HR.out.old hX.1
 clear hX
 refine (forS_Wake hF0 HG.out wf1).mono ?_
 rintro e w3 ⟨rfl, hst⟩
 obtain ⟨S', hF3, hs1, hs2, hW3⟩ := hst
 have HF3 := Aside0.mk hF3
 have HS1 := Aside0.mk hs1
 have HS2 := Aside0.mk hs2
 have HW3 := Aside0.mk hW3
 have hSl : ∀ k, S k → k < w.heap.size := fun k hk => HB.out.lt hk
 have HR3 := Aside0.mk (hR0.step (w' := w3) fun k hk hl => hW3.2 k hl fun h => HP.out k hk.1 h)
 have hbx : ∀ q, w.heap.size ≤ q → q < W.heap.size → w3.heap[q]? = W.heap[q]? := fun q h0 h1 => hW3.2 q h1 fun h => by have := hSl q h; omega
 have hsW := HX.out.2.1
 have e0 := (hbx w.heap.size (by omega) (by omega)).trans HX.out.2.2.1
 have e1 := (hbx (w.heap.size + 1) (by omega) (by omega)).trans HX.out.2.2.2.1
 have e2 := (hbx (w.heap.size + 1 + 1) (by omega) (by omega)).trans HX.out.2.2.2.2.1
 have e3 := (hbx (w.heap.size + 1 + 1 + 1) (by omega) (by omega)).trans HX.out.2.2.2.2.2
 have p0 : w3.cell? ⟨w.heap.size, 0, none⟩ = some (.int .i64 (room : Int)) := (za e0 0).trans rfl
 have p1 : w3.cell? ⟨w.heap.size, 1, none⟩ = some (.int .i64 last) := (za e0 1).trans rfl
 have p2 : w3.cell? ⟨w.heap.size, 2, none⟩ = some (.slice A L.length c) := (za e0 2).trans rfl
 have a1 : w3.cell? ⟨w.heap.size + 1, 1, none⟩ = some (.int .i64 gg) := (za e1 1).trans rfl
 have a2 : w3.cell? ⟨w.heap.size + 1, 2, none⟩ = some (.int .i64 nn) := (za e1 2).trans rfl
 have HE2 := Aside0.mk e2
 have HE3 := Aside0.mk e3
 have HSL := Aside0.mk hSl
 clear hF3 hs1 hs2 hW3 hSl hbx e0 e1 e2 e3 hR0 hF0
 go_wp2_with fail
 clear p0 p1 p2 a1 a2
 refine (call_Count HR3.out HG.out gg 0 1 (by decide) (by decide)).mono ?_
 rintro e w4 ⟨v', rfl, hr4, hb4⟩
 obtain ⟨A', c', rfl, hv4⟩ := hr4
 have HV4 := Aside0.mk hv4
 have HB4 := Aside0.mk hb4
 have e2 := (hb4.block _ (zar HE2.out)).trans HE2.out
 have e3 := (hb4.block _ (zar HE3.out)).trans HE3.out
 have y0 : w4.cell? ⟨w.heap.size + 1 + 1, 0, none⟩ = some (.int .i64 0) := (za e2 0).trans rfl
 have y1 : w4.cell? ⟨w.heap.size + 1 + 1, 1, none⟩ = some (.int .i64 0) := (za e2 1).trans rfl
 have y2 : w4.cell? ⟨w.heap.size + 1 + 1, 2, none⟩ = some (.slice none 0 0) := (za e2 2).trans rfl
 have z0 := zaa e2 0
 have z1 := zaa e2 1
 have z2 := zaa e2 2
 have n0 : w4.cell? ⟨w.heap.size + 1 + 1 + 1, 0, none⟩ = some (.int .i64 (room : Int)) := (za e3 0).trans rfl
 have n1 : w4.cell? ⟨w.heap.size + 1 + 1 + 1, 1, none⟩ = some (.int .i64 last) := (za e3 1).trans rfl
 have n2 : w4.cell? ⟨w.heap.size + 1 + 1 + 1, 2, none⟩ = some (.slice A L.length c) := (za e3 2).trans rfl
 have m0 := zaa e3 0
 have m1 := zaa e3 1
 have m2 := zaa e3 2
 clear hv4 hb4 e2 e3
 go_wp2_with fail
 obtain ⟨r1, r2⟩ := do_end HB.out HX.out HP.out HF3.out (Nat.le_succ _) HS1.out HS2.out HW3.out HB4.out (cntF_good HG.out gg 0 1 (by decide)) (Int.le_refl _) (by omega) HV4.out
 exact bodyPost_ret (zav rfl _ _ (w.heap.size + 1 + 1) 44 #[.int .i64 (room : Int), .int .i64 last, .slice A' _ c'] (0, 0) _ rfl r1 Try.underlying44 rfl (by kernel_rfl)) rfl ⟨_, _, _, _, rfl, r2⟩
theorem do_8 {S P : Nat → Prop} {w : World} {v : Value} {fb n room : Nat} {last : Int} {L : List S84} (hb : ForS S w fb n room last L) (hr : RefF w P v room last L) (hP : ∀ k, P k → ¬ S k) (hG : GoodF room last L) (hnn : n < 900000) (h9 : last < 99999) (k gg nn : Int) (hk : k.tmod 9 = 8) (wf1 : (Lit.int .i64 gg).wf = true) (wf2 : (Lit.int .i64 nn).wf = true) :
  Calls Try.prog 18 #[.pointer (some ⟨fb, 0, none⟩), v, .agg #[.int .u8 k, .int .i64 gg, .int .i64 nn]] w fun e w' => ∃ v' last' L' S', e = .returned (.tuple #[v', .bool true]) ∧ DoneS S S' P w w' fb n room last last' L' v' := by
 have d0 : (k.tmod 9 == 0) = false := beq_eq_false_iff_ne.mpr (by omega)
 have d1 : (k.tmod 9 == 1) = false := beq_eq_false_iff_ne.mpr (by omega)
 have d2 : (k.tmod 9 == 2) = false := beq_eq_false_iff_ne.mpr (by omega)
 have d3 : (k.tmod 9 == 3) = false := beq_eq_false_iff_ne.mpr (by omega)
 have d4 : (k.tmod 9 == 4) = false := beq_eq_false_iff_ne.mpr (by omega)
 have d5 : (k.tmod 9 == 5) = false := beq_eq_false_iff_ne.mpr (by omega)
 have d6 : (k.tmod 9 == 6) = false := beq_eq_false_iff_ne.mpr (by omega)
 have d7 : (k.tmod 9 == 7) = false := beq_eq_false_iff_ne.mpr (by omega)
 have HB := Aside0.mk hb
 have HR := Aside0.mk hr
 have HP := Aside0.mk hP
 have HG := Aside0.mk hG
 obtain ⟨A, c, rfl, hv⟩ := hr
 clear hk hb hG hv hP
 go_enter Try.func18, Try.ntmps18
 go_wp2_with fail
 have hX := Boxes4.at w room last A L.length c k gg nn
 generalize (((w.alloc (.cells #[.int .i64 (room : Int), .int .i64 last, .slice A L.length c] 44)).alloc (.cells #[.int .u8 k, .int .i64 gg, .int .i64 nn] 48)).alloc (.cells #[.int .i64 0, .int .i64 0, .slice none 0 0] 44)).alloc (.cells #[.int .i64 (room : Int), .int .i64 last, .slice A L.length c] 44) = W at hX ⊢
 have HX := Aside0.mk hX
 have hF0 := HB.out.keep hX.1
 have hR0 := HR.out.old hX.1
 clear hX
 refine (forS_Sleep hF0 HG.out wf1).mono ?_
 rintro e w3 ⟨rfl, hst⟩
 obtain ⟨S', hF3, hs1, hs2, hW3⟩ := hst
 have HF3 := Aside0.mk hF3
 have HS1 := Aside0.mk hs1
 have HS2 := Aside0.mk hs2
 have HW3 := Aside0.mk hW3
 have hSl : ∀ k, S k → k < w.heap.size := fun k hk => HB.out.lt hk
 have HR3 := Aside0.mk (hR0.step (w' := w3) fun k hk hl => hW3.2 k hl fun h => HP.out k hk.1 h)
 have hbx : ∀ q, w.heap.size ≤ q → q < W.heap.size → w3.heap[q]? = W.heap[q]? := fun q h0 h1 => hW3.2 q h1 fun h => by have := hSl q h; omega
 have hsW := HX.out.2.1
 have e0 := (hbx w.heap.size (by omega) (by omega)).trans HX.out.2.2.1
 have e1 := (hbx (w.heap.size + 1) (by omega) (by omega)).trans HX.out.2.2.2.1
 have e2 := (hbx (w.heap.size + 1 + 1) (by omega) (by omega)).trans HX.out.2.2.2.2.1
 have e3 := (hbx (w.heap.size + 1 + 1 + 1) (by omega) (by omega)).trans HX.out.2.2.2.2.2
 have p0 : w3.cell? ⟨w.heap.size, 0, none⟩ = some (.int .i64 (room : Int)) := (za e0 0).trans rfl
 have p1 : w3.cell? ⟨w.heap.size, 1, none⟩ = some (.int .i64 last) := (za e0 1).trans rfl
 have p2 : w3.cell? ⟨w.heap.size, 2, none⟩ = some (.slice A L.length c) := (za e0 2).trans rfl
 have a1 : w3.cell? ⟨w.heap.size + 1, 1, none⟩ = some (.int .i64 gg) := (za e1 1).trans rfl
 have a2 : w3.cell? ⟨w.heap.size + 1, 2, none⟩ = some (.int .i64 nn) := (za e1 2).trans rfl
 have HE2 := Aside0.mk e2
 have HE3 := Aside0.mk e3
 have HSL := Aside0.mk hSl
 clear hF3 hs1 hs2 hW3 hSl hbx e0 e1 e2 e3 hR0 hF0
 go_wp2_with fail
 clear p0 p1 p2 a1 a2
 refine (call_Count HR3.out HG.out gg 0 (-1) (by decide) (by decide)).mono ?_
 rintro e w4 ⟨v', rfl, hr4, hb4⟩
 obtain ⟨A', c', rfl, hv4⟩ := hr4
 have HV4 := Aside0.mk hv4
 have HB4 := Aside0.mk hb4
 have e2 := (hb4.block _ (zar HE2.out)).trans HE2.out
 have e3 := (hb4.block _ (zar HE3.out)).trans HE3.out
 have y0 : w4.cell? ⟨w.heap.size + 1 + 1, 0, none⟩ = some (.int .i64 0) := (za e2 0).trans rfl
 have y1 : w4.cell? ⟨w.heap.size + 1 + 1, 1, none⟩ = some (.int .i64 0) := (za e2 1).trans rfl
 have y2 : w4.cell? ⟨w.heap.size + 1 + 1, 2, none⟩ = some (.slice none 0 0) := (za e2 2).trans rfl
 have z0 := zaa e2 0
 have z1 := zaa e2 1
 have z2 := zaa e2 2
 have n0 : w4.cell? ⟨w.heap.size + 1 + 1 + 1, 0, none⟩ = some (.int .i64 (room : Int)) := (za e3 0).trans rfl
 have n1 : w4.cell? ⟨w.heap.size + 1 + 1 + 1, 1, none⟩ = some (.int .i64 last) := (za e3 1).trans rfl
 have n2 : w4.cell? ⟨w.heap.size + 1 + 1 + 1, 2, none⟩ = some (.slice A L.length c) := (za e3 2).trans rfl
 have m0 := zaa e3 0
 have m1 := zaa e3 1
 have m2 := zaa e3 2
 clear hv4 hb4 e2 e3
 go_wp2_with fail
 obtain ⟨r1, r2⟩ := do_end HB.out HX.out HP.out HF3.out (Nat.le_succ _) HS1.out HS2.out HW3.out HB4.out (cntF_good HG.out gg 0 (-1) (by decide)) (Int.le_refl _) (by omega) HV4.out
 exact bodyPost_ret (zav rfl _ _ (w.heap.size + 1 + 1) 44 #[.int .i64 (room : Int), .int .i64 last, .slice A' _ c'] (0, 0) _ rfl r1 Try.underlying44 rfl (by kernel_rfl)) rfl ⟨_, _, _, _, rfl, r2⟩
theorem do_ok {S P : Nat → Prop} {w : World} {v : Value} {fb n room : Nat} {last : Int} {L : List S84} (hb : ForS S w fb n room last L) (hr : RefF w P v room last L) (hP : ∀ k, P k → ¬ S k) (hG : GoodF room last L) (hnn : n < 900000) (h9 : last < 99999) (k gg nn : Int) (hk : 0 ≤ k) (wf1 : (Lit.int .i64 gg).wf = true) (wf2 : (Lit.int .i64 nn).wf = true) :
  Calls Try.prog 18 #[.pointer (some ⟨fb, 0, none⟩), v, .agg #[.int .u8 k, .int .i64 gg, .int .i64 nn]] w fun e w' => ∃ v' last' L' S', e = .returned (.tuple #[v', .bool true]) ∧ DoneS S S' P w w' fb n room last last' L' v' := by
 have hm : k.tmod 9 = k % 9 := Int.tmod_eq_emod_of_nonneg hk
 have hc : k.tmod 9 = 0 ∨ k.tmod 9 = 1 ∨ k.tmod 9 = 2 ∨ k.tmod 9 = 3 ∨ k.tmod 9 = 4 ∨ k.tmod 9 = 5 ∨ k.tmod 9 = 6 ∨ k.tmod 9 = 7 ∨ k.tmod 9 = 8 := by omega
 rcases hc with hc | hc | hc | hc | hc | hc | hc | hc | hc
 ·
  exact do_0 hb hr hP hG hnn h9 k gg nn hc wf1 wf2
 ·
  exact do_1 hb hr hP hG hnn h9 k gg nn hc wf1 wf2
 ·
  exact do_2 hb hr hP hG hnn h9 k gg nn hc wf1 wf2
 ·
  exact do_3 hb hr hP hG hnn h9 k gg nn hc wf1 wf2
 ·
  exact do_4 hb hr hP hG hnn h9 k gg nn hc wf1 wf2
 ·
  exact do_5 hb hr hP hG hnn h9 k gg nn hc wf1 wf2
 ·
  exact do_6 hb hr hP hG hnn h9 k gg nn hc wf1 wf2
 ·
  exact do_7 hb hr hP hG hnn h9 k gg nn hc wf1 wf2
 ·
  exact do_8 hb hr hP hG hnn h9 k gg nn hc wf1 wf2
end Go.Proofs.Ytlmjdchcgfpngaa.P
end
