-- Written by a program of this session (wip/tools/shake.py) out of its own texts and of the kit's printed ones; not trusted: Lean checks it.
import Derived.Test.YthiicmanfpmipaaGreatDoorZFillCaps7
set_option maxHeartbeats 8000000
set_option maxRecDepth 100000
set_option linter.unusedVariables false
set_option linter.unusedSimpArgs false
section
namespace Go.Proofs.YthiicmanfpmipaaGreatDoor.P
open Go.RowKit Go.Proofs.YthiicmanfpmipaaGreatDoorW.PrintWords Go.Proofs.YthiicmanfpmipaaGreatDoorW.PrintLast Go.Proofs.YthiicmanfpmipaaGreatDoorW.PrintMore
attribute [local go_sem] zcf zci zcu zct zb6 zb2 zch zce
attribute [local go_sem] Oper.semAt_some
section
variable {w : World} {A0 A1 : Option Addr} {c0 c1 : Nat} {r : Rat} {m : Nat}
theorem t_Good (h1 : Rt w A0 c0 (rN r) A1 c1 (rD r)) (hr : Bd r m) (hm : m ≤ 90000) : Calls Tryz.prog 72 #[.agg #[.slice A0 (rN r).length c0, .slice A1 (rD r).length c1]] w fun e w' => e = .returned (.bool true) ∧ Below w.heap.size w w' := by
 obtain ⟨k, hk⟩ := (qGood hr hm).get
 exact zc6.calls k A0 c0 (rN r) A1 c1 (rD r) true w h1.2.1 h1.1 h1.2.2.2 h1.2.2.1 hk
end
theorem IntsC.of {w : World} {A : Option Addr} {l : List Int} (h : Kd.C (Kd.int .i64) w A l.length l) : IntsC w A l := fun i hi => by
 obtain ⟨ad, e, hc⟩ := Kd.at_int h (i : Int) (by omega) (by omega)
 refine ⟨ad, e, ?_⟩
 rw [Int.toNat_natCast] at hc
 rw [hc]
 unfold rd
 rw [Int.toNat_natCast]
theorem out_enters (args : Array Value) (W : World) : (callFunc 71 args).run Tryz.prog W = .ok (.enter 71 args) W := by
 simp [callFunc]
 rfl
theorem fe1 {x : Rat} {ws cs : List Int} (h : ws.length ≠ cs.length) : fillE x ws cs = 17 := by unfold fillE; rw [if_pos h]
theorem fe2 {x : Rat} {ws cs : List Int} (h : ws.length = cs.length) (h2 : 32 < ws.length) : fillE x ws cs = 6 := by unfold fillE; rw [if_neg (fun e => e h), if_pos h2]
theorem fe3 {x : Rat} {ws cs : List Int} (h : ws.length = cs.length) (h2 : ¬ 32 < ws.length) (h3 : ws.any oddW = true) : fillE x ws cs = 13 := by unfold fillE; rw [if_neg (fun e => e h), if_neg h2, if_pos h3]
theorem fe4 {x : Rat} {ws cs : List Int} (h : ws.length = cs.length) (h2 : ¬ 32 < ws.length) (h3 : ws.any oddW = false) (h4 : cs.any outC = true) : fillE x ws cs = 14 := by unfold fillE; rw [if_neg (fun e => e h), if_neg h2, if_neg (by rw [h3]; decide), if_pos h4]
theorem fe5 {x : Rat} {ws cs : List Int} (h : ws.length = cs.length) (h2 : ¬ 32 < ws.length) (h3 : ws.any oddW = false) (h4 : cs.any outC = false) : fillE x ws cs = if csum (kids ws cs) < x then 14 else 0 := by unfold fillE; rw [if_neg (fun e => e h), if_neg h2, if_neg (by rw [h3]; decide), if_neg (by rw [h4]; decide)]
theorem kids_length {ws cs : List Int} (h : ws.length = cs.length) : (kids ws cs).length = ws.length := by
 unfold kids
 rw [List.length_map, List.length_zip]
 omega
theorem kids_good {ws cs : List Int} (h : ws.length = cs.length) (h2 : ¬ 32 < ws.length) (h3 : ws.any oddW = false) (h4 : cs.any outC = false) : GoodK (kids ws cs) ∧ ws = (kids ws cs).map (fun p => (p.1 : Int)) ∧ cs = (kids ws cs).map (fun p => (p.2 : Int)) := by
 have h5 := fe5 (x := 0) h h2 h3 h4
 have h6 : ¬ csum (kids ws cs) < 0 := by
  have key : ∀ l : List (Nat × Nat), 0 ≤ csum l := by
   intro l
   induction l with
   | nil => exact Rat.le_refl
   | cons p l ih =>
    have := zb0 p.2
    show 0 ≤ (p.2 : Rat) + csum l
    grind
  have := key (kids ws cs)
  grind
 rw [if_neg h6] at h5
 obtain ⟨_, a, _, b, c⟩ := fillE_good h5
 exact ⟨a, b, c⟩
theorem csum_app : ∀ a b : List (Nat × Nat), csum (a ++ b) = csum a + csum b
 | [], b => (Rat.zero_add _).symm
 | p :: a, b => by
  have ih := csum_app a b
  show (p.2 : Rat) + csum (a ++ b) = (p.2 : Rat) + csum a + csum b
  rw [ih, Rat.add_assoc]
theorem rowV {W : World} {base : Nat} {v : Value} {m : List (Nat × Nat)} (h : W.ownsRow base 90 2 v m.length (kCells m)) (hm : m.length ≤ 1000) {P : Nat → Prop} (hP : ∀ k, base ≤ k → P k) (b : Nat) : Kd.V k90 90 W b P v (m.map chOf) := by
 have hl : (m.map chOf).length = m.length := List.length_map ..
 rcases h.2 with ⟨rfl, h0⟩ | ⟨g, cap, cur, rfl, hg1, hg2, hg3, hg4, hg5⟩
 ·
  have : m = [] := List.eq_nil_of_length_eq_zero h0
  subst this
  exact Kd.V_nil _ _ _ _ _
 ·
  refine ⟨some ⟨g, 0, none⟩, cap, by rw [hl], by rw [hl]; exact hg3, fun W' hW' => ⟨rfl, by rw [hl]; omega, fun _ => ⟨_, rfl, fun j p hj => ?_⟩⟩⟩
  have hjl : j < m.length := by
   have := (List.getElem?_eq_some_iff.1 hj).1
   omega
  rw [List.getElem?_map, List.getElem?_eq_getElem hjl] at hj
  obtain rfl : chOf m[j] = p := by simpa using hj
  refine ⟨[.int .i64 (m[j].1 : Int), .int .i64 (m[j].2 : Int)], rfl, k90_mk W' (chOf m[j]), fun i u hu => ?_⟩
  have hW : ∀ q, W'.cell? ⟨g, q, none⟩ = W.cell? ⟨g, q, none⟩ := fun q => by
   have := hW' g (hP g hg1) (zax hg2)
   unfold World.cell?
   rw [this]
  match i, hu with
  | 0, hu =>
   rw [add_plain, hW]
   rw [show k90.sz = 2 from rfl, Nat.add_zero, h.cellAt (j * 2) (by omega), kCells_get hjl]
   exact hu
  | 1, hu =>
   rw [add_plain, hW]
   rw [show k90.sz = 2 from rfl, h.cellAt (j * 2 + 1) (by omega), kCells_get1 hjl]
   exact hu
theorem row_keep {W W' : World} {base : Nat} {e : TypeId} {size : Nat} {v : Value} {n : Nat} {xs : List Value} (h : W.ownsRow base e size v n xs) (hb : Below W.heap.size W W') : W'.ownsRow base e size v n xs := by
 obtain ⟨h1, h2 | ⟨g, cap, cur, h3, h4, h5, h6⟩⟩ := h
 ·
  exact ⟨h1, .inl h2⟩
 ·
  exact ⟨h1, .inr ⟨g, cap, cur, h3, h4, (hb.block g (zax h5)).trans h5, h6⟩⟩
theorem ch_err {x : Rat} {ws cs : List Int} {r1 : List S90} {r2 e : Int} (hV : chV x ws cs = (r1, r2)) (he : fillE x ws cs = e) (h0 : e ≠ 0) : r1 = [] ∧ r2 = e := by
 unfold chV at hV
 rw [if_neg (by rw [he]; exact h0), he] at hV
 injection hV with h1 h2
 exact ⟨h1.symm, h2.symm⟩
theorem ch_ok {x : Rat} {ws cs : List Int} {r1 : List S90} {r2 : Int} (hV : chV x ws cs = (r1, r2)) (he : fillE x ws cs = 0) : r1 = (kids ws cs).map chOf ∧ r2 = 0 := by
 unfold chV at hV
 rw [if_pos he] at hV
 injection hV with h1 h2
 exact ⟨h1.symm, h2.symm⟩
theorem children_ok (A0_0 : Option Addr) (c0_0 : Nat) (l0_0 : List Int) (A0_1 : Option Addr) (c0_1 : Nat) (l0_1 : List Int) (A1 : Option Addr) (c1 : Nat) (l1 : List Int) (A2 : Option Addr) (c2 : Nat) (l2 : List Int) (r1 : List (S90)) (r2 : Int) (w : World) (hr0_0 : Kd.C (Kd.int .u64) w A0_0 l0_0.length l0_0) (hc0_0 : l0_0.length ≤ c0_0) (hr0_1 : Kd.C (Kd.int .u64) w A0_1 l0_1.length l0_1) (hc0_1 : l0_1.length ≤ c0_1) (hr1 : Kd.C (Kd.int .i64) w A1 l1.length l1) (hr2 : Kd.C (Kd.int .i64) w A2 l2.length l2) (h : chF l0_0 l0_1 l1 l2 = some (r1, r2)) :
  Calls Tryz.prog 38 #[.agg #[.slice A0_0 l0_0.length c0_0, .slice A0_1 l0_1.length c0_1], .slice A1 l1.length c1, .slice A2 l2.length c2] w fun e w' => ∃ v0_ : Value, e = .returned (.tuple #[v0_, .int .i64 r2]) ∧ Kd.V k90 90 w' w.heap.size (fun k_ => (w.heap.size ≤ k_)) v0_ r1 ∧ Below w.heap.size w w' := by
 obtain ⟨x, hx, rfl, rfl, hlw, hlc, hv⟩ := chF_of h
 have HRt : Aside0 (Rt w A0_0 c0_0 (rN x) A0_1 c0_1 (rD x)) := ⟨hc0_0, hr0_0, hc0_1, hr0_1⟩
 have HW := Aside0.mk (IntsC.of hr1)
 have HC := Aside0.mk (IntsC.of hr2)
 have HV := Aside0.mk hv
 have HX := Aside0.mk hx
 have HLW := Aside0.mk hlw
 have HLC := Aside0.mk hlc
 clear h hv hr0_0 hc0_0 hr0_1 hc0_1 hr1 hr2 hx hlw hlc
 obtain ⟨n1, hn1⟩ : ∃ n, l1.length = n := ⟨_, rfl⟩
 obtain ⟨n2, hn2⟩ : ∃ n, l2.length = n := ⟨_, rfl⟩
 rw [hn1, hn2]
 have HN1 := Aside0.mk hn1
 have HN2 := Aside0.mk hn2
 clear hn1 hn2
 obtain ⟨na, hna⟩ : ∃ n, (rN x).length = n := ⟨_, rfl⟩
 obtain ⟨nb, hnb⟩ : ∃ n, (rD x).length = n := ⟨_, rfl⟩
 rw [hna, hnb]
 have HNA := Aside0.mk hna
 have HNB := Aside0.mk hnb
 clear hna hnb
 go_enter Tryz.func38, Tryz.ntmps38
 go_wp2_with fail
 have hB1 : Below w.heap.size w (w.alloc (.cells #[.slice A0_0 na c0_0, .slice A0_1 nb c0_1] 29)) := (Below.refl _ w).alloc (Nat.le_refl _) _
 have hbk1 := zdm w (.cells #[.slice A0_0 na c0_0, .slice A0_1 nb c0_1] 29)
 have hs1 : (w.alloc (.cells #[.slice A0_0 na c0_0, .slice A0_1 nb c0_1] 29)).heap.size = w.heap.size + 1 := by simp
 have HR1 := Aside0.mk (HRt.out.below hB1)
 generalize w.alloc (.cells #[.slice A0_0 na c0_0, .slice A0_1 nb c0_1] 29) = w1 at hB1 hbk1 hs1 HR1 ⊢
 have hG := t_Good HR1.out HX.out (by omega)
 rw [HNA.out, HNB.out] at hG
 refine hG.mono ?_
 clear hG
 rintro e w2 ⟨rfl, hb⟩
 have HB1 := Aside0.mk hB1
 have HS1 := Aside0.mk hs1
 have HBK := Aside0.mk ((hb.block _ (by omega)).trans hbk1)
 have HB2 : Aside0 (Below w.heap.size w w2) := ⟨hB1.trans (hb.mono (by omega))⟩
 have HS2 : Aside0 (w.heap.size + 1 ≤ w2.heap.size) := ⟨by have := hb.size; omega⟩
 have HR2 := Aside0.mk (HR1.out.below hb)
 have HW2 := Aside0.mk (HW.out.keep HB2.out)
 have HC2 := Aside0.mk (HC.out.keep HB2.out)
 clear hb hB1 hbk1 hs1
 by_cases e1 : n1 = n2
 ·
  have d1 : ((n1 : Int) != (n2 : Int)) = false := by simp [e1]
  have HE1 : Aside0 (l1.length = l2.length) := ⟨by rw [HN1.out, HN2.out, e1]⟩
  by_cases e2 : 32 < n1
  ·
   have d2 : decide ((n1 : Int) > 32) = true := decide_eq_true (by omega)
   have HE2 := Aside0.mk (ch_err HV.out (fe2 HE1.out (by rw [HN1.out]; exact e2)) (by decide))
   clear e1
   go_wp2_with fail
   go_ret2
   obtain ⟨rfl, rfl⟩ := HE2.out
   exact ⟨_, rfl, Kd.V_nil _ _ _ _ _, HB2.out⟩
  ·
   have d2 : decide ((n1 : Int) > 32) = false := decide_eq_false (by omega)
   have HE2 : Aside0 (¬ 32 < l1.length) := ⟨by rw [HN1.out]; exact e2⟩
   have HNE := Aside0.mk e1
   have HN32 := Aside0.mk e2
   clear e1 e2
   go_wp2_with fail
   have hct := contains_ok 70 odd_enters oddW oddW_ok A1 c1 l1 HLW.out w2 HW2.out
   rw [HN1.out] at hct
   refine hct.mono ?_
   clear hct
   rintro e w3 ⟨rfl, rfl⟩
   cases hodd : l1.any oddW
   ·
    have HOD := Aside0.mk hodd
    clear hodd
    go_wp2_with fail
    have hct := contains_ok 71 out_enters outC outC_ok A2 c2 l2 HLC.out w3 HC2.out
    rw [HN2.out] at hct
    refine hct.mono ?_
    clear hct
    rintro e w4 ⟨rfl, rfl⟩
    cases hout : l2.any outC
    ·
     have HOU := Aside0.mk hout
     clear hout
     go_wp2_with fail
     have hmax : 1000 ≤ maxLen := by decide
     obtain ⟨i0, hi, hz0, hz1, hz2⟩ := info_parts child_info
     have HG := Aside0.mk (kids_good HE1.out HE2.out HOD.out HOU.out)
     obtain ⟨K, hK⟩ : ∃ K, kids l1 l2 = K := ⟨_, rfl⟩
     have HKK := Aside0.mk hK
     have HKL : Aside0 (K.length = n1) := ⟨by rw [← hK, kids_length HE1.out, HN1.out]⟩
     clear hK
     go_loopg [10, 11, 39] n1 (fun gk v10 v11 v39 w' => ∃ i : Nat, v39 = .int .i64 (i : Int) ∧ Aside0 (i + gk = n1) ∧ (∃ s : Nat, v11 = .int .i64 (s : Int) ∧ Aside0 (s ≤ 64 * i ∧ csum (K.take i) = (s : Rat))) ∧ Aside0 (w'.ownsRow (w.heap.size + 1) 90 2 v10 i (kCells (K.take i))) ∧ Aside0 (Below (w.heap.size + 1) w4 w'))
     case atStart => exact ⟨0, rfl, ⟨by omega⟩, ⟨0, rfl, ⟨by omega, rfl⟩⟩, ⟨World.ownsRow_nil _ _ _ _⟩, ⟨Below.refl _ _⟩⟩
     case round =>
      obtain ⟨i, rfl, HI, ⟨s, rfl, HS⟩, HO, HBW⟩ := hrel
      have HBr : Aside0 (Below w.heap.size w wr) := ⟨HB2.out.trans (HBW.out.mono (Nat.le_succ _))⟩
      have HSr : Aside0 (w.heap.size + 1 ≤ wr.heap.size) := ⟨Nat.le_trans HS2.out HBW.out.size⟩
      cases gk with
      | zero =>
       obtain rfl : i = n1 := by have := HI.out; omega
       have d3 : decide ((i : Int) < (i : Int)) = false := decide_eq_false (by omega)
       have HRr := Aside0.mk (HRt.out.below HBr.out)
       have HBKr : Aside0 (wr.heap[w.heap.size]? = some (.cells #[.slice A0_0 na c0_0, .slice A0_1 nb c0_1] 29 (0, 0))) := ⟨(HBW.out.block _ (Nat.lt_succ_self _)).trans HBK.out⟩
       have hlim := HN32.out
       have hsl := HS.out.1
       have hfull : K.take i = K := List.take_of_length_le (by rw [HKL.out]; exact Nat.le_refl _)
       rw [hfull] at HO HS
       have HHS : Aside0 (∀ W, Below wr.heap.size wr W → W.cell? ⟨w.heap.size, 0, none⟩ = some (.slice A0_0 na c0_0) ∧ W.cell? ⟨w.heap.size, 1, none⟩ = some (.slice A0_1 nb c0_1)) := ⟨fun W hb => by
        have hk := (hb.block _ (zax HBKr.out)).trans HBKr.out
        exact ⟨(zab hk 0).trans rfl, (zab hk 1).trans rfl⟩⟩
       have HCM : Aside0 (∀ W A c A' c', Below wr.heap.size wr W → Rt W A c (rN ((s : Nat) : Rat)) A' c' (rD ((s : Nat) : Rat)) → Calls Tryz.prog 17 #[.agg #[.slice A0_0 na c0_0, .slice A0_1 nb c0_1], .agg #[.slice A (rN ((s : Nat) : Rat)).length c, .slice A' (rD ((s : Nat) : Rat)).length c']] W fun e w' => e = .returned (.int .i64 (cmpR x (s : Rat))) ∧ Below W.heap.size W w') := ⟨fun W A c A' c' hb hR => by
        have hC := t_Cmp (HRr.out.below hb) hR HX.out (bdN (x := s) (by omega)) (by omega)
        rw [HNA.out, HNB.out] at hC
        exact hC⟩
       have hsb : (s : Int) < 9223372036854775808 := by omega
       have HTI := Aside0.mk (t_Int (s : Int) hsb)
       rw [Int.toNat_natCast] at HTI
       clear hlim hsl hfull hsb
       go_wp2_with fail
       go_region_held3 (fun W => W.cell? ⟨w.heap.size, 0, none⟩ = some (.slice A0_0 na c0_0) ∧ W.cell? ⟨w.heap.size, 1, none⟩ = some (.slice A0_1 nb c0_1)) (((with_reducible refine HHS.out _ ?_); first | (with_reducible exact HBw6.out) | (with_reducible exact HBw5.out) | (with_reducible exact (Below.refl _ wr).drew))) (first
        | (go_at_call 18; refine (HTI.out _).mono ?_; rintro e w5 ⟨A5, c5, A6, c6, rfl, hR5, hb5⟩; have HR5 := Aside0.mk hR5.rt; have HBw5 : Aside0 (Below wr.heap.size wr w5) := ⟨((Below.refl wr.heap.size wr).drew).trans hb5⟩; clear hR5 hb5)
        | (go_at_call 17; refine (HCM.out _ _ _ _ _ HBw5.out HR5.out).mono ?_; rintro e w6 ⟨rfl, hb6⟩; have HBw6 : Aside0 (Below wr.heap.size wr w6) := ⟨zaa HBw5.out hb6⟩; clear hb6))
       have HO6 := Aside0.mk (row_keep HO.out HBw6.out)
       have HB6 : Aside0 (Below w.heap.size w w6) := ⟨zaa HBr.out HBw6.out⟩
       have h5 := fe5 (x := x) HE1.out HE2.out HOD.out HOU.out
       rw [HKK.out] at h5
       generalize hcq : cmpR x (s : Rat) = cq
       by_cases hlt : csum K < x
       ·
        have d6 : decide (cq > 0) = true := decide_eq_true (by rw [← hcq]; exact cmpR_pos.2 (by rw [← HS.out.2]; exact hlt))
        clear hcq
        rw [if_pos hlt] at h5
        have HE3 := Aside0.mk (ch_err HV.out h5 (by decide))
        clear h5 hlt d1 d2 d3
        go_wp2_with fail
        all_goals first | (exfalso; first | (have h_ := of_decide_eq_true d6; omega) | (have h_ := of_decide_eq_false d6; omega)) | skip
        go_ret2
        obtain ⟨rfl, rfl⟩ := HE3.out
        exact ⟨_, rfl, Kd.V_nil _ _ _ _ _, HB6.out⟩
       ·
        have d6 : decide (cq > 0) = false := decide_eq_false (by rw [← hcq]; exact cmpR_le (by rw [← HS.out.2]; exact Rat.not_lt.1 hlt))
        clear hcq
        rw [if_neg hlt] at h5
        have HE3 := Aside0.mk (ch_ok HV.out h5)
        clear h5 hlt d1 d2 d3
        go_wp2_with fail
        all_goals first | (exfalso; first | (have h_ := of_decide_eq_true d6; omega) | (have h_ := of_decide_eq_false d6; omega)) | skip
        go_ret2
        obtain ⟨rfl, rfl⟩ := HE3.out
        rw [HKK.out]
        have hrw := HO6.out
        rw [← HKL.out] at hrw
        exact ⟨_, rfl, rowV hrw (by rw [HKL.out]; have := HN32.out; omega) (fun k hk => by omega) _, HB6.out⟩
      | succ g1 =>
       have hil : i < n1 := by have := HI.out; omega
       have d3 : decide ((i : Int) < (n1 : Int)) = true := decide_eq_true (by omega)
       have hi1 : i < l1.length := by rw [HN1.out]; exact hil
       have hi2 : i < l2.length := by rw [HN2.out, ← HNE.out]; exact hil
       have hiK : i < K.length := by rw [HKL.out]; exact hil
       obtain ⟨ad1, rfl, cw⟩ := HW.out i hi1
       obtain ⟨ad2, rfl, cc⟩ := HC.out i hi2
       obtain ⟨p, hp⟩ : ∃ p, K[i] = p := ⟨_, rfl⟩
       have hg1 : l1.getD i 0 = (p.1 : Int) := by
        have h1 := HG.out.2.1
        rw [HKK.out] at h1
        rw [h1, List.getD_eq_getElem?_getD, List.getElem?_map, List.getElem?_eq_getElem hiK, hp]
        rfl
       have hg2 : l2.getD i 0 = (p.2 : Int) := by
        have h1 := HG.out.2.2
        rw [HKK.out] at h1
        rw [h1, List.getD_eq_getElem?_getD, List.getElem?_map, List.getElem?_eq_getElem hiK, hp]
        rfl
       rw [hg1] at cw
       rw [hg2] at cc
       have hpg : 1 ≤ p.1 ∧ p.1 ≤ 10000 ∧ p.2 ≤ 64 := by
        have h1 := HG.out.1
        rw [HKK.out] at h1
        rw [← hp]
        exact h1.2 _ (List.getElem_mem hiK)
       have htk : K.take (i + 1) = K.take i ++ [p] := by rw [List.take_succ_eq_append_getElem hiK, hp]
       have HTK := Aside0.mk htk
       have HPG := Aside0.mk hpg
       have HCC := Aside0.mk cc
       have q1 : wr.cell? (ad1.add i) = some (.int .i64 (p.1 : Int)) := (HBr.out.cell (block_lt_of_cell cw)).trans cw
       have q2 : wr.cell? (ad2.add i) = some (.int .i64 (p.2 : Int)) := (HBr.out.cell (block_lt_of_cell cc)).trans cc
       have d4 : 0 ≤ (i : Int) ∧ (i : Int) < (n1 : Int) := by omega
       have d5 : 0 ≤ (i : Int) ∧ (i : Int) < (n2 : Int) := by have := HNE.out; omega
       have hform : ∃ A c, u10 = .slice A i c := by
        rcases HO.out.2 with ⟨rfl, h0⟩ | ⟨g, cap, cur, rfl, _⟩
        ·
         exact ⟨none, 0, by rw [h0]⟩
        ·
         exact ⟨_, _, rfl⟩
       obtain ⟨A9, c9, rfl⟩ := hform
       have HI2 : Aside0 (i < 32) := ⟨by have := HN32.out; omega⟩
       clear hpg htk hp hg1 hg2 cw cc hi1 hi2 hiK
       go_wp2_with (first
        | ((with_reducible refine zb3 (b := .append) (xs := #[.tmp 44, .tmp 51]) rfl ?_); at_builtin; refine wpList_append_own_at _ rfl _ _ 85 rfl (w.heap.size + 1) 90 i0 (.agg #[.int .i64 0, .int .i64 0]) 2 16 Tryz.underlying85 hi hz0 hz1 hz2 rfl (by decide) _ _ _ rfl (HO.out.alloc _) ⟨wr.heap.size, 0, none⟩ 1 1 [.int .i64 (p.1 : Int), .int .i64 (p.2 : Int)] rfl rfl (two_new _ _ _ _) (by simp [Value.oneCell']) (by have := HI2.out; omega) (by have := HI2.out; omega) (by have := HSr.out; simp; omega) ?_; intro v' w5 hown' hgrow _ _; have hb5 : Below (w.heap.size + 1) w4 w5 := ((HBW.out.alloc (by have := HSr.out; have := HS2.out; omega) _).grown hgrow (by have := HSr.out; simp; omega) (fun j ej => (HO.out.lt j ej).1)); have q5 : w5.cell? (ad2.add i) = some (.int .i64 (p.2 : Int)) := ((HB2.out.trans (hb5.mono (Nat.le_succ _))).cell (block_lt_of_cell HCC.out)).trans HCC.out; have HO5 := Aside0.mk hown'; have HB5 := Aside0.mk hb5; clear hown' hgrow hb5))
       have e1 : wrap64 ((i : Int) + 1) = ((i + 1 : Nat) : Int) := by have := HI2.out; unfold wrap64; omega
       have e2 : wrap64 ((s : Int) + (p.2 : Int)) = ((s + p.2 : Nat) : Int) := by have := HI2.out; have := HPG.out; have := HS.out.1; unfold wrap64; omega
       have e3 : s + p.2 ≤ 64 * (i + 1) ∧ csum (K.take (i + 1)) = ((s + p.2 : Nat) : Rat) := by
        have h1 := HPG.out
        have h2 := HS.out.1
        refine ⟨by omega, ?_⟩
        rw [HTK.out, csum_app, HS.out.2, Rat.natCast_add]
        exact congrArg _ (Rat.add_zero _)
       have E1 := Aside0.mk e1
       have E2 := Aside0.mk e2
       have E3 := Aside0.mk e3
       have E4 : Aside0 (w5.ownsRow (w.heap.size + 1) 90 2 v' (i + 1) (kCells (K.take (i + 1)))) := ⟨by rw [HTK.out, kCells_app]; exact HO5.out⟩
       clear e1 e2 e3
       go_roundg g1
       case rel => exact ⟨i + 1, by rw [E1.out], ⟨by have := HI.out; omega⟩, ⟨s + p.2, by rw [E2.out], E3⟩, E4, HB5⟩
       case measure => omega
    ·
     have HE3 := Aside0.mk (ch_err HV.out (fe4 HE1.out HE2.out HOD.out hout) (by decide))
     clear hout
     go_wp2_with fail
     go_ret2
     obtain ⟨rfl, rfl⟩ := HE3.out
     exact ⟨_, rfl, Kd.V_nil _ _ _ _ _, HB2.out⟩
   ·
    have HE3 := Aside0.mk (ch_err HV.out (fe3 HE1.out HE2.out hodd) (by decide))
    clear hodd
    go_wp2_with fail
    go_ret2
    obtain ⟨rfl, rfl⟩ := HE3.out
    exact ⟨_, rfl, Kd.V_nil _ _ _ _ _, HB2.out⟩
 ·
  have d1 : ((n1 : Int) != (n2 : Int)) = true := by simp; omega
  have HE2 := Aside0.mk (ch_err HV.out (fe1 (by rw [HN1.out, HN2.out]; exact e1)) (by decide))
  clear e1
  go_wp2_with fail
  go_ret2
  obtain ⟨rfl, rfl⟩ := HE2.out
  exact ⟨_, rfl, Kd.V_nil _ _ _ _ _, HB2.out⟩
end Go.Proofs.YthiicmanfpmipaaGreatDoor.P
end
section
namespace Go.Proofs.YthiicmanfpmipaaGreatDoor.P
open Go.RowKit Go.Proofs.YthiicmanfpmipaaGreatDoorW.PrintWords Go.Proofs.YthiicmanfpmipaaGreatDoorW.PrintLast Go.Proofs.YthiicmanfpmipaaGreatDoorW.PrintMore
attribute [local go_sem] zcf zci zcu zct zb6 zb2 zch zce
def zc2.f (k : Nat) (l0_0 l0_1 l1 l2 : List Int) : Option ((List (S90)) × Int) := chF l0_0 l0_1 l1 l2
theorem zc2.calls (k : Nat) (A0_0 : Option Addr) (c0_0 : Nat) (l0_0 : List Int) (A0_1 : Option Addr) (c0_1 : Nat) (l0_1 : List Int) (A1 : Option Addr) (c1 : Nat) (l1 : List Int) (A2 : Option Addr) (c2 : Nat) (l2 : List Int) (r1 : List (S90)) (r2 : Int) (w : World) (hr0_0 : Kd.C (Kd.int .u64) w A0_0 l0_0.length l0_0) (hc0_0 : l0_0.length ≤ c0_0) (hr0_1 : Kd.C (Kd.int .u64) w A0_1 l0_1.length l0_1) (hc0_1 : l0_1.length ≤ c0_1) (hr1 : Kd.C (Kd.int .i64) w A1 l1.length l1) (hc1 : l1.length ≤ c1) (hr2 : Kd.C (Kd.int .i64) w A2 l2.length l2) (hc2 : l2.length ≤ c2) (h : zc2.f k l0_0 l0_1 l1 l2 = some (r1, r2)) :
  Calls Tryz.prog 38 #[.agg #[.slice A0_0 l0_0.length c0_0, .slice A0_1 l0_1.length c0_1], .slice A1 l1.length c1, .slice A2 l2.length c2] w fun e w' => ∃ v0_ : Value, e = .returned (.tuple #[v0_, .int .i64 r2]) ∧ Kd.V k90 90 w' w.heap.size (fun k_ => (w.heap.size ≤ k_)) v0_ r1 ∧ Below w.heap.size w w' :=
 children_ok A0_0 c0_0 l0_0 A0_1 c0_1 l0_1 A1 c1 l1 A2 c2 l2 r1 r2 w hr0_0 hc0_0 hr0_1 hc0_1 hr1 hr2 h
end Go.Proofs.YthiicmanfpmipaaGreatDoor.P
end
section
namespace Go.Proofs.YthiicmanfpmipaaGreatDoor.P
open Go.RowKit Go.Proofs.YthiicmanfpmipaaGreatDoorW.PrintWords Go.Proofs.YthiicmanfpmipaaGreatDoorW.PrintLast Go.Proofs.YthiicmanfpmipaaGreatDoorW.PrintMore
attribute [local go_sem] zcf zci zcu zct zb6 zb2 zch zce
attribute [local go_sem] Oper.semAt_some
theorem sorted_ok (Bn : Nat) (A : Option Addr) (cap : Nat) (m : List (Nat × Nat)) (hm : GoodK m) (w : World) (hlt : ∀ ad, A = some ad → m ≠ [] → ad.block < w.heap.size) (hBn : Bn < w.heap.size) (hc : w.cell? ⟨Bn, 0, none⟩ = some (.slice A m.length cap)) (hK : KidsC w A m) :
  Calls Tryz.prog 74 #[.func (.func 125) #[] #[.pointer (some ⟨Bn, 0, none⟩)], .func (.func 76) #[] #[]] w fun e W' => ∃ (s : List (Nat × Nat)) (A' : Option Addr) (c' : Nat), e = .returned (.slice A' s.length c') ∧ s.Perm m ∧ s.Pairwise (fun p q => (p.2 : Rat) / (p.1 : Rat) ≤ (q.2 : Rat) / (q.1 : Rat)) ∧ KidsC W' A' s ∧ (∀ ad, A' = some ad → w.heap.size ≤ ad.block) ∧ Below w.heap.size w W' := by
 have HCo := Aside0.mk (collect_ok Bn A cap m (by have := hm.1; omega) w hlt hBn hc hK)
 have HM := Aside0.mk hm
 clear hc hK hlt hBn hm
 go_enter Tryz.func74, Tryz.ntmps74
 go_wp2_with fail
 refine HCo.out.mono ?_
 rintro e w2 ⟨⟨v, rfl, hrow⟩, hb⟩
 have HB := Aside0.mk hb
 have HR := Aside0.mk hrow
 rcases hrow.2 with ⟨rfl, h0⟩ | ⟨g, cap', cur, rfl, _⟩
 ·
  have hm0 : m = [] := List.eq_nil_of_length_eq_zero h0
  subst hm0
  clear hrow hb h0
  have HS := Aside0.mk (AnyF.slices_SortFunc_none (P := Tryz.prog) (ρ := sortC_ren) sortC none 0 (.func (.func 76) #[] #[]) w2)
  go_wp2_with fail
  refine HS.out.mono ?_
  rintro e w3 ⟨rfl, rfl⟩
  go_wp2_with fail
  go_ret
  exact ⟨[], none, 0, rfl, List.Perm.refl _, List.Pairwise.nil, fun i hi => absurd hi (by simp), (fun ad e => by cases e), HB.out⟩
 ·
  clear hrow
  have HS := Aside0.mk (sort_ok g cap' m HM.out w2 w.heap.size hb.size HR.out)
  clear hb
  go_wp2_with fail
  refine HS.out.mono ?_
  rintro e w3 ⟨rfl, s, hp, hso, hk, hb3⟩
  have HP := Aside0.mk hp
  have HSo := Aside0.mk hso
  have HK := Aside0.mk hk
  have HB3 := Aside0.mk (HB.out.trans hb3)
  clear hp hso hk hb3
  go_wp2_with fail
  go_ret
  refine ⟨s, some ⟨g, 0, none⟩, cap', ?_, HP.out, HSo.out, HK.out, fun ad e => by cases e; exact (HR.out.lt g rfl).1, HB3.out⟩
  rw [HP.out.length_eq]
  rfl
def Kp3 (a b c : Nat) (W W' : World) : Prop := Below 0 W W' ∧ ∀ k, k < W.heap.size → k ≠ a → k ≠ b → k ≠ c → W'.heap[k]? = W.heap[k]?
theorem Kp3.refl (a b c : Nat) (W : World) : Kp3 a b c W W := ⟨Below.refl _ _, fun _ _ _ _ _ => rfl⟩
theorem Kp3.trans {a b c : Nat} {W W1 W2 : World} (h : Kp3 a b c W W1) (h' : Kp3 a b c W1 W2) : Kp3 a b c W W2 :=
 ⟨h.1.trans h'.1, fun k hk ha hb hc => (h'.2 k (Nat.lt_of_lt_of_le hk h.1.size) ha hb hc).trans (h.2 k hk ha hb hc)⟩
theorem Kp3.of_below {a b c : Nat} {W W' : World} (hb : Below W.heap.size W W') : Kp3 a b c W W' := ⟨hb.mono (Nat.zero_le _), fun k hk _ _ _ => hb.block k hk⟩
theorem Kp3.set {a b c : Nat} {W W' : World} (h : Kp3 a b c W W') (p : Addr) (hp : p.block = a ∨ p.block = b ∨ p.block = c ∨ W.heap.size ≤ p.block) (u : Value) : Kp3 a b c W (W'.setCell p u) :=
 ⟨h.1.setCell (Nat.zero_le _) u, fun k hk ha hb hc => (Below.heap_setCell W' p u k (by omega)).trans (h.2 k hk ha hb hc)⟩
theorem Kp3.below {a b c n : Nat} {w W W' : World} (h : Kp3 a b c W W') (hB : Below n w W) (hn : n ≤ W.heap.size) (ha : n ≤ a) (hb : n ≤ b) (hc : n ≤ c) : Below n w W' :=
 hB.trans ⟨h.1.os, h.1.tape, h.1.output, h.1.size, fun k hk => h.2 k (by omega) (by omega) (by omega) (by omega)⟩
theorem RV.kp3 {w w' : World} {P : Nat → Prop} {A A' : Option Addr} {c c' : Nat} {l l' : List Int} {x y z : Nat} (h : RV w P A c l A' c' l') (hk : Kp3 x y z w w') (hP : ∀ k, P k → k ≠ x ∧ k ≠ y ∧ k ≠ z) : RV w' P A c l A' c' l' := by
 obtain ⟨⟨B, d, e, hl, hF⟩, ⟨B', d', e', hl', hF'⟩⟩ := h
 exact ⟨⟨B, d, e, hl, Kd.F_step hF fun k hp hlt => hk.2 k hlt (hP k hp).1 (hP k hp).2.1 (hP k hp).2.2⟩, ⟨B', d', e', hl', Kd.F_step hF' fun k hp hlt => hk.2 k hlt (hP k hp).1 (hP k hp).2.1 (hP k hp).2.2⟩⟩
theorem KidsC.kp3 {w w' : World} {A : Option Addr} {m : List (Nat × Nat)} {x y z : Nat} (h : KidsC w A m) (hk : Kp3 x y z w w') (hA : ∀ ad, A = some ad → ad.block ≠ x ∧ ad.block ≠ y ∧ ad.block ≠ z) : KidsC w' A m := fun i hi => by
 obtain ⟨ad, e, h1, h2⟩ := h i hi
 obtain ⟨q1, q2, q3⟩ := hA ad e
 have hb : (ad.add (i * 2)).block = ad.block := add_block' ad _
 have hlt := block_lt_of_cell h1
 have hh := hk.2 (ad.add (i * 2)).block hlt (by rw [hb]; exact q1) (by rw [hb]; exact q2) (by rw [hb]; exact q3)
 refine ⟨ad, e, ?_, ?_⟩
 ·
  rw [← h1]
  unfold World.cell?
  rw [hh]
 ·
  rw [← h2]
  unfold World.cell?
  rw [hh]
theorem foot_C {w : World} {A : Option Addr} {l : List Int} (h : Kd.C (Kd.int .u64) w A l.length l) : Kd.F (Kd.int .u64) w (fun k => k < w.heap.size) A l.length l := fun W' hW' => ⟨h.1, h.2.1, fun hn => by
 obtain ⟨ad, e, hc⟩ := h.2.2 hn
 refine ⟨ad, e, fun j p hj => ?_⟩
 obtain ⟨c, h1, h2, h3⟩ := hc j p hj
 refine ⟨c, h1, h2, fun i u hu => ?_⟩
 have h4 := h3 i u hu
 have hlt := block_lt_of_cell h4
 rw [← h4]
 unfold World.cell?
 rw [hW' _ hlt hlt]⟩
theorem Rt.rv {w : World} {A A' : Option Addr} {c c' : Nat} {l l' : List Int} (h : Rt w A c l A' c' l') : RV w (fun k => k < w.heap.size) A c l A' c' l' := ⟨⟨A, c, rfl, h.1, foot_C h.2.1⟩, ⟨A', c', rfl, h.2.2.1, foot_C h.2.2.2⟩⟩
theorem bdFul (p : Nat × Nat) (hp1 : p.1 < 1000000) (hp2 : p.2 < 1000000) (h : 1 ≤ p.1) : Bd ((p.2 : Rat) / (p.1 : Rat)) 1 := by
 have hd := Bd.mk (x := p.2) (y := p.1) (m := 1) (by omega) (by omega) (by omega)
 rw [Rat.mkRat_eq_div] at hd
 exact hd
theorem rN_nil {r : Rat} (h : 0 ≤ r) : (rN r).length = 0 ↔ r = 0 := by
 unfold rN
 constructor
 ·
  intro h1
  have h2 := congrArg (val 18446744073709551616) (List.eq_nil_of_length_eq_zero h1)
  rw [zcx (by decide)] at h2
  have h3 : r.num.toNat = 0 := h2
  have h4 := Rat.num_nonneg.2 h
  exact Rat.num_eq_zero.1 (by omega)
 ·
  rintro rfl
  show (dig 18446744073709551616 0).length = 0
  rw [dig]
  rfl
theorem wsum_app : ∀ a b : List (Nat × Nat), wsum (a ++ b) = wsum a + wsum b
 | [], b => (Rat.zero_add _).symm
 | p :: a, b => by
  have ih := wsum_app a b
  show (p.1 : Rat) + wsum (a ++ b) = (p.1 : Rat) + wsum a + wsum b
  rw [ih, Rat.add_assoc]
theorem kids_lt {w : World} {A : Option Addr} {m : List (Nat × Nat)} (h : KidsC w A m) : ∀ ad, A = some ad → m ≠ [] → ad.block < w.heap.size := fun ad e hm => by
 obtain ⟨ad', e', h1, _⟩ := h 0 (List.length_pos_iff.2 hm)
 rw [e] at e'
 obtain rfl := Option.some.inj e'
 have := block_lt_of_cell h1
 rw [add_block'] at this
 exact this
def lv12T : Bool × List (List Nat × List Nat) := (true, [([], []), ([], []), ([1], [1]), ([0, 2, 2], [0, 2]), ([3], [3]), ([4], [4]), ([4], [4]), ([], []), ([7, 5, 3, 0, 1, 2, 3, 4, 5, 7], [5, 7]), ([6, 8, 0, 1, 2, 3, 4, 5, 6, 7, 8], [6])])
def lv12B : List Nat := [0, 0, 2, 7, 15, 31, 31, 0, 191, 511]
theorem lv12tab : rtab .any (opsOf Tryz.f39 12) = lv12T := by kernel_rfl
theorem lv12bits : waitsOk lv12T.2 lv12B = true := by kernel_rfl
def lv13T : Bool × List (List Nat × List Nat) := (true, [([], []), ([0], [0]), ([1], [1]), ([], []), ([3], [3]), ([4, 2], [4]), ([2, 5, 5], [2, 5]), ([6], [6]), ([7], [7]), ([7], [7]), ([], []), ([10, 8, 6, 0, 1, 2, 3, 4, 5, 6, 7, 8, 10], [8, 10]), ([9, 11, 0, 1, 2, 3, 4, 5, 6, 7, 8, 9, 10, 11], [9])])
def lv13B : List Nat := [0, 1, 3, 0, 8, 31, 63, 127, 255, 255, 0, 1535, 4095]
theorem lv13tab : rtab .any (opsOf Tryz.f39 13) = lv13T := by kernel_rfl
theorem lv13bits : waitsOk lv13T.2 lv13B = true := by kernel_rfl
def lv16T : Bool × List (List Nat × List Nat) := (true, [([], []), ([], []), ([1], [1]), ([2], [2]), ([0, 3, 3], [0, 3]), ([4], [4]), ([5], [5]), ([5], [5]), ([6, 4, 0, 1, 2, 3, 4, 5, 6], [6])])
def lv16B : List Nat := [0, 0, 2, 6, 15, 31, 63, 63, 127]
theorem lv16tab : rtab .any (opsOf Tryz.f39 16) = lv16T := by kernel_rfl
theorem lv16bits : waitsOk lv16T.2 lv16B = true := by kernel_rfl
theorem level_ok (A0_0 : Option Addr) (c0_0 : Nat) (l0_0 : List Int) (A0_1 : Option Addr) (c0_1 : Nat) (l0_1 : List Int) (A1 : Option Addr) (c1 : Nat) (l1 : List S90) (r1 r2 : List Int) (w : World) (hr0_0 : Kd.C (Kd.int .u64) w A0_0 l0_0.length l0_0) (hc0_0 : l0_0.length ≤ c0_0) (hr0_1 : Kd.C (Kd.int .u64) w A0_1 l0_1.length l0_1) (hc0_1 : l0_1.length ≤ c0_1) (hr1 : Kd.C k90 w A1 l1.length l1) (h : lvF l0_0 l0_1 l1 = some (r1, r2)) :
  Calls Tryz.prog 39 #[.agg #[.slice A0_0 l0_0.length c0_0, .slice A0_1 l0_1.length c0_1], .slice A1 l1.length c1] w fun e w' => ∃ v0_ v1_ : Value, e = .returned (.agg #[v0_, v1_]) ∧ Kd.V (Kd.int .u64) 82 w' w.heap.size (fun k_ => (w.heap.size ≤ k_)) v0_ r1 ∧ Kd.V (Kd.int .u64) 82 w' w.heap.size (fun k_ => (w.heap.size ≤ k_)) v1_ r2 ∧ Below w.heap.size w w' := by
 obtain ⟨x, m, hx, rfl, rfl, rfl, hm, hxc, hr⟩ := lvF_of h
 have hr1' : r1 = rN (levR m x) := congrArg Prod.fst hr
 have hr2' : r2 = rD (levR m x) := congrArg Prod.snd hr
 subst hr1'
 subst hr2'
 clear h hr
 rw [List.length_map] at hr1 ⊢
 have HKm := Aside0.mk (KidsC.of hr1)
 have HRt : Aside0 (Rt w A0_0 c0_0 (rN x) A0_1 c0_1 (rD x)) := ⟨hc0_0, hr0_0, hc0_1, hr0_1⟩
 have HX := Aside0.mk hx
 have HM := Aside0.mk hm
 have HXC := Aside0.mk hxc
 clear hr0_0 hc0_0 hr0_1 hc0_1 hr1 hx hm hxc
 obtain ⟨na, hna⟩ : ∃ n, (rN x).length = n := ⟨_, rfl⟩
 obtain ⟨nb, hnb⟩ : ∃ n, (rD x).length = n := ⟨_, rfl⟩
 rw [hna, hnb]
 have HNA := Aside0.mk hna
 have HNB := Aside0.mk hnb
 clear hna hnb
 obtain ⟨nm, hnm⟩ : ∃ n, m.length = n := ⟨_, rfl⟩
 rw [hnm]
 have HNM := Aside0.mk hnm
 clear hnm
 go_enter Tryz.func39, Tryz.ntmps39
 go_wp2_with fail
 have hbk1 := zah (zdm w (.cells #[.slice A0_0 na c0_0, .slice A0_1 nb c0_1] 29)) (.cells #[.slice none 0 0, .slice none 0 0] 29)
 have hbk2 := zdm (w.alloc (.cells #[.slice A0_0 na c0_0, .slice A0_1 nb c0_1] 29)) (.cells #[.slice none 0 0, .slice none 0 0] 29)
 rw [show (w.alloc (.cells #[.slice A0_0 na c0_0, .slice A0_1 nb c0_1] 29)).heap.size = w.heap.size + 1 by simp] at hbk2
 have hs1 : ((w.alloc (.cells #[.slice A0_0 na c0_0, .slice A0_1 nb c0_1] 29)).alloc (.cells #[.slice none 0 0, .slice none 0 0] 29)).heap.size = w.heap.size + 2 := by simp
 have hB1 := zb (zb (Below.refl w.heap.size w) (.cells #[.slice A0_0 na c0_0, .slice A0_1 nb c0_1] 29)) (.cells #[.slice none 0 0, .slice none 0 0] 29)
 generalize (w.alloc (.cells #[.slice A0_0 na c0_0, .slice A0_1 nb c0_1] 29)).alloc (.cells #[.slice none 0 0, .slice none 0 0] 29) = w1 at hbk1 hbk2 hs1 hB1 ⊢
 have hK1 := HKm.out.keep hB1
 have hlt1 := kids_lt hK1
 refine (vals_make A1 nm c1 w1).mono ?_
 rintro e w2 ⟨rfl, rfl⟩
 have hSo := sorted_ok w1.heap.size A1 c1 m HM.out (w1.alloc (.cells #[.slice A1 nm c1] 85)) (fun ad e h => by have := hlt1 ad e h; simp; omega) (by simp) (by rw [HNM.out]; exact (zab (zdm w1 _) 0).trans rfl) (hK1.keep (zb (Below.refl _ _) _))
 have HSo := Aside0.mk hSo
 have HB1 := Aside0.mk hB1
 have HBK1 := Aside0.mk (zah hbk1 (.cells #[.slice A1 nm c1] 85))
 have HBK2 := Aside0.mk (zah hbk2 (.cells #[.slice A1 nm c1] 85))
 have HS1 := Aside0.mk hs1
 clear hSo hB1 hbk1 hbk2 hs1 hK1 hlt1
 go_wp2_with fail
 refine HSo.out.mono ?_
 rintro e w3 ⟨s, A2, c2, rfl, hp, hso, hk3, hA2, hb3⟩
 have HA2 : Aside0 (∀ ad, A2 = some ad → w.heap.size + 2 ≤ ad.block) := ⟨fun ad e => by have := hA2 ad e; simp [HS1.out] at this; omega⟩
 have HP := Aside0.mk hp
 have HPW := Aside0.mk hso
 have HK3 := Aside0.mk hk3
 have HB3 := Aside0.mk (zaa (zb HB1.out (.cells #[.slice A1 nm c1] 85)) hb3)
 have hsz2 : (w1.alloc (.cells #[.slice A1 nm c1] 85)).heap.size = w.heap.size + 3 := by simp [HS1.out]
 have HBX := Aside0.mk ((hb3.block _ (zax HBK1.out)).trans HBK1.out)
 have HBR := Aside0.mk ((hb3.block _ (zax HBK2.out)).trans HBK2.out)
 have HS3 : Aside0 (w.heap.size + 3 ≤ w3.heap.size) := ⟨by have := hb3.size; omega⟩
 clear hp hso hk3 hb3 hsz2 HSo hA2
 obtain ⟨ns, hns⟩ : ∃ n, s.length = n := ⟨_, rfl⟩
 rw [hns]
 have HNS := Aside0.mk hns
 clear hns
 go_wp2_with fail
 have hgs : ∀ p ∈ s, 1 ≤ p.1 ∧ p.1 ≤ 10000 ∧ p.2 ≤ 64 := fun p hp => HM.out.2 p (HP.out.mem_iff.1 hp)
 have HGS := Aside0.mk hgs
 have HN32 : Aside0 (ns ≤ 32) := ⟨by rw [← HNS.out, HP.out.length_eq]; exact HM.out.1⟩
 clear hgs
 go_loopg [5, 20] ns (fun gk v5 v20 w' => ∃ i o : Nat, v5 = .int .i64 (o : Int) ∧ v20 = .int .i64 (i : Int) ∧ Aside0 (i + gk = ns) ∧ Aside0 (o ≤ 10000 * i ∧ wsum (s.take i) = (o : Rat)) ∧ Aside0 (Below w3.heap.size w3 w'))
 case atStart => exact ⟨0, 0, rfl, rfl, ⟨by omega⟩, ⟨by omega, rfl⟩, ⟨Below.refl _ _⟩⟩
 case round =>
  obtain ⟨i, o, rfl, rfl, HI, HO, HBW⟩ := hrel
  cases gk with
  | succ g1 =>
   have hil : i < ns := by have := HI.out; omega
   have hi : i < s.length := by rw [HNS.out]; exact hil
   have d1 : decide ((i : Int) < (ns : Int)) = true := decide_eq_true (by omega)
   have d3 : 0 ≤ (i : Int) ∧ (i : Int) < (ns : Int) := by omega
   obtain ⟨ad, rfl, q1, q2⟩ := (HK3.out.keep HBW.out) i hi
   obtain ⟨p, hp⟩ : ∃ p, s[i] = p := ⟨_, rfl⟩
   rw [hp] at q1 q2
   have htk : s.take (i + 1) = s.take i ++ [p] := by rw [List.take_succ_eq_append_getElem hi, hp]
   have hpg := HGS.out p (by rw [← hp]; exact List.getElem_mem hi)
   have e1 : wrap64 ((i : Int) + 1) = ((i + 1 : Nat) : Int) := by have := HN32.out; unfold wrap64; omega
   have e2 : wrap64 ((o : Int) + (p.1 : Int)) = ((o + p.1 : Nat) : Int) := by have := HN32.out; have := HO.out.1; unfold wrap64; omega
   have e3 : o + p.1 ≤ 10000 * (i + 1) ∧ wsum (s.take (i + 1)) = ((o + p.1 : Nat) : Rat) := by
    refine ⟨by have := HO.out.1; omega, ?_⟩
    rw [htk, wsum_app, HO.out.2, Rat.natCast_add]
    exact congrArg _ (Rat.add_zero _)
   have E1 := Aside0.mk e1
   have E2 := Aside0.mk e2
   have E3 := Aside0.mk e3
   have HB' := Aside0.mk (zb HBW.out (.cells #[.int .i64 (p.1 : Int), .int .i64 (p.2 : Int)] 90))
   clear e1 e2 e3 htk hp hpg hi
   go_wp2_with fail
   go_roundg g1
   case rel => exact ⟨i + 1, o + p.1, by rw [E2.out], by rw [E1.out], ⟨by have := HI.out; omega⟩, E3, HB'⟩
   case measure => omega
  | zero =>
   obtain rfl : ns = i := by have := HI.out; omega
   have d1 : decide ((ns : Int) < (ns : Int)) = false := decide_eq_false (by omega)
   have hO := HO.out
   rw [List.take_of_length_le (by rw [HNS.out]; exact Nat.le_refl _)] at hO
   have HOW := Aside0.mk hO.2
   have HO3 : Aside0 (o ≤ 320000) := ⟨by have := hO.1; have := HN32.out; omega⟩
   clear hO HI HO
   go_wp2_with fail
   clear d1
   refine (t_Int 0 (by omega) wr).mono ?_
   rintro e w5 ⟨Z0, f0, Z1, f1, rfl, hZ, hb5⟩
   have HBV := Aside0.mk (zaa HBW.out hb5)
   have HZ := Aside0.mk hZ
   clear hZ hb5
   go_wp2_with fail
   have hRz := HZ.out.old (zb (Below.refl w5.heap.size w5) (.cells #[.slice Z0 (rN ((0 : Nat) : Rat)).length f0, .slice Z1 (rD ((0 : Nat) : Rat)).length f1] 29))
   have hB6 := zb (zaa HB3.out HBV.out) (.cells #[.slice Z0 (rN ((0 : Nat) : Rat)).length f0, .slice Z1 (rD ((0 : Nat) : Rat)).length f1] 29)
   have hb36 := zb HBV.out (.cells #[.slice Z0 (rN ((0 : Nat) : Rat)).length f0, .slice Z1 (rD ((0 : Nat) : Rat)).length f1] 29)
   have hba := zdm w5 (.cells #[.slice Z0 (rN ((0 : Nat) : Rat)).length f0, .slice Z1 (rD ((0 : Nat) : Rat)).length f1] 29)
   have hs6 : (w5.alloc (.cells #[.slice Z0 (rN ((0 : Nat) : Rat)).length f0, .slice Z1 (rD ((0 : Nat) : Rat)).length f1] 29)).heap.size = w5.heap.size + 1 := by simp
   have hsr : w3.heap.size ≤ wr.heap.size := HBW.out.size
   have hs5 : w3.heap.size ≤ w5.heap.size := HBV.out.size
   have hl3 := HS3.out
   change Aside0 (RV w5 (fun k => wr.heap.size ≤ k) Z0 f0 (rN ((0 : Nat) : Rat)) Z1 f1 (rD ((0 : Nat) : Rat))) at HZ
   generalize hb8 : w5.heap.size = b8 at hRz hba hs6 hs5 ⊢
   have HBA6 := Aside0.mk hba
   have HB6 := Aside0.mk hB6
   have HB36 := Aside0.mk hb36
   generalize w5.alloc (.cells #[.slice Z0 (rN ((0 : Nat) : Rat)).length f0, .slice Z1 (rD ((0 : Nat) : Rat)).length f1] 29) = w6 at hRz HBA6 HB6 HB36 hs6 ⊢
   have HRZ6 : Aside0 (RV w6 (fun k => w.heap.size ≤ k ∧ k ≠ w.heap.size ∧ k ≠ w.heap.size + 1 ∧ k ≠ b8) Z0 f0 (rN ((0 : Nat) : Rat)) Z1 f1 (rD ((0 : Nat) : Rat))) := ⟨hRz.mono fun k hk => by omega⟩
   have HRX6 : Aside0 (RV w6 (fun k => k ≠ w.heap.size ∧ k ≠ w.heap.size + 1 ∧ k ≠ b8) A0_0 c0_0 (rN x) A0_1 c0_1 (rD x)) := ⟨(HRt.out.rv.old HB6.out).mono fun k hk => by omega⟩
   have HBX6 := Aside0.mk ((HB36.out.block _ (zax HBX.out)).trans HBX.out)
   have HBR6 := Aside0.mk ((HB36.out.block _ (zax HBR.out)).trans HBR.out)
   have HK6 := Aside0.mk (HK3.out.keep HB36.out)
   have hA2b : ∀ ad, A2 = some ad → s ≠ [] → ad.block ≠ w.heap.size ∧ ad.block ≠ w.heap.size + 1 ∧ ad.block ≠ b8 := fun ad e hne => by
    have h1 := HA2.out ad e
    have h2 := kids_lt HK3.out ad e hne
    omega
   have HAB := Aside0.mk hA2b
   have HN8 : Aside0 (w.heap.size + 2 ≤ b8 ∧ b8 < w6.heap.size) := ⟨by omega⟩
   have hcs : csum s = csum m := csum_perm HP.out
   have hlv := lev_one m s x HP.out HPW.out (fun p hp => (HM.out.2 p hp).1) HX.out.1 HXC.out hcs
   have HLV := Aside0.mk hlv
   clear hRz hB6 hb36 hba hs6 hsr hs5 hl3 HZ HBV HBW hA2b hcs hlv hb8
   go_loopg [5, 32] ns (fun gk v5 v32 w' => ∃ (i o : Nat) (y a : Rat) (Y0 : Option Addr) (e0 : Nat) (Y1 : Option Addr) (e1 : Nat) (Z0 : Option Addr) (f0 : Nat) (Z1 : Option Addr) (f1 : Nat), v5 = .int .i64 (o : Int) ∧ v32 = .int .i64 (i : Int) ∧ Aside0 (i + gk = ns) ∧ Aside0 (Kp3 w.heap.size (w.heap.size + 1) b8 w6 w') ∧ Aside0 (w'.heap[w.heap.size]? = some (.cells #[.slice Y0 (rN y).length e0, .slice Y1 (rD y).length e1] 29 (0, 0))) ∧ Aside0 (w'.heap[w.heap.size + 1]? = some (.cells #[.slice none 0 0, .slice none 0 0] 29 (0, 0))) ∧ Aside0 (w'.heap[b8]? = some (.cells #[.slice Z0 (rN a).length f0, .slice Z1 (rD a).length f1] 29 (0, 0))) ∧ Aside0 (RV w' (fun k => k ≠ w.heap.size ∧ k ≠ w.heap.size + 1 ∧ k ≠ b8) Y0 e0 (rN y) Y1 e1 (rD y)) ∧ Aside0 (RV w' (fun k => w.heap.size ≤ k ∧ k ≠ w.heap.size ∧ k ≠ w.heap.size + 1 ∧ k ≠ b8) Z0 f0 (rN a) Z1 f1 (rD a)) ∧ Aside0 (Bd y (3000 + i) ∧ Bd a 1) ∧ Aside0 (o ≤ 320000 ∧ (o : Rat) = wsum (s.drop i) ∧ levP y (o : Rat) a (s.drop i) = levR m x))
   case atStart => exact ⟨0, o, x, ((0 : Nat) : Rat), A0_0, c0_0, A0_1, c0_1, Z0, f0, Z1, f1, rfl, rfl, ⟨by omega⟩, ⟨Kp3.refl _ _ _ _⟩, ⟨by rw [HNA.out, HNB.out]; exact HBX6.out⟩, HBR6, HBA6, HRX6, HRZ6, ⟨HX.out, bdN (x := 0) (by omega)⟩, ⟨HO3.out, HOW.out.symm, by rw [← HOW.out]; exact HLV.out⟩⟩
   case round =>
    obtain ⟨i, o, y, a, Y0, e0, Y1, e1, Z0, f0, Z1, f1, rfl, rfl, HI, HKP, HBX, HBR, HBA, HRY, HRZ, HBD, HLV⟩ := hrel
    cases gk with
    | zero =>
     obtain rfl : ns = i := by have := HI.out; omega
     have d1 : decide ((ns : Int) < (ns : Int)) = false := decide_eq_false (by omega)
     have hL := HLV.out.2.2
     rw [List.drop_of_length_le (by rw [HNS.out]; exact Nat.le_refl _)] at hL
     have HA : Aside0 (a = levR m x) := ⟨hL⟩
     clear hL
     have q2 : wr.cell? ⟨b8, 0, none⟩ = some (.slice Z0 (rN a).length f0) := (zab HBA.out 0).trans rfl
     have q3 : wr.cell? ⟨b8, 1, none⟩ = some (.slice Z1 (rD a).length f1) := (zab HBA.out 1).trans rfl
     have q4 : wr.cell? ⟨w.heap.size + 1, 0, none⟩ = some (.slice none 0 0) := (zab HBR.out 0).trans rfl
     have q5 : wr.cell? ⟨w.heap.size + 1, 1, none⟩ = some (.slice none 0 0) := (zab HBR.out 1).trans rfl
     have q6 := zal HBR.out 0
     have q7 := zal HBR.out 1
     have HSF := Aside0.mk ((HRZ.out.far (p := ⟨w.heap.size + 1, 0, none⟩) (fun k hk => hk.2.2.1) (.slice Z0 (rN a).length f0)).far (p := ⟨w.heap.size + 1, 1, none⟩) (fun k hk => hk.2.2.1) (.slice Z1 (rD a).length f1))
     have HBF := Aside0.mk (zbc (zbc HBR.out 0 (.slice Z0 (rN a).length f0) rfl) 1 (.slice Z1 (rD a).length f1) rfl)
     have HKF := Aside0.mk ((HKP.out.set ⟨w.heap.size + 1, 0, none⟩ (.inr (.inl rfl)) (.slice Z0 (rN a).length f0)).set ⟨w.heap.size + 1, 1, none⟩ (.inr (.inl rfl)) (.slice Z1 (rD a).length f1))
     go_wp2_with fail
     refine bodyPost_ret (results_cell_row rfl _ _ (w.heap.size + 1) 29 _ (0, 0) _ rfl HBF.out Tryz.underlying29 rfl (by kernel_rfl)) rfl ?_
     refine ⟨_, _, rfl, ?_, ?_, HKF.out.below HB6.out (by have := HB6.out.size; omega) (Nat.le_refl _) (by omega) (by have := HN8.out; omega)⟩
     ·
      rw [← HA.out]
      exact (HSF.out.mono (Q := fun k => w.heap.size ≤ k) (fun k hk => hk.1)).1
     ·
      rw [← HA.out]
      exact (HSF.out.mono (Q := fun k => w.heap.size ≤ k) (fun k hk => hk.1)).2
    | succ g1 =>
     have hil : i < ns := by have := HI.out; omega
     have hi : i < s.length := by rw [HNS.out]; exact hil
     have d1 : decide ((i : Int) < (ns : Int)) = true := decide_eq_true (by omega)
     have d3 : 0 ≤ (i : Int) ∧ (i : Int) < (ns : Int) := by omega
     have HAB2 : Aside0 (∀ ad, A2 = some ad → ad.block ≠ w.heap.size ∧ ad.block ≠ w.heap.size + 1 ∧ ad.block ≠ b8) := ⟨fun ad e => HAB.out ad e (by rintro rfl; simp at hi)⟩
     obtain ⟨ad, hAd, q1, q2⟩ := (HK6.out.kp3 HKP.out HAB2.out) i hi
     subst hAd
     obtain ⟨p, hp⟩ : ∃ p, s[i] = p := ⟨_, rfl⟩
     rw [hp] at q1 q2
     have hdr : s.drop i = p :: s.drop (i + 1) := by rw [List.drop_eq_getElem_cons hi, hp]
     have hpg := HGS.out p (by rw [← hp]; exact List.getElem_mem hi)
     have HPG := Aside0.mk hpg
     have HDR := Aside0.mk hdr
     have HIB : Aside0 (i < 32) := ⟨by have := HN32.out; omega⟩
     have hlv := HLV.out
     rw [hdr] at hlv
     have HLV2 := Aside0.mk hlv
     have hwo : p.1 ≤ o := by
      have h1 := hlv.2.1
      have h2 : (p.1 : Rat) ≤ (o : Rat) := by
       rw [h1]
       show (p.1 : Rat) ≤ (p.1 : Rat) + wsum (s.drop (i + 1))
       have := wsum_nonneg (s.drop (i + 1))
       grind
      exact Rat.natCast_le_natCast.1 h2
     have HWO := Aside0.mk hwo
     have HPO : Aside0 ((0 : Rat) < (o : Rat)) := ⟨Rat.natCast_pos.2 (by omega)⟩
     have HPP : Aside0 ((0 : Rat) < (p.1 : Rat)) := ⟨Rat.natCast_pos.2 (by omega)⟩
     have ho3 : o ≤ 320000 := hlv.1
     have HO32 := Aside0.mk ho3
     have HBO : Aside0 (Bd ((o : Nat) : Rat) 1) := ⟨bdN (by omega)⟩
     have HBY := Aside0.mk HBD.out.1
     have HBA1 := Aside0.mk HBD.out.2
     have hb7 := zb (Below.refl wr.heap.size wr) (.cells #[.int .i64 (p.1 : Int), .int .i64 (p.2 : Int)] 90)
     have hbc := zdm wr (.cells #[.int .i64 (p.1 : Int), .int .i64 (p.2 : Int)] 90)
     have hs7 : (wr.alloc (.cells #[.int .i64 (p.1 : Int), .int .i64 (p.2 : Int)] 90)).heap.size = wr.heap.size + 1 := by simp
     clear hp hdr hpg hlv hwo ho3 hi HBD HLV
     go_wp2_with fail
     clear q1 q2 d1 d3
     generalize hbcn : wr.heap.size = bc at hbc hs7 ⊢
     have HBX7 := Aside0.mk ((hb7.block _ (zax HBX.out)).trans HBX.out)
     have HBR7 := Aside0.mk ((hb7.block _ (zax HBR.out)).trans HBR.out)
     have HBA7 := Aside0.mk ((hb7.block _ (zax HBA.out)).trans HBA.out)
     have HBC7 := Aside0.mk hbc
     have HKP7 := Aside0.mk (HKP.out.trans (Kp3.of_below hb7))
     have HRY7v := Aside0.mk (HRY.out.kp3 (Kp3.of_below hb7) (fun k hk => hk))
     have HRZ7v := Aside0.mk (HRZ.out.kp3 (Kp3.of_below hb7) (fun k hk => hk.2))
     have hsz : w6.heap.size ≤ wr.heap.size := HKP.out.1.size
     have HN7 : Aside0 (w.heap.size + 2 ≤ b8 ∧ b8 < bc ∧ bc + 1 = (wr.alloc (.cells #[.int .i64 (p.1 : Int), .int .i64 (p.2 : Int)] 90)).heap.size) := ⟨by have := HN8.out; omega⟩
     generalize wr.alloc (.cells #[.int .i64 (p.1 : Int), .int .i64 (p.2 : Int)] 90) = w7 at HBX7 HBR7 HBA7 HBC7 HKP7 HRY7v HRZ7v HN7 ⊢
     clear hb7 hbc hs7 hsz hbcn HKP HBX HBR HBA HRY HRZ
     have HRY7 := Aside0.mk HRY7v.out.rt
     have HBw70 : Aside0 (Below w7.heap.size w7 w7.drew) := ⟨(Below.refl w7.heap.size w7).drew⟩
     have HSK : Aside0 (∀ W, Below w7.heap.size w7 W → W.cell? ⟨w.heap.size, 0, none⟩ = some (.slice Y0 (rN y).length e0) ∧ W.cell? ⟨w.heap.size, 1, none⟩ = some (.slice Y1 (rD y).length e1)) := ⟨fun W hb => by
      have hk := (hb.block _ (zax HBX7.out)).trans HBX7.out
      exact ⟨(zab hk 0).trans rfl, (zab hk 1).trans rfl⟩⟩
     refine start_ (n := 10) (S := fun W => W.cell? ⟨w.heap.size, 0, none⟩ = some (.slice Y0 (rN y).length e0) ∧ W.cell? ⟨w.heap.size, 1, none⟩ = some (.slice Y1 (rD y).length e1)) (ds := []) #[false, false, false, false, false, false, false, false, false, false] (by kernel_rfl) rfl rfl (HSK.out _ HBw70.out) (fun hHeld => ?_); refine zcq lv12tab lv12bits (fun HT_ HW_ => ?_)
     refine take_ (i := 0) (N := some 37) (v := ?_) (a' := ?_) #[true, false, false, false, false, false, false, false, false, false] rfl rfl (zbk HT_.out HW_.out (by kernel_rfl)) (fun _ _ _ h => h) (Or.inl ⟨by rfl, ?_⟩) hHeld ?_ ?_
     rotate_left
     ·
      rintro w' ⟨s0, s1⟩
      go_simp
      with_reducible rfl
     rotate_left
     ·
      simp only [Act.put, List.setIfInBounds_toArray, List.set_cons_zero, List.set_cons_succ, i64_w, i32_w]
      rfl
     refine pure_ (i := 1) (N := some 38) (v := ?_) (a' := ?_) #[true, true, false, false, false, false, false, false, false, false] rfl rfl (zat HT_.out (by kernel_rfl)) (fun _ _ _ h => h) (Or.inl ⟨by rfl, ?_⟩) ?_ ?_
     rotate_left
     ·
      intro w'
      go_simp
      with_reducible rfl
     rotate_left
     ·
      simp only [Act.put, List.setIfInBounds_toArray, List.set_cons_zero, List.set_cons_succ, i64_w, i32_w]
      rfl
     refine join_ (σ := Value × Value × Nat) 2 #[true, true, true, true, true, true, true, true, false, false] (fun s_ => [(39, s_.1), (40, .tuple #[s_.2.1, .int .i64 0]), (36, .tuple #[s_.2.1, .int .i64 0]), (41, s_.2.1), (42, .int .i64 0), (11, .pointer (some ⟨s_.2.2, 0, none⟩))]) (fun s_ w' => (w'.cell? ⟨w.heap.size, 0, none⟩ = some (.slice Y0 (rN y).length e0) ∧ w'.cell? ⟨w.heap.size, 1, none⟩ = some (.slice Y1 (rD y).length e1)) ∧ (∃ A c A' c', s_.2.1 = .agg #[.slice A (rN (y / (o : Rat))).length c, .slice A' (rD (y / (o : Rat))).length c'] ∧ RV w' (fun k => w7.heap.size ≤ k ∧ k ≠ s_.2.2) A c (rN (y / (o : Rat))) A' c' (rD (y / (o : Rat)))) ∧ w'.heap[s_.2.2]? = some (.cells #[.slice none 0 0, .slice none 0 0] 29 (0, 0)) ∧ w7.heap.size ≤ s_.2.2 ∧ Below w7.heap.size w7 w') ?_ ?_
     rotate_left
     ·
      intro hJ
      refine two_ (i := 2) (j := 7) (Ni := some 39) (Nj := some 11) #[true, true, true, false, false, false, false, false, false, false] #[true, true, false, false, false, false, false, true, false, false] rfl rfl rfl rfl (two_of HT_.out (by kernel_rfl)) (by decide) (by decide) (fun K hK => ?_) (fun K hK => ?_)
      ·
       skip
       refine goes_ Tryz.func18 (by kernel_rfl) rfl #[.int .i64 (o : Int)] (by rfl) rfl rfl (by (try simp only [List.map_toArray, List.map_cons, List.map_nil]); first | done | rfl) ?_
       refine (t_IntN o (by have := HO32.out; omega) _).mono ?_
       rintro e u1 ⟨uE00, uE01, uE02, uE03, rfl, hx, hb⟩
       refine ⟨_, rfl, ?_⟩
       have HBu1 : Aside0 (Below w7.heap.size w7 u1) := ⟨zaa HBw70.out hb⟩
       have hzu1 := hb.size
       have HX0u1 := Aside0.mk hx.rt
       clear hx hb
       refine hK.out _ _ (HSK.out _ HBu1.out) (fun hHeld => ?_)
       clear hK K
       refine norm_ (a' := ?_) ?_ ?_
       rotate_left
       ·
        show Act.put _ (some 39) _ = _
        simp only [Act.put, List.setIfInBounds_toArray, List.set_cons_zero, List.set_cons_succ, i64_w, i32_w]
        rfl
       refine two_ (i := 3) (j := 7) (Ni := some 40) (Nj := some 11) #[true, true, true, true, false, false, false, false, false, false] #[true, true, true, false, false, false, false, true, false, false] rfl rfl rfl rfl (two_of HT_.out (by kernel_rfl)) (by decide) (by decide) (fun K hK => ?_) (fun K hK => ?_)
       ·
        skip
        refine goes_ Tryz.func77 (by kernel_rfl) rfl #[.agg #[.slice Y0 (rN y).length e0, .slice Y1 (rD y).length e1], .agg #[.slice uE00 _ uE01, .slice uE02 _ uE03]] (by rfl) rfl rfl (by (try simp only [List.map_toArray, List.map_cons, List.map_nil]); first | done | rfl) ?_
        refine (t_Div (HRY7.out.below HBu1.out) HX0u1.out HBY.out HBO.out (by have := HIB.out; omega) HPO.out).mono ?_
        rintro e u2 ⟨uE10, uE11, uE12, uE13, rfl, hx, hb⟩
        refine ⟨_, rfl, ?_⟩
        have HBu2 : Aside0 (Below w7.heap.size w7 u2) := ⟨zaa HBu1.out hb⟩
        have hzu2 := hb.size
        have HYu2 := Aside0.mk hx
        clear hx hb
        refine hK.out _ _ (HSK.out _ HBu2.out) (fun hHeld => ?_)
        clear hK K
        refine norm_ (a' := ?_) ?_ ?_
        rotate_left
        ·
         show Act.put _ (some 40) _ = _
         simp only [Act.put, List.setIfInBounds_toArray, List.set_cons_zero, List.set_cons_succ, i64_w, i32_w]
         rfl
        refine pure_ (i := 4) (N := some 36) (v := ?_) (a' := ?_) #[true, true, true, true, true, false, false, false, false, false] rfl rfl (zat HT_.out (by kernel_rfl)) (fun _ _ _ h => h) (Or.inl ⟨by rfl, ?_⟩) ?_ ?_
        rotate_left
        ·
         intro w'
         go_simp
         with_reducible rfl
        rotate_left
        ·
         simp only [Act.put, List.setIfInBounds_toArray, List.set_cons_zero, List.set_cons_succ, i64_w, i32_w]
         rfl
        refine pure_ (i := 5) (N := some 41) (v := ?_) (a' := ?_) #[true, true, true, true, true, true, false, false, false, false] rfl rfl (zat HT_.out (by kernel_rfl)) (fun _ _ _ h => h) (Or.inl ⟨by rfl, ?_⟩) ?_ ?_
        rotate_left
        ·
         intro w'
         go_simp
         with_reducible rfl
        rotate_left
        ·
         simp only [Act.put, List.setIfInBounds_toArray, List.set_cons_zero, List.set_cons_succ, i64_w, i32_w]
         rfl
        refine pure_ (i := 6) (N := some 42) (v := ?_) (a' := ?_) #[true, true, true, true, true, true, true, false, false, false] rfl rfl (zat HT_.out (by kernel_rfl)) (fun _ _ _ h => h) (Or.inl ⟨by rfl, ?_⟩) ?_ ?_
        rotate_left
        ·
         intro w'
         go_simp
         with_reducible rfl
        rotate_left
        ·
         simp only [Act.put, List.setIfInBounds_toArray, List.set_cons_zero, List.set_cons_succ, i64_w, i32_w]
         rfl
        refine one_ (i := 7) (N := some 11) #[true, true, true, true, true, true, true, true, false, false] rfl rfl (zbu HT_.out (by kernel_rfl)) (by decide) (fun K hK => ?_)
        refine box_step ?hg (N := 11) ?hd (cs := #[.slice none 0 0, .slice none 0 0]) (t := 29) ?hr ?_; (case hd => rfl); (case hg => rfl); (case hr => first | (go_simp; done) | (go_simp; rfl))
        intro gb hgb u3 hbox hb
        have HBu3 : Aside0 (Below w7.heap.size w7 u3) := ⟨zaa HBu2.out hb⟩
        have HBXu3 := Aside0.mk hbox
        have hgl := zax hbox
        have hge : w7.heap.size ≤ gb := by rw [hgb]; exact (HBu2.out).size
        have hzu3 := hb.size
        have HYu3 := Aside0.mk ((HYu2.out.old hb).mono (Q := fun k => w7.heap.size ≤ k ∧ k ≠ gb) (fun k hk => by have h0 := hk.1; have := hk.2; have := (HBu1.out).size; omega))
        clear hbox hb
        refine hK.out _ _ (HSK.out _ HBu3.out) (fun hHeld => ?_)
        clear hK K
        refine norm_ (a' := ?_) ?_ ?_
        rotate_left
        ·
         show Act.put _ (some 11) _ = _
         simp only [Act.put, List.setIfInBounds_toArray, List.set_cons_zero, List.set_cons_succ, i64_w, i32_w]
         rfl
        exact norm_ (by first | (simp only [putAll, Act.put, List.setIfInBounds_toArray, List.set_cons_zero, List.set_cons_succ]; done) | (simp only [putAll, Act.put, List.setIfInBounds_toArray, List.set_cons_zero, List.set_cons_succ]; rfl)) (hJ (_, _, gb) u3 ⟨hHeld, ⟨uE10, uE11, uE12, uE13, rfl, HYu3.out⟩, HBXu3.out, hge, HBu3.out⟩)
       ·
        skip
        refine box_step ?hg (N := 11) ?hd (cs := #[.slice none 0 0, .slice none 0 0]) (t := 29) ?hr ?_; (case hd => rfl); (case hg => rfl); (case hr => first | (go_simp; done) | (go_simp; rfl))
        intro gb hgb u2 hbox hb
        have HBu2 : Aside0 (Below w7.heap.size w7 u2) := ⟨zaa HBu1.out hb⟩
        have HBXu2 := Aside0.mk hbox
        have hgl := zax hbox
        have hge : w7.heap.size ≤ gb := by rw [hgb]; exact (HBu1.out).size
        have hzu2 := hb.size
        have HX0u2 := Aside0.mk (HX0u1.out.below hb)
        clear hbox hb
        refine hK.out _ _ (HSK.out _ HBu2.out) (fun hHeld => ?_)
        clear hK K
        refine norm_ (a' := ?_) ?_ ?_
        rotate_left
        ·
         show Act.put _ (some 11) _ = _
         simp only [Act.put, List.setIfInBounds_toArray, List.set_cons_zero, List.set_cons_succ, i64_w, i32_w]
         rfl
        refine one_ (i := 3) (N := some 40) #[true, true, true, true, false, false, false, true, false, false] rfl rfl (zbu HT_.out (by kernel_rfl)) (by decide) (fun K hK => ?_)
        refine goes_ Tryz.func77 (by kernel_rfl) rfl #[.agg #[.slice Y0 (rN y).length e0, .slice Y1 (rD y).length e1], .agg #[.slice uE00 _ uE01, .slice uE02 _ uE03]] (by rfl) rfl rfl (by (try simp only [List.map_toArray, List.map_cons, List.map_nil]); first | done | rfl) ?_
        refine (t_Div (HRY7.out.below HBu2.out) HX0u2.out HBY.out HBO.out (by have := HIB.out; omega) HPO.out).mono ?_
        rintro e u3 ⟨uE10, uE11, uE12, uE13, rfl, hx, hb⟩
        refine ⟨_, rfl, ?_⟩
        have HBu3 : Aside0 (Below w7.heap.size w7 u3) := ⟨zaa HBu2.out hb⟩
        have hzu3 := hb.size
        have HYu3 := Aside0.mk hx
        have HBXu3 := Aside0.mk ((hb.block _ (zax HBXu2.out)).trans HBXu2.out)
        clear hx hb
        refine hK.out _ _ (HSK.out _ HBu3.out) (fun hHeld => ?_)
        clear hK K
        refine norm_ (a' := ?_) ?_ ?_
        rotate_left
        ·
         show Act.put _ (some 40) _ = _
         simp only [Act.put, List.setIfInBounds_toArray, List.set_cons_zero, List.set_cons_succ, i64_w, i32_w]
         rfl
        refine pure_ (i := 4) (N := some 36) (v := ?_) (a' := ?_) #[true, true, true, true, true, false, false, true, false, false] rfl rfl (zat HT_.out (by kernel_rfl)) (fun _ _ _ h => h) (Or.inl ⟨by rfl, ?_⟩) ?_ ?_
        rotate_left
        ·
         intro w'
         go_simp
         with_reducible rfl
        rotate_left
        ·
         simp only [Act.put, List.setIfInBounds_toArray, List.set_cons_zero, List.set_cons_succ, i64_w, i32_w]
         rfl
        refine pure_ (i := 5) (N := some 41) (v := ?_) (a' := ?_) #[true, true, true, true, true, true, false, true, false, false] rfl rfl (zat HT_.out (by kernel_rfl)) (fun _ _ _ h => h) (Or.inl ⟨by rfl, ?_⟩) ?_ ?_
        rotate_left
        ·
         intro w'
         go_simp
         with_reducible rfl
        rotate_left
        ·
         simp only [Act.put, List.setIfInBounds_toArray, List.set_cons_zero, List.set_cons_succ, i64_w, i32_w]
         rfl
        refine pure_ (i := 6) (N := some 42) (v := ?_) (a' := ?_) #[true, true, true, true, true, true, true, true, false, false] rfl rfl (zat HT_.out (by kernel_rfl)) (fun _ _ _ h => h) (Or.inl ⟨by rfl, ?_⟩) ?_ ?_
        rotate_left
        ·
         intro w'
         go_simp
         with_reducible rfl
        rotate_left
        ·
         simp only [Act.put, List.setIfInBounds_toArray, List.set_cons_zero, List.set_cons_succ, i64_w, i32_w]
         rfl
        exact norm_ (by first | (simp only [putAll, Act.put, List.setIfInBounds_toArray, List.set_cons_zero, List.set_cons_succ]; done) | (simp only [putAll, Act.put, List.setIfInBounds_toArray, List.set_cons_zero, List.set_cons_succ]; rfl)) (hJ (_, _, gb) u3 ⟨hHeld, ⟨uE10, uE11, uE12, uE13, rfl, (HYu3.out.mono (fun k hk => by have h : u2.heap.size ≤ k := hk; have := (HBu2.out).size; show w7.heap.size ≤ k ∧ k ≠ gb; omega))⟩, HBXu3.out, hge, HBu3.out⟩)
      ·
       skip
       refine box_step ?hg (N := 11) ?hd (cs := #[.slice none 0 0, .slice none 0 0]) (t := 29) ?hr ?_; (case hd => rfl); (case hg => rfl); (case hr => first | (go_simp; done) | (go_simp; rfl))
       intro gb hgb u1 hbox hb
       have HBu1 : Aside0 (Below w7.heap.size w7 u1) := ⟨zaa HBw70.out hb⟩
       have HBXu1 := Aside0.mk hbox
       have hgl := zax hbox
       have hge : w7.heap.size ≤ gb := by rw [hgb]; exact (HBw70.out).size
       have hzu1 := hb.size
       clear hbox hb
       refine hK.out _ _ (HSK.out _ HBu1.out) (fun hHeld => ?_)
       clear hK K
       refine norm_ (a' := ?_) ?_ ?_
       rotate_left
       ·
        show Act.put _ (some 11) _ = _
        simp only [Act.put, List.setIfInBounds_toArray, List.set_cons_zero, List.set_cons_succ, i64_w, i32_w]
        rfl
       refine one_ (i := 2) (N := some 39) #[true, true, true, false, false, false, false, true, false, false] rfl rfl (zbu HT_.out (by kernel_rfl)) (by decide) (fun K hK => ?_)
       refine goes_ Tryz.func18 (by kernel_rfl) rfl #[.int .i64 (o : Int)] (by rfl) rfl rfl (by (try simp only [List.map_toArray, List.map_cons, List.map_nil]); first | done | rfl) ?_
       refine (t_IntN o (by have := HO32.out; omega) _).mono ?_
       rintro e u2 ⟨uE00, uE01, uE02, uE03, rfl, hx, hb⟩
       refine ⟨_, rfl, ?_⟩
       have HBu2 : Aside0 (Below w7.heap.size w7 u2) := ⟨zaa HBu1.out hb⟩
       have hzu2 := hb.size
       have HX0u2 := Aside0.mk hx.rt
       have HBXu2 := Aside0.mk ((hb.block _ (zax HBXu1.out)).trans HBXu1.out)
       clear hx hb
       refine hK.out _ _ (HSK.out _ HBu2.out) (fun hHeld => ?_)
       clear hK K
       refine norm_ (a' := ?_) ?_ ?_
       rotate_left
       ·
        show Act.put _ (some 39) _ = _
        simp only [Act.put, List.setIfInBounds_toArray, List.set_cons_zero, List.set_cons_succ, i64_w, i32_w]
        rfl
       refine one_ (i := 3) (N := some 40) #[true, true, true, true, false, false, false, true, false, false] rfl rfl (zbu HT_.out (by kernel_rfl)) (by decide) (fun K hK => ?_)
       refine goes_ Tryz.func77 (by kernel_rfl) rfl #[.agg #[.slice Y0 (rN y).length e0, .slice Y1 (rD y).length e1], .agg #[.slice uE00 _ uE01, .slice uE02 _ uE03]] (by rfl) rfl rfl (by (try simp only [List.map_toArray, List.map_cons, List.map_nil]); first | done | rfl) ?_
       refine (t_Div (HRY7.out.below HBu2.out) HX0u2.out HBY.out HBO.out (by have := HIB.out; omega) HPO.out).mono ?_
       rintro e u3 ⟨uE10, uE11, uE12, uE13, rfl, hx, hb⟩
       refine ⟨_, rfl, ?_⟩
       have HBu3 : Aside0 (Below w7.heap.size w7 u3) := ⟨zaa HBu2.out hb⟩
       have hzu3 := hb.size
       have HYu3 := Aside0.mk hx
       have HBXu3 := Aside0.mk ((hb.block _ (zax HBXu2.out)).trans HBXu2.out)
       clear hx hb
       refine hK.out _ _ (HSK.out _ HBu3.out) (fun hHeld => ?_)
       clear hK K
       refine norm_ (a' := ?_) ?_ ?_
       rotate_left
       ·
        show Act.put _ (some 40) _ = _
        simp only [Act.put, List.setIfInBounds_toArray, List.set_cons_zero, List.set_cons_succ, i64_w, i32_w]
        rfl
       refine pure_ (i := 4) (N := some 36) (v := ?_) (a' := ?_) #[true, true, true, true, true, false, false, true, false, false] rfl rfl (zat HT_.out (by kernel_rfl)) (fun _ _ _ h => h) (Or.inl ⟨by rfl, ?_⟩) ?_ ?_
       rotate_left
       ·
        intro w'
        go_simp
        with_reducible rfl
       rotate_left
       ·
        simp only [Act.put, List.setIfInBounds_toArray, List.set_cons_zero, List.set_cons_succ, i64_w, i32_w]
        rfl
       refine pure_ (i := 5) (N := some 41) (v := ?_) (a' := ?_) #[true, true, true, true, true, true, false, true, false, false] rfl rfl (zat HT_.out (by kernel_rfl)) (fun _ _ _ h => h) (Or.inl ⟨by rfl, ?_⟩) ?_ ?_
       rotate_left
       ·
        intro w'
        go_simp
        with_reducible rfl
       rotate_left
       ·
        simp only [Act.put, List.setIfInBounds_toArray, List.set_cons_zero, List.set_cons_succ, i64_w, i32_w]
        rfl
       refine pure_ (i := 6) (N := some 42) (v := ?_) (a' := ?_) #[true, true, true, true, true, true, true, true, false, false] rfl rfl (zat HT_.out (by kernel_rfl)) (fun _ _ _ h => h) (Or.inl ⟨by rfl, ?_⟩) ?_ ?_
       rotate_left
       ·
        intro w'
        go_simp
        with_reducible rfl
       rotate_left
       ·
        simp only [Act.put, List.setIfInBounds_toArray, List.set_cons_zero, List.set_cons_succ, i64_w, i32_w]
        rfl
       exact norm_ (by first | (simp only [putAll, Act.put, List.setIfInBounds_toArray, List.set_cons_zero, List.set_cons_succ]; done) | (simp only [putAll, Act.put, List.setIfInBounds_toArray, List.set_cons_zero, List.set_cons_succ]; rfl)) (hJ (_, _, gb) u3 ⟨hHeld, ⟨uE10, uE11, uE12, uE13, rfl, (HYu3.out.mono (fun k hk => by have h : u2.heap.size ≤ k := hk; have := (HBu2.out).size; show w7.heap.size ≤ k ∧ k ≠ gb; omega))⟩, HBXu3.out, hge, HBu3.out⟩)
     rintro ⟨v40_, y_, g11⟩ w8 ⟨hHeld, ⟨m0, m1, m2, m3, hy, hRV⟩, hbox, hge, hb8⟩
     dsimp only at hy hbox hge hRV
     subst hy
     have q0 : w8.cell? ⟨g11, 0, none⟩ = some (.slice none 0 0) := (zab hbox 0).trans rfl
     have q1 : w8.cell? ⟨g11, 1, none⟩ = some (.slice none 0 0) := (zab hbox 1).trans rfl
     have q2 := zal hbox 0
     have q3 := zal hbox 1
     have HBF := Aside0.mk ((hb8.setCell (p := ⟨g11, 0, none⟩) hge (.slice m0 (rN (y / (o : Rat))).length m1)).setCell (p := ⟨g11, 1, none⟩) hge (.slice m2 (rD (y / (o : Rat))).length m3))
     have HRF := Aside0.mk (((hRV.far (p := ⟨g11, 0, none⟩) (fun k hk => hk.2) (.slice m0 (rN (y / (o : Rat))).length m1)).far (p := ⟨g11, 1, none⟩) (fun k hk => hk.2) (.slice m2 (rD (y / (o : Rat))).length m3)))
     have HXF := Aside0.mk (zbc (zbc hbox 0 (.slice m0 (rN (y / (o : Rat))).length m1) rfl) 1 (.slice m2 (rD (y / (o : Rat))).length m3) rfl)
     have HGEg11 := Aside0.mk hge
     clear hRV hbox hb8
     refine norm_ (a' := ?_) ?_ ?_
     rotate_left
     ·
      simp only [putAll, Act.put, List.setIfInBounds_toArray, List.set_cons_zero, List.set_cons_succ]
      rfl
     refine one_ (i := 8) (N := none) #[true, true, true, true, true, true, true, true, true, false] rfl rfl (zbu HT_.out (by kernel_rfl)) (by decide) (fun K hK => ?_)
     refine skip_ (w1 := ?_) (by rfl) rfl ?_ ?_
     rotate_left
     ·
      go_simp
      rfl
     refine hK.out _ _ (HSK.out _ HBF.out) (fun hHeld => ?_)
     clear hK K q0 q1 q2 q3
     generalize (w8.setCell ⟨g11, 0, none⟩ (.slice m0 (rN (y / (o : Rat))).length m1)).setCell ⟨g11, 1, none⟩ (.slice m2 (rD (y / (o : Rat))).length m3) = w9 at HBF HRF HXF hHeld ⊢
     have HBw9 := HBF
     have HRw9 := HRF
     have HXw9 := HXF
     clear HBF HRF HXF hge
     refine pure_ (i := 9) (N := some 12) (v := ?_) (a' := ?_) #[true, true, true, true, true, true, true, true, true, true] rfl rfl (zat HT_.out (by kernel_rfl)) (fun _ _ _ h => h) (Or.inl ⟨by rfl, ?_⟩) ?_ ?_
     rotate_left
     ·
      intro w'
      go_simp
      with_reducible rfl
     rotate_left
     ·
      simp only [Act.put, List.setIfInBounds_toArray, List.set_cons_zero, List.set_cons_succ, i64_w, i32_w]
      rfl
     refine done_ (zdf HT_.out (by kernel_rfl)) ?_
     have HRY9v := Aside0.mk (HRY7v.out.kp3 (Kp3.of_below HBw9.out) (fun k hk => hk))
     have HRZ9v := Aside0.mk (HRZ7v.out.kp3 (Kp3.of_below HBw9.out) (fun k hk => hk.2))
     have HBC9 := Aside0.mk ((HBw9.out.block _ (zax HBC7.out)).trans HBC7.out)
     have HBw90 : Aside0 (Below w9.heap.size w9 w9.drew) := ⟨(Below.refl w9.heap.size w9).drew⟩
     have HSL : Aside0 (∀ W, Below w9.heap.size w9 W → W.cell? ⟨bc, 0, none⟩ = some (.int .i64 (p.1 : Int)) ∧ W.cell? ⟨bc, 1, none⟩ = some (.int .i64 (p.2 : Int))) := ⟨fun W hb => by
      have hk := (hb.block _ (zax HBC9.out)).trans HBC9.out
      exact ⟨(zab hk 0).trans rfl, (zab hk 1).trans rfl⟩⟩
     go_wp2_with fail
     refine start_ (n := 13) (S := fun W => W.cell? ⟨bc, 0, none⟩ = some (.int .i64 (p.1 : Int)) ∧ W.cell? ⟨bc, 1, none⟩ = some (.int .i64 (p.2 : Int))) (ds := []) #[false, false, false, false, false, false, false, false, false, false, false, false, false] (by kernel_rfl) rfl rfl (HSL.out _ HBw90.out) (fun hHeld => ?_); refine zcq lv13tab lv13bits (fun HT_ HW_ => ?_)
     refine pure_ (i := 0) (N := some 44) (v := ?_) (a' := ?_) #[true, false, false, false, false, false, false, false, false, false, false, false, false] rfl rfl (zat HT_.out (by kernel_rfl)) (fun _ _ _ h => h) (Or.inl ⟨by rfl, ?_⟩) ?_ ?_
     rotate_left
     ·
      intro w'
      go_simp
      with_reducible rfl
     rotate_left
     ·
      simp only [Act.put, List.setIfInBounds_toArray, List.set_cons_zero, List.set_cons_succ, i64_w, i32_w]
      rfl
     refine take_ (i := 1) (N := some 45) (v := ?_) (a' := ?_) #[true, true, false, false, false, false, false, false, false, false, false, false, false] rfl rfl (zbk HT_.out HW_.out (by kernel_rfl)) (fun _ _ _ h => h) (Or.inl ⟨by rfl, ?_⟩) hHeld ?_ ?_
     rotate_left
     ·
      rintro w' ⟨s0, s1⟩
      go_simp
      with_reducible rfl
     rotate_left
     ·
      simp only [Act.put, List.setIfInBounds_toArray, List.set_cons_zero, List.set_cons_succ, i64_w, i32_w]
      rfl
     refine pure_ (i := 3) (N := some 47) (v := ?_) (a' := ?_) #[true, true, false, true, false, false, false, false, false, false, false, false, false] rfl rfl (zat HT_.out (by kernel_rfl)) (fun _ _ _ h => h) (Or.inl ⟨by rfl, ?_⟩) ?_ ?_
     rotate_left
     ·
      intro w'
      go_simp
      with_reducible rfl
     rotate_left
     ·
      simp only [Act.put, List.setIfInBounds_toArray, List.set_cons_zero, List.set_cons_succ, i64_w, i32_w]
      rfl
     refine take_ (i := 4) (N := some 48) (v := ?_) (a' := ?_) #[true, true, false, true, true, false, false, false, false, false, false, false, false] rfl rfl (zbk HT_.out HW_.out (by kernel_rfl)) (fun _ _ _ h => h) (Or.inl ⟨by rfl, ?_⟩) hHeld ?_ ?_
     rotate_left
     ·
      rintro w' ⟨s0, s1⟩
      go_simp
      with_reducible rfl
     rotate_left
     ·
      simp only [Act.put, List.setIfInBounds_toArray, List.set_cons_zero, List.set_cons_succ, i64_w, i32_w]
      rfl
     refine join_ (σ := Value × Value × Value × Nat) 2 #[true, true, true, true, true, true, true, true, true, true, true, false, false] (fun s_ => [(46, s_.1), (49, s_.2.1), (50, .tuple #[s_.2.2.1, .int .i64 0]), (43, .tuple #[s_.2.2.1, .int .i64 0]), (51, s_.2.2.1), (52, .int .i64 0), (13, .pointer (some ⟨s_.2.2.2, 0, none⟩))]) (fun s_ w' => (w'.cell? ⟨bc, 0, none⟩ = some (.int .i64 (p.1 : Int)) ∧ w'.cell? ⟨bc, 1, none⟩ = some (.int .i64 (p.2 : Int))) ∧ (∃ A c A' c', s_.2.2.1 = .agg #[.slice A (rN ((p.2 : Rat) / (p.1 : Rat))).length c, .slice A' (rD ((p.2 : Rat) / (p.1 : Rat))).length c'] ∧ RV w' (fun k => w9.heap.size ≤ k ∧ k ≠ s_.2.2.2) A c (rN ((p.2 : Rat) / (p.1 : Rat))) A' c' (rD ((p.2 : Rat) / (p.1 : Rat)))) ∧ w'.heap[s_.2.2.2]? = some (.cells #[.slice none 0 0, .slice none 0 0] 29 (0, 0)) ∧ w9.heap.size ≤ s_.2.2.2 ∧ Below w9.heap.size w9 w') ?_ ?_
     rotate_left
     ·
      intro hJ
      refine two_ (i := 2) (j := 10) (Ni := some 46) (Nj := some 13) #[true, true, true, true, true, false, false, false, false, false, false, false, false] #[true, true, false, true, true, false, false, false, false, false, true, false, false] rfl rfl rfl rfl (two_of HT_.out (by kernel_rfl)) (by decide) (by decide) (fun K hK => ?_) (fun K hK => ?_)
      ·
       skip
       refine goes_ Tryz.func18 (by kernel_rfl) rfl #[.int .i64 (p.2 : Int)] (by rfl) rfl rfl (by (try simp only [List.map_toArray, List.map_cons, List.map_nil]); first | done | rfl) ?_
       refine (t_IntN p.2 (by have := HPG.out; omega) _).mono ?_
       rintro e t1 ⟨tE00, tE01, tE02, tE03, rfl, hx, hb⟩
       refine ⟨_, rfl, ?_⟩
       have HBt1 : Aside0 (Below w9.heap.size w9 t1) := ⟨zaa HBw90.out hb⟩
       have hzt1 := hb.size
       have HX0t1 := Aside0.mk hx.rt
       clear hx hb
       refine hK.out _ _ (HSL.out _ HBt1.out) (fun hHeld => ?_)
       clear hK K
       refine norm_ (a' := ?_) ?_ ?_
       rotate_left
       ·
        show Act.put _ (some 46) _ = _
        simp only [Act.put, List.setIfInBounds_toArray, List.set_cons_zero, List.set_cons_succ, i64_w, i32_w]
        rfl
       refine two_ (i := 5) (j := 10) (Ni := some 49) (Nj := some 13) #[true, true, true, true, true, true, false, false, false, false, false, false, false] #[true, true, true, true, true, false, false, false, false, false, true, false, false] rfl rfl rfl rfl (two_of HT_.out (by kernel_rfl)) (by decide) (by decide) (fun K hK => ?_) (fun K hK => ?_)
       ·
        skip
        refine goes_ Tryz.func18 (by kernel_rfl) rfl #[.int .i64 (p.1 : Int)] (by rfl) rfl rfl (by (try simp only [List.map_toArray, List.map_cons, List.map_nil]); first | done | rfl) ?_
        refine (t_IntN p.1 (by have := HPG.out; omega) _).mono ?_
        rintro e t2 ⟨tE10, tE11, tE12, tE13, rfl, hx, hb⟩
        refine ⟨_, rfl, ?_⟩
        have HBt2 : Aside0 (Below w9.heap.size w9 t2) := ⟨zaa HBt1.out hb⟩
        have hzt2 := hb.size
        have HX1t2 := Aside0.mk hx.rt
        have HX0t2 := Aside0.mk (HX0t1.out.below hb)
        clear hx hb
        refine hK.out _ _ (HSL.out _ HBt2.out) (fun hHeld => ?_)
        clear hK K
        refine norm_ (a' := ?_) ?_ ?_
        rotate_left
        ·
         show Act.put _ (some 49) _ = _
         simp only [Act.put, List.setIfInBounds_toArray, List.set_cons_zero, List.set_cons_succ, i64_w, i32_w]
         rfl
        refine two_ (i := 6) (j := 10) (Ni := some 50) (Nj := some 13) #[true, true, true, true, true, true, true, false, false, false, false, false, false] #[true, true, true, true, true, true, false, false, false, false, true, false, false] rfl rfl rfl rfl (two_of HT_.out (by kernel_rfl)) (by decide) (by decide) (fun K hK => ?_) (fun K hK => ?_)
        ·
         skip
         refine goes_ Tryz.func77 (by kernel_rfl) rfl #[.agg #[.slice tE00 _ tE01, .slice tE02 _ tE03], .agg #[.slice tE10 _ tE11, .slice tE12 _ tE13]] (by rfl) rfl rfl (by (try simp only [List.map_toArray, List.map_cons, List.map_nil]); first | done | rfl) ?_
         refine (t_Div HX0t2.out HX1t2.out (bdN (x := p.2) (by have := HPG.out; omega)) (bdN (x := p.1) (by have := HPG.out; omega)) (by omega) HPP.out).mono ?_
         rintro e t3 ⟨tE20, tE21, tE22, tE23, rfl, hx, hb⟩
         refine ⟨_, rfl, ?_⟩
         have HBt3 : Aside0 (Below w9.heap.size w9 t3) := ⟨zaa HBt2.out hb⟩
         have hzt3 := hb.size
         have HYt3 := Aside0.mk hx
         clear hx hb
         refine hK.out _ _ (HSL.out _ HBt3.out) (fun hHeld => ?_)
         clear hK K
         refine norm_ (a' := ?_) ?_ ?_
         rotate_left
         ·
          show Act.put _ (some 50) _ = _
          simp only [Act.put, List.setIfInBounds_toArray, List.set_cons_zero, List.set_cons_succ, i64_w, i32_w]
          rfl
         refine pure_ (i := 7) (N := some 43) (v := ?_) (a' := ?_) #[true, true, true, true, true, true, true, true, false, false, false, false, false] rfl rfl (zat HT_.out (by kernel_rfl)) (fun _ _ _ h => h) (Or.inl ⟨by rfl, ?_⟩) ?_ ?_
         rotate_left
         ·
          intro w'
          go_simp
          with_reducible rfl
         rotate_left
         ·
          simp only [Act.put, List.setIfInBounds_toArray, List.set_cons_zero, List.set_cons_succ, i64_w, i32_w]
          rfl
         refine pure_ (i := 8) (N := some 51) (v := ?_) (a' := ?_) #[true, true, true, true, true, true, true, true, true, false, false, false, false] rfl rfl (zat HT_.out (by kernel_rfl)) (fun _ _ _ h => h) (Or.inl ⟨by rfl, ?_⟩) ?_ ?_
         rotate_left
         ·
          intro w'
          go_simp
          with_reducible rfl
         rotate_left
         ·
          simp only [Act.put, List.setIfInBounds_toArray, List.set_cons_zero, List.set_cons_succ, i64_w, i32_w]
          rfl
         refine pure_ (i := 9) (N := some 52) (v := ?_) (a' := ?_) #[true, true, true, true, true, true, true, true, true, true, false, false, false] rfl rfl (zat HT_.out (by kernel_rfl)) (fun _ _ _ h => h) (Or.inl ⟨by rfl, ?_⟩) ?_ ?_
         rotate_left
         ·
          intro w'
          go_simp
          with_reducible rfl
         rotate_left
         ·
          simp only [Act.put, List.setIfInBounds_toArray, List.set_cons_zero, List.set_cons_succ, i64_w, i32_w]
          rfl
         refine one_ (i := 10) (N := some 13) #[true, true, true, true, true, true, true, true, true, true, true, false, false] rfl rfl (zbu HT_.out (by kernel_rfl)) (by decide) (fun K hK => ?_)
         refine box_step ?hg (N := 13) ?hd (cs := #[.slice none 0 0, .slice none 0 0]) (t := 29) ?hr ?_; (case hd => rfl); (case hg => rfl); (case hr => first | (go_simp; done) | (go_simp; rfl))
         intro gb hgb t4 hbox hb
         have HBt4 : Aside0 (Below w9.heap.size w9 t4) := ⟨zaa HBt3.out hb⟩
         have HBXt4 := Aside0.mk hbox
         have hgl := zax hbox
         have hge : w9.heap.size ≤ gb := by rw [hgb]; exact (HBt3.out).size
         have hzt4 := hb.size
         have HYt4 := Aside0.mk ((HYt3.out.old hb).mono (Q := fun k => w9.heap.size ≤ k ∧ k ≠ gb) (fun k hk => by have h0 := hk.1; have := hk.2; have := (HBt2.out).size; omega))
         clear hbox hb
         refine hK.out _ _ (HSL.out _ HBt4.out) (fun hHeld => ?_)
         clear hK K
         refine norm_ (a' := ?_) ?_ ?_
         rotate_left
         ·
          show Act.put _ (some 13) _ = _
          simp only [Act.put, List.setIfInBounds_toArray, List.set_cons_zero, List.set_cons_succ, i64_w, i32_w]
          rfl
         exact norm_ (by first | (simp only [putAll, Act.put, List.setIfInBounds_toArray, List.set_cons_zero, List.set_cons_succ]; done) | (simp only [putAll, Act.put, List.setIfInBounds_toArray, List.set_cons_zero, List.set_cons_succ]; rfl)) (hJ (_, _, _, gb) t4 ⟨hHeld, ⟨tE20, tE21, tE22, tE23, rfl, HYt4.out⟩, HBXt4.out, hge, HBt4.out⟩)
        ·
         skip
         refine box_step ?hg (N := 13) ?hd (cs := #[.slice none 0 0, .slice none 0 0]) (t := 29) ?hr ?_; (case hd => rfl); (case hg => rfl); (case hr => first | (go_simp; done) | (go_simp; rfl))
         intro gb hgb t3 hbox hb
         have HBt3 : Aside0 (Below w9.heap.size w9 t3) := ⟨zaa HBt2.out hb⟩
         have HBXt3 := Aside0.mk hbox
         have hgl := zax hbox
         have hge : w9.heap.size ≤ gb := by rw [hgb]; exact (HBt2.out).size
         have hzt3 := hb.size
         have HX0t3 := Aside0.mk (HX0t2.out.below hb)
         have HX1t3 := Aside0.mk (HX1t2.out.below hb)
         clear hbox hb
         refine hK.out _ _ (HSL.out _ HBt3.out) (fun hHeld => ?_)
         clear hK K
         refine norm_ (a' := ?_) ?_ ?_
         rotate_left
         ·
          show Act.put _ (some 13) _ = _
          simp only [Act.put, List.setIfInBounds_toArray, List.set_cons_zero, List.set_cons_succ, i64_w, i32_w]
          rfl
         refine one_ (i := 6) (N := some 50) #[true, true, true, true, true, true, true, false, false, false, true, false, false] rfl rfl (zbu HT_.out (by kernel_rfl)) (by decide) (fun K hK => ?_)
         refine goes_ Tryz.func77 (by kernel_rfl) rfl #[.agg #[.slice tE00 _ tE01, .slice tE02 _ tE03], .agg #[.slice tE10 _ tE11, .slice tE12 _ tE13]] (by rfl) rfl rfl (by (try simp only [List.map_toArray, List.map_cons, List.map_nil]); first | done | rfl) ?_
         refine (t_Div HX0t3.out HX1t3.out (bdN (x := p.2) (by have := HPG.out; omega)) (bdN (x := p.1) (by have := HPG.out; omega)) (by omega) HPP.out).mono ?_
         rintro e t4 ⟨tE20, tE21, tE22, tE23, rfl, hx, hb⟩
         refine ⟨_, rfl, ?_⟩
         have HBt4 : Aside0 (Below w9.heap.size w9 t4) := ⟨zaa HBt3.out hb⟩
         have hzt4 := hb.size
         have HYt4 := Aside0.mk hx
         have HBXt4 := Aside0.mk ((hb.block _ (zax HBXt3.out)).trans HBXt3.out)
         clear hx hb
         refine hK.out _ _ (HSL.out _ HBt4.out) (fun hHeld => ?_)
         clear hK K
         refine norm_ (a' := ?_) ?_ ?_
         rotate_left
         ·
          show Act.put _ (some 50) _ = _
          simp only [Act.put, List.setIfInBounds_toArray, List.set_cons_zero, List.set_cons_succ, i64_w, i32_w]
          rfl
         refine pure_ (i := 7) (N := some 43) (v := ?_) (a' := ?_) #[true, true, true, true, true, true, true, true, false, false, true, false, false] rfl rfl (zat HT_.out (by kernel_rfl)) (fun _ _ _ h => h) (Or.inl ⟨by rfl, ?_⟩) ?_ ?_
         rotate_left
         ·
          intro w'
          go_simp
          with_reducible rfl
         rotate_left
         ·
          simp only [Act.put, List.setIfInBounds_toArray, List.set_cons_zero, List.set_cons_succ, i64_w, i32_w]
          rfl
         refine pure_ (i := 8) (N := some 51) (v := ?_) (a' := ?_) #[true, true, true, true, true, true, true, true, true, false, true, false, false] rfl rfl (zat HT_.out (by kernel_rfl)) (fun _ _ _ h => h) (Or.inl ⟨by rfl, ?_⟩) ?_ ?_
         rotate_left
         ·
          intro w'
          go_simp
          with_reducible rfl
         rotate_left
         ·
          simp only [Act.put, List.setIfInBounds_toArray, List.set_cons_zero, List.set_cons_succ, i64_w, i32_w]
          rfl
         refine pure_ (i := 9) (N := some 52) (v := ?_) (a' := ?_) #[true, true, true, true, true, true, true, true, true, true, true, false, false] rfl rfl (zat HT_.out (by kernel_rfl)) (fun _ _ _ h => h) (Or.inl ⟨by rfl, ?_⟩) ?_ ?_
         rotate_left
         ·
          intro w'
          go_simp
          with_reducible rfl
         rotate_left
         ·
          simp only [Act.put, List.setIfInBounds_toArray, List.set_cons_zero, List.set_cons_succ, i64_w, i32_w]
          rfl
         exact norm_ (by first | (simp only [putAll, Act.put, List.setIfInBounds_toArray, List.set_cons_zero, List.set_cons_succ]; done) | (simp only [putAll, Act.put, List.setIfInBounds_toArray, List.set_cons_zero, List.set_cons_succ]; rfl)) (hJ (_, _, _, gb) t4 ⟨hHeld, ⟨tE20, tE21, tE22, tE23, rfl, (HYt4.out.mono (fun k hk => by have h : t3.heap.size ≤ k := hk; have := (HBt3.out).size; show w9.heap.size ≤ k ∧ k ≠ gb; omega))⟩, HBXt4.out, hge, HBt4.out⟩)
       ·
        skip
        refine box_step ?hg (N := 13) ?hd (cs := #[.slice none 0 0, .slice none 0 0]) (t := 29) ?hr ?_; (case hd => rfl); (case hg => rfl); (case hr => first | (go_simp; done) | (go_simp; rfl))
        intro gb hgb t2 hbox hb
        have HBt2 : Aside0 (Below w9.heap.size w9 t2) := ⟨zaa HBt1.out hb⟩
        have HBXt2 := Aside0.mk hbox
        have hgl := zax hbox
        have hge : w9.heap.size ≤ gb := by rw [hgb]; exact (HBt1.out).size
        have hzt2 := hb.size
        have HX0t2 := Aside0.mk (HX0t1.out.below hb)
        clear hbox hb
        refine hK.out _ _ (HSL.out _ HBt2.out) (fun hHeld => ?_)
        clear hK K
        refine norm_ (a' := ?_) ?_ ?_
        rotate_left
        ·
         show Act.put _ (some 13) _ = _
         simp only [Act.put, List.setIfInBounds_toArray, List.set_cons_zero, List.set_cons_succ, i64_w, i32_w]
         rfl
        refine one_ (i := 5) (N := some 49) #[true, true, true, true, true, true, false, false, false, false, true, false, false] rfl rfl (zbu HT_.out (by kernel_rfl)) (by decide) (fun K hK => ?_)
        refine goes_ Tryz.func18 (by kernel_rfl) rfl #[.int .i64 (p.1 : Int)] (by rfl) rfl rfl (by (try simp only [List.map_toArray, List.map_cons, List.map_nil]); first | done | rfl) ?_
        refine (t_IntN p.1 (by have := HPG.out; omega) _).mono ?_
        rintro e t3 ⟨tE10, tE11, tE12, tE13, rfl, hx, hb⟩
        refine ⟨_, rfl, ?_⟩
        have HBt3 : Aside0 (Below w9.heap.size w9 t3) := ⟨zaa HBt2.out hb⟩
        have hzt3 := hb.size
        have HX1t3 := Aside0.mk hx.rt
        have HX0t3 := Aside0.mk (HX0t2.out.below hb)
        have HBXt3 := Aside0.mk ((hb.block _ (zax HBXt2.out)).trans HBXt2.out)
        clear hx hb
        refine hK.out _ _ (HSL.out _ HBt3.out) (fun hHeld => ?_)
        clear hK K
        refine norm_ (a' := ?_) ?_ ?_
        rotate_left
        ·
         show Act.put _ (some 49) _ = _
         simp only [Act.put, List.setIfInBounds_toArray, List.set_cons_zero, List.set_cons_succ, i64_w, i32_w]
         rfl
        refine one_ (i := 6) (N := some 50) #[true, true, true, true, true, true, true, false, false, false, true, false, false] rfl rfl (zbu HT_.out (by kernel_rfl)) (by decide) (fun K hK => ?_)
        refine goes_ Tryz.func77 (by kernel_rfl) rfl #[.agg #[.slice tE00 _ tE01, .slice tE02 _ tE03], .agg #[.slice tE10 _ tE11, .slice tE12 _ tE13]] (by rfl) rfl rfl (by (try simp only [List.map_toArray, List.map_cons, List.map_nil]); first | done | rfl) ?_
        refine (t_Div HX0t3.out HX1t3.out (bdN (x := p.2) (by have := HPG.out; omega)) (bdN (x := p.1) (by have := HPG.out; omega)) (by omega) HPP.out).mono ?_
        rintro e t4 ⟨tE20, tE21, tE22, tE23, rfl, hx, hb⟩
        refine ⟨_, rfl, ?_⟩
        have HBt4 : Aside0 (Below w9.heap.size w9 t4) := ⟨zaa HBt3.out hb⟩
        have hzt4 := hb.size
        have HYt4 := Aside0.mk hx
        have HBXt4 := Aside0.mk ((hb.block _ (zax HBXt3.out)).trans HBXt3.out)
        clear hx hb
        refine hK.out _ _ (HSL.out _ HBt4.out) (fun hHeld => ?_)
        clear hK K
        refine norm_ (a' := ?_) ?_ ?_
        rotate_left
        ·
         show Act.put _ (some 50) _ = _
         simp only [Act.put, List.setIfInBounds_toArray, List.set_cons_zero, List.set_cons_succ, i64_w, i32_w]
         rfl
        refine pure_ (i := 7) (N := some 43) (v := ?_) (a' := ?_) #[true, true, true, true, true, true, true, true, false, false, true, false, false] rfl rfl (zat HT_.out (by kernel_rfl)) (fun _ _ _ h => h) (Or.inl ⟨by rfl, ?_⟩) ?_ ?_
        rotate_left
        ·
         intro w'
         go_simp
         with_reducible rfl
        rotate_left
        ·
         simp only [Act.put, List.setIfInBounds_toArray, List.set_cons_zero, List.set_cons_succ, i64_w, i32_w]
         rfl
        refine pure_ (i := 8) (N := some 51) (v := ?_) (a' := ?_) #[true, true, true, true, true, true, true, true, true, false, true, false, false] rfl rfl (zat HT_.out (by kernel_rfl)) (fun _ _ _ h => h) (Or.inl ⟨by rfl, ?_⟩) ?_ ?_
        rotate_left
        ·
         intro w'
         go_simp
         with_reducible rfl
        rotate_left
        ·
         simp only [Act.put, List.setIfInBounds_toArray, List.set_cons_zero, List.set_cons_succ, i64_w, i32_w]
         rfl
        refine pure_ (i := 9) (N := some 52) (v := ?_) (a' := ?_) #[true, true, true, true, true, true, true, true, true, true, true, false, false] rfl rfl (zat HT_.out (by kernel_rfl)) (fun _ _ _ h => h) (Or.inl ⟨by rfl, ?_⟩) ?_ ?_
        rotate_left
        ·
         intro w'
         go_simp
         with_reducible rfl
        rotate_left
        ·
         simp only [Act.put, List.setIfInBounds_toArray, List.set_cons_zero, List.set_cons_succ, i64_w, i32_w]
         rfl
        exact norm_ (by first | (simp only [putAll, Act.put, List.setIfInBounds_toArray, List.set_cons_zero, List.set_cons_succ]; done) | (simp only [putAll, Act.put, List.setIfInBounds_toArray, List.set_cons_zero, List.set_cons_succ]; rfl)) (hJ (_, _, _, gb) t4 ⟨hHeld, ⟨tE20, tE21, tE22, tE23, rfl, (HYt4.out.mono (fun k hk => by have h : t3.heap.size ≤ k := hk; have := (HBt3.out).size; show w9.heap.size ≤ k ∧ k ≠ gb; omega))⟩, HBXt4.out, hge, HBt4.out⟩)
      ·
       skip
       refine box_step ?hg (N := 13) ?hd (cs := #[.slice none 0 0, .slice none 0 0]) (t := 29) ?hr ?_; (case hd => rfl); (case hg => rfl); (case hr => first | (go_simp; done) | (go_simp; rfl))
       intro gb hgb t1 hbox hb
       have HBt1 : Aside0 (Below w9.heap.size w9 t1) := ⟨zaa HBw90.out hb⟩
       have HBXt1 := Aside0.mk hbox
       have hgl := zax hbox
       have hge : w9.heap.size ≤ gb := by rw [hgb]; exact (HBw90.out).size
       have hzt1 := hb.size
       clear hbox hb
       refine hK.out _ _ (HSL.out _ HBt1.out) (fun hHeld => ?_)
       clear hK K
       refine norm_ (a' := ?_) ?_ ?_
       rotate_left
       ·
        show Act.put _ (some 13) _ = _
        simp only [Act.put, List.setIfInBounds_toArray, List.set_cons_zero, List.set_cons_succ, i64_w, i32_w]
        rfl
       refine one_ (i := 2) (N := some 46) #[true, true, true, true, true, false, false, false, false, false, true, false, false] rfl rfl (zbu HT_.out (by kernel_rfl)) (by decide) (fun K hK => ?_)
       refine goes_ Tryz.func18 (by kernel_rfl) rfl #[.int .i64 (p.2 : Int)] (by rfl) rfl rfl (by (try simp only [List.map_toArray, List.map_cons, List.map_nil]); first | done | rfl) ?_
       refine (t_IntN p.2 (by have := HPG.out; omega) _).mono ?_
       rintro e t2 ⟨tE00, tE01, tE02, tE03, rfl, hx, hb⟩
       refine ⟨_, rfl, ?_⟩
       have HBt2 : Aside0 (Below w9.heap.size w9 t2) := ⟨zaa HBt1.out hb⟩
       have hzt2 := hb.size
       have HX0t2 := Aside0.mk hx.rt
       have HBXt2 := Aside0.mk ((hb.block _ (zax HBXt1.out)).trans HBXt1.out)
       clear hx hb
       refine hK.out _ _ (HSL.out _ HBt2.out) (fun hHeld => ?_)
       clear hK K
       refine norm_ (a' := ?_) ?_ ?_
       rotate_left
       ·
        show Act.put _ (some 46) _ = _
        simp only [Act.put, List.setIfInBounds_toArray, List.set_cons_zero, List.set_cons_succ, i64_w, i32_w]
        rfl
       refine one_ (i := 5) (N := some 49) #[true, true, true, true, true, true, false, false, false, false, true, false, false] rfl rfl (zbu HT_.out (by kernel_rfl)) (by decide) (fun K hK => ?_)
       refine goes_ Tryz.func18 (by kernel_rfl) rfl #[.int .i64 (p.1 : Int)] (by rfl) rfl rfl (by (try simp only [List.map_toArray, List.map_cons, List.map_nil]); first | done | rfl) ?_
       refine (t_IntN p.1 (by have := HPG.out; omega) _).mono ?_
       rintro e t3 ⟨tE10, tE11, tE12, tE13, rfl, hx, hb⟩
       refine ⟨_, rfl, ?_⟩
       have HBt3 : Aside0 (Below w9.heap.size w9 t3) := ⟨zaa HBt2.out hb⟩
       have hzt3 := hb.size
       have HX1t3 := Aside0.mk hx.rt
       have HX0t3 := Aside0.mk (HX0t2.out.below hb)
       have HBXt3 := Aside0.mk ((hb.block _ (zax HBXt2.out)).trans HBXt2.out)
       clear hx hb
       refine hK.out _ _ (HSL.out _ HBt3.out) (fun hHeld => ?_)
       clear hK K
       refine norm_ (a' := ?_) ?_ ?_
       rotate_left
       ·
        show Act.put _ (some 49) _ = _
        simp only [Act.put, List.setIfInBounds_toArray, List.set_cons_zero, List.set_cons_succ, i64_w, i32_w]
        rfl
       refine one_ (i := 6) (N := some 50) #[true, true, true, true, true, true, true, false, false, false, true, false, false] rfl rfl (zbu HT_.out (by kernel_rfl)) (by decide) (fun K hK => ?_)
       refine goes_ Tryz.func77 (by kernel_rfl) rfl #[.agg #[.slice tE00 _ tE01, .slice tE02 _ tE03], .agg #[.slice tE10 _ tE11, .slice tE12 _ tE13]] (by rfl) rfl rfl (by (try simp only [List.map_toArray, List.map_cons, List.map_nil]); first | done | rfl) ?_
       refine (t_Div HX0t3.out HX1t3.out (bdN (x := p.2) (by have := HPG.out; omega)) (bdN (x := p.1) (by have := HPG.out; omega)) (by omega) HPP.out).mono ?_
       rintro e t4 ⟨tE20, tE21, tE22, tE23, rfl, hx, hb⟩
       refine ⟨_, rfl, ?_⟩
       have HBt4 : Aside0 (Below w9.heap.size w9 t4) := ⟨zaa HBt3.out hb⟩
       have hzt4 := hb.size
       have HYt4 := Aside0.mk hx
       have HBXt4 := Aside0.mk ((hb.block _ (zax HBXt3.out)).trans HBXt3.out)
       clear hx hb
       refine hK.out _ _ (HSL.out _ HBt4.out) (fun hHeld => ?_)
       clear hK K
       refine norm_ (a' := ?_) ?_ ?_
       rotate_left
       ·
        show Act.put _ (some 50) _ = _
        simp only [Act.put, List.setIfInBounds_toArray, List.set_cons_zero, List.set_cons_succ, i64_w, i32_w]
        rfl
       refine pure_ (i := 7) (N := some 43) (v := ?_) (a' := ?_) #[true, true, true, true, true, true, true, true, false, false, true, false, false] rfl rfl (zat HT_.out (by kernel_rfl)) (fun _ _ _ h => h) (Or.inl ⟨by rfl, ?_⟩) ?_ ?_
       rotate_left
       ·
        intro w'
        go_simp
        with_reducible rfl
       rotate_left
       ·
        simp only [Act.put, List.setIfInBounds_toArray, List.set_cons_zero, List.set_cons_succ, i64_w, i32_w]
        rfl
       refine pure_ (i := 8) (N := some 51) (v := ?_) (a' := ?_) #[true, true, true, true, true, true, true, true, true, false, true, false, false] rfl rfl (zat HT_.out (by kernel_rfl)) (fun _ _ _ h => h) (Or.inl ⟨by rfl, ?_⟩) ?_ ?_
       rotate_left
       ·
        intro w'
        go_simp
        with_reducible rfl
       rotate_left
       ·
        simp only [Act.put, List.setIfInBounds_toArray, List.set_cons_zero, List.set_cons_succ, i64_w, i32_w]
        rfl
       refine pure_ (i := 9) (N := some 52) (v := ?_) (a' := ?_) #[true, true, true, true, true, true, true, true, true, true, true, false, false] rfl rfl (zat HT_.out (by kernel_rfl)) (fun _ _ _ h => h) (Or.inl ⟨by rfl, ?_⟩) ?_ ?_
       rotate_left
       ·
        intro w'
        go_simp
        with_reducible rfl
       rotate_left
       ·
        simp only [Act.put, List.setIfInBounds_toArray, List.set_cons_zero, List.set_cons_succ, i64_w, i32_w]
        rfl
       exact norm_ (by first | (simp only [putAll, Act.put, List.setIfInBounds_toArray, List.set_cons_zero, List.set_cons_succ]; done) | (simp only [putAll, Act.put, List.setIfInBounds_toArray, List.set_cons_zero, List.set_cons_succ]; rfl)) (hJ (_, _, _, gb) t4 ⟨hHeld, ⟨tE20, tE21, tE22, tE23, rfl, (HYt4.out.mono (fun k hk => by have h : t3.heap.size ≤ k := hk; have := (HBt3.out).size; show w9.heap.size ≤ k ∧ k ≠ gb; omega))⟩, HBXt4.out, hge, HBt4.out⟩)
     rintro ⟨v40_, v41_, y_, g13⟩ w10 ⟨hHeld, ⟨f0_, f1_, f2_, f3_, hy, hRV⟩, hbox, hge, hb8⟩
     dsimp only at hy hbox hge hRV
     subst hy
     have q0 : w10.cell? ⟨g13, 0, none⟩ = some (.slice none 0 0) := (zab hbox 0).trans rfl
     have q1 : w10.cell? ⟨g13, 1, none⟩ = some (.slice none 0 0) := (zab hbox 1).trans rfl
     have q2 := zal hbox 0
     have q3 := zal hbox 1
     have HBF := Aside0.mk ((hb8.setCell (p := ⟨g13, 0, none⟩) hge (.slice f0_ (rN ((p.2 : Rat) / (p.1 : Rat))).length f1_)).setCell (p := ⟨g13, 1, none⟩) hge (.slice f2_ (rD ((p.2 : Rat) / (p.1 : Rat))).length f3_))
     have HRF := Aside0.mk (((hRV.far (p := ⟨g13, 0, none⟩) (fun k hk => hk.2) (.slice f0_ (rN ((p.2 : Rat) / (p.1 : Rat))).length f1_)).far (p := ⟨g13, 1, none⟩) (fun k hk => hk.2) (.slice f2_ (rD ((p.2 : Rat) / (p.1 : Rat))).length f3_)))
     have HXF := Aside0.mk (zbc (zbc hbox 0 (.slice f0_ (rN ((p.2 : Rat) / (p.1 : Rat))).length f1_) rfl) 1 (.slice f2_ (rD ((p.2 : Rat) / (p.1 : Rat))).length f3_) rfl)
     have HGEg13 := Aside0.mk hge
     clear hRV hbox hb8
     refine norm_ (a' := ?_) ?_ ?_
     rotate_left
     ·
      simp only [putAll, Act.put, List.setIfInBounds_toArray, List.set_cons_zero, List.set_cons_succ]
      rfl
     refine one_ (i := 11) (N := none) #[true, true, true, true, true, true, true, true, true, true, true, true, false] rfl rfl (zbu HT_.out (by kernel_rfl)) (by decide) (fun K hK => ?_)
     refine skip_ (w1 := ?_) (by rfl) rfl ?_ ?_
     rotate_left
     ·
      go_simp
      rfl
     refine hK.out _ _ (HSL.out _ HBF.out) (fun hHeld => ?_)
     clear hK K q0 q1 q2 q3
     generalize (w10.setCell ⟨g13, 0, none⟩ (.slice f0_ (rN ((p.2 : Rat) / (p.1 : Rat))).length f1_)).setCell ⟨g13, 1, none⟩ (.slice f2_ (rD ((p.2 : Rat) / (p.1 : Rat))).length f3_) = w11 at HBF HRF HXF hHeld ⊢
     have HBw11 := HBF
     have HRw11 := HRF
     have HXw11 := HXF
     clear HBF HRF HXF hge
     refine pure_ (i := 12) (N := some 14) (v := ?_) (a' := ?_) #[true, true, true, true, true, true, true, true, true, true, true, true, true] rfl rfl (zat HT_.out (by kernel_rfl)) (fun _ _ _ h => h) (Or.inl ⟨by rfl, ?_⟩) ?_ ?_
     rotate_left
     ·
      intro w'
      go_simp
      with_reducible rfl
     rotate_left
     ·
      simp only [Act.put, List.setIfInBounds_toArray, List.set_cons_zero, List.set_cons_succ, i64_w, i32_w]
      rfl
     refine done_ (zdf HT_.out (by kernel_rfl)) ?_
     have HB711 := Aside0.mk (zaa HBw9.out HBw11.out)
     have hx11 := (HBw11.out.block _ (zax HXw9.out)).trans HXw9.out
     have HX11 := Aside0.mk hx11
     have q0 : w11.cell? ⟨g11, 0, none⟩ = some (.slice m0 (rN (y / (o : Rat))).length m1) := (zab hx11 0).trans rfl
     have q1 : w11.cell? ⟨g11, 1, none⟩ = some (.slice m2 (rD (y / (o : Rat))).length m3) := (zab hx11 1).trans rfl
     have q2 : w11.cell? ⟨g13, 0, none⟩ = some (.slice f0_ (rN ((p.2 : Rat) / (p.1 : Rat))).length f1_) := (zab HXw11.out 0).trans rfl
     have q3 : w11.cell? ⟨g13, 1, none⟩ = some (.slice f2_ (rD ((p.2 : Rat) / (p.1 : Rat))).length f3_) := (zab HXw11.out 1).trans rfl
     clear hx11
     go_wp2_with fail
     have hC := t_Cmp (HRw9.out.rt.below HBw11.out) HRw11.out.rt (HBY.out.div HBO.out HPO.out) (bdFul p (by have := HPG.out; omega) (by have := HPG.out; omega) HPG.out.1) (by have := HIB.out; omega)
     refine hC.mono ?_
     clear hC q0 q1 q2 q3
     rintro e w14 ⟨rfl, hb14⟩
     have HB714 := Aside0.mk (zaa HB711.out hb14)
     have HX1114 := Aside0.mk ((hb14.block _ (zax HX11.out)).trans HX11.out)
     have HX1314 := Aside0.mk ((hb14.block _ (zax HXw11.out)).trans HXw11.out)
     have HBR14 := Aside0.mk ((HB714.out.block _ (zax HBR7.out)).trans HBR7.out)
     have HBX14 := Aside0.mk ((HB714.out.block _ (zax HBX7.out)).trans HBX7.out)
     have HBA14 := Aside0.mk ((HB714.out.block _ (zax HBA7.out)).trans HBA7.out)
     have HBC14 := Aside0.mk ((HB714.out.block _ (zax HBC7.out)).trans HBC7.out)
     have HKP14 := Aside0.mk (HKP7.out.trans (Kp3.of_below HB714.out))
     have HRY14v := Aside0.mk (HRY7v.out.kp3 (Kp3.of_below HB714.out) (fun k hk => hk))
     have HRZ14v := Aside0.mk (HRZ7v.out.kp3 (Kp3.of_below HB714.out) (fun k hk => hk.2))
     have HSh14 := Aside0.mk (((HRw9.out.old HBw11.out).old hb14).mono (Q := fun k => w.heap.size ≤ k ∧ k ≠ w.heap.size ∧ k ≠ w.heap.size + 1 ∧ k ≠ b8) (fun k hk => by have := hk.1.1; have := HN7.out; omega))
     have HFu14 := Aside0.mk ((HRw11.out.old hb14).mono (Q := fun k => w.heap.size ≤ k ∧ k ≠ w.heap.size ∧ k ≠ w.heap.size + 1 ∧ k ≠ b8) (fun k hk => by have := hk.1; have := HBw9.out.size; have := HN7.out; omega))
     have HB79 := HBw9
     clear hb14 HRw9 HRw11 HX11 HXw11 HXw9 HBX7 HBR7 HBA7 HBC7 HKP7 HRY7v HRZ7v HRY9v HRZ9v HBC9 HSL HSK HBw90 HBw70 HRY7 HBw9 HBw11 HB711
     generalize hcq : cmpR (y / (o : Rat)) ((p.2 : Rat) / (p.1 : Rat)) = cq
     by_cases hlt : y / (o : Rat) < (p.2 : Rat) / (p.1 : Rat)
     ·
      have d6 : decide (cq < 0) = true := decide_eq_true (by rw [← hcq]; exact cmpR_neg.2 hlt)
      have hL := HLV2.out.2.2
      unfold levP at hL
      rw [if_pos hlt] at hL
      have HL := Aside0.mk hL
      have q0 : w14.cell? ⟨g11, 0, none⟩ = some (.slice m0 (rN (y / (o : Rat))).length m1) := (zab HX1114.out 0).trans rfl
      have q1 : w14.cell? ⟨g11, 1, none⟩ = some (.slice m2 (rD (y / (o : Rat))).length m3) := (zab HX1114.out 1).trans rfl
      have q2 : w14.cell? ⟨w.heap.size + 1, 0, none⟩ = some (.slice none 0 0) := (zab HBR14.out 0).trans rfl
      have q3 : w14.cell? ⟨w.heap.size + 1, 1, none⟩ = some (.slice none 0 0) := (zab HBR14.out 1).trans rfl
      have q4 := zal HBR14.out 0
      have q5 := zal HBR14.out 1
      have HSF := Aside0.mk ((HSh14.out.far (p := ⟨w.heap.size + 1, 0, none⟩) (fun k hk => hk.2.2.1) (.slice m0 (rN (y / (o : Rat))).length m1)).far (p := ⟨w.heap.size + 1, 1, none⟩) (fun k hk => hk.2.2.1) (.slice m2 (rD (y / (o : Rat))).length m3))
      have HBF := Aside0.mk (zbc (zbc HBR14.out 0 (.slice m0 (rN (y / (o : Rat))).length m1) rfl) 1 (.slice m2 (rD (y / (o : Rat))).length m3) rfl)
      have HKF := Aside0.mk ((HKP14.out.set ⟨w.heap.size + 1, 0, none⟩ (.inr (.inl rfl)) (.slice m0 (rN (y / (o : Rat))).length m1)).set ⟨w.heap.size + 1, 1, none⟩ (.inr (.inl rfl)) (.slice m2 (rD (y / (o : Rat))).length m3))
      clear hcq hlt hL
      go_wp2_with fail
      all_goals first | (exfalso; first | (have h_ := of_decide_eq_true d6; omega) | (have h_ := of_decide_eq_false d6; omega)) | skip
      refine bodyPost_ret (results_cell_row rfl _ _ (w.heap.size + 1) 29 _ (0, 0) _ rfl HBF.out Tryz.underlying29 rfl (by kernel_rfl)) rfl ?_
      refine ⟨_, _, rfl, ?_, ?_, HKF.out.below HB6.out (by have := HB6.out.size; omega) (Nat.le_refl _) (by omega) (by have := HN7.out; omega)⟩
      ·
       rw [← HL.out]
       exact (HSF.out.mono (Q := fun k => w.heap.size ≤ k) (fun k hk => hk.1)).1
      ·
       rw [← HL.out]
       exact (HSF.out.mono (Q := fun k => w.heap.size ≤ k) (fun k hk => hk.1)).2
     ·
      have d6 : decide (cq < 0) = false := decide_eq_false (by rw [← hcq]; exact cmpR_ge (Rat.not_lt.1 hlt))
      have hL := HLV2.out.2.2
      unfold levP at hL
      rw [if_neg hlt] at hL
      have HL := Aside0.mk hL
      have HLE : Aside0 ((p.2 : Rat) ≤ y) := ⟨by
       have h0 : 0 ≤ y / (o : Rat) := (HBY.out.div HBO.out HPO.out).1
       have h1 := zc8 (Rat.not_lt.1 hlt) (zb0 p.1)
       have h2 := zc8 (Rat.natCast_le_natCast.2 HWO.out) h0
       rw [div_mul HPP.out] at h1
       have h3 := div_mul (a := y) HPO.out
       grind⟩
      have q0 : w14.cell? ⟨g11, 0, none⟩ = some (.slice m0 (rN (y / (o : Rat))).length m1) := (zab HX1114.out 0).trans rfl
      clear hcq hlt hL q0
      go_wp2_with fail
      all_goals first | (exfalso; first | (have h_ := of_decide_eq_true d6; omega) | (have h_ := of_decide_eq_false d6; omega)) | skip
      clear d6
      have HRY14 := Aside0.mk HRY14v.out.rt
      have HBw140 : Aside0 (Below w14.heap.size w14 w14.drew) := ⟨(Below.refl w14.heap.size w14).drew⟩
      have HSN : Aside0 (∀ W, Below w14.heap.size w14 W → W.cell? ⟨w.heap.size, 0, none⟩ = some (.slice Y0 (rN y).length e0) ∧ W.cell? ⟨w.heap.size, 1, none⟩ = some (.slice Y1 (rD y).length e1) ∧ W.cell? ⟨bc, 1, none⟩ = some (.int .i64 (p.2 : Int))) := ⟨fun W hb => by
       have hk := (hb.block _ (zax HBX14.out)).trans HBX14.out
       have hk2 := (hb.block _ (zax HBC14.out)).trans HBC14.out
       exact ⟨(zab hk 0).trans rfl, (zab hk 1).trans rfl, (zab hk2 1).trans rfl⟩⟩
      refine start_ (n := 9) (S := fun W => W.cell? ⟨w.heap.size, 0, none⟩ = some (.slice Y0 (rN y).length e0) ∧ W.cell? ⟨w.heap.size, 1, none⟩ = some (.slice Y1 (rD y).length e1) ∧ W.cell? ⟨bc, 1, none⟩ = some (.int .i64 (p.2 : Int))) (ds := [8]) #[false, false, false, false, false, false, false, false, false] (by kernel_rfl) rfl rfl (HSN.out _ HBw140.out) (fun hHeld => ?_); refine zcq lv16tab lv16bits (fun HT_ HW_ => ?_)
      refine take_ (i := 0) (N := some 59) (v := ?_) (a' := ?_) #[true, false, false, false, false, false, false, false, false] rfl rfl (zbk HT_.out HW_.out (by kernel_rfl)) (fun _ _ _ h => h) (Or.inl ⟨by rfl, ?_⟩) hHeld ?_ ?_
      rotate_left
      ·
       rintro w' ⟨s0, s1, s2⟩
       go_simp
       with_reducible rfl
      rotate_left
      ·
       simp only [Act.put, List.setIfInBounds_toArray, List.set_cons_zero, List.set_cons_succ, i64_w, i32_w]
       rfl
      refine pure_ (i := 1) (N := some 60) (v := ?_) (a' := ?_) #[true, true, false, false, false, false, false, false, false] rfl rfl (zat HT_.out (by kernel_rfl)) (fun _ _ _ h => h) (Or.inl ⟨by rfl, ?_⟩) ?_ ?_
      rotate_left
      ·
       intro w'
       go_simp
       with_reducible rfl
      rotate_left
      ·
       simp only [Act.put, List.setIfInBounds_toArray, List.set_cons_zero, List.set_cons_succ, i64_w, i32_w]
       rfl
      refine take_ (i := 2) (N := some 61) (v := ?_) (a' := ?_) #[true, true, true, false, false, false, false, false, false] rfl rfl (zbk HT_.out HW_.out (by kernel_rfl)) (fun _ _ _ h => h) (Or.inl ⟨by rfl, ?_⟩) hHeld ?_ ?_
      rotate_left
      ·
       rintro w' ⟨s0, s1, s2⟩
       go_simp
       with_reducible rfl
      rotate_left
      ·
       simp only [Act.put, List.setIfInBounds_toArray, List.set_cons_zero, List.set_cons_succ, i64_w, i32_w]
       rfl
      refine one_ (i := 3) (N := some 62) #[true, true, true, true, false, false, false, false, false] rfl rfl (zbu HT_.out (by kernel_rfl)) (by decide) (fun K hK => ?_)
      refine goes_ Tryz.func18 (by kernel_rfl) rfl #[.int .i64 (p.2 : Int)] (by rfl) rfl rfl (by (try simp only [List.map_toArray, List.map_cons, List.map_nil]); first | done | rfl) ?_
      refine (t_IntN p.2 (by have := HPG.out; omega) _).mono ?_
      rintro e w15 ⟨I0, j0, I1, j1, rfl, hi, hb⟩
      have HI15 := Aside0.mk hi.rt
      clear hi
      refine ⟨_, rfl, ?_⟩
      have HB15 : Aside0 (Below w14.heap.size w14 w15) := ⟨zaa HBw140.out hb⟩
      clear hb
      refine hK.out _ _ (HSN.out _ HB15.out) (fun hHeld => ?_)
      clear hK K
      refine norm_ (a' := ?_) ?_ ?_
      rotate_left
      ·
       show Act.put _ (some 62) _ = _
       simp only [Act.put, List.setIfInBounds_toArray, List.set_cons_zero, List.set_cons_succ, i64_w, i32_w]
       rfl
      refine one_ (i := 4) (N := some 63) #[true, true, true, true, true, false, false, false, false] rfl rfl (zbu HT_.out (by kernel_rfl)) (by decide) (fun K hK => ?_)
      refine goes_ Tryz.func78 (by kernel_rfl) rfl #[.agg #[.slice Y0 (rN y).length e0, .slice Y1 (rD y).length e1], .agg #[.slice I0 _ j0, .slice I1 _ j1]] (by rfl) rfl rfl (by (try simp only [List.map_toArray, List.map_cons, List.map_nil]); first | done | rfl) ?_
      refine (t_Sub (HRY14.out.below HB15.out) HI15.out HBY.out (bdN (x := p.2) (by have := HPG.out; omega)) (by have := HIB.out; omega) HLE.out).mono ?_
      rintro e w16 ⟨V0, h0, V1, h1, rfl, hv, hb⟩
      have HV16 := Aside0.mk hv
      clear hv
      refine ⟨_, rfl, ?_⟩
      have HB16 : Aside0 (Below w14.heap.size w14 w16) := ⟨zaa HB15.out hb⟩
      clear hb
      refine hK.out _ _ (HSN.out _ HB16.out) (fun hHeld => ?_)
      clear hK K
      refine norm_ (a' := ?_) ?_ ?_
      rotate_left
      ·
       show Act.put _ (some 63) _ = _
       simp only [Act.put, List.setIfInBounds_toArray, List.set_cons_zero, List.set_cons_succ, i64_w, i32_w]
       rfl
      refine pure_ (i := 5) (N := some 58) (v := ?_) (a' := ?_) #[true, true, true, true, true, true, false, false, false] rfl rfl (zat HT_.out (by kernel_rfl)) (fun _ _ _ h => h) (Or.inl ⟨by rfl, ?_⟩) ?_ ?_
      rotate_left
      ·
       intro w'
       go_simp
       with_reducible rfl
      rotate_left
      ·
       simp only [Act.put, List.setIfInBounds_toArray, List.set_cons_zero, List.set_cons_succ, i64_w, i32_w]
       rfl
      refine pure_ (i := 6) (N := some 64) (v := ?_) (a' := ?_) #[true, true, true, true, true, true, true, false, false] rfl rfl (zat HT_.out (by kernel_rfl)) (fun _ _ _ h => h) (Or.inl ⟨by rfl, ?_⟩) ?_ ?_
      rotate_left
      ·
       intro w'
       go_simp
       with_reducible rfl
      rotate_left
      ·
       simp only [Act.put, List.setIfInBounds_toArray, List.set_cons_zero, List.set_cons_succ, i64_w, i32_w]
       rfl
      refine pure_ (i := 7) (N := some 65) (v := ?_) (a' := ?_) #[true, true, true, true, true, true, true, true, false] rfl rfl (zat HT_.out (by kernel_rfl)) (fun _ _ _ h => h) (Or.inl ⟨by rfl, ?_⟩) ?_ ?_
      rotate_left
      ·
       intro w'
       go_simp
       with_reducible rfl
      rotate_left
      ·
       simp only [Act.put, List.setIfInBounds_toArray, List.set_cons_zero, List.set_cons_succ, i64_w, i32_w]
       rfl
      refine last_ (i := 8) (N := none) #[true, true, true, true, true, true, true, true, true] rfl rfl (zbu HT_.out (by kernel_rfl)) (by decide) (fun K hK => ?_)
      have HB1416 := HB16.out
      have HBX16 := Aside0.mk ((HB1416.block _ (zax HBX14.out)).trans HBX14.out)
      have c0 : w16.cell? ⟨w.heap.size, 0, none⟩ = some (.slice Y0 (rN y).length e0) := (zab HBX16.out 0).trans rfl
      have c1 : w16.cell? ⟨w.heap.size, 1, none⟩ = some (.slice Y1 (rD y).length e1) := (zab HBX16.out 1).trans rfl
      have c2_ := zal HBX16.out 0
      have c3 := zal HBX16.out 1
      refine skip_ (w1 := ?_) (by rfl) rfl ?_ ?_
      rotate_left
      ·
       go_simp
       rfl
      refine hK.out _ _ ?_
      clear hK K c0 c1 c2_ c3
      refine done_ (zdf HT_.out (by kernel_rfl)) ?_
      have hn := HN7.out
      have hs7 := HB714.out.size
      have hs15 : w14.heap.size ≤ w15.heap.size := HB15.out.size
      have hV := (HV16.out.mono (Q := fun k => k ≠ w.heap.size ∧ k ≠ w.heap.size + 1 ∧ k ≠ b8) (fun k hk => by have hk : w15.heap.size ≤ k := hk; omega))
      have HRYz := Aside0.mk ((hV.far (p := ⟨w.heap.size, 0, none⟩) (fun k hk => hk.1) (.slice V0 (rN (y - (p.2 : Rat))).length h0)).far (p := ⟨w.heap.size, 1, none⟩) (fun k hk => hk.1) (.slice V1 (rD (y - (p.2 : Rat))).length h1))
      have HRAz := Aside0.mk (((HRZ14v.out.kp3 (Kp3.of_below HB1416) (fun k hk => hk.2)).far (p := ⟨w.heap.size, 0, none⟩) (fun k hk => hk.2.1) (.slice V0 (rN (y - (p.2 : Rat))).length h0)).far (p := ⟨w.heap.size, 1, none⟩) (fun k hk => hk.2.1) (.slice V1 (rD (y - (p.2 : Rat))).length h1))
      have HRFz := Aside0.mk (((HFu14.out.kp3 (Kp3.of_below HB1416) (fun k hk => hk.2)).far (p := ⟨w.heap.size, 0, none⟩) (fun k hk => hk.2.1) (.slice V0 (rN (y - (p.2 : Rat))).length h0)).far (p := ⟨w.heap.size, 1, none⟩) (fun k hk => hk.2.1) (.slice V1 (rD (y - (p.2 : Rat))).length h1))
      have HBXz := Aside0.mk (zbc (zbc HBX16.out 0 (.slice V0 (rN (y - (p.2 : Rat))).length h0) rfl) 1 (.slice V1 (rD (y - (p.2 : Rat))).length h1) rfl)
      have hg13 : w.heap.size + 2 ≤ g13 := by have := HGEg13.out; have := HB79.out.size; omega
      have hoth : ∀ k, k ≠ w.heap.size → ((w16.setCell ⟨w.heap.size, 0, none⟩ (.slice V0 (rN (y - (p.2 : Rat))).length h0)).setCell ⟨w.heap.size, 1, none⟩ (.slice V1 (rD (y - (p.2 : Rat))).length h1)).heap[k]? = w16.heap[k]? := fun k hk => (Below.heap_setCell _ ⟨w.heap.size, 1, none⟩ _ k hk).trans (Below.heap_setCell _ ⟨w.heap.size, 0, none⟩ _ k hk)
      have HBRz := Aside0.mk ((hoth (w.heap.size + 1) (by omega)).trans ((HB1416.block _ (zax HBR14.out)).trans HBR14.out))
      have HBAz := Aside0.mk ((hoth b8 (by omega)).trans ((HB1416.block _ (zax HBA14.out)).trans HBA14.out))
      have HBCz := Aside0.mk ((hoth bc (by omega)).trans ((HB1416.block _ (zax HBC14.out)).trans HBC14.out))
      have HBFz := Aside0.mk ((hoth g13 (by omega)).trans ((HB1416.block _ (zax HX1314.out)).trans HX1314.out))
      have HKPz := Aside0.mk (((HKP14.out.trans (Kp3.of_below HB1416)).set ⟨w.heap.size, 0, none⟩ (.inl rfl) (.slice V0 (rN (y - (p.2 : Rat))).length h0)).set ⟨w.heap.size, 1, none⟩ (.inl rfl) (.slice V1 (rD (y - (p.2 : Rat))).length h1))
      have HRB := Aside0.mk (HBY.out.sub (bdN (x := p.2) (by have := HPG.out; omega)) HLE.out)
      clear hV hoth
      generalize (w16.setCell ⟨w.heap.size, 0, none⟩ (.slice V0 (rN (y - (p.2 : Rat))).length h0)).setCell ⟨w.heap.size, 1, none⟩ (.slice V1 (rD (y - (p.2 : Rat))).length h1) = wz at HRYz HRAz HRFz HBXz HBRz HBAz HBCz HBFz HKPz ⊢
      have HBD8 : Aside0 (b8 ≠ bc ∧ b8 ≠ w.heap.size ∧ b8 ≠ w.heap.size + 1 ∧ b8 ≠ g13) := ⟨by have := HGEg13.out; have := HB79.out.size; omega⟩
      have c0 : wz.cell? ⟨bc, 1, none⟩ = some (.int .i64 (p.2 : Int)) := (zab HBCz.out 1).trans rfl
      clear hn hs7 hs15 hg13 HSN HBw140 HRY14 HRY14v HRZ14v HFu14 HX1114 HX1314 HBR14 HBA14 HBC14 HBX14 HBX16 HKP14 HSh14
      by_cases hc0 : 0 < p.2
      ·
       have d7 : decide ((p.2 : Int) > 0) = true := decide_eq_true (by omega)
       have c1 : wz.cell? ⟨g13, 0, none⟩ = some (.slice f0_ (rN ((p.2 : Rat) / (p.1 : Rat))).length f1_) := (zab HBFz.out 0).trans rfl
       have c2_ : wz.cell? ⟨g13, 1, none⟩ = some (.slice f2_ (rD ((p.2 : Rat) / (p.1 : Rat))).length f3_) := (zab HBFz.out 1).trans rfl
       have c3 : wz.cell? ⟨b8, 0, none⟩ = some (.slice Z0 (rN a).length f0) := (zab HBAz.out 0).trans rfl
       have c4 : wz.cell? ⟨b8, 1, none⟩ = some (.slice Z1 (rD a).length f1) := (zab HBAz.out 1).trans rfl
       have c5 := zal HBAz.out 0
       have c6 := zal HBAz.out 1
       have HC0 := Aside0.mk hc0
       clear hc0
       go_upto_region 19 with fail
       all_goals first | (exfalso; first | (have h_ := of_decide_eq_true d7; omega) | (have h_ := of_decide_eq_false d7; omega)) | skip
       have hc0 := HC0.out
       clear c0 c1 c2_ c3 c4 c5 c6 d7 HRAz
       have HBD := HBD8.out
       have hoth : ∀ k, k ≠ b8 → ((wz.setCell ⟨b8, 0, none⟩ (.slice f0_ (rN ((p.2 : Rat) / (p.1 : Rat))).length f1_)).setCell ⟨b8, 1, none⟩ (.slice f2_ (rD ((p.2 : Rat) / (p.1 : Rat))).length f3_)).heap[k]? = wz.heap[k]? := fun k hk => (Below.heap_setCell _ ⟨b8, 1, none⟩ _ k hk).trans (Below.heap_setCell _ ⟨b8, 0, none⟩ _ k hk)
       have HRYy := Aside0.mk ((HRYz.out.far (p := ⟨b8, 0, none⟩) (fun k hk => hk.2.2) (.slice f0_ (rN ((p.2 : Rat) / (p.1 : Rat))).length f1_)).far (p := ⟨b8, 1, none⟩) (fun k hk => hk.2.2) (.slice f2_ (rD ((p.2 : Rat) / (p.1 : Rat))).length f3_))
       have HRAy := Aside0.mk ((HRFz.out.far (p := ⟨b8, 0, none⟩) (fun k hk => hk.2.2.2) (.slice f0_ (rN ((p.2 : Rat) / (p.1 : Rat))).length f1_)).far (p := ⟨b8, 1, none⟩) (fun k hk => hk.2.2.2) (.slice f2_ (rD ((p.2 : Rat) / (p.1 : Rat))).length f3_))
       have HBAy := Aside0.mk (zbc (zbc HBAz.out 0 (.slice f0_ (rN ((p.2 : Rat) / (p.1 : Rat))).length f1_) rfl) 1 (.slice f2_ (rD ((p.2 : Rat) / (p.1 : Rat))).length f3_) rfl)
       have HBXy := Aside0.mk ((hoth w.heap.size (by omega)).trans HBXz.out)
       have HBRy := Aside0.mk ((hoth (w.heap.size + 1) (by omega)).trans HBRz.out)
       have HBCy := Aside0.mk ((hoth bc (by omega)).trans HBCz.out)
       have HKPy := Aside0.mk ((HKPz.out.set ⟨b8, 0, none⟩ (.inr (.inr (.inl rfl))) (.slice f0_ (rN ((p.2 : Rat) / (p.1 : Rat))).length f1_)).set ⟨b8, 1, none⟩ (.inr (.inr (.inl rfl))) (.slice f2_ (rD ((p.2 : Rat) / (p.1 : Rat))).length f3_))
       clear hoth HBD HRYz HRFz HBAz HBXz HBRz HBCz HKPz HBFz
       generalize (wz.setCell ⟨b8, 0, none⟩ (.slice f0_ (rN ((p.2 : Rat) / (p.1 : Rat))).length f1_)).setCell ⟨b8, 1, none⟩ (.slice f2_ (rD ((p.2 : Rat) / (p.1 : Rat))).length f3_) = wy at HRYy HRAy HBAy HBXy HBRy HBCy HKPy ⊢
       by_cases hz : y - (p.2 : Rat) = 0
       ·
        have d8 : (((rN (y - (p.2 : Rat))).length : Int) == 0) = true := beq_iff_eq.mpr (by have := (rN_nil HRB.out.1).2 hz; omega)
        have hL2 : ((p.2 : Rat) / (p.1 : Rat)) = levR m x := by
         have h := HL.out
         rw [if_pos hz] at h
         rw [if_pos hc0] at h
         exact h
        have HLF := Aside0.mk hL2
        have q0 : wy.cell? ⟨bc, 0, none⟩ = some (.int .i64 (p.1 : Int)) := (zab HBCy.out 0).trans rfl
        have q1 : wy.cell? ⟨w.heap.size, 0, none⟩ = some (.slice V0 (rN (y - (p.2 : Rat))).length h0) := (zab HBXy.out 0).trans rfl
        have q2 : wy.cell? ⟨b8, 0, none⟩ = some (.slice f0_ (rN ((p.2 : Rat) / (p.1 : Rat))).length f1_) := (zab HBAy.out 0).trans rfl
        have q3 : wy.cell? ⟨b8, 1, none⟩ = some (.slice f2_ (rD ((p.2 : Rat) / (p.1 : Rat))).length f3_) := (zab HBAy.out 1).trans rfl
        have q4 : wy.cell? ⟨w.heap.size + 1, 0, none⟩ = some (.slice none 0 0) := (zab HBRy.out 0).trans rfl
        have q5 : wy.cell? ⟨w.heap.size + 1, 1, none⟩ = some (.slice none 0 0) := (zab HBRy.out 1).trans rfl
        have q6 := zal HBRy.out 0
        have q7 := zal HBRy.out 1
        have HSF := Aside0.mk ((HRAy.out.far (p := ⟨w.heap.size + 1, 0, none⟩) (fun k hk => hk.2.2.1) (.slice f0_ (rN ((p.2 : Rat) / (p.1 : Rat))).length f1_)).far (p := ⟨w.heap.size + 1, 1, none⟩) (fun k hk => hk.2.2.1) (.slice f2_ (rD ((p.2 : Rat) / (p.1 : Rat))).length f3_))
        have HBF := Aside0.mk (zbc (zbc HBRy.out 0 (.slice f0_ (rN ((p.2 : Rat) / (p.1 : Rat))).length f1_) rfl) 1 (.slice f2_ (rD ((p.2 : Rat) / (p.1 : Rat))).length f3_) rfl)
        have HKF := Aside0.mk ((HKPy.out.set ⟨w.heap.size + 1, 0, none⟩ (.inr (.inl rfl)) (.slice f0_ (rN ((p.2 : Rat) / (p.1 : Rat))).length f1_)).set ⟨w.heap.size + 1, 1, none⟩ (.inr (.inl rfl)) (.slice f2_ (rD ((p.2 : Rat) / (p.1 : Rat))).length f3_))
        clear hL2 hz
        go_wp2_with fail
        refine bodyPost_ret (results_cell_row rfl _ _ (w.heap.size + 1) 29 _ (0, 0) _ rfl HBF.out Tryz.underlying29 rfl (by kernel_rfl)) rfl ?_
        refine ⟨_, _, rfl, ?_, ?_, HKF.out.below HB6.out (by have := HB6.out.size; omega) (Nat.le_refl _) (by omega) (by have := HN7.out; omega)⟩
        ·
         rw [← HLF.out]
         exact (HSF.out.mono (Q := fun k => w.heap.size ≤ k) (fun k hk => hk.1)).1
        ·
         rw [← HLF.out]
         exact (HSF.out.mono (Q := fun k => w.heap.size ≤ k) (fun k hk => hk.1)).2
       ·
        have d8 : (((rN (y - (p.2 : Rat))).length : Int) == 0) = false := beq_eq_false_iff_ne.mpr fun h => hz ((rN_nil HRB.out.1).1 (by omega))
        have hL2 : levP (y - (p.2 : Rat)) ((o : Rat) - (p.1 : Rat)) ((p.2 : Rat) / (p.1 : Rat)) (s.drop (i + 1)) = levR m x := by
         have h := HL.out
         rw [if_neg hz] at h
         rw [if_pos hc0] at h
         exact h
        have hon : ((o - p.1 : Nat) : Rat) = (o : Rat) - (p.1 : Rat) := by
         have h1 : ((o - p.1 + p.1 : Nat) : Rat) = (o : Rat) := by rw [Nat.sub_add_cancel HWO.out]
         rw [Rat.natCast_add] at h1
         grind
        have hwn : ((o - p.1 : Nat) : Rat) = wsum (s.drop (i + 1)) := by
         have h1 := HLV2.out.2.1
         have h2 : (o : Rat) = (p.1 : Rat) + wsum (s.drop (i + 1)) := h1
         rw [hon]
         grind
        rw [← hon] at hL2
        have HLF := Aside0.mk hL2
        have HWN := Aside0.mk hwn
        have q0 : wy.cell? ⟨bc, 0, none⟩ = some (.int .i64 (p.1 : Int)) := (zab HBCy.out 0).trans rfl
        have q1 : wy.cell? ⟨w.heap.size, 0, none⟩ = some (.slice V0 (rN (y - (p.2 : Rat))).length h0) := (zab HBXy.out 0).trans rfl
        have E1 : Aside0 (wrap64 ((i : Int) + 1) = ((i + 1 : Nat) : Int)) := ⟨by have := HIB.out; unfold wrap64; omega⟩
        have E2 : Aside0 (wrap64 ((o : Int) - (p.1 : Int)) = ((o - p.1 : Nat) : Int)) := ⟨by have := HWO.out; have := HO32.out; unfold wrap64; omega⟩
        clear hL2 hz hon hwn
        go_wp2_with fail
        go_roundg g1
        case rel => exact ⟨i + 1, o - p.1, y - (p.2 : Rat), ((p.2 : Rat) / (p.1 : Rat)), V0, h0, V1, h1, f0_, f1_, f2_, f3_, by rw [E2.out], by rw [E1.out], ⟨by have := HI.out; omega⟩, HKPy, HBXy, HBRy, HBAy, HRYy, HRAy, ⟨HRB.out.le (by omega), bdFul p (by have := HPG.out; omega) (by have := HPG.out; omega) HPG.out.1⟩, ⟨by have := HO32.out; omega, HWN.out, HLF.out⟩⟩
        case measure => omega
      ·
       have d7 : decide ((p.2 : Int) > 0) = false := decide_eq_false (by omega)
       go_upto_region 19 with fail
       all_goals first | (exfalso; first | (have h_ := of_decide_eq_true d7; omega) | (have h_ := of_decide_eq_false d7; omega)) | skip
       clear c0 d7
       by_cases hz : y - (p.2 : Rat) = 0
       ·
        have d8 : (((rN (y - (p.2 : Rat))).length : Int) == 0) = true := beq_iff_eq.mpr (by have := (rN_nil HRB.out.1).2 hz; omega)
        have hL2 : a = levR m x := by
         have h := HL.out
         rw [if_pos hz] at h
         rw [if_neg hc0] at h
         exact h
        have HLF := Aside0.mk hL2
        have q0 : wz.cell? ⟨bc, 0, none⟩ = some (.int .i64 (p.1 : Int)) := (zab HBCz.out 0).trans rfl
        have q1 : wz.cell? ⟨w.heap.size, 0, none⟩ = some (.slice V0 (rN (y - (p.2 : Rat))).length h0) := (zab HBXz.out 0).trans rfl
        have q2 : wz.cell? ⟨b8, 0, none⟩ = some (.slice Z0 (rN a).length f0) := (zab HBAz.out 0).trans rfl
        have q3 : wz.cell? ⟨b8, 1, none⟩ = some (.slice Z1 (rD a).length f1) := (zab HBAz.out 1).trans rfl
        have q4 : wz.cell? ⟨w.heap.size + 1, 0, none⟩ = some (.slice none 0 0) := (zab HBRz.out 0).trans rfl
        have q5 : wz.cell? ⟨w.heap.size + 1, 1, none⟩ = some (.slice none 0 0) := (zab HBRz.out 1).trans rfl
        have q6 := zal HBRz.out 0
        have q7 := zal HBRz.out 1
        have HSF := Aside0.mk ((HRAz.out.far (p := ⟨w.heap.size + 1, 0, none⟩) (fun k hk => hk.2.2.1) (.slice Z0 (rN a).length f0)).far (p := ⟨w.heap.size + 1, 1, none⟩) (fun k hk => hk.2.2.1) (.slice Z1 (rD a).length f1))
        have HBF := Aside0.mk (zbc (zbc HBRz.out 0 (.slice Z0 (rN a).length f0) rfl) 1 (.slice Z1 (rD a).length f1) rfl)
        have HKF := Aside0.mk ((HKPz.out.set ⟨w.heap.size + 1, 0, none⟩ (.inr (.inl rfl)) (.slice Z0 (rN a).length f0)).set ⟨w.heap.size + 1, 1, none⟩ (.inr (.inl rfl)) (.slice Z1 (rD a).length f1))
        clear hL2 hz
        go_wp2_with fail
        refine bodyPost_ret (results_cell_row rfl _ _ (w.heap.size + 1) 29 _ (0, 0) _ rfl HBF.out Tryz.underlying29 rfl (by kernel_rfl)) rfl ?_
        refine ⟨_, _, rfl, ?_, ?_, HKF.out.below HB6.out (by have := HB6.out.size; omega) (Nat.le_refl _) (by omega) (by have := HN7.out; omega)⟩
        ·
         rw [← HLF.out]
         exact (HSF.out.mono (Q := fun k => w.heap.size ≤ k) (fun k hk => hk.1)).1
        ·
         rw [← HLF.out]
         exact (HSF.out.mono (Q := fun k => w.heap.size ≤ k) (fun k hk => hk.1)).2
       ·
        have d8 : (((rN (y - (p.2 : Rat))).length : Int) == 0) = false := beq_eq_false_iff_ne.mpr fun h => hz ((rN_nil HRB.out.1).1 (by omega))
        have hL2 : levP (y - (p.2 : Rat)) ((o : Rat) - (p.1 : Rat)) a (s.drop (i + 1)) = levR m x := by
         have h := HL.out
         rw [if_neg hz] at h
         rw [if_neg hc0] at h
         exact h
        have hon : ((o - p.1 : Nat) : Rat) = (o : Rat) - (p.1 : Rat) := by
         have h1 : ((o - p.1 + p.1 : Nat) : Rat) = (o : Rat) := by rw [Nat.sub_add_cancel HWO.out]
         rw [Rat.natCast_add] at h1
         grind
        have hwn : ((o - p.1 : Nat) : Rat) = wsum (s.drop (i + 1)) := by
         have h1 := HLV2.out.2.1
         have h2 : (o : Rat) = (p.1 : Rat) + wsum (s.drop (i + 1)) := h1
         rw [hon]
         grind
        rw [← hon] at hL2
        have HLF := Aside0.mk hL2
        have HWN := Aside0.mk hwn
        have q0 : wz.cell? ⟨bc, 0, none⟩ = some (.int .i64 (p.1 : Int)) := (zab HBCz.out 0).trans rfl
        have q1 : wz.cell? ⟨w.heap.size, 0, none⟩ = some (.slice V0 (rN (y - (p.2 : Rat))).length h0) := (zab HBXz.out 0).trans rfl
        have E1 : Aside0 (wrap64 ((i : Int) + 1) = ((i + 1 : Nat) : Int)) := ⟨by have := HIB.out; unfold wrap64; omega⟩
        have E2 : Aside0 (wrap64 ((o : Int) - (p.1 : Int)) = ((o - p.1 : Nat) : Int)) := ⟨by have := HWO.out; have := HO32.out; unfold wrap64; omega⟩
        clear hL2 hz hon hwn
        go_wp2_with fail
        go_roundg g1
        case rel => exact ⟨i + 1, o - p.1, y - (p.2 : Rat), a, V0, h0, V1, h1, Z0, f0, Z1, f1, by rw [E2.out], by rw [E1.out], ⟨by have := HI.out; omega⟩, HKPz, HBXz, HBRz, HBAz, HRYz, HRAz, ⟨HRB.out.le (by omega), HBA1.out⟩, ⟨by have := HO32.out; omega, HWN.out, HLF.out⟩⟩
        case measure => omega
end Go.Proofs.YthiicmanfpmipaaGreatDoor.P
end
section
namespace Go.Proofs.YthiicmanfpmipaaGreatDoor.P
open Go.RowKit Go.Proofs.YthiicmanfpmipaaGreatDoorW.PrintWords Go.Proofs.YthiicmanfpmipaaGreatDoorW.PrintLast Go.Proofs.YthiicmanfpmipaaGreatDoorW.PrintMore
attribute [local go_sem] zcf zci zcu zct zb6 zb2 zch zce
def fill_level.f (k : Nat) (l0_0 l0_1 : List Int) (l1 : List S90) : Option (List Int × List Int) := lvF l0_0 l0_1 l1
theorem fill_level.calls (k : Nat) (A0_0 : Option Addr) (c0_0 : Nat) (l0_0 : List Int) (A0_1 : Option Addr) (c0_1 : Nat) (l0_1 : List Int) (A1 : Option Addr) (c1 : Nat) (l1 : List S90) (r1 r2 : List Int) (w : World) (hr0_0 : Kd.C (Kd.int .u64) w A0_0 l0_0.length l0_0) (hc0_0 : l0_0.length ≤ c0_0) (hr0_1 : Kd.C (Kd.int .u64) w A0_1 l0_1.length l0_1) (hc0_1 : l0_1.length ≤ c0_1) (hr1 : Kd.C k90 w A1 l1.length l1) (hc1 : l1.length ≤ c1) (h : fill_level.f k l0_0 l0_1 l1 = some (r1, r2)) :
  Calls Tryz.prog 39 #[.agg #[.slice A0_0 l0_0.length c0_0, .slice A0_1 l0_1.length c0_1], .slice A1 l1.length c1] w fun e w' => ∃ v0_ v1_ : Value, e = .returned (.agg #[v0_, v1_]) ∧ Kd.V (Kd.int .u64) 82 w' w.heap.size (fun k_ => (w.heap.size ≤ k_)) v0_ r1 ∧ Kd.V (Kd.int .u64) 82 w' w.heap.size (fun k_ => (w.heap.size ≤ k_)) v1_ r2 ∧ Below w.heap.size w w' :=
 level_ok A0_0 c0_0 l0_0 A0_1 c0_1 l0_1 A1 c1 l1 r1 r2 w hr0_0 hc0_0 hr0_1 hc0_1 hr1 h
end Go.Proofs.YthiicmanfpmipaaGreatDoor.P
end
