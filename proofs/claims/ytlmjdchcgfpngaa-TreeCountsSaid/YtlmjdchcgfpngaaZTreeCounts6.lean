-- Written by a program of this session (wip/tools/shake.py) out of its own texts and of the kit's printed ones; not trusted: Lean checks it.
import Derived.Test.YtlmjdchcgfpngaaZTreeCounts5
set_option maxHeartbeats 8000000
set_option maxRecDepth 100000
set_option linter.unusedVariables false
set_option linter.unusedSimpArgs false
section
namespace Go.Proofs.Ytlmjdchcgfpngaa.P
open Go.RowKit Go.Proofs.YtlmjdchcgfpngaaW.PrintWords Go.Proofs.YtlmjdchcgfpngaaW.PrintLast Go.Proofs.YtlmjdchcgfpngaaW.PrintMore
attribute [local go_sem] zbq zbo max_two min_two zbh zbi zbp zbn
def Boxes4 (w W : World) (room : Nat) (last : Int) (A : Option Addr) (len c : Nat) (k gg nn : Int) : Prop :=
 Below w.heap.size w W ∧ W.heap.size = w.heap.size + 4 ∧ W.heap[w.heap.size]? = some (.cells #[.int .i64 (room : Int), .int .i64 last, .slice A len c] 44 (0, 0)) ∧
 W.heap[w.heap.size + 1]? = some (.cells #[.int .u8 k, .int .i64 gg, .int .i64 nn] 48 (0, 0)) ∧
 W.heap[w.heap.size + 1 + 1]? = some (.cells #[.int .i64 0, .int .i64 0, .slice none 0 0] 44 (0, 0)) ∧
 W.heap[w.heap.size + 1 + 1 + 1]? = some (.cells #[.int .i64 (room : Int), .int .i64 last, .slice A len c] 44 (0, 0))
theorem Boxes4.at (w : World) (room : Nat) (last : Int) (A : Option Addr) (len c : Nat) (k gg nn : Int) :
  Boxes4 w ((((w.alloc (.cells #[.int .i64 (room : Int), .int .i64 last, .slice A len c] 44)).alloc (.cells #[.int .u8 k, .int .i64 gg, .int .i64 nn] 48)).alloc (.cells #[.int .i64 0, .int .i64 0, .slice none 0 0] 44)).alloc (.cells #[.int .i64 (room : Int), .int .i64 last, .slice A len c] 44)) room last A len c k gg nn := by
 have h1 := zac (zac (zac (za5 w (.cells #[.int .i64 (room : Int), .int .i64 last, .slice A len c] 44)) (.cells #[.int .u8 k, .int .i64 gg, .int .i64 nn] 48)) (.cells #[.int .i64 0, .int .i64 0, .slice none 0 0] 44)) (.cells #[.int .i64 (room : Int), .int .i64 last, .slice A len c] 44)
 have h2 := zac (zac (za5 (w.alloc (.cells #[.int .i64 (room : Int), .int .i64 last, .slice A len c] 44)) (.cells #[.int .u8 k, .int .i64 gg, .int .i64 nn] 48)) (.cells #[.int .i64 0, .int .i64 0, .slice none 0 0] 44)) (.cells #[.int .i64 (room : Int), .int .i64 last, .slice A len c] 44)
 have h3 := zac (za5 ((w.alloc (.cells #[.int .i64 (room : Int), .int .i64 last, .slice A len c] 44)).alloc (.cells #[.int .u8 k, .int .i64 gg, .int .i64 nn] 48)) (.cells #[.int .i64 0, .int .i64 0, .slice none 0 0] 44)) (.cells #[.int .i64 (room : Int), .int .i64 last, .slice A len c] 44)
 have h4 := za5 (((w.alloc (.cells #[.int .i64 (room : Int), .int .i64 last, .slice A len c] 44)).alloc (.cells #[.int .u8 k, .int .i64 gg, .int .i64 nn] 48)).alloc (.cells #[.int .i64 0, .int .i64 0, .slice none 0 0] 44)) (.cells #[.int .i64 (room : Int), .int .i64 last, .slice A len c] 44)
 have hB := zaf (zaf (zaf (zaf (Below.refl _ w) (.cells #[.int .i64 (room : Int), .int .i64 last, .slice A len c] 44)) (.cells #[.int .u8 k, .int .i64 gg, .int .i64 nn] 48)) (.cells #[.int .i64 0, .int .i64 0, .slice none 0 0] 44)) (.cells #[.int .i64 (room : Int), .int .i64 last, .slice A len c] 44)
 rw [show (w.alloc (.cells #[.int .i64 (room : Int), .int .i64 last, .slice A len c] 44)).heap.size = w.heap.size + 1 by simp] at h2
 rw [show ((w.alloc (.cells #[.int .i64 (room : Int), .int .i64 last, .slice A len c] 44)).alloc (.cells #[.int .u8 k, .int .i64 gg, .int .i64 nn] 48)).heap.size = w.heap.size + 1 + 1 by simp] at h3
 rw [show (((w.alloc (.cells #[.int .i64 (room : Int), .int .i64 last, .slice A len c] 44)).alloc (.cells #[.int .u8 k, .int .i64 gg, .int .i64 nn] 48)).alloc (.cells #[.int .i64 0, .int .i64 0, .slice none 0 0] 44)).heap.size = w.heap.size + 1 + 1 + 1 by simp] at h4
 exact ⟨hB, by simp, h1, h2, h3, h4⟩
theorem ForS.lt {S : Nat → Prop} {w : World} {fb n room : Nat} {last : Int} {L : List S84} (h : ForS S w fb n room last L) {k : Nat} (hk : S k) : k < w.heap.size := by
 obtain ⟨_, _, _, _, _, _, h3⟩ := h
 exact h3 k hk
theorem RefF.old {w w' : World} {P : Nat → Prop} {v : Value} {room : Nat} {last : Int} {L : List S84} (h : RefF w P v room last L) (hb : Below w.heap.size w w') : RefF w' (fun k => P k ∧ k < w.heap.size) v room last L := by
 obtain ⟨A, c, e, h⟩ := h
 exact ⟨A, c, e, Kd.V_old h hb⟩
def DoneS (S S' P : Nat → Prop) (w w' : World) (fb n room : Nat) (last last' : Int) (L' : List S84) (v' : Value) : Prop :=
 ForS S' w' fb (n + 1) room last' L' ∧ (∃ P', RefF w' P' v' room last' L' ∧ ∀ k, P' k → (P k ∨ w.heap.size ≤ k) ∧ ¬ S' k) ∧ (∀ k, S k → S' k) ∧ (∀ k, S' k → S k ∨ w.heap.size ≤ k) ∧ GoodF room last' L' ∧ last ≤ last' ∧ last' ≤ last + 1 ∧ Wr S w w'
theorem do_end {S S' P : Nat → Prop} {w W w3 w4 : World} {fb n room n' : Nat} {last last' k gg nn : Int} {L L' : List S84} {A A' : Option Addr} {c c' : Nat} (hb : ForS S w fb n room last L) (hX : Boxes4 w W room last A L.length c k gg nn) (hP : ∀ k, P k → ¬ S k)
  (hF3 : ForS S' w3 fb n' room last' L') (hn : n' ≤ n + 1) (h1 : ∀ k, S k → S' k) (h2 : ∀ k, S' k → S k ∨ W.heap.size ≤ k) (hW3 : Wr S W w3) (h4 : Below w3.heap.size w3 w4) (hG' : GoodF room last' L') (hl1 : last ≤ last') (hl2 : last' ≤ last + 1)
  (hv4 : Kd.V k84 84 w4 0 (fun k => (P k ∧ k < w.heap.size) ∨ w3.heap.size ≤ k) (.slice A' L'.length c') L') :
  (((((((w4.setCell ⟨w.heap.size + 1 + 1 + 1, 0, none⟩ (.int .i64 (room : Int))).setCell ⟨w.heap.size + 1 + 1 + 1, 1, none⟩ (.int .i64 last')).setCell ⟨w.heap.size + 1 + 1 + 1, 2, none⟩ (.slice A' L'.length c')).setCell ⟨w.heap.size + 1 + 1, 0, none⟩ (.int .i64 (room : Int))).setCell ⟨w.heap.size + 1 + 1, 1, none⟩ (.int .i64 last')).setCell ⟨w.heap.size + 1 + 1, 2, none⟩ (.slice A' L'.length c'))).heap[w.heap.size + 1 + 1]? = some (.cells #[.int .i64 (room : Int), .int .i64 last', .slice A' L'.length c'] 44 (0, 0)) ∧ DoneS S S' P w (((((((w4.setCell ⟨w.heap.size + 1 + 1 + 1, 0, none⟩ (.int .i64 (room : Int))).setCell ⟨w.heap.size + 1 + 1 + 1, 1, none⟩ (.int .i64 last')).setCell ⟨w.heap.size + 1 + 1 + 1, 2, none⟩ (.slice A' L'.length c')).setCell ⟨w.heap.size + 1 + 1, 0, none⟩ (.int .i64 (room : Int))).setCell ⟨w.heap.size + 1 + 1, 1, none⟩ (.int .i64 last')).setCell ⟨w.heap.size + 1 + 1, 2, none⟩ (.slice A' L'.length c'))) fb n room last last' L' (.agg #[.int .i64 (room : Int), .int .i64 last', .slice A' L'.length c']) := by
 obtain ⟨x1, x2, x3, x4, x5, x6⟩ := hX
 have hsz : w3.heap.size ≤ w4.heap.size := h4.size
 have hsz3 := hW3.size
 have hS : ∀ k, S k → k < w.heap.size := fun k hk => hb.lt hk
 have hS' : ∀ k, S' k → k < w3.heap.size := fun k hk => hF3.lt hk
 have nS : ∀ q, w.heap.size ≤ q → q < W.heap.size → ¬ S' q := fun q h0 h1' h => (h2 q h).elim (fun h => by have := hS q h; omega) (fun h => by omega)
 have e3 : w4.heap[w.heap.size + 1 + 1]? = some (.cells #[.int .i64 0, .int .i64 0, .slice none 0 0] 44 (0, 0)) := (h4.block _ (by omega)).trans ((hW3.2 _ (by omega) (fun h => by have := hS _ h; omega)).trans x5)
 have e4 : w4.heap[w.heap.size + 1 + 1 + 1]? = some (.cells #[.int .i64 (room : Int), .int .i64 last, .slice A L.length c] 44 (0, 0)) := (h4.block _ (by omega)).trans ((hW3.2 _ (by omega) (fun h => by have := hS _ h; omega)).trans x6)
 have n1 := nS (w.heap.size + 1 + 1) (by omega) (by omega)
 have n2 := nS (w.heap.size + 1 + 1 + 1) (by omega) (by omega)
 have f4 : ForS S' w4 fb n' room last' L' := hF3.keep h4
 have g4 : Wr S w w4 := (Wr.of_below x1).trans (hW3.step h4) (fun k hk => .inl hk)
 have m1 : ¬ w.heap.size + 1 + 1 = w.heap.size + 1 + 1 + 1 := by omega
 refine ⟨?_, ⟨(((((((f4.up hn).other n2 _).other n2 _).other n2 _).other n1 _).other n1 _).other n1 _), ⟨fun k => ((P k ∧ k < w.heap.size) ∨ w3.heap.size ≤ k), ⟨A', c', rfl, ?_⟩, ?_⟩, h1, fun k hk => (h2 k hk).elim .inl (fun h => .inr (by omega)), hG', hl1, hl2, (((((g4.set (p := ⟨w.heap.size + 1 + 1 + 1, 0, none⟩) (.inr (by show w.heap.size ≤ w.heap.size + 1 + 1 + 1; omega)) _).set (p := ⟨w.heap.size + 1 + 1 + 1, 1, none⟩) (.inr (by show w.heap.size ≤ w.heap.size + 1 + 1 + 1; omega)) _).set (p := ⟨w.heap.size + 1 + 1 + 1, 2, none⟩) (.inr (by show w.heap.size ≤ w.heap.size + 1 + 1 + 1; omega)) _).set (p := ⟨w.heap.size + 1 + 1, 0, none⟩) (.inr (by show w.heap.size ≤ w.heap.size + 1 + 1; omega)) _).set (p := ⟨w.heap.size + 1 + 1, 1, none⟩) (.inr (by show w.heap.size ≤ w.heap.size + 1 + 1; omega)) _).set (p := ⟨w.heap.size + 1 + 1, 2, none⟩) (.inr (by show w.heap.size ≤ w.heap.size + 1 + 1; omega)) _⟩⟩
 ·
  have q0 := fun (X : World) (i : Nat) (u : Value) (h : X.heap[w.heap.size + 1 + 1]? = some (.cells #[.int .i64 0, .int .i64 0, .slice none 0 0] 44 (0, 0))) => (Below.heap_setCell X ⟨w.heap.size + 1 + 1 + 1, i, none⟩ u (w.heap.size + 1 + 1) m1).trans h
  exact zar (zar (zar (q0 _ 2 _ (q0 _ 1 _ (q0 _ 0 _ e3))) 0 _ rfl) 1 _ rfl) 2 _ rfl
 ·
  refine Kd.V_far (p := ⟨w.heap.size + 1 + 1, 2, none⟩) (Kd.V_far (p := ⟨w.heap.size + 1 + 1, 1, none⟩) (Kd.V_far (p := ⟨w.heap.size + 1 + 1, 0, none⟩) (Kd.V_far (p := ⟨w.heap.size + 1 + 1 + 1, 2, none⟩) (Kd.V_far (p := ⟨w.heap.size + 1 + 1 + 1, 1, none⟩) (Kd.V_far (p := ⟨w.heap.size + 1 + 1 + 1, 0, none⟩) hv4 (fun k hk => ?_) _) (fun k hk => ?_) _) (fun k hk => ?_) _) (fun k hk => ?_) _) (fun k hk => ?_) _) (fun k hk => ?_) _
  all_goals
   dsimp only
   omega
 ·
  intro k hk
  refine ⟨hk.elim (fun h => .inl h.1) (fun h => .inr (by omega)), fun hs => ?_⟩
  rcases hk with h | h
  ·
   exact (h2 k hs).elim (fun h' => hP k h.1 h') (fun h' => by omega)
  ·
   have := hS' k hs
   omega
theorem do_0 {S P : Nat → Prop} {w : World} {v : Value} {fb n room : Nat} {last : Int} {L : List S84} (hb : ForS S w fb n room last L) (hr : RefF w P v room last L) (hP : ∀ k, P k → ¬ S k) (hG : GoodF room last L) (hnn : n < 900000) (h9 : last < 99999) (k gg nn : Int) (hk : k.tmod 9 = 0) (wf1 : (Lit.int .i64 gg).wf = true) (wf2 : (Lit.int .i64 nn).wf = true) :
  Calls Try.prog 18 #[.pointer (some ⟨fb, 0, none⟩), v, .agg #[.int .u8 k, .int .i64 gg, .int .i64 nn]] w fun e w' => ∃ v' last' L' S', e = .returned (.tuple #[v', .bool true]) ∧ DoneS S S' P w w' fb n room last last' L' v' := by
 have d0 : (k.tmod 9 == 0) = true := beq_iff_eq.mpr hk
 have HB := Aside0.mk hb
 have HR := Aside0.mk hr
 have HP := Aside0.mk hP
 have HG := Aside0.mk hG
 obtain ⟨A, c, rfl, hv⟩ := hr
 clear hk hb hG hv hP
 go_enter Try.func18, Try.ntmps18
 go_wp2_with fail
 have hX := Boxes4.at w room last A L.length c k gg nn
 generalize (((w.alloc (.cells #[.int .i64 (room : Int), .int .i64 last, .slice A L.length c] 44)).alloc (.cells #[.int .u8 k, .int .i64 gg, .int .i64 nn] 48)).alloc (.cells #[.int .i64 0, .int .i64 0, .slice none 0 0] 44)).alloc (.cells #[.int .i64 (room : Int), .int .i64 last, .slice A L.length c] 44) = W at hX ⊢
 have HX := Aside0.mk hX
 have hF0 := HB.out.keep hX.1
 have hR0 := HR.out.old hX.1
 clear hX
 refine (forS_Root hF0 HG.out (by omega)).mono ?_
 rintro e w3 ⟨rfl, hst⟩
 obtain ⟨S', hF3, hs1, hs2, hW3⟩ := hst
 have HF3 := Aside0.mk hF3
 have HS1 := Aside0.mk hs1
 have HS2 := Aside0.mk hs2
 have HW3 := Aside0.mk hW3
 have hSl : ∀ k, S k → k < w.heap.size := fun k hk => HB.out.lt hk
 have HR3 := Aside0.mk (hR0.step (w' := w3) fun k hk hl => hW3.2 k hl fun h => HP.out k hk.1 h)
 have hbx : ∀ q, w.heap.size ≤ q → q < W.heap.size → w3.heap[q]? = W.heap[q]? := fun q h0 h1 => hW3.2 q h1 fun h => by have := hSl q h; omega
 have hsW := HX.out.2.1
 have e0 := (hbx w.heap.size (by omega) (by omega)).trans HX.out.2.2.1
 have e1 := (hbx (w.heap.size + 1) (by omega) (by omega)).trans HX.out.2.2.2.1
 have e2 := (hbx (w.heap.size + 1 + 1) (by omega) (by omega)).trans HX.out.2.2.2.2.1
 have e3 := (hbx (w.heap.size + 1 + 1 + 1) (by omega) (by omega)).trans HX.out.2.2.2.2.2
 have p0 : w3.cell? ⟨w.heap.size, 0, none⟩ = some (.int .i64 (room : Int)) := (za e0 0).trans rfl
 have p1 : w3.cell? ⟨w.heap.size, 1, none⟩ = some (.int .i64 last) := (za e0 1).trans rfl
 have p2 : w3.cell? ⟨w.heap.size, 2, none⟩ = some (.slice A L.length c) := (za e0 2).trans rfl
 have a1 : w3.cell? ⟨w.heap.size + 1, 1, none⟩ = some (.int .i64 gg) := (za e1 1).trans rfl
 have a2 : w3.cell? ⟨w.heap.size + 1, 2, none⟩ = some (.int .i64 nn) := (za e1 2).trans rfl
 have HE2 := Aside0.mk e2
 have HE3 := Aside0.mk e3
 have HSL := Aside0.mk hSl
 clear hF3 hs1 hs2 hW3 hSl hbx e0 e1 e2 e3 hR0 hF0
 go_wp2_with fail
 clear p0 p1 p2 a1 a2
 refine (call_AddRoot HR3.out HG.out).mono ?_
 rintro e w4 ⟨v', rfl, hr4, hb4⟩
 obtain ⟨A', c', rfl, hv4⟩ := hr4
 have HV4 := Aside0.mk hv4
 have HB4 := Aside0.mk hb4
 have e2 := (hb4.block _ (zao HE2.out)).trans HE2.out
 have e3 := (hb4.block _ (zao HE3.out)).trans HE3.out
 have y0 : w4.cell? ⟨w.heap.size + 1 + 1, 0, none⟩ = some (.int .i64 0) := (za e2 0).trans rfl
 have y1 : w4.cell? ⟨w.heap.size + 1 + 1, 1, none⟩ = some (.int .i64 0) := (za e2 1).trans rfl
 have y2 : w4.cell? ⟨w.heap.size + 1 + 1, 2, none⟩ = some (.slice none 0 0) := (za e2 2).trans rfl
 have z0 := zaa e2 0
 have z1 := zaa e2 1
 have z2 := zaa e2 2
 have n0 : w4.cell? ⟨w.heap.size + 1 + 1 + 1, 0, none⟩ = some (.int .i64 (room : Int)) := (za e3 0).trans rfl
 have n1 : w4.cell? ⟨w.heap.size + 1 + 1 + 1, 1, none⟩ = some (.int .i64 last) := (za e3 1).trans rfl
 have n2 : w4.cell? ⟨w.heap.size + 1 + 1 + 1, 2, none⟩ = some (.slice A L.length c) := (za e3 2).trans rfl
 have m0 := zaa e3 0
 have m1 := zaa e3 1
 have m2 := zaa e3 2
 clear hv4 hb4 e2 e3
 go_wp2_with fail
 obtain ⟨r1, r2⟩ := do_end HB.out HX.out HP.out HF3.out (Nat.le_refl _) HS1.out HS2.out HW3.out HB4.out (rootF_good HG.out h9).1 (rootF_good HG.out h9).2.1 (rootF_good HG.out h9).2.2 HV4.out
 exact bodyPost_ret (zat rfl _ _ (w.heap.size + 1 + 1) 44 #[.int .i64 (room : Int), .int .i64 _, .slice A' _ c'] (0, 0) _ rfl r1 Try.underlying44 rfl (by kernel_rfl)) rfl ⟨_, _, _, _, rfl, r2⟩
theorem do_1 {S P : Nat → Prop} {w : World} {v : Value} {fb n room : Nat} {last : Int} {L : List S84} (hb : ForS S w fb n room last L) (hr : RefF w P v room last L) (hP : ∀ k, P k → ¬ S k) (hG : GoodF room last L) (hnn : n < 900000) (h9 : last < 99999) (k gg nn : Int) (hk : k.tmod 9 = 1) (wf1 : (Lit.int .i64 gg).wf = true) (wf2 : (Lit.int .i64 nn).wf = true) :
  Calls Try.prog 18 #[.pointer (some ⟨fb, 0, none⟩), v, .agg #[.int .u8 k, .int .i64 gg, .int .i64 nn]] w fun e w' => ∃ v' last' L' S', e = .returned (.tuple #[v', .bool true]) ∧ DoneS S S' P w w' fb n room last last' L' v' := by
 have d0 : (k.tmod 9 == 0) = false := beq_eq_false_iff_ne.mpr (by omega)
 have d1 : (k.tmod 9 == 1) = true := beq_iff_eq.mpr hk
 have HB := Aside0.mk hb
 have HR := Aside0.mk hr
 have HP := Aside0.mk hP
 have HG := Aside0.mk hG
 obtain ⟨A, c, rfl, hv⟩ := hr
 clear hk hb hG hv hP
 go_enter Try.func18, Try.ntmps18
 go_wp2_with fail
 have hX := Boxes4.at w room last A L.length c k gg nn
 generalize (((w.alloc (.cells #[.int .i64 (room : Int), .int .i64 last, .slice A L.length c] 44)).alloc (.cells #[.int .u8 k, .int .i64 gg, .int .i64 nn] 48)).alloc (.cells #[.int .i64 0, .int .i64 0, .slice none 0 0] 44)).alloc (.cells #[.int .i64 (room : Int), .int .i64 last, .slice A L.length c] 44) = W at hX ⊢
 have HX := Aside0.mk hX
 have hF0 := HB.out.keep hX.1
 have hR0 := HR.out.old hX.1
 clear hX
 refine (forS_Add hF0 HG.out (by omega) nn wf1).mono ?_
 rintro e w3 ⟨rfl, hst⟩
 obtain ⟨S', hF3, hs1, hs2, hW3⟩ := hst
 have HF3 := Aside0.mk hF3
 have HS1 := Aside0.mk hs1
 have HS2 := Aside0.mk hs2
 have HW3 := Aside0.mk hW3
 have hSl : ∀ k, S k → k < w.heap.size := fun k hk => HB.out.lt hk
 have HR3 := Aside0.mk (hR0.step (w' := w3) fun k hk hl => hW3.2 k hl fun h => HP.out k hk.1 h)
 have hbx : ∀ q, w.heap.size ≤ q → q < W.heap.size → w3.heap[q]? = W.heap[q]? := fun q h0 h1 => hW3.2 q h1 fun h => by have := hSl q h; omega
 have hsW := HX.out.2.1
 have e0 := (hbx w.heap.size (by omega) (by omega)).trans HX.out.2.2.1
 have e1 := (hbx (w.heap.size + 1) (by omega) (by omega)).trans HX.out.2.2.2.1
 have e2 := (hbx (w.heap.size + 1 + 1) (by omega) (by omega)).trans HX.out.2.2.2.2.1
 have e3 := (hbx (w.heap.size + 1 + 1 + 1) (by omega) (by omega)).trans HX.out.2.2.2.2.2
 have p0 : w3.cell? ⟨w.heap.size, 0, none⟩ = some (.int .i64 (room : Int)) := (za e0 0).trans rfl
 have p1 : w3.cell? ⟨w.heap.size, 1, none⟩ = some (.int .i64 last) := (za e0 1).trans rfl
 have p2 : w3.cell? ⟨w.heap.size, 2, none⟩ = some (.slice A L.length c) := (za e0 2).trans rfl
 have a1 : w3.cell? ⟨w.heap.size + 1, 1, none⟩ = some (.int .i64 gg) := (za e1 1).trans rfl
 have a2 : w3.cell? ⟨w.heap.size + 1, 2, none⟩ = some (.int .i64 nn) := (za e1 2).trans rfl
 have HE2 := Aside0.mk e2
 have HE3 := Aside0.mk e3
 have HSL := Aside0.mk hSl
 clear hF3 hs1 hs2 hW3 hSl hbx e0 e1 e2 e3 hR0 hF0
 go_wp2_with fail
 clear p0 p1 p2 a1 a2
 refine (call_Add HR3.out HG.out gg nn).mono ?_
 rintro e w4 ⟨v', rfl, hr4, hb4⟩
 obtain ⟨A', c', rfl, hv4⟩ := hr4
 have HV4 := Aside0.mk hv4
 have HB4 := Aside0.mk hb4
 have e2 := (hb4.block _ (zao HE2.out)).trans HE2.out
 have e3 := (hb4.block _ (zao HE3.out)).trans HE3.out
 have y0 : w4.cell? ⟨w.heap.size + 1 + 1, 0, none⟩ = some (.int .i64 0) := (za e2 0).trans rfl
 have y1 : w4.cell? ⟨w.heap.size + 1 + 1, 1, none⟩ = some (.int .i64 0) := (za e2 1).trans rfl
 have y2 : w4.cell? ⟨w.heap.size + 1 + 1, 2, none⟩ = some (.slice none 0 0) := (za e2 2).trans rfl
 have z0 := zaa e2 0
 have z1 := zaa e2 1
 have z2 := zaa e2 2
 have n0 : w4.cell? ⟨w.heap.size + 1 + 1 + 1, 0, none⟩ = some (.int .i64 (room : Int)) := (za e3 0).trans rfl
 have n1 : w4.cell? ⟨w.heap.size + 1 + 1 + 1, 1, none⟩ = some (.int .i64 last) := (za e3 1).trans rfl
 have n2 : w4.cell? ⟨w.heap.size + 1 + 1 + 1, 2, none⟩ = some (.slice A L.length c) := (za e3 2).trans rfl
 have m0 := zaa e3 0
 have m1 := zaa e3 1
 have m2 := zaa e3 2
 clear hv4 hb4 e2 e3
 go_wp2_with fail
 obtain ⟨r1, r2⟩ := do_end HB.out HX.out HP.out HF3.out (Nat.le_refl _) HS1.out HS2.out HW3.out HB4.out (addF_good HG.out h9 gg nn).1 (addF_good HG.out h9 gg nn).2.1 (addF_good HG.out h9 gg nn).2.2 HV4.out
 exact bodyPost_ret (zat rfl _ _ (w.heap.size + 1 + 1) 44 #[.int .i64 (room : Int), .int .i64 _, .slice A' _ c'] (0, 0) _ rfl r1 Try.underlying44 rfl (by kernel_rfl)) rfl ⟨_, _, _, _, rfl, r2⟩
theorem do_2 {S P : Nat → Prop} {w : World} {v : Value} {fb n room : Nat} {last : Int} {L : List S84} (hb : ForS S w fb n room last L) (hr : RefF w P v room last L) (hP : ∀ k, P k → ¬ S k) (hG : GoodF room last L) (hnn : n < 900000) (h9 : last < 99999) (k gg nn : Int) (hk : k.tmod 9 = 2) (wf1 : (Lit.int .i64 gg).wf = true) (wf2 : (Lit.int .i64 nn).wf = true) :
  Calls Try.prog 18 #[.pointer (some ⟨fb, 0, none⟩), v, .agg #[.int .u8 k, .int .i64 gg, .int .i64 nn]] w fun e w' => ∃ v' last' L' S', e = .returned (.tuple #[v', .bool true]) ∧ DoneS S S' P w w' fb n room last last' L' v' := by
 have d0 : (k.tmod 9 == 0) = false := beq_eq_false_iff_ne.mpr (by omega)
 have d1 : (k.tmod 9 == 1) = false := beq_eq_false_iff_ne.mpr (by omega)
 have d2 : (k.tmod 9 == 2) = true := beq_iff_eq.mpr hk
 have HB := Aside0.mk hb
 have HR := Aside0.mk hr
 have HP := Aside0.mk hP
 have HG := Aside0.mk hG
 obtain ⟨A, c, rfl, hv⟩ := hr
 clear hk hb hG hv hP
 go_enter Try.func18, Try.ntmps18
 go_wp2_with fail
 have hX := Boxes4.at w room last A L.length c k gg nn
 generalize (((w.alloc (.cells #[.int .i64 (room : Int), .int .i64 last, .slice A L.length c] 44)).alloc (.cells #[.int .u8 k, .int .i64 gg, .int .i64 nn] 48)).alloc (.cells #[.int .i64 0, .int .i64 0, .slice none 0 0] 44)).alloc (.cells #[.int .i64 (room : Int), .int .i64 last, .slice A L.length c] 44) = W at hX ⊢
 have HX := Aside0.mk hX
 have hF0 := HB.out.keep hX.1
 have hR0 := HR.out.old hX.1
 clear hX
 refine (forS_Drop hF0 HG.out wf1).mono ?_
 rintro e w3 ⟨rfl, hst⟩
 obtain ⟨S', hF3, hs1, hs2, hW3⟩ := hst
 have HF3 := Aside0.mk hF3
 have HS1 := Aside0.mk hs1
 have HS2 := Aside0.mk hs2
 have HW3 := Aside0.mk hW3
 have hSl : ∀ k, S k → k < w.heap.size := fun k hk => HB.out.lt hk
 have HR3 := Aside0.mk (hR0.step (w' := w3) fun k hk hl => hW3.2 k hl fun h => HP.out k hk.1 h)
 have hbx : ∀ q, w.heap.size ≤ q → q < W.heap.size → w3.heap[q]? = W.heap[q]? := fun q h0 h1 => hW3.2 q h1 fun h => by have := hSl q h; omega
 have hsW := HX.out.2.1
 have e0 := (hbx w.heap.size (by omega) (by omega)).trans HX.out.2.2.1
 have e1 := (hbx (w.heap.size + 1) (by omega) (by omega)).trans HX.out.2.2.2.1
 have e2 := (hbx (w.heap.size + 1 + 1) (by omega) (by omega)).trans HX.out.2.2.2.2.1
 have e3 := (hbx (w.heap.size + 1 + 1 + 1) (by omega) (by omega)).trans HX.out.2.2.2.2.2
 have p0 : w3.cell? ⟨w.heap.size, 0, none⟩ = some (.int .i64 (room : Int)) := (za e0 0).trans rfl
 have p1 : w3.cell? ⟨w.heap.size, 1, none⟩ = some (.int .i64 last) := (za e0 1).trans rfl
 have p2 : w3.cell? ⟨w.heap.size, 2, none⟩ = some (.slice A L.length c) := (za e0 2).trans rfl
 have a1 : w3.cell? ⟨w.heap.size + 1, 1, none⟩ = some (.int .i64 gg) := (za e1 1).trans rfl
 have a2 : w3.cell? ⟨w.heap.size + 1, 2, none⟩ = some (.int .i64 nn) := (za e1 2).trans rfl
 have HE2 := Aside0.mk e2
 have HE3 := Aside0.mk e3
 have HSL := Aside0.mk hSl
 clear hF3 hs1 hs2 hW3 hSl hbx e0 e1 e2 e3 hR0 hF0
 go_wp2_with fail
 clear p0 p1 p2 a1 a2
 refine (call_Drop HR3.out HG.out gg).mono ?_
 rintro e w4 ⟨v', rfl, hr4, hb4⟩
 obtain ⟨A', c', rfl, hv4⟩ := hr4
 have HV4 := Aside0.mk hv4
 have HB4 := Aside0.mk hb4
 have e2 := (hb4.block _ (zao HE2.out)).trans HE2.out
 have e3 := (hb4.block _ (zao HE3.out)).trans HE3.out
 have y0 : w4.cell? ⟨w.heap.size + 1 + 1, 0, none⟩ = some (.int .i64 0) := (za e2 0).trans rfl
 have y1 : w4.cell? ⟨w.heap.size + 1 + 1, 1, none⟩ = some (.int .i64 0) := (za e2 1).trans rfl
 have y2 : w4.cell? ⟨w.heap.size + 1 + 1, 2, none⟩ = some (.slice none 0 0) := (za e2 2).trans rfl
 have z0 := zaa e2 0
 have z1 := zaa e2 1
 have z2 := zaa e2 2
 have n0 : w4.cell? ⟨w.heap.size + 1 + 1 + 1, 0, none⟩ = some (.int .i64 (room : Int)) := (za e3 0).trans rfl
 have n1 : w4.cell? ⟨w.heap.size + 1 + 1 + 1, 1, none⟩ = some (.int .i64 last) := (za e3 1).trans rfl
 have n2 : w4.cell? ⟨w.heap.size + 1 + 1 + 1, 2, none⟩ = some (.slice A L.length c) := (za e3 2).trans rfl
 have m0 := zaa e3 0
 have m1 := zaa e3 1
 have m2 := zaa e3 2
 clear hv4 hb4 e2 e3
 go_wp2_with fail
 obtain ⟨r1, r2⟩ := do_end HB.out HX.out HP.out HF3.out (Nat.le_succ _) HS1.out HS2.out HW3.out HB4.out (drpF_good HG.out gg) (Int.le_refl _) (by omega) HV4.out
 exact bodyPost_ret (zat rfl _ _ (w.heap.size + 1 + 1) 44 #[.int .i64 (room : Int), .int .i64 last, .slice A' _ c'] (0, 0) _ rfl r1 Try.underlying44 rfl (by kernel_rfl)) rfl ⟨_, _, _, _, rfl, r2⟩
theorem do_3 {S P : Nat → Prop} {w : World} {v : Value} {fb n room : Nat} {last : Int} {L : List S84} (hb : ForS S w fb n room last L) (hr : RefF w P v room last L) (hP : ∀ k, P k → ¬ S k) (hG : GoodF room last L) (hnn : n < 900000) (h9 : last < 99999) (k gg nn : Int) (hk : k.tmod 9 = 3) (wf1 : (Lit.int .i64 gg).wf = true) (wf2 : (Lit.int .i64 nn).wf = true) :
  Calls Try.prog 18 #[.pointer (some ⟨fb, 0, none⟩), v, .agg #[.int .u8 k, .int .i64 gg, .int .i64 nn]] w fun e w' => ∃ v' last' L' S', e = .returned (.tuple #[v', .bool true]) ∧ DoneS S S' P w w' fb n room last last' L' v' := by
 have d0 : (k.tmod 9 == 0) = false := beq_eq_false_iff_ne.mpr (by omega)
 have d1 : (k.tmod 9 == 1) = false := beq_eq_false_iff_ne.mpr (by omega)
 have d2 : (k.tmod 9 == 2) = false := beq_eq_false_iff_ne.mpr (by omega)
 have d3 : (k.tmod 9 == 3) = true := beq_iff_eq.mpr hk
 have HB := Aside0.mk hb
 have HR := Aside0.mk hr
 have HP := Aside0.mk hP
 have HG := Aside0.mk hG
 obtain ⟨A, c, rfl, hv⟩ := hr
 clear hk hb hG hv hP
 go_enter Try.func18, Try.ntmps18
 go_wp2_with fail
 have hX := Boxes4.at w room last A L.length c k gg nn
 generalize (((w.alloc (.cells #[.int .i64 (room : Int), .int .i64 last, .slice A L.length c] 44)).alloc (.cells #[.int .u8 k, .int .i64 gg, .int .i64 nn] 48)).alloc (.cells #[.int .i64 0, .int .i64 0, .slice none 0 0] 44)).alloc (.cells #[.int .i64 (room : Int), .int .i64 last, .slice A L.length c] 44) = W at hX ⊢
 have HX := Aside0.mk hX
 have hF0 := HB.out.keep hX.1
 have hR0 := HR.out.old hX.1
 clear hX
 refine (forS_Move hF0 HG.out wf1 wf2).mono ?_
 rintro e w3 ⟨rfl, hst⟩
 obtain ⟨S', hF3, hs1, hs2, hW3⟩ := hst
 have HF3 := Aside0.mk hF3
 have HS1 := Aside0.mk hs1
 have HS2 := Aside0.mk hs2
 have HW3 := Aside0.mk hW3
 have hSl : ∀ k, S k → k < w.heap.size := fun k hk => HB.out.lt hk
 have HR3 := Aside0.mk (hR0.step (w' := w3) fun k hk hl => hW3.2 k hl fun h => HP.out k hk.1 h)
 have hbx : ∀ q, w.heap.size ≤ q → q < W.heap.size → w3.heap[q]? = W.heap[q]? := fun q h0 h1 => hW3.2 q h1 fun h => by have := hSl q h; omega
 have hsW := HX.out.2.1
 have e0 := (hbx w.heap.size (by omega) (by omega)).trans HX.out.2.2.1
 have e1 := (hbx (w.heap.size + 1) (by omega) (by omega)).trans HX.out.2.2.2.1
 have e2 := (hbx (w.heap.size + 1 + 1) (by omega) (by omega)).trans HX.out.2.2.2.2.1
 have e3 := (hbx (w.heap.size + 1 + 1 + 1) (by omega) (by omega)).trans HX.out.2.2.2.2.2
 have p0 : w3.cell? ⟨w.heap.size, 0, none⟩ = some (.int .i64 (room : Int)) := (za e0 0).trans rfl
 have p1 : w3.cell? ⟨w.heap.size, 1, none⟩ = some (.int .i64 last) := (za e0 1).trans rfl
 have p2 : w3.cell? ⟨w.heap.size, 2, none⟩ = some (.slice A L.length c) := (za e0 2).trans rfl
 have a1 : w3.cell? ⟨w.heap.size + 1, 1, none⟩ = some (.int .i64 gg) := (za e1 1).trans rfl
 have a2 : w3.cell? ⟨w.heap.size + 1, 2, none⟩ = some (.int .i64 nn) := (za e1 2).trans rfl
 have HE2 := Aside0.mk e2
 have HE3 := Aside0.mk e3
 have HSL := Aside0.mk hSl
 clear hF3 hs1 hs2 hW3 hSl hbx e0 e1 e2 e3 hR0 hF0
 go_wp2_with fail
 clear p0 p1 p2 a1 a2
 refine (call_Move HR3.out HG.out gg nn).mono ?_
 rintro e w4 ⟨v', rfl, hr4, hb4⟩
 obtain ⟨A', c', rfl, hv4⟩ := hr4
 have HV4 := Aside0.mk hv4
 have HB4 := Aside0.mk hb4
 have e2 := (hb4.block _ (zao HE2.out)).trans HE2.out
 have e3 := (hb4.block _ (zao HE3.out)).trans HE3.out
 have y0 : w4.cell? ⟨w.heap.size + 1 + 1, 0, none⟩ = some (.int .i64 0) := (za e2 0).trans rfl
 have y1 : w4.cell? ⟨w.heap.size + 1 + 1, 1, none⟩ = some (.int .i64 0) := (za e2 1).trans rfl
 have y2 : w4.cell? ⟨w.heap.size + 1 + 1, 2, none⟩ = some (.slice none 0 0) := (za e2 2).trans rfl
 have z0 := zaa e2 0
 have z1 := zaa e2 1
 have z2 := zaa e2 2
 have n0 : w4.cell? ⟨w.heap.size + 1 + 1 + 1, 0, none⟩ = some (.int .i64 (room : Int)) := (za e3 0).trans rfl
 have n1 : w4.cell? ⟨w.heap.size + 1 + 1 + 1, 1, none⟩ = some (.int .i64 last) := (za e3 1).trans rfl
 have n2 : w4.cell? ⟨w.heap.size + 1 + 1 + 1, 2, none⟩ = some (.slice A L.length c) := (za e3 2).trans rfl
 have m0 := zaa e3 0
 have m1 := zaa e3 1
 have m2 := zaa e3 2
 clear hv4 hb4 e2 e3
 go_wp2_with fail
 obtain ⟨r1, r2⟩ := do_end HB.out HX.out HP.out HF3.out (Nat.le_succ _) HS1.out HS2.out HW3.out HB4.out (movF_good HG.out gg nn) (Int.le_refl _) (by omega) HV4.out
 exact bodyPost_ret (zat rfl _ _ (w.heap.size + 1 + 1) 44 #[.int .i64 (room : Int), .int .i64 last, .slice A' _ c'] (0, 0) _ rfl r1 Try.underlying44 rfl (by kernel_rfl)) rfl ⟨_, _, _, _, rfl, r2⟩
theorem do_4 {S P : Nat → Prop} {w : World} {v : Value} {fb n room : Nat} {last : Int} {L : List S84} (hb : ForS S w fb n room last L) (hr : RefF w P v room last L) (hP : ∀ k, P k → ¬ S k) (hG : GoodF room last L) (hnn : n < 900000) (h9 : last < 99999) (k gg nn : Int) (hk : k.tmod 9 = 4) (wf1 : (Lit.int .i64 gg).wf = true) (wf2 : (Lit.int .i64 nn).wf = true) :
  Calls Try.prog 18 #[.pointer (some ⟨fb, 0, none⟩), v, .agg #[.int .u8 k, .int .i64 gg, .int .i64 nn]] w fun e w' => ∃ v' last' L' S', e = .returned (.tuple #[v', .bool true]) ∧ DoneS S S' P w w' fb n room last last' L' v' := by
 have d0 : (k.tmod 9 == 0) = false := beq_eq_false_iff_ne.mpr (by omega)
 have d1 : (k.tmod 9 == 1) = false := beq_eq_false_iff_ne.mpr (by omega)
 have d2 : (k.tmod 9 == 2) = false := beq_eq_false_iff_ne.mpr (by omega)
 have d3 : (k.tmod 9 == 3) = false := beq_eq_false_iff_ne.mpr (by omega)
 have d4 : (k.tmod 9 == 4) = true := beq_iff_eq.mpr hk
 have HB := Aside0.mk hb
 have HR := Aside0.mk hr
 have HP := Aside0.mk hP
 have HG := Aside0.mk hG
 obtain ⟨A, c, rfl, hv⟩ := hr
 clear hk hb hG hv hP
 go_enter Try.func18, Try.ntmps18
 go_wp2_with fail
 have hX := Boxes4.at w room last A L.length c k gg nn
 generalize (((w.alloc (.cells #[.int .i64 (room : Int), .int .i64 last, .slice A L.length c] 44)).alloc (.cells #[.int .u8 k, .int .i64 gg, .int .i64 nn] 48)).alloc (.cells #[.int .i64 0, .int .i64 0, .slice none 0 0] 44)).alloc (.cells #[.int .i64 (room : Int), .int .i64 last, .slice A L.length c] 44) = W at hX ⊢
 have HX := Aside0.mk hX
 have hF0 := HB.out.keep hX.1
 have hR0 := HR.out.old hX.1
 clear hX
 refine (forS_Weight hF0 HG.out nn wf1).mono ?_
 rintro e w3 ⟨rfl, hst⟩
 obtain ⟨S', hF3, hs1, hs2, hW3⟩ := hst
 have HF3 := Aside0.mk hF3
 have HS1 := Aside0.mk hs1
 have HS2 := Aside0.mk hs2
 have HW3 := Aside0.mk hW3
 have hSl : ∀ k, S k → k < w.heap.size := fun k hk => HB.out.lt hk
 have HR3 := Aside0.mk (hR0.step (w' := w3) fun k hk hl => hW3.2 k hl fun h => HP.out k hk.1 h)
 have hbx : ∀ q, w.heap.size ≤ q → q < W.heap.size → w3.heap[q]? = W.heap[q]? := fun q h0 h1 => hW3.2 q h1 fun h => by have := hSl q h; omega
 have hsW := HX.out.2.1
 have e0 := (hbx w.heap.size (by omega) (by omega)).trans HX.out.2.2.1
 have e1 := (hbx (w.heap.size + 1) (by omega) (by omega)).trans HX.out.2.2.2.1
 have e2 := (hbx (w.heap.size + 1 + 1) (by omega) (by omega)).trans HX.out.2.2.2.2.1
 have e3 := (hbx (w.heap.size + 1 + 1 + 1) (by omega) (by omega)).trans HX.out.2.2.2.2.2
 have p0 : w3.cell? ⟨w.heap.size, 0, none⟩ = some (.int .i64 (room : Int)) := (za e0 0).trans rfl
 have p1 : w3.cell? ⟨w.heap.size, 1, none⟩ = some (.int .i64 last) := (za e0 1).trans rfl
 have p2 : w3.cell? ⟨w.heap.size, 2, none⟩ = some (.slice A L.length c) := (za e0 2).trans rfl
 have a1 : w3.cell? ⟨w.heap.size + 1, 1, none⟩ = some (.int .i64 gg) := (za e1 1).trans rfl
 have a2 : w3.cell? ⟨w.heap.size + 1, 2, none⟩ = some (.int .i64 nn) := (za e1 2).trans rfl
 have HE2 := Aside0.mk e2
 have HE3 := Aside0.mk e3
 have HSL := Aside0.mk hSl
 clear hF3 hs1 hs2 hW3 hSl hbx e0 e1 e2 e3 hR0 hF0
 go_wp2_with fail
 clear p0 p1 p2 a1 a2
 refine (call_Weight HR3.out HG.out gg nn).mono ?_
 rintro e w4 ⟨v', rfl, hr4, hb4⟩
 obtain ⟨A', c', rfl, hv4⟩ := hr4
 have HV4 := Aside0.mk hv4
 have HB4 := Aside0.mk hb4
 have e2 := (hb4.block _ (zao HE2.out)).trans HE2.out
 have e3 := (hb4.block _ (zao HE3.out)).trans HE3.out
 have y0 : w4.cell? ⟨w.heap.size + 1 + 1, 0, none⟩ = some (.int .i64 0) := (za e2 0).trans rfl
 have y1 : w4.cell? ⟨w.heap.size + 1 + 1, 1, none⟩ = some (.int .i64 0) := (za e2 1).trans rfl
 have y2 : w4.cell? ⟨w.heap.size + 1 + 1, 2, none⟩ = some (.slice none 0 0) := (za e2 2).trans rfl
 have z0 := zaa e2 0
 have z1 := zaa e2 1
 have z2 := zaa e2 2
 have n0 : w4.cell? ⟨w.heap.size + 1 + 1 + 1, 0, none⟩ = some (.int .i64 (room : Int)) := (za e3 0).trans rfl
 have n1 : w4.cell? ⟨w.heap.size + 1 + 1 + 1, 1, none⟩ = some (.int .i64 last) := (za e3 1).trans rfl
 have n2 : w4.cell? ⟨w.heap.size + 1 + 1 + 1, 2, none⟩ = some (.slice A L.length c) := (za e3 2).trans rfl
 have m0 := zaa e3 0
 have m1 := zaa e3 1
 have m2 := zaa e3 2
 clear hv4 hb4 e2 e3
 go_wp2_with fail
 obtain ⟨r1, r2⟩ := do_end HB.out HX.out HP.out HF3.out (Nat.le_succ _) HS1.out HS2.out HW3.out HB4.out (wgtF_good HG.out gg nn) (Int.le_refl _) (by omega) HV4.out
 exact bodyPost_ret (zat rfl _ _ (w.heap.size + 1 + 1) 44 #[.int .i64 (room : Int), .int .i64 last, .slice A' _ c'] (0, 0) _ rfl r1 Try.underlying44 rfl (by kernel_rfl)) rfl ⟨_, _, _, _, rfl, r2⟩
theorem do_5 {S P : Nat → Prop} {w : World} {v : Value} {fb n room : Nat} {last : Int} {L : List S84} (hb : ForS S w fb n room last L) (hr : RefF w P v room last L) (hP : ∀ k, P k → ¬ S k) (hG : GoodF room last L) (hnn : n < 900000) (h9 : last < 99999) (k gg nn : Int) (hk : k.tmod 9 = 5) (wf1 : (Lit.int .i64 gg).wf = true) (wf2 : (Lit.int .i64 nn).wf = true) :
  Calls Try.prog 18 #[.pointer (some ⟨fb, 0, none⟩), v, .agg #[.int .u8 k, .int .i64 gg, .int .i64 nn]] w fun e w' => ∃ v' last' L' S', e = .returned (.tuple #[v', .bool true]) ∧ DoneS S S' P w w' fb n room last last' L' v' := by
 have d0 : (k.tmod 9 == 0) = false := beq_eq_false_iff_ne.mpr (by omega)
 have d1 : (k.tmod 9 == 1) = false := beq_eq_false_iff_ne.mpr (by omega)
 have d2 : (k.tmod 9 == 2) = false := beq_eq_false_iff_ne.mpr (by omega)
 have d3 : (k.tmod 9 == 3) = false := beq_eq_false_iff_ne.mpr (by omega)
 have d4 : (k.tmod 9 == 4) = false := beq_eq_false_iff_ne.mpr (by omega)
 have d5 : (k.tmod 9 == 5) = true := beq_iff_eq.mpr hk
 have HB := Aside0.mk hb
 have HR := Aside0.mk hr
 have HP := Aside0.mk hP
 have HG := Aside0.mk hG
 obtain ⟨A, c, rfl, hv⟩ := hr
 clear hk hb hG hv hP
 go_enter Try.func18, Try.ntmps18
 go_wp2_with fail
 have hX := Boxes4.at w room last A L.length c k gg nn
 generalize (((w.alloc (.cells #[.int .i64 (room : Int), .int .i64 last, .slice A L.length c] 44)).alloc (.cells #[.int .u8 k, .int .i64 gg, .int .i64 nn] 48)).alloc (.cells #[.int .i64 0, .int .i64 0, .slice none 0 0] 44)).alloc (.cells #[.int .i64 (room : Int), .int .i64 last, .slice A L.length c] 44) = W at hX ⊢
 have HX := Aside0.mk hX
 have hF0 := HB.out.keep hX.1
 have hR0 := HR.out.old hX.1
 clear hX
 refine (forS_Join hF0 HG.out wf1).mono ?_
 rintro e w3 ⟨rfl, hst⟩
 obtain ⟨S', hF3, hs1, hs2, hW3⟩ := hst
 have HF3 := Aside0.mk hF3
 have HS1 := Aside0.mk hs1
 have HS2 := Aside0.mk hs2
 have HW3 := Aside0.mk hW3
 have hSl : ∀ k, S k → k < w.heap.size := fun k hk => HB.out.lt hk
 have HR3 := Aside0.mk (hR0.step (w' := w3) fun k hk hl => hW3.2 k hl fun h => HP.out k hk.1 h)
 have hbx : ∀ q, w.heap.size ≤ q → q < W.heap.size → w3.heap[q]? = W.heap[q]? := fun q h0 h1 => hW3.2 q h1 fun h => by have := hSl q h; omega
 have hsW := HX.out.2.1
 have e0 := (hbx w.heap.size (by omega) (by omega)).trans HX.out.2.2.1
 have e1 := (hbx (w.heap.size + 1) (by omega) (by omega)).trans HX.out.2.2.2.1
 have e2 := (hbx (w.heap.size + 1 + 1) (by omega) (by omega)).trans HX.out.2.2.2.2.1
 have e3 := (hbx (w.heap.size + 1 + 1 + 1) (by omega) (by omega)).trans HX.out.2.2.2.2.2
 have p0 : w3.cell? ⟨w.heap.size, 0, none⟩ = some (.int .i64 (room : Int)) := (za e0 0).trans rfl
 have p1 : w3.cell? ⟨w.heap.size, 1, none⟩ = some (.int .i64 last) := (za e0 1).trans rfl
 have p2 : w3.cell? ⟨w.heap.size, 2, none⟩ = some (.slice A L.length c) := (za e0 2).trans rfl
 have a1 : w3.cell? ⟨w.heap.size + 1, 1, none⟩ = some (.int .i64 gg) := (za e1 1).trans rfl
 have a2 : w3.cell? ⟨w.heap.size + 1, 2, none⟩ = some (.int .i64 nn) := (za e1 2).trans rfl
 have HE2 := Aside0.mk e2
 have HE3 := Aside0.mk e3
 have HSL := Aside0.mk hSl
 clear hF3 hs1 hs2 hW3 hSl hbx e0 e1 e2 e3 hR0 hF0
 go_wp2_with fail
 clear p0 p1 p2 a1 a2
 refine (call_Count HR3.out HG.out gg 1 0 (by decide) (by decide)).mono ?_
 rintro e w4 ⟨v', rfl, hr4, hb4⟩
 obtain ⟨A', c', rfl, hv4⟩ := hr4
 have HV4 := Aside0.mk hv4
 have HB4 := Aside0.mk hb4
 have e2 := (hb4.block _ (zao HE2.out)).trans HE2.out
 have e3 := (hb4.block _ (zao HE3.out)).trans HE3.out
 have y0 : w4.cell? ⟨w.heap.size + 1 + 1, 0, none⟩ = some (.int .i64 0) := (za e2 0).trans rfl
 have y1 : w4.cell? ⟨w.heap.size + 1 + 1, 1, none⟩ = some (.int .i64 0) := (za e2 1).trans rfl
 have y2 : w4.cell? ⟨w.heap.size + 1 + 1, 2, none⟩ = some (.slice none 0 0) := (za e2 2).trans rfl
 have z0 := zaa e2 0
 have z1 := zaa e2 1
 have z2 := zaa e2 2
 have n0 : w4.cell? ⟨w.heap.size + 1 + 1 + 1, 0, none⟩ = some (.int .i64 (room : Int)) := (za e3 0).trans rfl
 have n1 : w4.cell? ⟨w.heap.size + 1 + 1 + 1, 1, none⟩ = some (.int .i64 last) := (za e3 1).trans rfl
 have n2 : w4.cell? ⟨w.heap.size + 1 + 1 + 1, 2, none⟩ = some (.slice A L.length c) := (za e3 2).trans rfl
 have m0 := zaa e3 0
 have m1 := zaa e3 1
 have m2 := zaa e3 2
 clear hv4 hb4 e2 e3
 go_wp2_with fail
 obtain ⟨r1, r2⟩ := do_end HB.out HX.out HP.out HF3.out (Nat.le_succ _) HS1.out HS2.out HW3.out HB4.out (cntF_good HG.out gg 1 0 (by decide)) (Int.le_refl _) (by omega) HV4.out
 exact bodyPost_ret (zat rfl _ _ (w.heap.size + 1 + 1) 44 #[.int .i64 (room : Int), .int .i64 last, .slice A' _ c'] (0, 0) _ rfl r1 Try.underlying44 rfl (by kernel_rfl)) rfl ⟨_, _, _, _, rfl, r2⟩
theorem do_6 {S P : Nat → Prop} {w : World} {v : Value} {fb n room : Nat} {last : Int} {L : List S84} (hb : ForS S w fb n room last L) (hr : RefF w P v room last L) (hP : ∀ k, P k → ¬ S k) (hG : GoodF room last L) (hnn : n < 900000) (h9 : last < 99999) (k gg nn : Int) (hk : k.tmod 9 = 6) (wf1 : (Lit.int .i64 gg).wf = true) (wf2 : (Lit.int .i64 nn).wf = true) :
  Calls Try.prog 18 #[.pointer (some ⟨fb, 0, none⟩), v, .agg #[.int .u8 k, .int .i64 gg, .int .i64 nn]] w fun e w' => ∃ v' last' L' S', e = .returned (.tuple #[v', .bool true]) ∧ DoneS S S' P w w' fb n room last last' L' v' := by
 have d0 : (k.tmod 9 == 0) = false := beq_eq_false_iff_ne.mpr (by omega)
 have d1 : (k.tmod 9 == 1) = false := beq_eq_false_iff_ne.mpr (by omega)
 have d2 : (k.tmod 9 == 2) = false := beq_eq_false_iff_ne.mpr (by omega)
 have d3 : (k.tmod 9 == 3) = false := beq_eq_false_iff_ne.mpr (by omega)
 have d4 : (k.tmod 9 == 4) = false := beq_eq_false_iff_ne.mpr (by omega)
 have d5 : (k.tmod 9 == 5) = false := beq_eq_false_iff_ne.mpr (by omega)
 have d6 : (k.tmod 9 == 6) = true := beq_iff_eq.mpr hk
 have HB := Aside0.mk hb
 have HR := Aside0.mk hr
 have HP := Aside0.mk hP
 have HG := Aside0.mk hG
 obtain ⟨A, c, rfl, hv⟩ := hr
 clear hk hb hG hv hP
 go_enter Try.func18, Try.ntmps18
 go_wp2_with fail
 have hX := Boxes4.at w room last A L.length c k gg nn
 generalize (((w.alloc (.cells #[.int .i64 (room : Int), .int .i64 last, .slice A L.length c] 44)).alloc (.cells #[.int .u8 k, .int .i64 gg, .int .i64 nn] 48)).alloc (.cells #[.int .i64 0, .int .i64 0, .slice none 0 0] 44)).alloc (.cells #[.int .i64 (room : Int), .int .i64 last, .slice A L.length c] 44) = W at hX ⊢
 have HX := Aside0.mk hX
 have hF0 := HB.out.keep hX.1
 have hR0 := HR.out.old hX.1
 clear hX
 refine (forS_Leave hF0 HG.out wf1).mono ?_
 rintro e w3 ⟨rfl, hst⟩
 obtain ⟨S', hF3, hs1, hs2, hW3⟩ := hst
 have HF3 := Aside0.mk hF3
 have HS1 := Aside0.mk hs1
 have HS2 := Aside0.mk hs2
 have HW3 := Aside0.mk hW3
 have hSl : ∀ k, S k → k < w.heap.size := fun k hk => HB.out.lt hk
 have HR3 := Aside0.mk (hR0.step (w' := w3) fun k hk hl => hW3.2 k hl fun h => HP.out k hk.1 h)
 have hbx : ∀ q, w.heap.size ≤ q → q < W.heap.size → w3.heap[q]? = W.heap[q]? := fun q h0 h1 => hW3.2 q h1 fun h => by have := hSl q h; omega
 have hsW := HX.out.2.1
 have e0 := (hbx w.heap.size (by omega) (by omega)).trans HX.out.2.2.1
 have e1 := (hbx (w.heap.size + 1) (by omega) (by omega)).trans HX.out.2.2.2.1
 have e2 := (hbx (w.heap.size + 1 + 1) (by omega) (by omega)).trans HX.out.2.2.2.2.1
 have e3 := (hbx (w.heap.size + 1 + 1 + 1) (by omega) (by omega)).trans HX.out.2.2.2.2.2
 have p0 : w3.cell? ⟨w.heap.size, 0, none⟩ = some (.int .i64 (room : Int)) := (za e0 0).trans rfl
 have p1 : w3.cell? ⟨w.heap.size, 1, none⟩ = some (.int .i64 last) := (za e0 1).trans rfl
 have p2 : w3.cell? ⟨w.heap.size, 2, none⟩ = some (.slice A L.length c) := (za e0 2).trans rfl
 have a1 : w3.cell? ⟨w.heap.size + 1, 1, none⟩ = some (.int .i64 gg) := (za e1 1).trans rfl
 have a2 : w3.cell? ⟨w.heap.size + 1, 2, none⟩ = some (.int .i64 nn) := (za e1 2).trans rfl
 have HE2 := Aside0.mk e2
 have HE3 := Aside0.mk e3
 have HSL := Aside0.mk hSl
 clear hF3 hs1 hs2 hW3 hSl hbx e0 e1 e2 e3 hR0 hF0
 go_wp2_with fail
 clear p0 p1 p2 a1 a2
 refine (call_Count HR3.out HG.out gg (-1) 0 (by decide) (by decide)).mono ?_
 rintro e w4 ⟨v', rfl, hr4, hb4⟩
 obtain ⟨A', c', rfl, hv4⟩ := hr4
 have HV4 := Aside0.mk hv4
 have HB4 := Aside0.mk hb4
 have e2 := (hb4.block _ (zao HE2.out)).trans HE2.out
 have e3 := (hb4.block _ (zao HE3.out)).trans HE3.out
 have y0 : w4.cell? ⟨w.heap.size + 1 + 1, 0, none⟩ = some (.int .i64 0) := (za e2 0).trans rfl
 have y1 : w4.cell? ⟨w.heap.size + 1 + 1, 1, none⟩ = some (.int .i64 0) := (za e2 1).trans rfl
 have y2 : w4.cell? ⟨w.heap.size + 1 + 1, 2, none⟩ = some (.slice none 0 0) := (za e2 2).trans rfl
 have z0 := zaa e2 0
 have z1 := zaa e2 1
 have z2 := zaa e2 2
 have n0 : w4.cell? ⟨w.heap.size + 1 + 1 + 1, 0, none⟩ = some (.int .i64 (room : Int)) := (za e3 0).trans rfl
 have n1 : w4.cell? ⟨w.heap.size + 1 + 1 + 1, 1, none⟩ = some (.int .i64 last) := (za e3 1).trans rfl
 have n2 : w4.cell? ⟨w.heap.size + 1 + 1 + 1, 2, none⟩ = some (.slice A L.length c) := (za e3 2).trans rfl
 have m0 := zaa e3 0
 have m1 := zaa e3 1
 have m2 := zaa e3 2
 clear hv4 hb4 e2 e3
 go_wp2_with fail
 obtain ⟨r1, r2⟩ := do_end HB.out HX.out HP.out HF3.out (Nat.le_succ _) HS1.out HS2.out HW3.out HB4.out (cntF_good HG.out gg (-1) 0 (by decide)) (Int.le_refl _) (by omega) HV4.out
 exact bodyPost_ret (zat rfl _ _ (w.heap.size + 1 + 1) 44 #[.int .i64 (room : Int), .int .i64 last, .slice A' _ c'] (0, 0) _ rfl r1 Try.underlying44 rfl (by kernel_rfl)) rfl ⟨_, _, _, _, rfl, r2⟩
theorem do_7 {S P : Nat → Prop} {w : World} {v : Value} {fb n room : Nat} {last : Int} {L : List S84} (hb : ForS S w fb n room last L) (hr : RefF w P v room last L) (hP : ∀ k, P k → ¬ S k) (hG : GoodF room last L) (hnn : n < 900000) (h9 : last < 99999) (k gg nn : Int) (hk : k.tmod 9 = 7) (wf1 : (Lit.int .i64 gg).wf = true) (wf2 : (Lit.int .i64 nn).wf = true) :
  Calls Try.prog 18 #[.pointer (some ⟨fb, 0, none⟩), v, .agg #[.int .u8 k, .int .i64 gg, .int .i64 nn]] w fun e w' => ∃ v' last' L' S', e = .returned (.tuple #[v', .bool true]) ∧ DoneS S S' P w w' fb n room last last' L' v' := by
 have d0 : (k.tmod 9 == 0) = false := beq_eq_false_iff_ne.mpr (by omega)
 have d1 : (k.tmod 9 == 1) = false := beq_eq_false_iff_ne.mpr (by omega)
 have d2 : (k.tmod 9 == 2) = false := beq_eq_false_iff_ne.mpr (by omega)
 have d3 : (k.tmod 9 == 3) = false := beq_eq_false_iff_ne.mpr (by omega)
 have d4 : (k.tmod 9 == 4) = false := beq_eq_false_iff_ne.mpr (by omega)
 have d5 : (k.tmod 9 == 5) = false := beq_eq_false_iff_ne.mpr (by omega)
 have d6 : (k.tmod 9 == 6) = false := beq_eq_false_iff_ne.mpr (by omega)
 have d7 : (k.tmod 9 == 7) = true := beq_iff_eq.mpr hk
 have HB := Aside0.mk hb
 have HR := Aside0.mk hr
 have HP := Aside0.mk hP
 have HG := Aside0.mk hG
 obtain ⟨A, c, rfl, hv⟩ := hr
 clear hk hb hG hv hP
 go_enter Try.func18, Try.ntmps18
 go_wp2_with fail
 have hX := Boxes4.at w room last A L.length c k gg nn
 generalize (((w.alloc (.cells #[.int .i64 (room : Int), .int .i64 last, .slice A L.length c] 44)).alloc (.cells #[.int .u8 k, .int .i64 gg, .int .i64 nn] 48)).alloc (.cells #[.int .i64 0, .int .i64 0, .slice none 0 0] 44)).alloc (.cells #[.int .i64 (room : Int), .int .i64 last, .slice A L.length c] 44) = W at hX ⊢
 have HX := Aside0.mk hX
 have hF0 := HB.out.keep hX.1
 have hR0 := HR.out.old hX.1
 clear hX
 refine (forS_Wake hF0 HG.out wf1).mono ?_
 rintro e w3 ⟨rfl, hst⟩
 obtain ⟨S', hF3, hs1, hs2, hW3⟩ := hst
 have HF3 := Aside0.mk hF3
 have HS1 := Aside0.mk hs1
 have HS2 := Aside0.mk hs2
 have HW3 := Aside0.mk hW3
 have hSl : ∀ k, S k → k < w.heap.size := fun k hk => HB.out.lt hk
 have HR3 := Aside0.mk (hR0.step (w' := w3) fun k hk hl => hW3.2 k hl fun h => HP.out k hk.1 h)
 have hbx : ∀ q, w.heap.size ≤ q → q < W.heap.size → w3.heap[q]? = W.heap[q]? := fun q h0 h1 => hW3.2 q h1 fun h => by have := hSl q h; omega
 have hsW := HX.out.2.1
 have e0 := (hbx w.heap.size (by omega) (by omega)).trans HX.out.2.2.1
 have e1 := (hbx (w.heap.size + 1) (by omega) (by omega)).trans HX.out.2.2.2.1
 have e2 := (hbx (w.heap.size + 1 + 1) (by omega) (by omega)).trans HX.out.2.2.2.2.1
 have e3 := (hbx (w.heap.size + 1 + 1 + 1) (by omega) (by omega)).trans HX.out.2.2.2.2.2
 have p0 : w3.cell? ⟨w.heap.size, 0, none⟩ = some (.int .i64 (room : Int)) := (za e0 0).trans rfl
 have p1 : w3.cell? ⟨w.heap.size, 1, none⟩ = some (.int .i64 last) := (za e0 1).trans rfl
 have p2 : w3.cell? ⟨w.heap.size, 2, none⟩ = some (.slice A L.length c) := (za e0 2).trans rfl
 have a1 : w3.cell? ⟨w.heap.size + 1, 1, none⟩ = some (.int .i64 gg) := (za e1 1).trans rfl
 have a2 : w3.cell? ⟨w.heap.size + 1, 2, none⟩ = some (.int .i64 nn) := (za e1 2).trans rfl
 have HE2 := Aside0.mk e2
 have HE3 := Aside0.mk e3
 have HSL := Aside0.mk hSl
 clear hF3 hs1 hs2 hW3 hSl hbx e0 e1 e2 e3 hR0 hF0
 go_wp2_with fail
 clear p0 p1 p2 a1 a2
 refine (call_Count HR3.out HG.out gg 0 1 (by decide) (by decide)).mono ?_
 rintro e w4 ⟨v', rfl, hr4, hb4⟩
 obtain ⟨A', c', rfl, hv4⟩ := hr4
 have HV4 := Aside0.mk hv4
 have HB4 := Aside0.mk hb4
 have e2 := (hb4.block _ (zao HE2.out)).trans HE2.out
 have e3 := (hb4.block _ (zao HE3.out)).trans HE3.out
 have y0 : w4.cell? ⟨w.heap.size + 1 + 1, 0, none⟩ = some (.int .i64 0) := (za e2 0).trans rfl
 have y1 : w4.cell? ⟨w.heap.size + 1 + 1, 1, none⟩ = some (.int .i64 0) := (za e2 1).trans rfl
 have y2 : w4.cell? ⟨w.heap.size + 1 + 1, 2, none⟩ = some (.slice none 0 0) := (za e2 2).trans rfl
 have z0 := zaa e2 0
 have z1 := zaa e2 1
 have z2 := zaa e2 2
 have n0 : w4.cell? ⟨w.heap.size + 1 + 1 + 1, 0, none⟩ = some (.int .i64 (room : Int)) := (za e3 0).trans rfl
 have n1 : w4.cell? ⟨w.heap.size + 1 + 1 + 1, 1, none⟩ = some (.int .i64 last) := (za e3 1).trans rfl
 have n2 : w4.cell? ⟨w.heap.size + 1 + 1 + 1, 2, none⟩ = some (.slice A L.length c) := (za e3 2).trans rfl
 have m0 := zaa e3 0
 have m1 := zaa e3 1
 have m2 := zaa e3 2
 clear hv4 hb4 e2 e3
 go_wp2_with fail
 obtain ⟨r1, r2⟩ := do_end HB.out HX.out HP.out HF3.out (Nat.le_succ _) HS1.out HS2.out HW3.out HB4.out (cntF_good HG.out gg 0 1 (by decide)) (Int.le_refl _) (by omega) HV4.out
 exact bodyPost_ret (zat rfl _ _ (w.heap.size + 1 + 1) 44 #[.int .i64 (room : Int), .int .i64 last, .slice A' _ c'] (0, 0) _ rfl r1 Try.underlying44 rfl (by kernel_rfl)) rfl ⟨_, _, _, _, rfl, r2⟩
theorem do_8 {S P : Nat → Prop} {w : World} {v : Value} {fb n room : Nat} {last : Int} {L : List S84} (hb : ForS S w fb n room last L) (hr : RefF w P v room last L) (hP : ∀ k, P k → ¬ S k) (hG : GoodF room last L) (hnn : n < 900000) (h9 : last < 99999) (k gg nn : Int) (hk : k.tmod 9 = 8) (wf1 : (Lit.int .i64 gg).wf = true) (wf2 : (Lit.int .i64 nn).wf = true) :
  Calls Try.prog 18 #[.pointer (some ⟨fb, 0, none⟩), v, .agg #[.int .u8 k, .int .i64 gg, .int .i64 nn]] w fun e w' => ∃ v' last' L' S', e = .returned (.tuple #[v', .bool true]) ∧ DoneS S S' P w w' fb n room last last' L' v' := by
 have d0 : (k.tmod 9 == 0) = false := beq_eq_false_iff_ne.mpr (by omega)
 have d1 : (k.tmod 9 == 1) = false := beq_eq_false_iff_ne.mpr (by omega)
 have d2 : (k.tmod 9 == 2) = false := beq_eq_false_iff_ne.mpr (by omega)
 have d3 : (k.tmod 9 == 3) = false := beq_eq_false_iff_ne.mpr (by omega)
 have d4 : (k.tmod 9 == 4) = false := beq_eq_false_iff_ne.mpr (by omega)
 have d5 : (k.tmod 9 == 5) = false := beq_eq_false_iff_ne.mpr (by omega)
 have d6 : (k.tmod 9 == 6) = false := beq_eq_false_iff_ne.mpr (by omega)
 have d7 : (k.tmod 9 == 7) = false := beq_eq_false_iff_ne.mpr (by omega)
 have HB := Aside0.mk hb
 have HR := Aside0.mk hr
 have HP := Aside0.mk hP
 have HG := Aside0.mk hG
 obtain ⟨A, c, rfl, hv⟩ := hr
 clear hk hb hG hv hP
 go_enter Try.func18, Try.ntmps18
 go_wp2_with fail
 have hX := Boxes4.at w room last A L.length c k gg nn
 generalize (((w.alloc (.cells #[.int .i64 (room : Int), .int .i64 last, .slice A L.length c] 44)).alloc (.cells #[.int .u8 k, .int .i64 gg, .int .i64 nn] 48)).alloc (.cells #[.int .i64 0, .int .i64 0, .slice none 0 0] 44)).alloc (.cells #[.int .i64 (room : Int), .int .i64 last, .slice A L.length c] 44) = W at hX ⊢
 have HX := Aside0.mk hX
 have hF0 := HB.out.keep hX.1
 have hR0 := HR.out.old hX.1
 clear hX
 refine (forS_Sleep hF0 HG.out wf1).mono ?_
 rintro e w3 ⟨rfl, hst⟩
 obtain ⟨S', hF3, hs1, hs2, hW3⟩ := hst
 have HF3 := Aside0.mk hF3
 have HS1 := Aside0.mk hs1
 have HS2 := Aside0.mk hs2
 have HW3 := Aside0.mk hW3
 have hSl : ∀ k, S k → k < w.heap.size := fun k hk => HB.out.lt hk
 have HR3 := Aside0.mk (hR0.step (w' := w3) fun k hk hl => hW3.2 k hl fun h => HP.out k hk.1 h)
 have hbx : ∀ q, w.heap.size ≤ q → q < W.heap.size → w3.heap[q]? = W.heap[q]? := fun q h0 h1 => hW3.2 q h1 fun h => by have := hSl q h; omega
 have hsW := HX.out.2.1
 have e0 := (hbx w.heap.size (by omega) (by omega)).trans HX.out.2.2.1
 have e1 := (hbx (w.heap.size + 1) (by omega) (by omega)).trans HX.out.2.2.2.1
 have e2 := (hbx (w.heap.size + 1 + 1) (by omega) (by omega)).trans HX.out.2.2.2.2.1
 have e3 := (hbx (w.heap.size + 1 + 1 + 1) (by omega) (by omega)).trans HX.out.2.2.2.2.2
 have p0 : w3.cell? ⟨w.heap.size, 0, none⟩ = some (.int .i64 (room : Int)) := (za e0 0).trans rfl
 have p1 : w3.cell? ⟨w.heap.size, 1, none⟩ = some (.int .i64 last) := (za e0 1).trans rfl
 have p2 : w3.cell? ⟨w.heap.size, 2, none⟩ = some (.slice A L.length c) := (za e0 2).trans rfl
 have a1 : w3.cell? ⟨w.heap.size + 1, 1, none⟩ = some (.int .i64 gg) := (za e1 1).trans rfl
 have a2 : w3.cell? ⟨w.heap.size + 1, 2, none⟩ = some (.int .i64 nn) := (za e1 2).trans rfl
 have HE2 := Aside0.mk e2
 have HE3 := Aside0.mk e3
 have HSL := Aside0.mk hSl
 clear hF3 hs1 hs2 hW3 hSl hbx e0 e1 e2 e3 hR0 hF0
 go_wp2_with fail
 clear p0 p1 p2 a1 a2
 refine (call_Count HR3.out HG.out gg 0 (-1) (by decide) (by decide)).mono ?_
 rintro e w4 ⟨v', rfl, hr4, hb4⟩
 obtain ⟨A', c', rfl, hv4⟩ := hr4
 have HV4 := Aside0.mk hv4
 have HB4 := Aside0.mk hb4
 have e2 := (hb4.block _ (zao HE2.out)).trans HE2.out
 have e3 := (hb4.block _ (zao HE3.out)).trans HE3.out
 have y0 : w4.cell? ⟨w.heap.size + 1 + 1, 0, none⟩ = some (.int .i64 0) := (za e2 0).trans rfl
 have y1 : w4.cell? ⟨w.heap.size + 1 + 1, 1, none⟩ = some (.int .i64 0) := (za e2 1).trans rfl
 have y2 : w4.cell? ⟨w.heap.size + 1 + 1, 2, none⟩ = some (.slice none 0 0) := (za e2 2).trans rfl
 have z0 := zaa e2 0
 have z1 := zaa e2 1
 have z2 := zaa e2 2
 have n0 : w4.cell? ⟨w.heap.size + 1 + 1 + 1, 0, none⟩ = some (.int .i64 (room : Int)) := (za e3 0).trans rfl
 have n1 : w4.cell? ⟨w.heap.size + 1 + 1 + 1, 1, none⟩ = some (.int .i64 last) := (za e3 1).trans rfl
 have n2 : w4.cell? ⟨w.heap.size + 1 + 1 + 1, 2, none⟩ = some (.slice A L.length c) := (za e3 2).trans rfl
 have m0 := zaa e3 0
 have m1 := zaa e3 1
 have m2 := zaa e3 2
 clear hv4 hb4 e2 e3
 go_wp2_with fail
 obtain ⟨r1, r2⟩ := do_end HB.out HX.out HP.out HF3.out (Nat.le_succ _) HS1.out HS2.out HW3.out HB4.out (cntF_good HG.out gg 0 (-1) (by decide)) (Int.le_refl _) (by omega) HV4.out
 exact bodyPost_ret (zat rfl _ _ (w.heap.size + 1 + 1) 44 #[.int .i64 (room : Int), .int .i64 last, .slice A' _ c'] (0, 0) _ rfl r1 Try.underlying44 rfl (by kernel_rfl)) rfl ⟨_, _, _, _, rfl, r2⟩
theorem do_ok {S P : Nat → Prop} {w : World} {v : Value} {fb n room : Nat} {last : Int} {L : List S84} (hb : ForS S w fb n room last L) (hr : RefF w P v room last L) (hP : ∀ k, P k → ¬ S k) (hG : GoodF room last L) (hnn : n < 900000) (h9 : last < 99999) (k gg nn : Int) (hk : 0 ≤ k) (wf1 : (Lit.int .i64 gg).wf = true) (wf2 : (Lit.int .i64 nn).wf = true) :
  Calls Try.prog 18 #[.pointer (some ⟨fb, 0, none⟩), v, .agg #[.int .u8 k, .int .i64 gg, .int .i64 nn]] w fun e w' => ∃ v' last' L' S', e = .returned (.tuple #[v', .bool true]) ∧ DoneS S S' P w w' fb n room last last' L' v' := by
 have hm : k.tmod 9 = k % 9 := Int.tmod_eq_emod_of_nonneg hk
 have hc : k.tmod 9 = 0 ∨ k.tmod 9 = 1 ∨ k.tmod 9 = 2 ∨ k.tmod 9 = 3 ∨ k.tmod 9 = 4 ∨ k.tmod 9 = 5 ∨ k.tmod 9 = 6 ∨ k.tmod 9 = 7 ∨ k.tmod 9 = 8 := by omega
 rcases hc with hc | hc | hc | hc | hc | hc | hc | hc | hc
 ·
  exact do_0 hb hr hP hG hnn h9 k gg nn hc wf1 wf2
 ·
  exact do_1 hb hr hP hG hnn h9 k gg nn hc wf1 wf2
 ·
  exact do_2 hb hr hP hG hnn h9 k gg nn hc wf1 wf2
 ·
  exact do_3 hb hr hP hG hnn h9 k gg nn hc wf1 wf2
 ·
  exact do_4 hb hr hP hG hnn h9 k gg nn hc wf1 wf2
 ·
  exact do_5 hb hr hP hG hnn h9 k gg nn hc wf1 wf2
 ·
  exact do_6 hb hr hP hG hnn h9 k gg nn hc wf1 wf2
 ·
  exact do_7 hb hr hP hG hnn h9 k gg nn hc wf1 wf2
 ·
  exact do_8 hb hr hP hG hnn h9 k gg nn hc wf1 wf2
end Go.Proofs.Ytlmjdchcgfpngaa.P
end
section
namespace Go.Proofs.Ytlmjdchcgfpngaa.P
open Go.RowKit Go.Proofs.YtlmjdchcgfpngaaW.PrintWords Go.Proofs.YtlmjdchcgfpngaaW.PrintLast Go.Proofs.YtlmjdchcgfpngaaW.PrintMore
attribute [local go_sem] zbq zbo max_two min_two zbh zbi zbp zbn
theorem add_block3 (ad : Addr) (i : Nat) : (ad.add i).block = ad.block := by
 unfold Addr.add
 split <;> rfl
def Acts3At (w : World) (A : Option Addr) (n : Nat) (f : Nat → Int × Int × Int) : Prop :=
 ∀ i, i < n → ∃ ad : Addr, A = some ad ∧ ad.block < w.heap.size ∧ w.cell? (ad.add (i * 3)) = some (.int .u8 (f i).1) ∧
  w.cell? ⟨(ad.add (i * 3)).block, (ad.add (i * 3)).off + 1, none⟩ = some (.int .i64 (f i).2.1) ∧ w.cell? ⟨(ad.add (i * 3)).block, (ad.add (i * 3)).off + 2, none⟩ = some (.int .i64 (f i).2.2) ∧
  0 ≤ (f i).1 ∧ (Lit.int .i64 (f i).2.1).wf = true ∧ (Lit.int .i64 (f i).2.2).wf = true
theorem Acts3At.below {w w' : World} {A : Option Addr} {n : Nat} {f : Nat → Int × Int × Int} (h : Acts3At w A n f) (hb : Below w.heap.size w w') : Acts3At w' A n f := by
 intro i hi
 obtain ⟨ad, e, h1, h2, h3, h4, h5⟩ := h i hi
 have hl : (ad.add (i * 3)).block < w.heap.size := by rw [add_block3]; exact h1
 exact ⟨ad, e, Nat.lt_of_lt_of_le h1 hb.size, (hb.cell hl).trans h2, (hb.cell (p := ⟨(ad.add (i * 3)).block, _, none⟩) hl).trans h3, (hb.cell (p := ⟨(ad.add (i * 3)).block, _, none⟩) hl).trans h4, h5⟩
theorem list3' {α : Type} {l : List α} (h : l.length = 3) : ∃ a b c, l = [a, b, c] := by
 match l, h with
 | [a, b, c], _ => exact ⟨a, b, c, rfl⟩
theorem add_zero3 (a : Addr) : a.add 0 = a := by
 unfold Addr.add
 simp
theorem add_off3 (a : Addr) {k : Nat} (h : 0 < k) : a.add k = ⟨a.block, a.off + k, none⟩ := by
 unfold Addr.add
 rw [if_neg (by omega)]
theorem open_acts08 {H : Type} {enc : TypeId × Value → H} {W : World} {base : Nat} {spare : Nat → Bool} {held : Bool} {fuel : Nat} {A : Option Addr} {len cap : Nat} {x : DataW H × List MemPlace}
  (h : DataW.trod enc Try.prog W base spare held fuel 41 [.slice A len cap] = some x) : ∃ f, Acts3At W A len f := by
 have ce : Try.prog.cellsOf 48 = 3 := by kernel_rfl
 have c3 : Try.prog.cellsOf 3 = 1 := by kernel_rfl
 have c5 : Try.prog.cellsOf 5 = 1 := by kernel_rfl
 rcases Go.Deep.open_slice Try.underlying41 h with ⟨hcs, _⟩ | ⟨a, len', cap', m, n, D, Pl, hcs, hb, hl, hm, hmm, _, hx⟩
 ·
  simp at hcs
  obtain ⟨rfl, rfl, rfl⟩ := hcs
  exact ⟨fun _ => (0, 0, 0), fun i hi => absurd hi (by omega)⟩
 ·
  simp at hcs
  obtain ⟨rfl, rfl, rfl⟩ := hcs
  have each : ∀ i, i < len → ∃ q : Int × Int × Int, W.cell? (a.add (i * 3)) = some (.int .u8 q.1) ∧ W.cell? ((a.add (i * 3)).add 1) = some (.int .i64 q.2.1) ∧ W.cell? ((a.add (i * 3)).add 2) = some (.int .i64 q.2.2) ∧ 0 ≤ q.1 ∧ (Lit.int .i64 q.2.1).wf = true ∧ (Lit.int .i64 q.2.2).wf = true := by
   intro i hi
   obtain ⟨cs', h1, h2⟩ := hx i (by rw [hmm]; split <;> omega)
   rw [ce] at h1
   obtain ⟨_, hlen, hcell⟩ := World.cells?_some h1
   obtain ⟨xs, k, hk, hxy, _, hxl, hf⟩ := DataW.trod_struct Try.underlying48 h2
   obtain ⟨y0, y1, y2, rfl⟩ := list3' (show xs.length = 3 from hxl)
   obtain ⟨v0, v1, v2, rfl⟩ := list3' hlen
   have g0 := hf 0 _ rfl
   have g1 := hf 1 _ rfl
   have g2 := hf 2 _ rfl
   simp [c3, c5] at g0 g1 g2
   have e0 := hcell 0 (by omega)
   have e1 := hcell 1 (by omega)
   have e2 := hcell 2 (by omega)
   rw [add_zero3] at e0
   simp only [List.getElem?_cons_zero, List.getElem?_cons_succ] at e0 e1 e2
   obtain ⟨x0, z0, _, w0⟩ := DataW.trod_int Try.underlying5 g0
   obtain ⟨x1, z1, _, w1⟩ := DataW.trod_int Try.underlying3 g1
   obtain ⟨x2, z2, _, w2⟩ := DataW.trod_int Try.underlying3 g2
   simp only [List.cons.injEq, and_true] at z0 z1 z2
   subst z0 z1 z2
   refine ⟨(x0, x1, x2), e0, e1, e2, (bounds_u8 w0).1, w1, w2⟩
  obtain ⟨f, hf⟩ := Go.Deep.choose_lt each
  refine ⟨f, fun i hi => ?_⟩
  obtain ⟨c0, c1, c2, w0, w1, w2⟩ := hf i hi
  have hlt : a.block < W.heap.size := by
   rcases Nat.lt_or_ge a.block W.heap.size with h | h
   ·
    exact h
   ·
    have := c0
    unfold World.cell? at this
    rw [add_block3, Array.getElem?_eq_none h] at this
    simp at this
  rw [add_off3 _ (by decide)] at c1 c2
  exact ⟨a, rfl, hlt, c0, c1, c2, w0, w1, w2⟩
def StX (B r : Nat) (w : World) (fb n room : Nat) (last : Int) (L : List S84) (A : Option Addr) (c : Nat) : Prop :=
 ∃ S P : Nat → Prop, ForS S w fb n room last L ∧ GoodF room last L ∧ RefF w P (.agg #[.int .i64 (room : Int), .int .i64 last, .slice A L.length c]) room last L ∧ (∀ k, P k → ¬ S k ∧ k ≠ r) ∧ ¬ S r ∧ (∀ k, S k → B ≤ k) ∧ B ≤ r ∧ r < w.heap.size
def BoxR (w : World) (r room : Nat) (last : Int) (A : Option Addr) (len c : Nat) : Prop := w.heap[r]? = some (.cells #[.int .i64 (room : Int), .int .i64 last, .slice A len c] 44 (0, 0))
section
variable {B r : Nat} {w w' : World} {fb n room : Nat} {last : Int} {L : List S84} {A : Option Addr} {c : Nat}
theorem StX.keep (h : StX B r w fb n room last L A c) (hb : Below w.heap.size w w') : StX B r w' fb n room last L A c := by
 obtain ⟨S, P, h1, h2, h3, h4, h5, h6, h7, h8⟩ := h
 exact ⟨S, P, h1.keep hb, h2, h3.below hb, h4, h5, h6, h7, Nat.lt_of_lt_of_le h8 hb.size⟩
theorem StX.forB (h : StX B r w fb n room last L A c) : ForB 0 w fb n room last L := by
 obtain ⟨S, P, h1, _⟩ := h
 exact h1.forB
theorem StX.good (h : StX B r w fb n room last L A c) : GoodF room last L := by
 obtain ⟨S, P, _, h2, _⟩ := h
 exact h2
theorem BoxR.facts {len : Nat} (h : BoxR w r room last A len c) : w.cell? ⟨r, 0, none⟩ = some (.int .i64 (room : Int)) ∧ w.cell? ⟨r, 1, none⟩ = some (.int .i64 last) ∧ w.cell? ⟨r, 2, none⟩ = some (.slice A len c) ∧ w.frozen? ⟨r, 0, none⟩ = false ∧ w.frozen? ⟨r, 1, none⟩ = false ∧ w.frozen? ⟨r, 2, none⟩ = false :=
 ⟨(za h 0).trans rfl, (za h 1).trans rfl, (za h 2).trans rfl, zaa h 0, zaa h 1, zaa h 2⟩
theorem BoxR.keep {len : Nat} (h : BoxR w r room last A len c) (hb : Below w.heap.size w w') : BoxR w' r room last A len c := (hb.block _ (zao h)).trans h
theorem StX.put {x0 x1 x2 : Value} (h : StX B r w fb n room last L A c) (hx : w.heap[r]? = some (.cells #[x0, x1, x2] 44 (0, 0))) :
  StX B r (((w.setCell ⟨r, 0, none⟩ (.int .i64 (room : Int))).setCell ⟨r, 1, none⟩ (.int .i64 last)).setCell ⟨r, 2, none⟩ (.slice A L.length c)) fb n room last L A c ∧ BoxR (((w.setCell ⟨r, 0, none⟩ (.int .i64 (room : Int))).setCell ⟨r, 1, none⟩ (.int .i64 last)).setCell ⟨r, 2, none⟩ (.slice A L.length c)) r room last A L.length c := by
 obtain ⟨S, P, h1, h2, ⟨A0, c0, e0, h3⟩, h4, h5, h6, h7, h8⟩ := h
 refine ⟨⟨S, P, ((h1.other h5 _).other h5 _).other h5 _, h2, ⟨A0, c0, e0, ?_⟩, h4, h5, h6, h7, by simpa using h8⟩, zar (zar (zar hx 0 _ rfl) 1 _ rfl) 2 _ rfl⟩
 exact Kd.V_far (Kd.V_far (Kd.V_far h3 (fun k hk => (h4 k hk).2) _) (fun k hk => (h4 k hk).2) _) (fun k hk => (h4 k hk).2) _
theorem StX.act (h : StX B r w fb n room last L A c) (hnn : n < 900000) (h9 : last < 99999) (hB : B ≤ w.heap.size) (k gg nn : Int) (hk : 0 ≤ k) (wf1 : (Lit.int .i64 gg).wf = true) (wf2 : (Lit.int .i64 nn).wf = true) :
  Calls Try.prog 18 #[.pointer (some ⟨fb, 0, none⟩), .agg #[.int .i64 (room : Int), .int .i64 last, .slice A L.length c], .agg #[.int .u8 k, .int .i64 gg, .int .i64 nn]] w fun e w' => ∃ last' L' A' c', e = .returned (.tuple #[.agg #[.int .i64 (room : Int), .int .i64 last', .slice A' L'.length c'], .bool true]) ∧ StX B r w' fb (n + 1) room last' L' A' c' ∧ w'.heap[r]? = w.heap[r]? ∧ (last ≤ last' ∧ last' ≤ last + 1) ∧ Below B w w' := by
 obtain ⟨S, P, h1, h2, h3, h4, h5, h6, h7, h8⟩ := h
 refine (do_ok h1 h3 (fun k hk => (h4 k hk).1) h2 hnn h9 k gg nn hk wf1 wf2).mono ?_
 rintro e w' ⟨v', last', L', S', rfl, g1, ⟨P', ⟨A', c', rfl, g2⟩, g3⟩, g4, g5, g6, g7, g8, g9⟩
 refine ⟨last', L', A', c', rfl, ⟨S', P', g1, g6, ⟨A', c', rfl, g2⟩, fun k hk => ⟨(g3 k hk).2, fun e => ?_⟩, fun hs => ?_, fun k hk => (g5 k hk).elim (h6 k) (fun h => Nat.le_trans hB h), h7, Nat.lt_of_lt_of_le h8 g9.size⟩, g9.2 r h8 h5, ⟨g7, g8⟩, g9.below hB h6⟩
 ·
  subst e
  exact (g3 k hk).1.elim (fun h => (h4 k h).2 rfl) (fun h => by omega)
 ·
  exact (g5 r hs).elim h5 (fun h => by omega)
theorem StX.start {w1 w2 : World} {S : Nat → Prop} (hF : ForS S w1 fb 0 room 0 []) (hS : ∀ k, S k → B ≤ k) (hB : B ≤ w1.heap.size) (hb : Below w1.heap.size w1 w2) (h : Kd.R k84 84 w2 w1.heap.size (fun _ => True) (.slice A 0 c) []) (h64 : room ≤ 64) :
  StX B w2.heap.size (w2.alloc (.cells #[.int .i64 (room : Int), .int .i64 0, .slice A 0 c] 44)) fb 0 room 0 [] A c ∧ BoxR (w2.alloc (.cells #[.int .i64 (room : Int), .int .i64 0, .slice A 0 c] 44)) w2.heap.size room 0 A 0 c := by
 have hlt : ∀ k, S k → k < w1.heap.size := fun k hk => hF.lt hk
 have hsz := hb.size
 refine ⟨⟨S, fun k => w1.heap.size ≤ k ∧ k < w2.heap.size, (hF.keep hb).keep (zaf (Below.refl _ w2) _), good_nil room h64, ⟨A, c, rfl, ?_⟩, fun k hk => ⟨fun hs => by have := hlt k hs; omega, by omega⟩, fun hs => by have := hlt _ hs; omega, hS, by omega, by simp⟩, za5 w2 _⟩
 exact Kd.zbc (Kd.zbg (Kd.R_V (Kd.zbw h)) _) (fun k hk => ⟨hk.2.1, by have := hk.2.2.1; omega⟩)
end
end Go.Proofs.Ytlmjdchcgfpngaa.P
end
section
namespace Go.Proofs.Ytlmjdchcgfpngaa.P
open Go.RowKit Go.Proofs.YtlmjdchcgfpngaaW.PrintWords Go.Proofs.YtlmjdchcgfpngaaW.PrintLast Go.Proofs.YtlmjdchcgfpngaaW.PrintMore
attribute [local go_sem] zbq zbo max_two min_two zbh zbi zbp zbn
theorem one_sum0 {W K : List Int} (v : Int) (h : ∀ c ∈ K, c ∉ W) : (K.map fun c => if c ∈ W then v else 0).sum = 0 := by
 induction K with
 | nil => rfl
 | cons c K ih =>
  rw [List.map_cons, List.sum_cons, if_neg (h c List.mem_cons_self), ih fun x hx => h x (List.mem_cons_of_mem _ hx)]
  rfl
theorem one_sum1 {W K : List Int} (v c0 : Int) (hn : K.Nodup) (hk : c0 ∈ K) (hw : c0 ∈ W) (h : ∀ c ∈ K, c ∈ W → c = c0) : (K.map fun c => if c ∈ W then v else 0).sum = v := by
 induction K with
 | nil => cases hk
 | cons c K ih =>
  obtain ⟨hn1, hn2⟩ := List.nodup_cons.1 hn
  rw [List.map_cons, List.sum_cons]
  by_cases e : c ∈ W
  ·
   have e1 := h c List.mem_cons_self e
   subst e1
   rw [if_pos e, one_sum0 v fun x hx hxw => hn1 (by rw [← h x (List.mem_cons_of_mem _ hx) hxw]; exact hx)]
   omega
  ·
   rw [if_neg e]
   rcases List.mem_cons.1 hk with rfl | hk
   ·
    exact absurd hw e
   ·
    rw [ih hn2 hk fun x hx => h x (List.mem_cons_of_mem _ hx)]
    omega
theorem Ch.up_eq {pr : Int → Option Int} {W : List Int} {id x c1 c2 : Int} (h : Ch pr W id) (h1 : c1 ∈ W) (h2 : c2 ∈ W) (p1 : pr c1 = some x) (p2 : pr c2 = some x) : c1 = c2 := by
 obtain ⟨_, a1, e1, q1, g1⟩ := h.mem h1
 obtain ⟨_, a2, e2, q2, g2⟩ := h.mem h2
 obtain ⟨_, _, y1, r1, s1⟩ := g1
 obtain ⟨_, _, y2, r2, s2⟩ := g2
 rw [p1] at r1
 rw [p2] at r2
 cases r1
 cases r2
 have e := Ch.uniq s1 s2
 subst e
 rw [q1] at q2
 have hl : a1.length = a2.length := by
  have := congrArg List.length q2
  simp at this
  omega
 have := (List.append_inj q2 hl).2
 simp only [List.cons.injEq] at this
 exact this.1
theorem Ch.up_in {pr : Int → Option Int} {W : List Int} {id x c : Int} (h : Ch pr W id) (hc : c ∈ W) (p : pr c = some x) (h0 : 0 ≤ x) : x ∈ W ∧ x ≠ id := by
 obtain ⟨_, a1, e1, q1, g1⟩ := h.mem hc
 obtain ⟨_, _, y1, r1, s1⟩ := g1
 rw [p] at r1
 cases r1
 obtain ⟨e2, rfl⟩ := s1.head h0
 refine ⟨by rw [q1]; simp, fun e => ?_⟩
 subst e
 have hn := h.nodup
 obtain ⟨t, rfl⟩ := h.head h0
 cases a1 with
 | nil =>
  simp only [List.nil_append, List.cons.injEq] at q1
  rw [q1.2] at hn
  have := (List.nodup_cons.1 hn).1
  simp at this
 | cons z a1 =>
  simp only [List.cons_append, List.cons.injEq] at q1
  rw [q1.2] at hn
  have := (List.nodup_cons.1 hn).1
  simp at this
theorem sum_one {L : List S84} {g : S84} (hA : Asc L) (hg : g ∈ L) : (L.map fun y => if y.f0 = g.f0 then y.f4 else 0).sum = g.f4 := by
 induction L with
 | nil => cases hg
 | cons a L ih =>
  obtain ⟨h1, h2⟩ := List.pairwise_cons.1 hA
  rw [List.map_cons, List.sum_cons]
  rcases List.mem_cons.1 hg with rfl | hg'
  ·
   rw [if_pos rfl]
   have : (L.map fun y => if y.f0 = g.f0 then y.f4 else 0).sum = 0 := by
    have key : ∀ M : List S84, (∀ y ∈ M, y.f0 ≠ g.f0) → (M.map fun y => if y.f0 = g.f0 then y.f4 else 0).sum = 0 := by
     intro M
     induction M with
     | nil => intro _; rfl
     | cons b M ihM =>
      intro hM
      rw [List.map_cons, List.sum_cons, if_neg (hM b List.mem_cons_self), ihM fun y hy => hM y (List.mem_cons_of_mem _ hy)]
      rfl
    exact key L fun y hy => by have := h1 y hy; omega
   omega
  ·
   have := h1 g hg'
   rw [if_neg (by omega), ih h2 hg']
   omega
theorem acts_swap (L : List S84) : ∀ K : List Int, (K.map (act L)).sum = (L.map fun y => (K.map fun c => if c ∈ way L y.f0 then y.f4 else 0).sum).sum
 | [] => by
  have key : ∀ M : List S84, (M.map fun y => (([] : List Int).map fun c => if c ∈ way L y.f0 then y.f4 else 0).sum).sum = 0 := by
   intro M
   induction M with
   | nil => rfl
   | cons b M ih =>
    rw [List.map_cons, List.sum_cons, ih]
    rfl
  rw [key]
  rfl
 | c :: K => by
  rw [List.map_cons, List.sum_cons, acts_swap L K, sum_add3 (fun y => (K.map fun c => if c ∈ way L y.f0 then y.f4 else 0).sum) (fun y => ((c :: K).map fun c => if c ∈ way L y.f0 then y.f4 else 0).sum) (fun y => if c ∈ way L y.f0 then y.f4 else 0) fun y _ => by
   rw [List.map_cons, List.sum_cons]
   omega]
  unfold act
  omega
theorem act_kids {room : Nat} {last : Int} {L : List S84} (hG : GoodF room last L) {g : S84} (hg : g ∈ L) : act L g.f0 = g.f4 + ((kidsF L g.f0).map (act L)).sum := by
 have hA := hG.2.2.2.2.1
 have hn : (kidsF L g.f0).Nodup := (kidsF_rise hA g.f0).imp fun h => by omega
 have h1 := (hG.2.2.2.2.2 g hg).1
 rw [acts_swap, ← sum_one hA hg]
 unfold act
 rw [sum_add3 (fun y => if y.f0 = g.f0 then y.f4 else 0) (fun y => if g.f0 ∈ way L y.f0 then y.f4 else 0) (fun y => ((kidsF L g.f0).map fun c => if c ∈ way L y.f0 then y.f4 else 0).sum)]
 intro y hy
 have hc := (hG.way hy).1
 have hpar : ∀ c ∈ kidsF L g.f0, prt L c = some g.f0 := fun c hk => by
  obtain ⟨z, hz, rfl, _, e⟩ := kidsF_mem.1 hk
  rw [prt_mem hA hz, e]
 by_cases e : y.f0 = g.f0
 ·
  have hin : g.f0 ∈ way L y.f0 := by
   obtain ⟨t, ht⟩ := hc.head (by omega)
   rw [ht, e]
   exact List.mem_cons_self
  rw [if_pos hin, if_pos e, one_sum0]
  ·
   omega
  ·
   intro c hk hcw
   exact (hc.up_in hcw (hpar c hk) (by omega)).2 e.symm
 ·
  rw [if_neg e]
  by_cases hin : g.f0 ∈ way L y.f0
  ·
   rw [if_pos hin]
   obtain ⟨z, hz, hp⟩ := hc.mid hin (fun h => e h.symm)
   obtain ⟨q, hq, rfl, hq1⟩ := prt_some hp
   have hk : q.f0 ∈ kidsF L g.f0 := kidsF_mem.2 ⟨q, hq, rfl, by omega, hq1⟩
   rw [one_sum1 y.f4 q.f0 hn hk hz fun c hk' hcw => hc.up_eq hcw hz (hpar c hk') hp]
   omega
  ·
   rw [if_neg hin, one_sum0]
   ·
    rfl
   ·
    intro c hk hcw
    exact hin (hc.up_in hcw (hpar c hk) (by omega)).1
theorem int_at8 {w : World} {A : Option Addr} {l : List Int} (h : Kd.C (Kd.int .i64) w A l.length l) {i : Nat} (hi : i < l.length) : ∃ ad : Addr, A = some ad ∧ w.cell? (ad.add i) = some (.int .i64 (l.getD i 0)) := by
 obtain ⟨ad, e, h⟩ := Kd.at_int h (i : Int) (by omega) (by omega)
 refine ⟨ad, e, ?_⟩
 rw [Int.toNat_natCast, rd_nat] at h
 exact h
theorem act_sum {room : Nat} {last : Int} {L : List S84} (hG : GoodF room last L) : ∀ K : List Int, 0 ≤ (K.map (act L)).sum ∧ (K.map (act L)).sum ≤ 2048 * (K.length : Int)
 | [] => by simp
 | c :: K => by
  have h1 := act_bounds hG c
  have h2 := act_sum hG K
  rw [List.map_cons, List.sum_cons, List.length_cons]
  constructor <;> push_cast <;> omega
theorem TreeCounts_ok (A : Option Addr) (len cap : Nat) (f : Nat → Int × Int × Int) (w : World) (hR : Acts3At w A len f) (hlen : len ≤ 60) :
  Calls Try.prog 6 #[.slice A len cap] w fun e w' => e = .returned (.bool true) ∧ Below w.heap.size w w' := by
 have HR := Aside0.mk hR
 have d3 : decide ((len : Int) > 60) = false := decide_eq_false (by omega)
 clear hR
 obtain ⟨room, HRM⟩ : ∃ room : Nat, Aside0 (room = 20) := ⟨20, ⟨rfl⟩⟩
 go_enter Try.func6, Try.ntmps6
 go_wp2_with fail
 go_at_call 8
 refine (awake08_ok _).mono ?_
 rintro e w0 ⟨rfl, hw0⟩
 have HW0 := Aside0.mk hw0
 have HR0 : Aside0 (Acts3At w0 A len f) := ⟨HR.out.below HW0.out⟩
 clear hw0
 go_wp2_with fail
 go_at_call 9
 have hN := forS_New room (by have := HRM.out; omega) (by have := HRM.out; omega) w0
 rw [show ((room : Nat) : Int) = 20 by have := HRM.out; omega] at hN
 refine hN.mono ?_
 rintro e w1 ⟨fb, rfl, ⟨S, hF, hS⟩, hw⟩
 have hsz0 := HW0.out.size
 have HF1 := Aside0.mk hF
 have HS1 := Aside0.mk hS
 have HW01 := Aside0.mk hw
 clear hF hS hw hN
 go_wp2_with fail
 go_at_call 17
 refine (zbr.calls 20 (room : Int) 0 [] 0 w1 (by unfold zbr.f; rw [if_neg (by omega), if_neg (by omega), show ((room : Nat) : Int) = 20 by have := HRM.out; omega])).mono ?_
 rintro e w2 ⟨v1, rfl, hr2', hw2⟩
 obtain ⟨A2, c2, rfl⟩ := Kd.zbx hr2'
 obtain ⟨hX2, hB2⟩ := StX.start HF1.out HS1.out HW01.out.size hw2 hr2' (by have := HRM.out; omega)
 have HX2 := Aside0.mk hX2
 have HB2 := Aside0.mk hB2
 have HW2 := Aside0.mk (zaf (Below.trans (Below.mono (Below.trans (Below.refl _ w0) HW01.out) (Nat.le_refl _)) (hw2.mono HW01.out.size)) (.cells #[.int .i64 (room : Int), .int .i64 0, .slice A2 0 c2] 44))
 have hszr := hw2.size
 have hsz1 := HW01.out.size
 clear hr2' hw2 hX2 hB2
 go_wp2_with fail
 generalize w2.alloc (.cells #[.int .i64 (room : Int), .int .i64 0, .slice A2 0 c2] 44) = W2 at HX2 HB2 HW2 ⊢
 generalize w2.heap.size = r at HX2 HB2 hszr ⊢
 go_loopg [40] len (fun gk v40 w' => ∃ (i : Nat) (last : Int) (L : List S84) (A3 : Option Addr) (c3 : Nat), v40 = .int .i64 (i : Int) ∧ i + gk = len ∧ Aside0 (StX w0.heap.size r w' fb i room last L A3 c3) ∧ Aside0 (BoxR w' r room last A3 L.length c3) ∧ (0 ≤ last ∧ last ≤ (i : Int)) ∧ Aside0 (Below w0.heap.size w0 w'))
 case atStart => exact ⟨0, 0, [], A2, c2, by go_num, by omega, HX2, HB2, by omega, HW2⟩
 case round =>
  obtain ⟨i, last, L, A3, c3, rfl, hi, HX3, HQ3, hlast, HW3⟩ := hrel
  cases gk with
  | zero =>
   obtain rfl : i = len := by omega
   have d1 : decide ((i : Int) < (i : Int)) = false := decide_eq_false (by omega)
   have HB0 := Aside0.mk (HW0.out.trans (HW3.out.mono hsz0))
   go_wp2_with fail
   go_ret
   exact ⟨rfl, HB0.out⟩
  | succ g1 =>
   have d1 : decide ((i : Int) < (len : Int)) = true := decide_eq_true (by omega)
   obtain ⟨ad, rfl, had, a0, a1, a2, ha0, ha1, ha2⟩ := (HR0.out.below HW3.out) i (by omega)
   have d2 : 0 ≤ (i : Int) ∧ (i : Int) < (len : Int) := by omega
   generalize hf : f i = fi at a0 a1 a2 ha0 ha1 ha2
   obtain ⟨k, gg, nn⟩ := fi
   dsimp only at a0 a1 a2 ha0 ha1 ha2
   have HA1 := Aside0.mk ha1
   have HA2 := Aside0.mk ha2
   have HF := Aside0.mk hf
   obtain ⟨p0, p1, p2, _, _, _⟩ := (HQ3.out.keep (zaf (Below.refl _ wr) (.cells #[.int .u8 k, .int .i64 gg, .int .i64 nn] 48))).facts
   clear ha1 ha2 hf
   go_wp2_with fail
   have HX4 := Aside0.mk (HX3.out.keep (zaf (Below.refl _ wr) (.cells #[.int .u8 k, .int .i64 gg, .int .i64 nn] 48)))
   have HQ4 := Aside0.mk (HQ3.out.keep (zaf (Below.refl _ wr) (.cells #[.int .u8 k, .int .i64 gg, .int .i64 nn] 48)))
   have HW4 := Aside0.mk (zaf HW3.out (.cells #[.int .u8 k, .int .i64 gg, .int .i64 nn] 48))
   go_at_call 18
   generalize wr.alloc (.cells #[.int .u8 k, .int .i64 gg, .int .i64 nn] 48) = W3 at HX4 HQ4 HW4 p0 p1 p2 ⊢
   clear a0 a1 a2 p0 p1 p2
   refine (HX4.out.act (by omega) (by omega) HW4.out.size k gg nn ha0 HA1.out HA2.out).mono ?_
   rintro e w4 ⟨last', L', A4, c4, rfl, hx4, hq4, hl4, hw4⟩
   have hq4 := hq4.trans HQ4.out
   have HX5' := Aside0.mk (hx4.put hq4)
   have hr0 : w0.heap.size ≤ r := by omega
   have HW5 : Aside0 (Below w0.heap.size w0 (((w4.setCell ⟨r, 0, none⟩ (.int .i64 (room : Int))).setCell ⟨r, 1, none⟩ (.int .i64 last')).setCell ⟨r, 2, none⟩ (.slice A4 L'.length c4))) := ⟨(((HW4.out.trans hw4).setCell (p := ⟨r, 0, none⟩) hr0 _).setCell (p := ⟨r, 1, none⟩) hr0 _).setCell (p := ⟨r, 2, none⟩) hr0 _⟩
   have p0 : w4.cell? ⟨r, 0, none⟩ = some (.int .i64 (room : Int)) := (za hq4 0).trans rfl
   have p1 : w4.cell? ⟨r, 1, none⟩ = some (.int .i64 last) := (za hq4 1).trans rfl
   have p2 : w4.cell? ⟨r, 2, none⟩ = some (.slice A3 L.length c3) := (za hq4 2).trans rfl
   have q0 := zaa hq4 0
   have q1 := zaa hq4 1
   have q2 := zaa hq4 2
   clear hq4 hx4 hw4
   go_wp2_with fail
   clear p0 p1 p2 q0 q1 q2
   generalize ((w4.setCell ⟨r, 0, none⟩ (.int .i64 (room : Int))).setCell ⟨r, 1, none⟩ (.int .i64 last')).setCell ⟨r, 2, none⟩ (.slice A4 L'.length c4) = W5 at HX5' HW5 ⊢
   have HG := Aside0.mk HX5'.out.1.good
   have hl64 : L'.length ≤ 64 := Nat.le_trans HG.out.2.1 HG.out.1
   obtain ⟨ids, hids⟩ : ∃ ids, L'.map (·.f0) = ids := ⟨_, rfl⟩
   refine (forB_Ids HX5'.out.1.forB HG.out).mono ?_
   rintro e w6 ⟨v6, rfl, hi6, hb6⟩
   rw [hids] at hi6
   obtain ⟨A6, c6, rfl, hc6, hC6⟩ := hi6
   have hidl : ids.length = L'.length := by rw [← hids, List.length_map]
   have HID := Aside0.mk hids
   have HIL := Aside0.mk hidl
   have HC6 := Aside0.mk hC6
   have HX6 := Aside0.mk (HX5'.out.1.keep hb6)
   have HQ6 := Aside0.mk (HX5'.out.2.keep hb6)
   have HW6 := Aside0.mk (zab HW5.out hb6)
   have hil : ids.length ≤ 64 := by omega
   clear hids hidl hC6 hb6 hc6
   go_wp2_with fail
   go_loopg [54] ids.length (fun gk v54 w' => ∃ i2 : Nat, v54 = .int .i64 (i2 : Int) ∧ i2 + gk = ids.length ∧ Aside0 (Below w6.heap.size w6 w'))
   case atStart => exact ⟨0, by go_num, by omega, ⟨Below.refl _ _⟩⟩
   case round =>
    obtain ⟨i2, rfl, hi2, HW7⟩ := hrel
    cases gk with
    | zero =>
     have d4 : decide ((i2 : Int) < (ids.length : Int)) = false := decide_eq_false (by omega)
     have HX8 := Aside0.mk (HX6.out.keep HW7.out)
     have HQ8 := Aside0.mk (HQ6.out.keep HW7.out)
     have HW8 := Aside0.mk (zab HW6.out HW7.out)
     have hgi : i + 1 + g1 = len := by omega
     have hl2 : 0 ≤ last' ∧ last' ≤ ((i + 1 : Nat) : Int) := by omega
     go_wp2_with fail
     have wi : wrap64 ((i : Int) + 1) = (i : Int) + 1 := w64s (by omega) (by omega)
     go_roundg g1
     case measure => exact Nat.lt_succ_self _
     case rel => exact ⟨i + 1, last', L', A4, c4, by go_num, hgi, HX8, HQ8, hl2, HW8⟩
    | succ g2 =>
     have d4 : decide ((i2 : Int) < (ids.length : Int)) = true := decide_eq_true (by omega)
     have d5 : 0 ≤ (i2 : Int) ∧ (i2 : Int) < (ids.length : Int) := by omega
     have hi2l : i2 < L'.length := by have := HIL.out; omega
     obtain ⟨a6, rfl, x0⟩ := int_at8 (Kd.za3 HC6.out HW7.out) (i := i2) (by omega)
     have hgv : ids.getD i2 0 = L'[i2].f0 := by rw [← HID.out]; simp [hi2l]
     rw [hgv] at x0
     obtain ⟨g, hg⟩ : ∃ g, L'[i2] = g := ⟨_, rfl⟩
     have hmem : g ∈ L' := by rw [← hg]; exact List.getElem_mem hi2l
     rw [hg] at x0
     have HM := Aside0.mk hmem
     have WF := Aside0.mk (wf_of HG.out hmem)
     have HFN := Aside0.mk (fnd_mem HG.out.2.2.2.2.1 hmem)
     obtain ⟨g1', g2', _, _, _, g6', g7', g8'⟩ := HG.out.2.2.2.2.2 g hmem
     have hk0 := za9 L' g.f0
     clear hgv hg hmem
     go_wp2_with fail
     clear x0
     have hgrp := forB_Group (HX6.out.keep HW7.out).forB HG.out WF.out
     rw [show grpV L' g.f0 = .agg #[.int .i64 g.f0, .int .i64 g.f1, .int .i64 g.f2, .int .i64 ((way L' g.f0).length : Nat), .int .i64 (rootG L' g.f0), .int .i64 g.f3, .int .i64 g.f4] by unfold grpV; rw [HFN.out], show grpE L' g.f0 = 0 by unfold grpE; rw [HFN.out]; rfl] at hgrp
     have HGR := Aside0.mk hgrp
     clear hgrp
     refine HGR.out.mono ?_
     rintro e w8 ⟨rfl, hb8⟩
     have HW8 := Aside0.mk (zaf (zab HW7.out hb8) (.cells #[.int .i64 g.f0, .int .i64 g.f1, .int .i64 g.f2, .int .i64 ((way L' g.f0).length : Nat), .int .i64 (rootG L' g.f0), .int .i64 g.f3, .int .i64 g.f4] 32))
     have HY8 := Aside0.mk (za5 w8 (.cells #[.int .i64 g.f0, .int .i64 g.f1, .int .i64 g.f2, .int .i64 ((way L' g.f0).length : Nat), .int .i64 (rootG L' g.f0), .int .i64 g.f3, .int .i64 g.f4] 32))
     have y6 : (w8.alloc (.cells #[.int .i64 g.f0, .int .i64 g.f1, .int .i64 g.f2, .int .i64 ((way L' g.f0).length : Nat), .int .i64 (rootG L' g.f0), .int .i64 g.f3, .int .i64 g.f4] 32)).cell? ⟨w8.heap.size, 6, none⟩ = some (.int .i64 g.f4) := (za HY8.out 6).trans rfl
     clear hb8 HGR
     go_wp2_with fail
     clear y6
     generalize w8.alloc (.cells #[.int .i64 g.f0, .int .i64 g.f1, .int .i64 g.f2, .int .i64 ((way L' g.f0).length : Nat), .int .i64 (rootG L' g.f0), .int .i64 g.f3, .int .i64 g.f4] 32) = W8 at HW8 HY8 ⊢
     refine (forB_Children (HX6.out.keep HW8.out).forB HG.out (by omega) g.f0).mono ?_
     rintro e w9 ⟨v9, rfl, hi9, hb9⟩
     obtain ⟨K, hK⟩ : ∃ K, kidsF L' g.f0 = K := ⟨_, rfl⟩
     have hkl : (K.length : Int) = kid L' g.f0 := by rw [← hK]; exact kidsF_kid (by omega)
     rw [hK] at hi9
     obtain ⟨A9, c9, rfl, hc9, hC9⟩ := hi9
     have HK := Aside0.mk hK
     have HC9 := Aside0.mk hC9
     have HW9 := Aside0.mk (zab HW8.out hb9)
     have HY9 := Aside0.mk ((hb9.block _ (zao HY8.out)).trans HY8.out)
     have hkl2 : K.length ≤ 32 := by omega
     have HAK := Aside0.mk (act_kids HG.out HM.out)
     clear hK hC9 hb9 hc9
     go_wp2_with fail
     go_loopg [70, 13] K.length (fun gk v70 v13 w' => ∃ (i3 : Nat) (s : Int), v70 = .int .i64 (i3 : Int) ∧ v13 = .int .i64 s ∧ i3 + gk = K.length ∧ Aside0 (s = g.f4 + ((K.take i3).map (act L')).sum) ∧ Aside0 (Below w9.heap.size w9 w'))
     case atStart => exact ⟨0, g.f4, by go_num, rfl, by omega, ⟨by simp⟩, ⟨Below.refl _ _⟩⟩
     case round =>
      obtain ⟨i3, s, rfl, rfl, hi3, HSS, HW10⟩ := hrel
      cases gk with
      | zero =>
       have d6 : decide ((i3 : Int) < (K.length : Int)) = false := decide_eq_false (by omega)
       have hs : s = act L' g.f0 := by
        rw [HSS.out, List.take_of_length_le (by omega), ← HK.out]
        exact HAK.out.symm
       have HACT := Aside0.mk (forB_Active (HX6.out.keep (zab HW9.out HW10.out)).forB HG.out WF.out)
       rw [HFN.out, Option.isSome_some, if_pos rfl, ← hs] at HACT
       clear hs
       go_wp2_with fail
       refine HACT.out.mono ?_
       rintro e w11 ⟨rfl, hb11⟩
       have HW11 := Aside0.mk (zab (zab HW9.out HW10.out) hb11)
       have hy11 := (hb11.block _ (Nat.lt_of_lt_of_le (zao HY9.out) HW10.out.size)).trans ((HW10.out.block _ (zao HY9.out)).trans HY9.out)
       have y5 : w11.cell? ⟨w8.heap.size, 5, none⟩ = some (.int .i64 g.f3) := (za hy11 5).trans rfl
       have y6 : w11.cell? ⟨w8.heap.size, 6, none⟩ = some (.int .i64 g.f4) := (za hy11 6).trans rfl
       have d7 : decide (g.f4 > g.f3) = false := decide_eq_false (by omega)
       have d8 : (s == s) = true := beq_self_eq_true _
       have hgi2 : i2 + 1 + g2 = ids.length := by omega
       clear hb11 hy11 HACT
       go_wp2_with fail
       have wi2 : wrap64 ((i2 : Int) + 1) = (i2 : Int) + 1 := w64s (by omega) (by omega)
       go_roundg g2
       case measure => exact Nat.lt_succ_self _
       case rel => exact ⟨i2 + 1, by go_num, hgi2, HW11⟩
      | succ g3 =>
       have d6 : decide ((i3 : Int) < (K.length : Int)) = true := decide_eq_true (by omega)
       have d7 : 0 ≤ (i3 : Int) ∧ (i3 : Int) < (K.length : Int) := by omega
       have hi3l : i3 < K.length := by omega
       obtain ⟨a9, rfl, x0⟩ := int_at8 (Kd.za3 HC9.out HW10.out) hi3l
       have hgv : K.getD i3 0 = K[i3] := by simp [hi3l]
       have hkm : K[i3] ∈ kidsF L' g.f0 := by rw [HK.out]; exact List.getElem_mem hi3l
       have htk : K.take (i3 + 1) = K.take i3 ++ [K[i3]] := by rw [List.take_succ_eq_append_getElem hi3l]
       obtain ⟨y, hy, hyc, _, _⟩ := kidsF_mem.1 hkm
       have hab := act_bounds HG.out K[i3]
       have hsb := act_sum HG.out (K.take i3)
       have htl : (K.take i3).length ≤ 32 := by rw [List.length_take]; omega
       rw [hgv] at x0
       have HSN : Aside0 (s + act L' K[i3] = g.f4 + ((K.take (i3 + 1)).map (act L')).sum) := ⟨by
        rw [htk, List.map_append, List.sum_append, HSS.out]
        simp only [List.map_cons, List.map_nil, List.sum_cons, List.sum_nil]
        omega⟩
       have hs0 : 0 ≤ s ∧ s ≤ 100000 := by
        rw [HSS.out]
        omega
       rw [← hyc] at x0 HSN hab
       have WFy := Aside0.mk (wf_of HG.out hy)
       have HACT := Aside0.mk (forB_Active (HX6.out.keep (zab HW9.out HW10.out)).forB HG.out WFy.out)
       rw [fnd_mem HG.out.2.2.2.2.1 hy, Option.isSome_some, if_pos rfl] at HACT
       generalize act L' y.f0 = ac at HSN hab HACT
       clear hgv hkm htk hyc hsb htl hy
       go_wp2_with fail
       clear x0
       refine HACT.out.mono ?_
       rintro e w11 ⟨rfl, hb11⟩
       have HW11 := Aside0.mk (zab HW10.out hb11)
       have hgi3 : i3 + 1 + g3 = K.length := by omega
       clear hb11 HACT
       go_wp2_with fail
       have wi3 : wrap64 ((i3 : Int) + 1) = (i3 : Int) + 1 := w64s (by omega) (by omega)
       have ws : wrap64 (s + ac) = s + ac := w64s (by omega) (by omega)
       go_roundg g3
       case measure => exact Nat.lt_succ_self _
       case rel => exact ⟨i3 + 1, s + ac, by go_num, by first | rfl | go_num | rw [ws], hgi3, HSN, HW11⟩
theorem TreeCounts_long (A : Option Addr) (len cap : Nat) (w : World) (hlen : 60 < len) :
  Calls Try.prog 6 #[.slice A len cap] w fun e w' => e = .returned (.bool true) ∧ Below w.heap.size w w' := by
 have d60 : decide ((len : Int) > 60) = true := decide_eq_true (by omega)
 go_enter Try.func6, Try.ntmps6
 go_wp2_with fail
 go_at_call 8
 refine (awake08_ok _).mono ?_
 rintro e w0 ⟨rfl, hw0⟩
 have HW0 := Aside0.mk hw0
 clear hw0
 go_wp2_with fail
 go_at_call 8
 refine (awake08_ok w0).mono ?_
 rintro e w1 ⟨rfl, hw1⟩
 have HW1 := Aside0.mk (zab HW0.out hw1)
 clear hw1
 go_wp2_with fail
 go_ret
 exact ⟨rfl, HW1.out⟩
theorem lTreeCounts {H : Type} {enc : TypeId × Value → H} {W : World} {base : Nat} {spare : Nat → Bool} {held : Bool} {d : DataW H} {p : List MemPlace} (v : Value) (hv : ∃ A len cap, v = .slice A len cap)
  (h : DataW.Trod enc Try.prog W base spare held 41 v d p) : Calls Try.prog 6 #[v] W fun e w' => e = .returned (.bool true) ∧ Below W.heap.size W w' := by
 obtain ⟨A, len, cap, rfl⟩ := hv
 obtain ⟨fuel, hf⟩ := h
 obtain ⟨f, hA⟩ := open_acts08 (by simpa [Value.cells] using hf)
 by_cases hlen : len ≤ 60
 ·
  exact TreeCounts_ok A len cap f W hA hlen
 ·
  exact TreeCounts_long A len cap W (by omega)
end Go.Proofs.Ytlmjdchcgfpngaa.P
end
