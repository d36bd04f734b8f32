-- Written by a program of this session (wip/tools/shake.py) out of its own texts and of the kit's printed ones; not trusted: Lean checks it.
import Derived.Test.YtlmjdchcgfpngaaZTreeMoves5
set_option maxHeartbeats 8000000
set_option maxRecDepth 100000
set_option linter.unusedVariables false
set_option linter.unusedSimpArgs false
section
namespace Go.Proofs.Ytlmjdchcgfpngaa.P
open Go.RowKit Go.Proofs.YtlmjdchcgfpngaaW.PrintWords Go.Proofs.YtlmjdchcgfpngaaW.PrintLast Go.Proofs.YtlmjdchcgfpngaaW.PrintMore
attribute [local go_sem] zbo zbq zbz zbx zbi zbg zbr zbp
def QS (w : World) (a : Addr) (g : S84) : Prop := w.cell? a = some (.int .i64 g.f0) ∧ w.cell? ⟨a.block, a.off + 1, none⟩ = some (.int .i64 g.f1) ∧ w.cell? ⟨a.block, a.off + 2, none⟩ = some (.int .i64 g.f2) ∧ w.cell? ⟨a.block, a.off + 3, none⟩ = some (.int .i64 g.f3) ∧ w.cell? ⟨a.block, a.off + 4, none⟩ = some (.int .i64 g.f4)
theorem QS.below {w w' : World} {a : Addr} {g : S84} (h : QS w a g) (hb : Below w.heap.size w w') : QS w' a g :=
 ⟨(hb.cell (World.block_lt_of_cell? w _ h.1)).trans h.1, (hb.cell (World.block_lt_of_cell? w _ h.2.1)).trans h.2.1, (hb.cell (World.block_lt_of_cell? w _ h.2.2.1)).trans h.2.2.1, (hb.cell (World.block_lt_of_cell? w _ h.2.2.2.1)).trans h.2.2.2.1, (hb.cell (World.block_lt_of_cell? w _ h.2.2.2.2)).trans h.2.2.2.2⟩
def mvT6 : Bool × List (List Nat × List Nat) := (true, [([], []), ([], []), ([0, 1], [0, 1]), ([], []), ([], []), ([3, 4, 2], [3, 4]), ([2, 5], [2, 5]), ([6, 5], [6])])
def mvB6 : List Nat := [0, 0, 3, 0, 0, 31, 63, 127]
theorem mvtab6 : rtab .any (opsOf Try.f36 6) = mvT6 := by kernel_rfl
theorem mvbits6 : waitsOk mvT6.2 mvB6 = true := by kernel_rfl
def mvT13 : Bool × List (List Nat × List Nat) := (true, [([], []), ([], []), ([1], [1]), ([], []), ([2, 3], [2, 3]), ([4], [4]), ([5], [5]), ([], []), ([0, 6, 7], [0, 6, 7]), ([8, 8], [8]), ([9], [9]), ([9], [9]), ([11, 9], [9, 11]), ([9], [9]), ([12, 13, 9], [9, 12, 13]), ([14, 9], [9, 14]), ([15, 9], [9, 15]), ([10, 16, 9, 9], [9, 10, 16]), ([9], [9]), ([9], [9]), ([18, 19, 17, 9], [9, 18, 19]), ([17, 20, 9], [9, 17, 20]), ([9], [9]), ([9], [9]), ([22, 23, 20, 9], [9, 22, 23]), ([21, 24, 9], [9, 21, 24]), ([25, 9], [9, 25]), ([26, 9], [9, 26]), ([9, 27], [9, 27])])
def mvB13 : List Nat := [0, 0, 2, 0, 14, 30, 62, 0, 255, 511, 1023, 1023, 3071, 1023, 15359, 31743, 64511, 131071, 1023, 1023, 1048575, 2097151, 1023, 1023, 14680063, 33554431, 67108863, 134217727, 268435455]
theorem mvtab13 : rtab .any (opsOf Try.f36 13) = mvT13 := by kernel_rfl
theorem mvbits13 : waitsOk mvT13.2 mvB13 = true := by kernel_rfl
theorem call_Move {w : World} {P : Nat → Prop} {v : Value} {room : Nat} {last : Int} {L : List S84} (h : RefF w P v room last L) (hG : GoodF room last L) (id p : Int) :
  Calls Try.prog 36 #[v, .int .i64 id, .int .i64 p] w fun e w' => ∃ v', e = .returned (.tuple #[v', .int .i64 (movF L id p).2]) ∧ RefF w' (fun k => P k ∨ w.heap.size ≤ k) v' room last (movF L id p).1 ∧ Below w.heap.size w w' := by
 obtain ⟨A, c, rfl, hv⟩ := h
 obtain ⟨_, hc, hC⟩ := Kd.zay hv
 have hl : L.length ≤ 64 := Nat.le_trans hG.2.1 hG.1
 have HV := Aside0.mk hv
 have HC := Aside0.mk hC
 have Hc := Aside0.mk hc
 have HG := Aside0.mk hG
 clear hv hC hc hG
 cases hf : fnd L id with
 | none =>
  have HA := Aside0.mk (zbt (p := p) (.inl hf))
  obtain ⟨ka, hka⟩ := (at_none (L := L) (by omega) hf (room : Int) last).get
  have HK := Aside0.mk hka
  clear hka hf
  go_enter Try.func36, Try.ntmps36
  go_wp2_with fail
  have hx := zac (za6 w (.cells #[.int .i64 (room : Int), .int .i64 last, .slice A L.length c] 44)) (.cells #[.int .i64 0, .int .i64 0, .slice none 0 0] 44)
  have hy := za6 (w.alloc (.cells #[.int .i64 (room : Int), .int .i64 last, .slice A L.length c] 44)) (.cells #[.int .i64 0, .int .i64 0, .slice none 0 0] 44)
  have hB2 := zad (zad (Below.refl _ w) (.cells #[.int .i64 (room : Int), .int .i64 last, .slice A L.length c] 44)) (.cells #[.int .i64 0, .int .i64 0, .slice none 0 0] 44)
  rw [show (w.alloc (.cells #[.int .i64 (room : Int), .int .i64 last, .slice A L.length c] 44)).heap.size = w.heap.size + 1 by simp] at hy
  generalize (w.alloc (.cells #[.int .i64 (room : Int), .int .i64 last, .slice A L.length c] 44)).alloc (.cells #[.int .i64 0, .int .i64 0, .slice none 0 0] 44) = W2 at hx hy hB2 ⊢
  go_at_call 55
  refine (zae.calls ka (room : Int) last A c L _ _ W2 (Kd.za0 HC.out hB2) Hc.out HK.out).mono ?_
  rintro e w3 ⟨rfl, hb3⟩
  have hx3 := (hb3.block _ (zar hx)).trans hx
  have hy3 := (hb3.block _ (zar hy)).trans hy
  have HB3 := Aside0.mk (zab hB2 hb3)
  have x0 : w3.cell? ⟨w.heap.size, 0, none⟩ = some (.int .i64 (room : Int)) := (za hx3 0).trans rfl
  have x1 : w3.cell? ⟨w.heap.size, 1, none⟩ = some (.int .i64 last) := (za hx3 1).trans rfl
  have x2 : w3.cell? ⟨w.heap.size, 2, none⟩ = some (.slice A L.length c) := (za hx3 2).trans rfl
  have y0 : w3.cell? ⟨w.heap.size + 1, 0, none⟩ = some (.int .i64 0) := (za hy3 0).trans rfl
  have y1 : w3.cell? ⟨w.heap.size + 1, 1, none⟩ = some (.int .i64 0) := (za hy3 1).trans rfl
  have y2 : w3.cell? ⟨w.heap.size + 1, 2, none⟩ = some (.slice none 0 0) := (za hy3 2).trans rfl
  have z0 := zaa hy3 0
  have z1 := zaa hy3 1
  have z2 := zaa hy3 2
  have HX3 := Aside0.mk hx3
  have HY3 := Aside0.mk hy3
  have HV3 := Aside0.mk (Kd.za1 (Kd.V_bound HV.out) HB3.out)
  clear hx hy hB2 hb3 hx3 hy3
  go_wp2_with fail
  obtain ⟨r1, r2, r3⟩ := zbm (room := room) (last := last) (P := P) HB3.out HY3.out HV3.out (fun k hk => ⟨.inl hk.1, by omega⟩)
  rw [HA.out]
  exact bodyPost_ret (zav rfl _ _ (w.heap.size + 1) 44 #[.int .i64 (room : Int), .int .i64 last, .slice A L.length c] (0, 0) _ rfl r1 Try.underlying44 rfl (by kernel_rfl)) rfl ⟨_, rfl, r2, r3⟩
 | some g =>
  obtain ⟨j, hj, hr, hjg, hev⟩ := at_some HG.out.2.2.2.2.1 (by omega) hf (room : Int) last
  have HF := Aside0.mk hf
  obtain ⟨hg, rfl⟩ := za5 hf
  obtain ⟨ka, hka⟩ := hev.get
  obtain ⟨g1, g2, g3, _, g5, g6, g7, g8⟩ := HG.out.2.2.2.2.2 g hg
  have HK := Aside0.mk hka
  have HM := Aside0.mk hg
  have HR := Aside0.mk hr
  have HJG := Aside0.mk hjg
  have hj1 : (j : Int) < (L.length : Int) := by omega
  have hj0 : decide ((j : Int) < 0) = false := decide_eq_false (by omega)
  have hj2 : 0 ≤ (j : Int) ∧ (j : Int) < (L.length : Int) := by omega
  clear hka hf hg hr hjg hev
  cases hq : fnd L p with
  | none =>
   have HA := Aside0.mk (zbt (id := g.f0) (.inr hq))
   obtain ⟨kp, hkp⟩ := (at_none (L := L) (by omega) hq (room : Int) last).get
   have HKP := Aside0.mk hkp
   clear hkp hq
   go_enter Try.func36, Try.ntmps36
   go_wp2_with fail
   have hx := zac (za6 w (.cells #[.int .i64 (room : Int), .int .i64 last, .slice A L.length c] 44)) (.cells #[.int .i64 0, .int .i64 0, .slice none 0 0] 44)
   have hy := za6 (w.alloc (.cells #[.int .i64 (room : Int), .int .i64 last, .slice A L.length c] 44)) (.cells #[.int .i64 0, .int .i64 0, .slice none 0 0] 44)
   have hB2 := zad (zad (Below.refl _ w) (.cells #[.int .i64 (room : Int), .int .i64 last, .slice A L.length c] 44)) (.cells #[.int .i64 0, .int .i64 0, .slice none 0 0] 44)
   rw [show (w.alloc (.cells #[.int .i64 (room : Int), .int .i64 last, .slice A L.length c] 44)).heap.size = w.heap.size + 1 by simp] at hy
   generalize (w.alloc (.cells #[.int .i64 (room : Int), .int .i64 last, .slice A L.length c] 44)).alloc (.cells #[.int .i64 0, .int .i64 0, .slice none 0 0] 44) = W2 at hx hy hB2 ⊢
   go_at_call 55
   refine (zae.calls ka (room : Int) last A c L _ _ W2 (Kd.za0 HC.out hB2) Hc.out HK.out).mono ?_
   rintro e w3 ⟨rfl, hb3⟩
   have hx3 := (hb3.block _ (zar hx)).trans hx
   have hy3 := (hb3.block _ (zar hy)).trans hy
   have HB3 := Aside0.mk (zab hB2 hb3)
   have x0 : w3.cell? ⟨w.heap.size, 0, none⟩ = some (.int .i64 (room : Int)) := (za hx3 0).trans rfl
   have x1 : w3.cell? ⟨w.heap.size, 1, none⟩ = some (.int .i64 last) := (za hx3 1).trans rfl
   have x2 : w3.cell? ⟨w.heap.size, 2, none⟩ = some (.slice A L.length c) := (za hx3 2).trans rfl
   have y0 : w3.cell? ⟨w.heap.size + 1, 0, none⟩ = some (.int .i64 0) := (za hy3 0).trans rfl
   have y1 : w3.cell? ⟨w.heap.size + 1, 1, none⟩ = some (.int .i64 0) := (za hy3 1).trans rfl
   have y2 : w3.cell? ⟨w.heap.size + 1, 2, none⟩ = some (.slice none 0 0) := (za hy3 2).trans rfl
   have z0 := zaa hy3 0
   have z1 := zaa hy3 1
   have z2 := zaa hy3 2
   have HX3 := Aside0.mk hx3
   have HY3 := Aside0.mk hy3
   have HV3 := Aside0.mk (Kd.za1 (Kd.V_bound HV.out) HB3.out)
   clear hx hy hB2 hb3 hx3 hy3
   go_wp2_with fail
   refine (zae.calls kp (room : Int) last A c L _ _ w3 (Kd.za0 HC.out HB3.out) Hc.out HKP.out).mono ?_
   rintro e w4 ⟨rfl, hb4⟩
   have hx4 := (hb4.block _ (zar HX3.out)).trans HX3.out
   have hy4 := (hb4.block _ (zar HY3.out)).trans HY3.out
   have HB4 := Aside0.mk (zab HB3.out hb4)
   have HX4 := Aside0.mk hx4
   have HY4 := Aside0.mk hy4
   have HV4 := Aside0.mk (Kd.za1 HV3.out hb4)
   clear x0 x1 x2 y0 y1 y2 z0 z1 z2 HX3 HY3 HV3 HB3
   have x0 : w4.cell? ⟨w.heap.size, 0, none⟩ = some (.int .i64 (room : Int)) := (za hx4 0).trans rfl
   have x1 : w4.cell? ⟨w.heap.size, 1, none⟩ = some (.int .i64 last) := (za hx4 1).trans rfl
   have x2 : w4.cell? ⟨w.heap.size, 2, none⟩ = some (.slice A L.length c) := (za hx4 2).trans rfl
   have y0 : w4.cell? ⟨w.heap.size + 1, 0, none⟩ = some (.int .i64 0) := (za hy4 0).trans rfl
   have y1 : w4.cell? ⟨w.heap.size + 1, 1, none⟩ = some (.int .i64 0) := (za hy4 1).trans rfl
   have y2 : w4.cell? ⟨w.heap.size + 1, 2, none⟩ = some (.slice none 0 0) := (za hy4 2).trans rfl
   have z0 := zaa hy4 0
   have z1 := zaa hy4 1
   have z2 := zaa hy4 2
   clear hb4 hx4 hy4
   go_wp2_with fail
   obtain ⟨r1, r2, r3⟩ := zbm (room := room) (last := last) (P := P) HB4.out HY4.out HV4.out (fun k hk => ⟨.inl hk.1, by omega⟩)
   rw [HA.out]
   exact bodyPost_ret (zav rfl _ _ (w.heap.size + 1) 44 #[.int .i64 (room : Int), .int .i64 last, .slice A L.length c] (0, 0) _ rfl r1 Try.underlying44 rfl (by kernel_rfl)) rfl ⟨_, rfl, r2, r3⟩
  | some q =>
   have HS := Aside0.mk (movF_some HF.out hq)
   obtain ⟨jp, hjp, _, _, hevp⟩ := at_some HG.out.2.2.2.2.1 (by omega) hq (room : Int) last
   obtain ⟨hqm, rfl⟩ := za5 hq
   obtain ⟨kp, hkp⟩ := hevp.get
   have HKP := Aside0.mk hkp
   have HMQ := Aside0.mk hqm
   have jp0 : decide ((jp : Int) < 0) = false := decide_eq_false (by omega)
   clear hkp hq hqm hevp
   go_enter Try.func36, Try.ntmps36
   go_wp2_with fail
   have hx := zac (za6 w (.cells #[.int .i64 (room : Int), .int .i64 last, .slice A L.length c] 44)) (.cells #[.int .i64 0, .int .i64 0, .slice none 0 0] 44)
   have hy := za6 (w.alloc (.cells #[.int .i64 (room : Int), .int .i64 last, .slice A L.length c] 44)) (.cells #[.int .i64 0, .int .i64 0, .slice none 0 0] 44)
   have hB2 := zad (zad (Below.refl _ w) (.cells #[.int .i64 (room : Int), .int .i64 last, .slice A L.length c] 44)) (.cells #[.int .i64 0, .int .i64 0, .slice none 0 0] 44)
   rw [show (w.alloc (.cells #[.int .i64 (room : Int), .int .i64 last, .slice A L.length c] 44)).heap.size = w.heap.size + 1 by simp] at hy
   generalize (w.alloc (.cells #[.int .i64 (room : Int), .int .i64 last, .slice A L.length c] 44)).alloc (.cells #[.int .i64 0, .int .i64 0, .slice none 0 0] 44) = W2 at hx hy hB2 ⊢
   go_at_call 55
   refine (zae.calls ka (room : Int) last A c L _ _ W2 (Kd.za0 HC.out hB2) Hc.out HK.out).mono ?_
   rintro e w3 ⟨rfl, hb3⟩
   have hx3 := (hb3.block _ (zar hx)).trans hx
   have hy3 := (hb3.block _ (zar hy)).trans hy
   have HB3 := Aside0.mk (zab hB2 hb3)
   have x0 : w3.cell? ⟨w.heap.size, 0, none⟩ = some (.int .i64 (room : Int)) := (za hx3 0).trans rfl
   have x1 : w3.cell? ⟨w.heap.size, 1, none⟩ = some (.int .i64 last) := (za hx3 1).trans rfl
   have x2 : w3.cell? ⟨w.heap.size, 2, none⟩ = some (.slice A L.length c) := (za hx3 2).trans rfl
   have y0 : w3.cell? ⟨w.heap.size + 1, 0, none⟩ = some (.int .i64 0) := (za hy3 0).trans rfl
   have y1 : w3.cell? ⟨w.heap.size + 1, 1, none⟩ = some (.int .i64 0) := (za hy3 1).trans rfl
   have y2 : w3.cell? ⟨w.heap.size + 1, 2, none⟩ = some (.slice none 0 0) := (za hy3 2).trans rfl
   have z0 := zaa hy3 0
   have z1 := zaa hy3 1
   have z2 := zaa hy3 2
   have HX3 := Aside0.mk hx3
   have HY3 := Aside0.mk hy3
   have HV3 := Aside0.mk (Kd.za1 (Kd.V_bound HV.out) HB3.out)
   clear hx hy hB2 hb3 hx3 hy3
   obtain ⟨ad, e1, hqs⟩ := at_T84 HC.out (j : Int) (by omega) hj1
   subst e1
   rw [HR.out, Int.toNat_natCast] at hqs
   have HQ3 : Aside0 (QS w3 (ad.add (j * 5)) g) := ⟨QS.below hqs (HB3.out)⟩
   obtain ⟨q0, q1, q2, q3, q4⟩ := HQ3.out
   clear hqs
   go_wp2_with fail
   refine (zae.calls kp (room : Int) last (some ad) c L _ _ w3 (Kd.za0 HC.out HB3.out) Hc.out HKP.out).mono ?_
   rintro e w4 ⟨rfl, hb4⟩
   have hx4 := (hb4.block _ (zar HX3.out)).trans HX3.out
   have hy4 := (hb4.block _ (zar HY3.out)).trans HY3.out
   have HB4 := Aside0.mk (zab HB3.out hb4)
   have HX4 := Aside0.mk hx4
   have HY4 := Aside0.mk hy4
   have HV4 := Aside0.mk (Kd.za1 HV3.out hb4)
   have HQ4 : Aside0 (QS w4 (ad.add (j * 5)) g) := ⟨HQ3.out.below hb4⟩
   clear q0 q1 q2 q3 q4
   obtain ⟨q0, q1, q2, q3, q4⟩ := HQ4.out
   clear x0 x1 x2 y0 y1 y2 z0 z1 z2 HX3 HY3 HV3 HB3 HQ3
   have x0 : w4.cell? ⟨w.heap.size, 0, none⟩ = some (.int .i64 (room : Int)) := (za hx4 0).trans rfl
   have x1 : w4.cell? ⟨w.heap.size, 1, none⟩ = some (.int .i64 last) := (za hx4 1).trans rfl
   have x2 : w4.cell? ⟨w.heap.size, 2, none⟩ = some (.slice (some ad) L.length c) := (za hx4 2).trans rfl
   have y0 : w4.cell? ⟨w.heap.size + 1, 0, none⟩ = some (.int .i64 0) := (za hy4 0).trans rfl
   have y1 : w4.cell? ⟨w.heap.size + 1, 1, none⟩ = some (.int .i64 0) := (za hy4 1).trans rfl
   have y2 : w4.cell? ⟨w.heap.size + 1, 2, none⟩ = some (.slice none 0 0) := (za hy4 2).trans rfl
   have z0 := zaa hy4 0
   have z1 := zaa hy4 1
   have z2 := zaa hy4 2
   clear hb4 hx4 hy4
   by_cases hr0 : g.f1 < 0
   ·
    have HA := Aside0.mk (HS.out.trans (if_pos hr0))
    have d1 : decide (g.f1 < 0) = true := decide_eq_true hr0
    go_wp2_with fail
    obtain ⟨r1, r2, r3⟩ := zbm (room := room) (last := last) (P := P) HB4.out HY4.out HV4.out (fun k hk => ⟨.inl hk.1, by omega⟩)
    rw [HA.out]
    exact bodyPost_ret (zav rfl _ _ (w.heap.size + 1) 44 #[.int .i64 (room : Int), .int .i64 last, .slice (some ad) L.length c] (0, 0) _ rfl r1 Try.underlying44 rfl (by kernel_rfl)) rfl ⟨_, rfl, r2, r3⟩
   ·
    have HS1 := Aside0.mk (HS.out.trans (if_neg hr0))
    have d1 : decide (g.f1 < 0) = false := decide_eq_false hr0
    obtain ⟨k1, hk1⟩ := (root_f HG.out HM.out (room : Int) last).get
    obtain ⟨k2, hk2⟩ := (root_f HG.out HMQ.out (room : Int) last).get
    have HK1 := Aside0.mk hk1
    have HK2 := Aside0.mk hk2
    clear hk1 hk2
    have HRS : Aside0 (∀ W' : World, Below w4.heap.size w4 W' → W'.cell? ⟨w.heap.size, 0, none⟩ = some (.int .i64 (room : Int)) ∧ W'.cell? ⟨w.heap.size, 1, none⟩ = some (.int .i64 last) ∧ W'.cell? ⟨w.heap.size, 2, none⟩ = some (.slice (some ad) L.length c)) :=
     ⟨fun W' hb => ⟨(hb.cell (World.block_lt_of_cell? w4 _ x0)).trans x0, (hb.cell (World.block_lt_of_cell? w4 _ x1)).trans x1, (hb.cell (World.block_lt_of_cell? w4 _ x2)).trans x2⟩⟩
    go_wp2_with fail
    refine start_ (n := 8) (S := fun w' => w'.cell? ⟨w.heap.size, 0, none⟩ = some (.int .i64 (room : Int)) ∧ w'.cell? ⟨w.heap.size, 1, none⟩ = some (.int .i64 last) ∧ w'.cell? ⟨w.heap.size, 2, none⟩ = some (.slice (some ad) L.length c)) (ds := []) #[false, false, false, false, false, false, false, false] (by kernel_rfl) rfl rfl (HRS.out _ (Below.refl _ w4).drew) (fun hHeld => ?_); refine zbj mvtab6 mvbits6 (fun HT_ HW_ => ?_)
    refine pure_ (i := 1) (N := some 35) (v := ?_) (a' := ?_) #[false, true, false, false, false, false, false, false] rfl rfl (zah HT_.out (by kernel_rfl)) (fun _ _ _ h => h) (Or.inl ⟨by rfl, ?_⟩) ?_ ?_
    rotate_left
    ·
     intro w'
     go_simp
     with_reducible rfl
    rotate_left
    ·
     simp only [Act.put, List.setIfInBounds_toArray, List.set_cons_zero, List.set_cons_succ, i64_w, i32_w]
     rfl
    refine pure_ (i := 4) (N := some 38) (v := ?_) (a' := ?_) #[false, true, false, false, true, false, false, false] rfl rfl (zah HT_.out (by kernel_rfl)) (fun _ _ _ h => h) (Or.inl ⟨by rfl, ?_⟩) ?_ ?_
    rotate_left
    ·
     intro w'
     go_simp
     with_reducible rfl
    rotate_left
    ·
     simp only [Act.put, List.setIfInBounds_toArray, List.set_cons_zero, List.set_cons_succ, i64_w, i32_w]
     rfl
    refine take_ (i := 0) (N := some 34) (v := ?_) (a' := ?_) #[true, true, false, false, true, false, false, false] rfl rfl (zat HT_.out HW_.out (by kernel_rfl)) (fun _ _ _ h => h) (Or.inl ⟨by rfl, ?_⟩) hHeld ?_ ?_
    rotate_left
    ·
     rintro w' ⟨s0, s1, s2⟩
     go_simp
     with_reducible rfl
    rotate_left
    ·
     simp only [Act.put, List.setIfInBounds_toArray, List.set_cons_zero, List.set_cons_succ, i64_w, i32_w]
     rfl
    refine take_ (i := 3) (N := some 37) (v := ?_) (a' := ?_) #[true, true, false, true, true, false, false, false] rfl rfl (zat HT_.out HW_.out (by kernel_rfl)) (fun _ _ _ h => h) (Or.inl ⟨by rfl, ?_⟩) hHeld ?_ ?_
    rotate_left
    ·
     rintro w' ⟨s0, s1, s2⟩
     go_simp
     with_reducible rfl
    rotate_left
    ·
     simp only [Act.put, List.setIfInBounds_toArray, List.set_cons_zero, List.set_cons_succ, i64_w, i32_w]
     rfl
    refine one_ (i := 2) (N := some 36) #[true, true, true, true, true, false, false, false] rfl rfl (zbb HT_.out (by kernel_rfl)) (by decide) (fun K hK => ?_)
    refine goes_ Try.func44 (by kernel_rfl) rfl #[.agg #[.int .i64 (room : Int), .int .i64 last, .slice (some ad) L.length c], .int .i64 g.f0] (by rfl) rfl rfl (by (try simp only [List.map_toArray, List.map_cons, List.map_nil]); first | done | rfl) ?_
    refine (zai.calls k1 (room : Int) last (some ad) c L g.f0 _ w4.drew (Kd.za0 HC.out (zab HB4.out (Below.refl w4.heap.size w4).drew)) Hc.out HK1.out).mono ?_
    rintro e w5 ⟨rfl, hb⟩
    refine ⟨_, rfl, ?_⟩
    have HB5 : Aside0 (Below w4.heap.size w4 w5) := ⟨zab (Below.refl w4.heap.size w4).drew hb⟩
    clear hb
    refine hK.out _ _ (HRS.out _ HB5.out) (fun hHeld => ?_)
    clear hK K
    refine norm_ (a' := ?_) ?_ ?_
    rotate_left
    ·
     show Act.put _ (some 36) _ = _
     simp only [Act.put, List.setIfInBounds_toArray, List.set_cons_zero, List.set_cons_succ, i64_w, i32_w]
     rfl
    refine one_ (i := 5) (N := some 39) #[true, true, true, true, true, true, false, false] rfl rfl (zbb HT_.out (by kernel_rfl)) (by decide) (fun K hK => ?_)
    refine goes_ Try.func44 (by kernel_rfl) rfl #[.agg #[.int .i64 (room : Int), .int .i64 last, .slice (some ad) L.length c], .int .i64 q.f0] (by rfl) rfl rfl (by (try simp only [List.map_toArray, List.map_cons, List.map_nil]); first | done | rfl) ?_
    refine (zai.calls k2 (room : Int) last (some ad) c L q.f0 _ w5 (Kd.za0 HC.out (zab HB4.out HB5.out)) Hc.out HK2.out).mono ?_
    rintro e w6 ⟨rfl, hb⟩
    refine ⟨_, rfl, ?_⟩
    have HB6 : Aside0 (Below w4.heap.size w4 w6) := ⟨zab HB5.out hb⟩
    clear hb
    refine hK.out _ _ (HRS.out _ HB6.out) (fun hHeld => ?_)
    clear hK K
    refine norm_ (a' := ?_) ?_ ?_
    rotate_left
    ·
     show Act.put _ (some 39) _ = _
     simp only [Act.put, List.setIfInBounds_toArray, List.set_cons_zero, List.set_cons_succ, i64_w, i32_w]
     rfl
    refine pure_ (i := 6) (N := some 40) (v := ?_) (a' := ?_) #[true, true, true, true, true, true, true, false] rfl rfl (zah HT_.out (by kernel_rfl)) (fun _ _ _ h => h) (Or.inl ⟨by rfl, ?_⟩) ?_ ?_
    rotate_left
    ·
     intro w'
     go_simp
     with_reducible rfl
    rotate_left
    ·
     simp only [Act.put, List.setIfInBounds_toArray, List.set_cons_zero, List.set_cons_succ, i64_w, i32_w]
     rfl
    refine pure_ (i := 7) (N := some 33) (v := ?_) (a' := ?_) #[true, true, true, true, true, true, true, true] rfl rfl (zah HT_.out (by kernel_rfl)) (fun _ _ _ h => h) (Or.inl ⟨by rfl, ?_⟩) ?_ ?_
    rotate_left
    ·
     intro w'
     go_simp
     with_reducible rfl
    rotate_left
    ·
     simp only [Act.put, List.setIfInBounds_toArray, List.set_cons_zero, List.set_cons_succ, i64_w, i32_w]
     rfl
    refine done_ (zby HT_.out (by kernel_rfl)) ?_
    have hb6 := HB6.out
    clear HB5 HB6
    have hx6 := (hb6.block _ (zar HX4.out)).trans HX4.out
    have hy6 := (hb6.block _ (zar HY4.out)).trans HY4.out
    have HB6 := Aside0.mk (zab HB4.out hb6)
    have HX6 := Aside0.mk hx6
    have HY6 := Aside0.mk hy6
    have HV6 := Aside0.mk (Kd.za1 HV4.out hb6)
    have HQ6 : Aside0 (QS w6 (ad.add (j * 5)) g) := ⟨HQ4.out.below hb6⟩
    clear q0 q1 q2 q3 q4
    obtain ⟨q0, q1, q2, q3, q4⟩ := HQ6.out
    clear x0 x1 x2 y0 y1 y2 z0 z1 z2 HX4 HY4 HV4 HB4 HQ4
    have x0 : w6.cell? ⟨w.heap.size, 0, none⟩ = some (.int .i64 (room : Int)) := (za hx6 0).trans rfl
    have x1 : w6.cell? ⟨w.heap.size, 1, none⟩ = some (.int .i64 last) := (za hx6 1).trans rfl
    have x2 : w6.cell? ⟨w.heap.size, 2, none⟩ = some (.slice (some ad) L.length c) := (za hx6 2).trans rfl
    have y0 : w6.cell? ⟨w.heap.size + 1, 0, none⟩ = some (.int .i64 0) := (za hy6 0).trans rfl
    have y1 : w6.cell? ⟨w.heap.size + 1, 1, none⟩ = some (.int .i64 0) := (za hy6 1).trans rfl
    have y2 : w6.cell? ⟨w.heap.size + 1, 2, none⟩ = some (.slice none 0 0) := (za hy6 2).trans rfl
    have z0 := zaa hy6 0
    have z1 := zaa hy6 1
    have z2 := zaa hy6 2
    clear hb6 hx6 hy6
    by_cases hrr : rootG L g.f0 = rootG L q.f0
    ·
     have HS2 := Aside0.mk (HS1.out.trans (if_neg (fun hh => hh hrr)))
     have d2 : (rootG L g.f0 != rootG L q.f0) = false := bne_eq_false_iff_eq.mpr hrr
     obtain ⟨k3, hk3⟩ := (below_f HG.out HMQ.out (room : Int) last g.f0).get
     have HK3 := Aside0.mk hk3
     clear hk3
     go_wp2_with fail
     refine (zaq.calls k3 (room : Int) last (some ad) c L _ _ _ w6 (Kd.za0 HC.out HB6.out) Hc.out HK3.out).mono ?_
     rintro e w7 ⟨rfl, hb7⟩
     have hx7 := (hb7.block _ (zar HX6.out)).trans HX6.out
     have hy7 := (hb7.block _ (zar HY6.out)).trans HY6.out
     have HB7 := Aside0.mk (zab HB6.out hb7)
     have HX7 := Aside0.mk hx7
     have HY7 := Aside0.mk hy7
     have HV7 := Aside0.mk (Kd.za1 HV6.out hb7)
     have HQ7 : Aside0 (QS w7 (ad.add (j * 5)) g) := ⟨HQ6.out.below hb7⟩
     clear q0 q1 q2 q3 q4
     obtain ⟨q0, q1, q2, q3, q4⟩ := HQ7.out
     clear x0 x1 x2 y0 y1 y2 z0 z1 z2 HX6 HY6 HV6 HB6 HQ6
     have x0 : w7.cell? ⟨w.heap.size, 0, none⟩ = some (.int .i64 (room : Int)) := (za hx7 0).trans rfl
     have x1 : w7.cell? ⟨w.heap.size, 1, none⟩ = some (.int .i64 last) := (za hx7 1).trans rfl
     have x2 : w7.cell? ⟨w.heap.size, 2, none⟩ = some (.slice (some ad) L.length c) := (za hx7 2).trans rfl
     have y0 : w7.cell? ⟨w.heap.size + 1, 0, none⟩ = some (.int .i64 0) := (za hy7 0).trans rfl
     have y1 : w7.cell? ⟨w.heap.size + 1, 1, none⟩ = some (.int .i64 0) := (za hy7 1).trans rfl
     have y2 : w7.cell? ⟨w.heap.size + 1, 2, none⟩ = some (.slice none 0 0) := (za hy7 2).trans rfl
     have z0 := zaa hy7 0
     have z1 := zaa hy7 1
     have z2 := zaa hy7 2
     clear hb7 hx7 hy7
     by_cases hbl : g.f0 ∈ way L q.f0
     ·
      have HA := Aside0.mk (HS2.out.trans (if_pos hbl))
      have d3 : decide (g.f0 ∈ way L q.f0) = true := decide_eq_true hbl
      go_wp2_with fail
      obtain ⟨r1, r2, r3⟩ := zbm (room := room) (last := last) (P := P) HB7.out HY7.out HV7.out (fun k hk => ⟨.inl hk.1, by omega⟩)
      rw [HA.out]
      exact bodyPost_ret (zav rfl _ _ (w.heap.size + 1) 44 #[.int .i64 (room : Int), .int .i64 last, .slice (some ad) L.length c] (0, 0) _ rfl r1 Try.underlying44 rfl (by kernel_rfl)) rfl ⟨_, rfl, r2, r3⟩
     ·
      have HS3 := Aside0.mk (HS2.out.trans (if_neg hbl))
      have d3 : decide (g.f0 ∈ way L q.f0) = false := decide_eq_false hbl
      go_wp2_with fail
      go_loopg [51] L.length (fun gk v51 w' => ∃ i : Nat, v51 = .int .i64 (i : Int) ∧ i + gk = L.length ∧ Aside0 (Below w7.heap.size w7 w') ∧ Aside0 (∀ k, k < i → ∀ hk : k < L.length, ¬ (g.f0 ∈ way L L[k].f0 ∧ 8 < ((way L L[k].f0).length : Int) - (way L g.f0).length + (way L q.f0).length + 1)))
      case atStart => exact ⟨0, rfl, Nat.zero_add _, ⟨Below.refl _ w7⟩, ⟨fun k hk => absurd hk (Nat.not_lt_zero k)⟩⟩
      case round =>
       obtain ⟨i, rfl, hi, hb0, HNO⟩ := hrel
       have hbr := hb0.out
       have HB7r := Aside0.mk hbr
       clear hb0
       have hxr := (hbr.block _ (zar HX7.out)).trans HX7.out
       have hyr := (hbr.block _ (zar HY7.out)).trans HY7.out
       have HBr := Aside0.mk (zab HB7.out hbr)
       have HXr := Aside0.mk hxr
       have HYr := Aside0.mk hyr
       have HVr := Aside0.mk (Kd.za1 HV7.out hbr)
       have HQr : Aside0 (QS wr (ad.add (j * 5)) g) := ⟨HQ7.out.below hbr⟩
       clear q0 q1 q2 q3 q4
       obtain ⟨q0, q1, q2, q3, q4⟩ := HQr.out
       clear x0 x1 x2 y0 y1 y2 z0 z1 z2 HX7 HY7 HV7 HB7 HQ7
       have x0 : wr.cell? ⟨w.heap.size, 0, none⟩ = some (.int .i64 (room : Int)) := (za hxr 0).trans rfl
       have x1 : wr.cell? ⟨w.heap.size, 1, none⟩ = some (.int .i64 last) := (za hxr 1).trans rfl
       have x2 : wr.cell? ⟨w.heap.size, 2, none⟩ = some (.slice (some ad) L.length c) := (za hxr 2).trans rfl
       have y0 : wr.cell? ⟨w.heap.size + 1, 0, none⟩ = some (.int .i64 0) := (za hyr 0).trans rfl
       have y1 : wr.cell? ⟨w.heap.size + 1, 1, none⟩ = some (.int .i64 0) := (za hyr 1).trans rfl
       have y2 : wr.cell? ⟨w.heap.size + 1, 2, none⟩ = some (.slice none 0 0) := (za hyr 2).trans rfl
       have z0 := zaa hyr 0
       have z1 := zaa hyr 1
       have z2 := zaa hyr 2
       clear hbr hxr hyr
       by_cases hil : i < L.length
       ·
        obtain ⟨y, hy⟩ : ∃ y, L[i] = y := ⟨_, rfl⟩
        have hym : y ∈ L := hy ▸ List.getElem_mem hil
        obtain ⟨kb, hkb⟩ := (below_f HG.out hym (room : Int) last g.f0).get
        have HKB := Aside0.mk hkb
        have i1 : decide ((i : Int) < (L.length : Int)) = true := decide_eq_true (by omega)
        have i2 : 0 ≤ (i : Int) ∧ (i : Int) < (L.length : Int) := by omega
        have hl' : 1 ≤ y.f0 := (HG.out.2.2.2.2.2 y hym).1
        obtain ⟨_, e1, c0, c1, c2, c3, c4⟩ := at_T84 HC.out (i : Int) (by omega) (by omega)
        cases e1
        rw [rd_nat84 hil, hy, Int.toNat_natCast] at c0 c1 c2 c3 c4
        have HRW : Aside0 (∀ W' : World, Below wr.heap.size wr W' → (fun w' => w'.cell? ⟨w.heap.size, 0, none⟩ = some (.int .i64 (room : Int)) ∧ w'.cell? ⟨w.heap.size, 1, none⟩ = some (.int .i64 last) ∧ w'.cell? ⟨w.heap.size, 2, none⟩ = some (.slice (some ad) L.length c) ∧ w'.cell? (ad.add (i * 5)) = some (.int .i64 y.f0) ∧ w'.cell? ⟨(ad.add (i * 5)).block, (ad.add (i * 5)).off + 1, none⟩ = some (.int .i64 y.f1) ∧ w'.cell? ⟨(ad.add (i * 5)).block, (ad.add (i * 5)).off + 2, none⟩ = some (.int .i64 y.f2) ∧ w'.cell? ⟨(ad.add (i * 5)).block, (ad.add (i * 5)).off + 3, none⟩ = some (.int .i64 y.f3) ∧ w'.cell? ⟨(ad.add (i * 5)).block, (ad.add (i * 5)).off + 4, none⟩ = some (.int .i64 y.f4)) W') :=
         ⟨fun W' hb => by
          have hs : Below w.heap.size w W' := zab HBr.out hb
          exact ⟨(hb.cell (World.block_lt_of_cell? wr _ x0)).trans x0, (hb.cell (World.block_lt_of_cell? wr _ x1)).trans x1, (hb.cell (World.block_lt_of_cell? wr _ x2)).trans x2, QS.below ⟨c0, c1, c2, c3, c4⟩ hs⟩⟩
        clear hkb c0 c1 c2 c3 c4
        obtain ⟨c0, c1, c2, c3, c4, c5, c6, c7⟩ := HRW.out wr (Below.refl _ wr)
        by_cases hbe : g.f0 ∈ way L y.f0
        ·
         have HKB1 := Aside0.mk (HKB.out.trans (congrArg some (decide_eq_true hbe)))
         obtain ⟨ky, hky⟩ := (depth_f HG.out hym (room : Int) last).get
         obtain ⟨kg, hkg⟩ := (depth_f HG.out HM.out (room : Int) last).get
         obtain ⟨kq, hkq⟩ := (depth_f HG.out HMQ.out (room : Int) last).get
         have HKY := Aside0.mk hky
         have HKG := Aside0.mk hkg
         have HKQ := Aside0.mk hkq
         clear hky hkg hkq
         clear HKB
         have HKB := HKB1
         clear HKB1
         have wy := (HG.out.way hym).2
         have wg := (HG.out.way HM.out).2
         have wq := (HG.out.way HMQ.out).2
         have e8 : wrap64 (wrap64 (wrap64 (((way L y.f0).length : Int) - ((way L g.f0).length : Int)) + ((way L q.f0).length : Int)) + 1) = ((way L y.f0).length : Int) - (way L g.f0).length + (way L q.f0).length + 1 := by
          rw [w64s (x := ((way L y.f0).length : Int) - ((way L g.f0).length : Int)) (by omega) (by omega), w64s (x := ((way L y.f0).length : Int) - ((way L g.f0).length : Int) + ((way L q.f0).length : Int)) (by omega) (by omega), w64s (by omega) (by omega)]
         go_wp2_with fail
         refine start_ (n := 29) (S := fun w' => w'.cell? ⟨w.heap.size, 0, none⟩ = some (.int .i64 (room : Int)) ∧ w'.cell? ⟨w.heap.size, 1, none⟩ = some (.int .i64 last) ∧ w'.cell? ⟨w.heap.size, 2, none⟩ = some (.slice (some ad) L.length c) ∧ w'.cell? (ad.add (i * 5)) = some (.int .i64 y.f0) ∧ w'.cell? ⟨(ad.add (i * 5)).block, (ad.add (i * 5)).off + 1, none⟩ = some (.int .i64 y.f1) ∧ w'.cell? ⟨(ad.add (i * 5)).block, (ad.add (i * 5)).off + 2, none⟩ = some (.int .i64 y.f2) ∧ w'.cell? ⟨(ad.add (i * 5)).block, (ad.add (i * 5)).off + 3, none⟩ = some (.int .i64 y.f3) ∧ w'.cell? ⟨(ad.add (i * 5)).block, (ad.add (i * 5)).off + 4, none⟩ = some (.int .i64 y.f4)) (ds := []) #[false, false, false, false, false, false, false, false, false, false, false, false, false, false, false, false, false, false, false, false, false, false, false, false, false, false, false, false, false] (by kernel_rfl) rfl rfl (HRW.out _ (Below.refl _ wr).drew) (fun hHeld => ?_); refine zbj mvtab13 mvbits13 (fun HT_ HW_ => ?_)
         refine pure_ (i := 1) (N := some 55) (v := ?_) (a' := ?_) #[false, true, false, false, false, false, false, false, false, false, false, false, false, false, false, false, false, false, false, false, false, false, false, false, false, false, false, false, false] rfl rfl (zah HT_.out (by kernel_rfl)) (fun _ _ _ h => h) (Or.inl ⟨by rfl, ?_⟩) ?_ ?_
         rotate_left
         ·
          intro w'
          go_simp
          with_reducible rfl
         rotate_left
         ·
          simp only [Act.put, List.setIfInBounds_toArray, List.set_cons_zero, List.set_cons_succ, i64_w, i32_w]
          rfl
         refine pure_ (i := 3) (N := some 57) (v := ?_) (a' := ?_) #[false, true, false, true, false, false, false, false, false, false, false, false, false, false, false, false, false, false, false, false, false, false, false, false, false, false, false, false, false] rfl rfl (zah HT_.out (by kernel_rfl)) (fun _ _ _ h => h) (Or.inl ⟨by rfl, ?_⟩) ?_ ?_
         rotate_left
         ·
          intro w'
          go_simp
          with_reducible rfl
         rotate_left
         ·
          simp only [Act.put, List.setIfInBounds_toArray, List.set_cons_zero, List.set_cons_succ, i64_w, i32_w]
          rfl
         refine pure_ (i := 7) (N := some 61) (v := ?_) (a' := ?_) #[false, true, false, true, false, false, false, true, false, false, false, false, false, false, false, false, false, false, false, false, false, false, false, false, false, false, false, false, false] rfl rfl (zah HT_.out (by kernel_rfl)) (fun _ _ _ h => h) (Or.inl ⟨by rfl, ?_⟩) ?_ ?_
         rotate_left
         ·
          intro w'
          go_simp
          with_reducible rfl
         rotate_left
         ·
          simp only [Act.put, List.setIfInBounds_toArray, List.set_cons_zero, List.set_cons_succ, i64_w, i32_w]
          rfl
         refine take_ (i := 0) (N := some 54) (v := ?_) (a' := ?_) #[true, true, false, true, false, false, false, true, false, false, false, false, false, false, false, false, false, false, false, false, false, false, false, false, false, false, false, false, false] rfl rfl (zat HT_.out HW_.out (by kernel_rfl)) (fun _ _ _ h => h) (Or.inl ⟨by rfl, ?_⟩) hHeld ?_ ?_
         rotate_left
         ·
          rintro w' ⟨s0, s1, s2, s3, s4, s5, s6, s7⟩
          go_simp
          with_reducible rfl
         rotate_left
         ·
          simp only [Act.put, List.setIfInBounds_toArray, List.set_cons_zero, List.set_cons_succ, i64_w, i32_w]
          rfl
         refine take_ (i := 2) (N := some 56) (v := ?_) (a' := ?_) #[true, true, true, true, false, false, false, true, false, false, false, false, false, false, false, false, false, false, false, false, false, false, false, false, false, false, false, false, false] rfl rfl (zat HT_.out HW_.out (by kernel_rfl)) (fun _ _ _ h => h) (Or.inl ⟨by rfl, ?_⟩) hHeld ?_ ?_
         rotate_left
         ·
          rintro w' ⟨s0, s1, s2, s3, s4, s5, s6, s7⟩
          go_simp
          with_reducible rfl
         rotate_left
         ·
          simp only [Act.put, List.setIfInBounds_toArray, List.set_cons_zero, List.set_cons_succ, i64_w, i32_w]
          rfl
         refine pure_ (i := 4) (N := some 58) (v := ?_) (a' := ?_) #[true, true, true, true, true, false, false, true, false, false, false, false, false, false, false, false, false, false, false, false, false, false, false, false, false, false, false, false, false] rfl rfl (zah HT_.out (by kernel_rfl)) (fun _ _ _ h => h) (Or.inl ⟨by rfl, ?_⟩) ?_ ?_
         rotate_left
         ·
          intro w'
          go_simp
          with_reducible rfl
         rotate_left
         ·
          simp only [Act.put, List.setIfInBounds_toArray, List.set_cons_zero, List.set_cons_succ, i64_w, i32_w]
          rfl
         refine pure_ (i := 5) (N := some 59) (v := ?_) (a' := ?_) #[true, true, true, true, true, true, false, true, false, false, false, false, false, false, false, false, false, false, false, false, false, false, false, false, false, false, false, false, false] rfl rfl (zah HT_.out (by kernel_rfl)) (fun _ _ _ h => h) (Or.inl ⟨by rfl, ?_⟩) ?_ ?_
         rotate_left
         ·
          intro w'
          go_simp
          with_reducible rfl
         rotate_left
         ·
          simp only [Act.put, List.setIfInBounds_toArray, List.set_cons_zero, List.set_cons_succ, i64_w, i32_w]
          rfl
         refine take_ (i := 6) (N := some 60) (v := ?_) (a' := ?_) #[true, true, true, true, true, true, true, true, false, false, false, false, false, false, false, false, false, false, false, false, false, false, false, false, false, false, false, false, false] rfl rfl (zat HT_.out HW_.out (by kernel_rfl)) (fun _ _ _ h => h) (Or.inl ⟨by rfl, ?_⟩) hHeld ?_ ?_
         rotate_left
         ·
          rintro w' ⟨s0, s1, s2, s3, s4, s5, s6, s7⟩
          go_simp
          with_reducible rfl
         rotate_left
         ·
          simp only [Act.put, List.setIfInBounds_toArray, List.set_cons_zero, List.set_cons_succ, i64_w, i32_w]
          rfl
         refine one_ (i := 8) (N := some 62) #[true, true, true, true, true, true, true, true, true, false, false, false, false, false, false, false, false, false, false, false, false, false, false, false, false, false, false, false, false] rfl rfl (zbb HT_.out (by kernel_rfl)) (by decide) (fun K hK => ?_)
         refine goes_ Try.func58 (by kernel_rfl) rfl #[.agg #[.int .i64 (room : Int), .int .i64 last, .slice (some ad) L.length c], .int .i64 y.f0, .int .i64 g.f0] (by rfl) rfl rfl (by (try simp only [List.map_toArray, List.map_cons, List.map_nil]); first | done | rfl) ?_
         refine (zaq.calls kb (room : Int) last (some ad) c L y.f0 g.f0 _ wr.drew (Kd.za0 HC.out (zab HBr.out (Below.refl wr.heap.size wr).drew)) Hc.out HKB.out).mono ?_
         rintro e wa ⟨rfl, hb⟩
         refine ⟨_, rfl, ?_⟩
         have HBa : Aside0 (Below wr.heap.size wr wa) := ⟨zab (Below.refl wr.heap.size wr).drew hb⟩
         clear hb
         refine hK.out _ _ (HRW.out _ HBa.out) (fun hHeld => ?_)
         clear hK K
         refine norm_ (a' := ?_) ?_ ?_
         rotate_left
         ·
          show Act.put _ (some 62) _ = _
          simp only [Act.put, List.setIfInBounds_toArray, List.set_cons_zero, List.set_cons_succ, i64_w, i32_w]
          rfl
         refine pure_ (i := 9) (N := some 63) (v := ?_) (a' := ?_) #[true, true, true, true, true, true, true, true, true, true, false, false, false, false, false, false, false, false, false, false, false, false, false, false, false, false, false, false, false] rfl rfl (zah HT_.out (by kernel_rfl)) (fun _ _ _ h => h) (Or.inl ⟨by rfl, ?_⟩) ?_ ?_
         rotate_left
         ·
          intro w'
          go_simp
          with_reducible rfl
         rotate_left
         ·
          simp only [Act.put, List.setIfInBounds_toArray, List.set_cons_zero, List.set_cons_succ, i64_w, i32_w]
          rfl
         refine pure_ (i := 11) (N := some 65) (v := ?_) (a' := ?_) #[true, true, true, true, true, true, true, true, true, true, false, true, false, false, false, false, false, false, false, false, false, false, false, false, false, false, false, false, false] rfl rfl (zah HT_.out (by kernel_rfl)) (fun _ _ _ h => h) (Or.inl ⟨by rfl, ?_⟩) ?_ ?_
         rotate_left
         ·
          intro w'
          go_simp
          with_reducible rfl
         rotate_left
         ·
          simp only [Act.put, List.setIfInBounds_toArray, List.set_cons_zero, List.set_cons_succ, i64_w, i32_w]
          rfl
         refine pure_ (i := 13) (N := some 67) (v := ?_) (a' := ?_) #[true, true, true, true, true, true, true, true, true, true, false, true, false, true, false, false, false, false, false, false, false, false, false, false, false, false, false, false, false] rfl rfl (zah HT_.out (by kernel_rfl)) (fun _ _ _ h => h) (Or.inl ⟨by rfl, ?_⟩) ?_ ?_
         rotate_left
         ·
          intro w'
          go_simp
          with_reducible rfl
         rotate_left
         ·
          simp only [Act.put, List.setIfInBounds_toArray, List.set_cons_zero, List.set_cons_succ, i64_w, i32_w]
          rfl
         refine pure_ (i := 19) (N := some 73) (v := ?_) (a' := ?_) #[true, true, true, true, true, true, true, true, true, true, false, true, false, true, false, false, false, false, false, true, false, false, false, false, false, false, false, false, false] rfl rfl (zah HT_.out (by kernel_rfl)) (fun _ _ _ h => h) (Or.inl ⟨by rfl, ?_⟩) ?_ ?_
         rotate_left
         ·
          intro w'
          go_simp
          with_reducible rfl
         rotate_left
         ·
          simp only [Act.put, List.setIfInBounds_toArray, List.set_cons_zero, List.set_cons_succ, i64_w, i32_w]
          rfl
         refine pure_ (i := 23) (N := some 77) (v := ?_) (a' := ?_) #[true, true, true, true, true, true, true, true, true, true, false, true, false, true, false, false, false, false, false, true, false, false, false, true, false, false, false, false, false] rfl rfl (zah HT_.out (by kernel_rfl)) (fun _ _ _ h => h) (Or.inl ⟨by rfl, ?_⟩) ?_ ?_
         rotate_left
         ·
          intro w'
          go_simp
          with_reducible rfl
         rotate_left
         ·
          simp only [Act.put, List.setIfInBounds_toArray, List.set_cons_zero, List.set_cons_succ, i64_w, i32_w]
          rfl
         refine take_ (i := 10) (N := some 64) (v := ?_) (a' := ?_) #[true, true, true, true, true, true, true, true, true, true, true, true, false, true, false, false, false, false, false, true, false, false, false, true, false, false, false, false, false] rfl rfl (zat HT_.out HW_.out (by kernel_rfl)) (fun _ _ _ h => h) (Or.inl ⟨by rfl, ?_⟩) hHeld ?_ ?_
         rotate_left
         ·
          rintro w' ⟨s0, s1, s2, s3, s4, s5, s6, s7⟩
          go_simp
          with_reducible rfl
         rotate_left
         ·
          simp only [Act.put, List.setIfInBounds_toArray, List.set_cons_zero, List.set_cons_succ, i64_w, i32_w]
          rfl
         refine take_ (i := 12) (N := some 66) (v := ?_) (a' := ?_) #[true, true, true, true, true, true, true, true, true, true, true, true, true, true, false, false, false, false, false, true, false, false, false, true, false, false, false, false, false] rfl rfl (zat HT_.out HW_.out (by kernel_rfl)) (fun _ _ _ h => h) (Or.inl ⟨by rfl, ?_⟩) hHeld ?_ ?_
         rotate_left
         ·
          rintro w' ⟨s0, s1, s2, s3, s4, s5, s6, s7⟩
          go_simp
          with_reducible rfl
         rotate_left
         ·
          simp only [Act.put, List.setIfInBounds_toArray, List.set_cons_zero, List.set_cons_succ, i64_w, i32_w]
          rfl
         refine pure_ (i := 14) (N := some 68) (v := ?_) (a' := ?_) #[true, true, true, true, true, true, true, true, true, true, true, true, true, true, true, false, false, false, false, true, false, false, false, true, false, false, false, false, false] rfl rfl (zah HT_.out (by kernel_rfl)) (fun _ _ _ h => h) (Or.inl ⟨by rfl, ?_⟩) ?_ ?_
         rotate_left
         ·
          intro w'
          go_simp
          with_reducible rfl
         rotate_left
         ·
          simp only [Act.put, List.setIfInBounds_toArray, List.set_cons_zero, List.set_cons_succ, i64_w, i32_w]
          rfl
         refine pure_ (i := 15) (N := some 69) (v := ?_) (a' := ?_) #[true, true, true, true, true, true, true, true, true, true, true, true, true, true, true, true, false, false, false, true, false, false, false, true, false, false, false, false, false] rfl rfl (zah HT_.out (by kernel_rfl)) (fun _ _ _ h => h) (Or.inl ⟨by rfl, ?_⟩) ?_ ?_
         rotate_left
         ·
          intro w'
          go_simp
          with_reducible rfl
         rotate_left
         ·
          simp only [Act.put, List.setIfInBounds_toArray, List.set_cons_zero, List.set_cons_succ, i64_w, i32_w]
          rfl
         refine take_ (i := 16) (N := some 70) (v := ?_) (a' := ?_) #[true, true, true, true, true, true, true, true, true, true, true, true, true, true, true, true, true, false, false, true, false, false, false, true, false, false, false, false, false] rfl rfl (zat HT_.out HW_.out (by kernel_rfl)) (fun _ _ _ h => h) (Or.inl ⟨by rfl, ?_⟩) hHeld ?_ ?_
         rotate_left
         ·
          rintro w' ⟨s0, s1, s2, s3, s4, s5, s6, s7⟩
          go_simp
          with_reducible rfl
         rotate_left
         ·
          simp only [Act.put, List.setIfInBounds_toArray, List.set_cons_zero, List.set_cons_succ, i64_w, i32_w]
          rfl
         refine take_ (i := 18) (N := some 72) (v := ?_) (a' := ?_) #[true, true, true, true, true, true, true, true, true, true, true, true, true, true, true, true, true, false, true, true, false, false, false, true, false, false, false, false, false] rfl rfl (zat HT_.out HW_.out (by kernel_rfl)) (fun _ _ _ h => h) (Or.inl ⟨by rfl, ?_⟩) hHeld ?_ ?_
         rotate_left
         ·
          rintro w' ⟨s0, s1, s2, s3, s4, s5, s6, s7⟩
          go_simp
          with_reducible rfl
         rotate_left
         ·
          simp only [Act.put, List.setIfInBounds_toArray, List.set_cons_zero, List.set_cons_succ, i64_w, i32_w]
          rfl
         refine take_ (i := 22) (N := some 76) (v := ?_) (a' := ?_) #[true, true, true, true, true, true, true, true, true, true, true, true, true, true, true, true, true, false, true, true, false, false, true, true, false, false, false, false, false] rfl rfl (zat HT_.out HW_.out (by kernel_rfl)) (fun _ _ _ h => h) (Or.inl ⟨by rfl, ?_⟩) hHeld ?_ ?_
         rotate_left
         ·
          rintro w' ⟨s0, s1, s2, s3, s4, s5, s6, s7⟩
          go_simp
          with_reducible rfl
         rotate_left
         ·
          simp only [Act.put, List.setIfInBounds_toArray, List.set_cons_zero, List.set_cons_succ, i64_w, i32_w]
          rfl
         refine one_ (i := 17) (N := some 71) #[true, true, true, true, true, true, true, true, true, true, true, true, true, true, true, true, true, true, true, true, false, false, true, true, false, false, false, false, false] rfl rfl (zbb HT_.out (by kernel_rfl)) (by decide) (fun K hK => ?_)
         refine goes_ Try.func43 (by kernel_rfl) rfl #[.agg #[.int .i64 (room : Int), .int .i64 last, .slice (some ad) L.length c], .int .i64 y.f0] (by rfl) rfl rfl (by (try simp only [List.map_toArray, List.map_cons, List.map_nil]); first | done | rfl) ?_
         refine (zaj.calls ky (room : Int) last (some ad) c L y.f0 _ wa (Kd.za0 HC.out (zab HBr.out HBa.out)) Hc.out HKY.out).mono ?_
         rintro e wb ⟨rfl, hb⟩
         refine ⟨_, rfl, ?_⟩
         have HBb : Aside0 (Below wr.heap.size wr wb) := ⟨zab HBa.out hb⟩
         clear hb
         refine hK.out _ _ (HRW.out _ HBb.out) (fun hHeld => ?_)
         clear hK K
         refine norm_ (a' := ?_) ?_ ?_
         rotate_left
         ·
          show Act.put _ (some 71) _ = _
          simp only [Act.put, List.setIfInBounds_toArray, List.set_cons_zero, List.set_cons_succ, i64_w, i32_w]
          rfl
         refine one_ (i := 20) (N := some 74) #[true, true, true, true, true, true, true, true, true, true, true, true, true, true, true, true, true, true, true, true, true, false, true, true, false, false, false, false, false] rfl rfl (zbb HT_.out (by kernel_rfl)) (by decide) (fun K hK => ?_)
         refine goes_ Try.func43 (by kernel_rfl) rfl #[.agg #[.int .i64 (room : Int), .int .i64 last, .slice (some ad) L.length c], .int .i64 g.f0] (by rfl) rfl rfl (by (try simp only [List.map_toArray, List.map_cons, List.map_nil]); first | done | rfl) ?_
         refine (zaj.calls kg (room : Int) last (some ad) c L g.f0 _ wb (Kd.za0 HC.out (zab HBr.out HBb.out)) Hc.out HKG.out).mono ?_
         rintro e wc ⟨rfl, hb⟩
         refine ⟨_, rfl, ?_⟩
         have HBc : Aside0 (Below wr.heap.size wr wc) := ⟨zab HBb.out hb⟩
         clear hb
         refine hK.out _ _ (HRW.out _ HBc.out) (fun hHeld => ?_)
         clear hK K
         refine norm_ (a' := ?_) ?_ ?_
         rotate_left
         ·
          show Act.put _ (some 74) _ = _
          simp only [Act.put, List.setIfInBounds_toArray, List.set_cons_zero, List.set_cons_succ, i64_w, i32_w]
          rfl
         refine pure_ (i := 21) (N := some 75) (v := ?_) (a' := ?_) #[true, true, true, true, true, true, true, true, true, true, true, true, true, true, true, true, true, true, true, true, true, true, true, true, false, false, false, false, false] rfl rfl (zah HT_.out (by kernel_rfl)) (fun _ _ _ h => h) (Or.inl ⟨by rfl, ?_⟩) ?_ ?_
         rotate_left
         ·
          intro w'
          go_simp
          with_reducible rfl
         rotate_left
         ·
          simp only [Act.put, List.setIfInBounds_toArray, List.set_cons_zero, List.set_cons_succ, i64_w, i32_w]
          rfl
         refine one_ (i := 24) (N := some 78) #[true, true, true, true, true, true, true, true, true, true, true, true, true, true, true, true, true, true, true, true, true, true, true, true, true, false, false, false, false] rfl rfl (zbb HT_.out (by kernel_rfl)) (by decide) (fun K hK => ?_)
         refine goes_ Try.func43 (by kernel_rfl) rfl #[.agg #[.int .i64 (room : Int), .int .i64 last, .slice (some ad) L.length c], .int .i64 q.f0] (by rfl) rfl rfl (by (try simp only [List.map_toArray, List.map_cons, List.map_nil]); first | done | rfl) ?_
         refine (zaj.calls kq (room : Int) last (some ad) c L q.f0 _ wc (Kd.za0 HC.out (zab HBr.out HBc.out)) Hc.out HKQ.out).mono ?_
         rintro e wd ⟨rfl, hb⟩
         refine ⟨_, rfl, ?_⟩
         have HBd : Aside0 (Below wr.heap.size wr wd) := ⟨zab HBc.out hb⟩
         clear hb
         refine hK.out _ _ (HRW.out _ HBd.out) (fun hHeld => ?_)
         clear hK K
         refine norm_ (a' := ?_) ?_ ?_
         rotate_left
         ·
          show Act.put _ (some 78) _ = _
          simp only [Act.put, List.setIfInBounds_toArray, List.set_cons_zero, List.set_cons_succ, i64_w, i32_w]
          rfl
         refine pure_ (i := 25) (N := some 79) (v := ?_) (a' := ?_) #[true, true, true, true, true, true, true, true, true, true, true, true, true, true, true, true, true, true, true, true, true, true, true, true, true, true, false, false, false] rfl rfl (zah HT_.out (by kernel_rfl)) (fun _ _ _ h => h) (Or.inl ⟨by rfl, ?_⟩) ?_ ?_
         rotate_left
         ·
          intro w'
          go_simp
          with_reducible rfl
         rotate_left
         ·
          simp only [Act.put, List.setIfInBounds_toArray, List.set_cons_zero, List.set_cons_succ, i64_w, i32_w]
          rfl
         refine pure_ (i := 26) (N := some 80) (v := ?_) (a' := ?_) #[true, true, true, true, true, true, true, true, true, true, true, true, true, true, true, true, true, true, true, true, true, true, true, true, true, true, true, false, false] rfl rfl (zah HT_.out (by kernel_rfl)) (fun _ _ _ h => h) (Or.inl ⟨by rfl, ?_⟩) ?_ ?_
         rotate_left
         ·
          intro w'
          go_simp
          with_reducible rfl
         rotate_left
         ·
          simp only [Act.put, List.setIfInBounds_toArray, List.set_cons_zero, List.set_cons_succ, i64_w, i32_w]
          rfl
         refine pure_ (i := 27) (N := some 81) (v := ?_) (a' := ?_) #[true, true, true, true, true, true, true, true, true, true, true, true, true, true, true, true, true, true, true, true, true, true, true, true, true, true, true, true, false] rfl rfl (zah HT_.out (by kernel_rfl)) (fun _ _ _ h => h) (Or.inl ⟨by rfl, ?_⟩) ?_ ?_
         rotate_left
         ·
          intro w'
          go_simp
          with_reducible rfl
         rotate_left
         ·
          simp only [Act.put, List.setIfInBounds_toArray, List.set_cons_zero, List.set_cons_succ, i64_w, i32_w]
          rfl
         refine pure_ (i := 28) (N := some 82) (v := ?_) (a' := ?_) #[true, true, true, true, true, true, true, true, true, true, true, true, true, true, true, true, true, true, true, true, true, true, true, true, true, true, true, true, true] rfl rfl (zah HT_.out (by kernel_rfl)) (fun _ _ _ h => h) (Or.inl ⟨by rfl, ?_⟩) ?_ ?_
         rotate_left
         ·
          intro w'
          go_simp
          with_reducible rfl
         rotate_left
         ·
          simp only [Act.put, List.setIfInBounds_toArray, List.set_cons_zero, List.set_cons_succ, i64_w, i32_w]
          rfl
         refine done_ (zby HT_.out (by kernel_rfl)) ?_
         rw [e8]
         by_cases h8 : 8 < ((way L y.f0).length : Int) - (way L g.f0).length + (way L q.f0).length + 1
         ·
          have HA := Aside0.mk (HS3.out.trans (if_pos ⟨y, hym, hbe, h8⟩))
          have d8 : decide (((way L y.f0).length : Int) - (way L g.f0).length + (way L q.f0).length + 1 > 8) = true := decide_eq_true h8
          have hbd := HBd.out
          clear e8 HBa HBb HBc HBd
          have hxd := (hbd.block _ (zar HXr.out)).trans HXr.out
          have hyd := (hbd.block _ (zar HYr.out)).trans HYr.out
          have HBd := Aside0.mk (zab HBr.out hbd)
          have HXd := Aside0.mk hxd
          have HYd := Aside0.mk hyd
          have HVd := Aside0.mk (Kd.za1 HVr.out hbd)
          have HQd : Aside0 (QS wd (ad.add (j * 5)) g) := ⟨HQr.out.below hbd⟩
          clear q0 q1 q2 q3 q4
          obtain ⟨q0, q1, q2, q3, q4⟩ := HQd.out
          clear x0 x1 x2 y0 y1 y2 z0 z1 z2 HXr HYr HVr HBr HQr
          have x0 : wd.cell? ⟨w.heap.size, 0, none⟩ = some (.int .i64 (room : Int)) := (za hxd 0).trans rfl
          have x1 : wd.cell? ⟨w.heap.size, 1, none⟩ = some (.int .i64 last) := (za hxd 1).trans rfl
          have x2 : wd.cell? ⟨w.heap.size, 2, none⟩ = some (.slice (some ad) L.length c) := (za hxd 2).trans rfl
          have y0 : wd.cell? ⟨w.heap.size + 1, 0, none⟩ = some (.int .i64 0) := (za hyd 0).trans rfl
          have y1 : wd.cell? ⟨w.heap.size + 1, 1, none⟩ = some (.int .i64 0) := (za hyd 1).trans rfl
          have y2 : wd.cell? ⟨w.heap.size + 1, 2, none⟩ = some (.slice none 0 0) := (za hyd 2).trans rfl
          have z0 := zaa hyd 0
          have z1 := zaa hyd 1
          have z2 := zaa hyd 2
          clear hbd hxd hyd
          go_wp2_with fail
          all_goals try (exfalso; omega)
          obtain ⟨r1, r2, r3⟩ := zbm (room := room) (last := last) (P := P) HBd.out HYd.out HVd.out (fun k hk => ⟨.inl hk.1, by omega⟩)
          rw [HA.out]
          exact bodyPost_ret (zav rfl _ _ (w.heap.size + 1) 44 #[.int .i64 (room : Int), .int .i64 last, .slice (some ad) L.length c] (0, 0) _ rfl r1 Try.underlying44 rfl (by kernel_rfl)) rfl ⟨_, rfl, r2, r3⟩
         ·
          have d8 : decide (((way L y.f0).length : Int) - (way L g.f0).length + (way L q.f0).length + 1 > 8) = false := decide_eq_false h8
          clear e8
          have H8 := Aside0.mk h8
          go_wp2_with fail
          all_goals try (exfalso; omega)
          go_roundg (L.length - (i + 1))
          case measure => omega
          case rel =>
           exact ⟨i + 1, by first | rfl | (simp; done), by omega, ⟨zab (HB7r.out) HBd.out⟩, ⟨fun k hk hkl => by
            by_cases e : k = i
            ·
             subst e
             rw [hy]
             exact fun hh => absurd hh.2 (by have := H8.out; omega)
            ·
             exact HNO.out k (by omega) hkl⟩⟩
        ·
         have HKB1 := Aside0.mk (HKB.out.trans (congrArg some (decide_eq_false hbe)))
         clear HKB
         have HKB := HKB1
         clear HKB1
         go_wp2_with fail
         refine start_ (n := 29) (S := fun w' => w'.cell? ⟨w.heap.size, 0, none⟩ = some (.int .i64 (room : Int)) ∧ w'.cell? ⟨w.heap.size, 1, none⟩ = some (.int .i64 last) ∧ w'.cell? ⟨w.heap.size, 2, none⟩ = some (.slice (some ad) L.length c) ∧ w'.cell? (ad.add (i * 5)) = some (.int .i64 y.f0) ∧ w'.cell? ⟨(ad.add (i * 5)).block, (ad.add (i * 5)).off + 1, none⟩ = some (.int .i64 y.f1) ∧ w'.cell? ⟨(ad.add (i * 5)).block, (ad.add (i * 5)).off + 2, none⟩ = some (.int .i64 y.f2) ∧ w'.cell? ⟨(ad.add (i * 5)).block, (ad.add (i * 5)).off + 3, none⟩ = some (.int .i64 y.f3) ∧ w'.cell? ⟨(ad.add (i * 5)).block, (ad.add (i * 5)).off + 4, none⟩ = some (.int .i64 y.f4)) (ds := []) #[false, false, false, false, false, false, false, false, false, false, false, false, false, false, false, false, false, false, false, false, false, false, false, false, false, false, false, false, false] (by kernel_rfl) rfl rfl (HRW.out _ (Below.refl _ wr).drew) (fun hHeld => ?_); refine zbj mvtab13 mvbits13 (fun HT_ HW_ => ?_)
         refine pure_ (i := 1) (N := some 55) (v := ?_) (a' := ?_) #[false, true, false, false, false, false, false, false, false, false, false, false, false, false, false, false, false, false, false, false, false, false, false, false, false, false, false, false, false] rfl rfl (zah HT_.out (by kernel_rfl)) (fun _ _ _ h => h) (Or.inl ⟨by rfl, ?_⟩) ?_ ?_
         rotate_left
         ·
          intro w'
          go_simp
          with_reducible rfl
         rotate_left
         ·
          simp only [Act.put, List.setIfInBounds_toArray, List.set_cons_zero, List.set_cons_succ, i64_w, i32_w]
          rfl
         refine pure_ (i := 3) (N := some 57) (v := ?_) (a' := ?_) #[false, true, false, true, false, false, false, false, false, false, false, false, false, false, false, false, false, false, false, false, false, false, false, false, false, false, false, false, false] rfl rfl (zah HT_.out (by kernel_rfl)) (fun _ _ _ h => h) (Or.inl ⟨by rfl, ?_⟩) ?_ ?_
         rotate_left
         ·
          intro w'
          go_simp
          with_reducible rfl
         rotate_left
         ·
          simp only [Act.put, List.setIfInBounds_toArray, List.set_cons_zero, List.set_cons_succ, i64_w, i32_w]
          rfl
         refine pure_ (i := 7) (N := some 61) (v := ?_) (a' := ?_) #[false, true, false, true, false, false, false, true, false, false, false, false, false, false, false, false, false, false, false, false, false, false, false, false, false, false, false, false, false] rfl rfl (zah HT_.out (by kernel_rfl)) (fun _ _ _ h => h) (Or.inl ⟨by rfl, ?_⟩) ?_ ?_
         rotate_left
         ·
          intro w'
          go_simp
          with_reducible rfl
         rotate_left
         ·
          simp only [Act.put, List.setIfInBounds_toArray, List.set_cons_zero, List.set_cons_succ, i64_w, i32_w]
          rfl
         refine take_ (i := 0) (N := some 54) (v := ?_) (a' := ?_) #[true, true, false, true, false, false, false, true, false, false, false, false, false, false, false, false, false, false, false, false, false, false, false, false, false, false, false, false, false] rfl rfl (zat HT_.out HW_.out (by kernel_rfl)) (fun _ _ _ h => h) (Or.inl ⟨by rfl, ?_⟩) hHeld ?_ ?_
         rotate_left
         ·
          rintro w' ⟨s0, s1, s2, s3, s4, s5, s6, s7⟩
          go_simp
          with_reducible rfl
         rotate_left
         ·
          simp only [Act.put, List.setIfInBounds_toArray, List.set_cons_zero, List.set_cons_succ, i64_w, i32_w]
          rfl
         refine take_ (i := 2) (N := some 56) (v := ?_) (a' := ?_) #[true, true, true, true, false, false, false, true, false, false, false, false, false, false, false, false, false, false, false, false, false, false, false, false, false, false, false, false, false] rfl rfl (zat HT_.out HW_.out (by kernel_rfl)) (fun _ _ _ h => h) (Or.inl ⟨by rfl, ?_⟩) hHeld ?_ ?_
         rotate_left
         ·
          rintro w' ⟨s0, s1, s2, s3, s4, s5, s6, s7⟩
          go_simp
          with_reducible rfl
         rotate_left
         ·
          simp only [Act.put, List.setIfInBounds_toArray, List.set_cons_zero, List.set_cons_succ, i64_w, i32_w]
          rfl
         refine pure_ (i := 4) (N := some 58) (v := ?_) (a' := ?_) #[true, true, true, true, true, false, false, true, false, false, false, false, false, false, false, false, false, false, false, false, false, false, false, false, false, false, false, false, false] rfl rfl (zah HT_.out (by kernel_rfl)) (fun _ _ _ h => h) (Or.inl ⟨by rfl, ?_⟩) ?_ ?_
         rotate_left
         ·
          intro w'
          go_simp
          with_reducible rfl
         rotate_left
         ·
          simp only [Act.put, List.setIfInBounds_toArray, List.set_cons_zero, List.set_cons_succ, i64_w, i32_w]
          rfl
         refine pure_ (i := 5) (N := some 59) (v := ?_) (a' := ?_) #[true, true, true, true, true, true, false, true, false, false, false, false, false, false, false, false, false, false, false, false, false, false, false, false, false, false, false, false, false] rfl rfl (zah HT_.out (by kernel_rfl)) (fun _ _ _ h => h) (Or.inl ⟨by rfl, ?_⟩) ?_ ?_
         rotate_left
         ·
          intro w'
          go_simp
          with_reducible rfl
         rotate_left
         ·
          simp only [Act.put, List.setIfInBounds_toArray, List.set_cons_zero, List.set_cons_succ, i64_w, i32_w]
          rfl
         refine take_ (i := 6) (N := some 60) (v := ?_) (a' := ?_) #[true, true, true, true, true, true, true, true, false, false, false, false, false, false, false, false, false, false, false, false, false, false, false, false, false, false, false, false, false] rfl rfl (zat HT_.out HW_.out (by kernel_rfl)) (fun _ _ _ h => h) (Or.inl ⟨by rfl, ?_⟩) hHeld ?_ ?_
         rotate_left
         ·
          rintro w' ⟨s0, s1, s2, s3, s4, s5, s6, s7⟩
          go_simp
          with_reducible rfl
         rotate_left
         ·
          simp only [Act.put, List.setIfInBounds_toArray, List.set_cons_zero, List.set_cons_succ, i64_w, i32_w]
          rfl
         refine one_ (i := 8) (N := some 62) #[true, true, true, true, true, true, true, true, true, false, false, false, false, false, false, false, false, false, false, false, false, false, false, false, false, false, false, false, false] rfl rfl (zbb HT_.out (by kernel_rfl)) (by decide) (fun K hK => ?_)
         refine goes_ Try.func58 (by kernel_rfl) rfl #[.agg #[.int .i64 (room : Int), .int .i64 last, .slice (some ad) L.length c], .int .i64 y.f0, .int .i64 g.f0] (by rfl) rfl rfl (by (try simp only [List.map_toArray, List.map_cons, List.map_nil]); first | done | rfl) ?_
         refine (zaq.calls kb (room : Int) last (some ad) c L y.f0 g.f0 _ wr.drew (Kd.za0 HC.out (zab HBr.out (Below.refl wr.heap.size wr).drew)) Hc.out HKB.out).mono ?_
         rintro e wa ⟨rfl, hb⟩
         refine ⟨_, rfl, ?_⟩
         have HBa : Aside0 (Below wr.heap.size wr wa) := ⟨zab (Below.refl wr.heap.size wr).drew hb⟩
         clear hb
         refine hK.out _ _ (HRW.out _ HBa.out) (fun hHeld => ?_)
         clear hK K
         refine norm_ (a' := ?_) ?_ ?_
         rotate_left
         ·
          show Act.put _ (some 62) _ = _
          simp only [Act.put, List.setIfInBounds_toArray, List.set_cons_zero, List.set_cons_succ, i64_w, i32_w]
          rfl
         refine pure_ (i := 9) (N := some 63) (v := ?_) (a' := ?_) #[true, true, true, true, true, true, true, true, true, true, false, false, false, false, false, false, false, false, false, false, false, false, false, false, false, false, false, false, false] rfl rfl (zah HT_.out (by kernel_rfl)) (fun _ _ _ h => h) (Or.inl ⟨by rfl, ?_⟩) ?_ ?_
         rotate_left
         ·
          intro w'
          go_simp
          with_reducible rfl
         rotate_left
         ·
          simp only [Act.put, List.setIfInBounds_toArray, List.set_cons_zero, List.set_cons_succ, i64_w, i32_w]
          rfl
         refine pure_ (i := 10) (N := some 64) (v := undef) (a' := ?_) #[true, true, true, true, true, true, true, true, true, true, true, false, false, false, false, false, false, false, false, false, false, false, false, false, false, false, false, false, false] rfl rfl (zah HT_.out (by kernel_rfl)) (fun _ _ _ h => h) (Or.inr ⟨by rfl, rfl⟩) ?_ ?_
         rotate_left
         ·
          simp only [Act.put, List.setIfInBounds_toArray, List.set_cons_zero, List.set_cons_succ, i64_w, i32_w]
          rfl
         refine pure_ (i := 11) (N := some 65) (v := undef) (a' := ?_) #[true, true, true, true, true, true, true, true, true, true, true, true, false, false, false, false, false, false, false, false, false, false, false, false, false, false, false, false, false] rfl rfl (zah HT_.out (by kernel_rfl)) (fun _ _ _ h => h) (Or.inr ⟨by rfl, rfl⟩) ?_ ?_
         rotate_left
         ·
          simp only [Act.put, List.setIfInBounds_toArray, List.set_cons_zero, List.set_cons_succ, i64_w, i32_w]
          rfl
         refine pure_ (i := 12) (N := some 66) (v := undef) (a' := ?_) #[true, true, true, true, true, true, true, true, true, true, true, true, true, false, false, false, false, false, false, false, false, false, false, false, false, false, false, false, false] rfl rfl (zah HT_.out (by kernel_rfl)) (fun _ _ _ h => h) (Or.inr ⟨by rfl, rfl⟩) ?_ ?_
         rotate_left
         ·
          simp only [Act.put, List.setIfInBounds_toArray, List.set_cons_zero, List.set_cons_succ, i64_w, i32_w]
          rfl
         refine pure_ (i := 13) (N := some 67) (v := undef) (a' := ?_) #[true, true, true, true, true, true, true, true, true, true, true, true, true, true, false, false, false, false, false, false, false, false, false, false, false, false, false, false, false] rfl rfl (zah HT_.out (by kernel_rfl)) (fun _ _ _ h => h) (Or.inr ⟨by rfl, rfl⟩) ?_ ?_
         rotate_left
         ·
          simp only [Act.put, List.setIfInBounds_toArray, List.set_cons_zero, List.set_cons_succ, i64_w, i32_w]
          rfl
         refine pure_ (i := 14) (N := some 68) (v := undef) (a' := ?_) #[true, true, true, true, true, true, true, true, true, true, true, true, true, true, true, false, false, false, false, false, false, false, false, false, false, false, false, false, false] rfl rfl (zah HT_.out (by kernel_rfl)) (fun _ _ _ h => h) (Or.inr ⟨by rfl, rfl⟩) ?_ ?_
         rotate_left
         ·
          simp only [Act.put, List.setIfInBounds_toArray, List.set_cons_zero, List.set_cons_succ, i64_w, i32_w]
          rfl
         refine pure_ (i := 15) (N := some 69) (v := undef) (a' := ?_) #[true, true, true, true, true, true, true, true, true, true, true, true, true, true, true, true, false, false, false, false, false, false, false, false, false, false, false, false, false] rfl rfl (zah HT_.out (by kernel_rfl)) (fun _ _ _ h => h) (Or.inr ⟨by rfl, rfl⟩) ?_ ?_
         rotate_left
         ·
          simp only [Act.put, List.setIfInBounds_toArray, List.set_cons_zero, List.set_cons_succ, i64_w, i32_w]
          rfl
         refine pure_ (i := 16) (N := some 70) (v := undef) (a' := ?_) #[true, true, true, true, true, true, true, true, true, true, true, true, true, true, true, true, true, false, false, false, false, false, false, false, false, false, false, false, false] rfl rfl (zah HT_.out (by kernel_rfl)) (fun _ _ _ h => h) (Or.inr ⟨by rfl, rfl⟩) ?_ ?_
         rotate_left
         ·
          simp only [Act.put, List.setIfInBounds_toArray, List.set_cons_zero, List.set_cons_succ, i64_w, i32_w]
          rfl
         refine pure_ (i := 17) (N := some 71) (v := undef) (a' := ?_) #[true, true, true, true, true, true, true, true, true, true, true, true, true, true, true, true, true, true, false, false, false, false, false, false, false, false, false, false, false] rfl rfl (zah HT_.out (by kernel_rfl)) (fun _ _ _ h => h) (Or.inr ⟨by rfl, rfl⟩) ?_ ?_
         rotate_left
         ·
          simp only [Act.put, List.setIfInBounds_toArray, List.set_cons_zero, List.set_cons_succ, i64_w, i32_w]
          rfl
         refine pure_ (i := 18) (N := some 72) (v := undef) (a' := ?_) #[true, true, true, true, true, true, true, true, true, true, true, true, true, true, true, true, true, true, true, false, false, false, false, false, false, false, false, false, false] rfl rfl (zah HT_.out (by kernel_rfl)) (fun _ _ _ h => h) (Or.inr ⟨by rfl, rfl⟩) ?_ ?_
         rotate_left
         ·
          simp only [Act.put, List.setIfInBounds_toArray, List.set_cons_zero, List.set_cons_succ, i64_w, i32_w]
          rfl
         refine pure_ (i := 19) (N := some 73) (v := undef) (a' := ?_) #[true, true, true, true, true, true, true, true, true, true, true, true, true, true, true, true, true, true, true, true, false, false, false, false, false, false, false, false, false] rfl rfl (zah HT_.out (by kernel_rfl)) (fun _ _ _ h => h) (Or.inr ⟨by rfl, rfl⟩) ?_ ?_
         rotate_left
         ·
          simp only [Act.put, List.setIfInBounds_toArray, List.set_cons_zero, List.set_cons_succ, i64_w, i32_w]
          rfl
         refine pure_ (i := 20) (N := some 74) (v := undef) (a' := ?_) #[true, true, true, true, true, true, true, true, true, true, true, true, true, true, true, true, true, true, true, true, true, false, false, false, false, false, false, false, false] rfl rfl (zah HT_.out (by kernel_rfl)) (fun _ _ _ h => h) (Or.inr ⟨by rfl, rfl⟩) ?_ ?_
         rotate_left
         ·
          simp only [Act.put, List.setIfInBounds_toArray, List.set_cons_zero, List.set_cons_succ, i64_w, i32_w]
          rfl
         refine pure_ (i := 21) (N := some 75) (v := undef) (a' := ?_) #[true, true, true, true, true, true, true, true, true, true, true, true, true, true, true, true, true, true, true, true, true, true, false, false, false, false, false, false, false] rfl rfl (zah HT_.out (by kernel_rfl)) (fun _ _ _ h => h) (Or.inr ⟨by rfl, rfl⟩) ?_ ?_
         rotate_left
         ·
          simp only [Act.put, List.setIfInBounds_toArray, List.set_cons_zero, List.set_cons_succ, i64_w, i32_w]
          rfl
         refine pure_ (i := 22) (N := some 76) (v := undef) (a' := ?_) #[true, true, true, true, true, true, true, true, true, true, true, true, true, true, true, true, true, true, true, true, true, true, true, false, false, false, false, false, false] rfl rfl (zah HT_.out (by kernel_rfl)) (fun _ _ _ h => h) (Or.inr ⟨by rfl, rfl⟩) ?_ ?_
         rotate_left
         ·
          simp only [Act.put, List.setIfInBounds_toArray, List.set_cons_zero, List.set_cons_succ, i64_w, i32_w]
          rfl
         refine pure_ (i := 23) (N := some 77) (v := undef) (a' := ?_) #[true, true, true, true, true, true, true, true, true, true, true, true, true, true, true, true, true, true, true, true, true, true, true, true, false, false, false, false, false] rfl rfl (zah HT_.out (by kernel_rfl)) (fun _ _ _ h => h) (Or.inr ⟨by rfl, rfl⟩) ?_ ?_
         rotate_left
         ·
          simp only [Act.put, List.setIfInBounds_toArray, List.set_cons_zero, List.set_cons_succ, i64_w, i32_w]
          rfl
         refine pure_ (i := 24) (N := some 78) (v := undef) (a' := ?_) #[true, true, true, true, true, true, true, true, true, true, true, true, true, true, true, true, true, true, true, true, true, true, true, true, true, false, false, false, false] rfl rfl (zah HT_.out (by kernel_rfl)) (fun _ _ _ h => h) (Or.inr ⟨by rfl, rfl⟩) ?_ ?_
         rotate_left
         ·
          simp only [Act.put, List.setIfInBounds_toArray, List.set_cons_zero, List.set_cons_succ, i64_w, i32_w]
          rfl
         refine pure_ (i := 25) (N := some 79) (v := undef) (a' := ?_) #[true, true, true, true, true, true, true, true, true, true, true, true, true, true, true, true, true, true, true, true, true, true, true, true, true, true, false, false, false] rfl rfl (zah HT_.out (by kernel_rfl)) (fun _ _ _ h => h) (Or.inr ⟨by rfl, rfl⟩) ?_ ?_
         rotate_left
         ·
          simp only [Act.put, List.setIfInBounds_toArray, List.set_cons_zero, List.set_cons_succ, i64_w, i32_w]
          rfl
         refine pure_ (i := 26) (N := some 80) (v := undef) (a' := ?_) #[true, true, true, true, true, true, true, true, true, true, true, true, true, true, true, true, true, true, true, true, true, true, true, true, true, true, true, false, false] rfl rfl (zah HT_.out (by kernel_rfl)) (fun _ _ _ h => h) (Or.inr ⟨by rfl, rfl⟩) ?_ ?_
         rotate_left
         ·
          simp only [Act.put, List.setIfInBounds_toArray, List.set_cons_zero, List.set_cons_succ, i64_w, i32_w]
          rfl
         refine pure_ (i := 27) (N := some 81) (v := undef) (a' := ?_) #[true, true, true, true, true, true, true, true, true, true, true, true, true, true, true, true, true, true, true, true, true, true, true, true, true, true, true, true, false] rfl rfl (zah HT_.out (by kernel_rfl)) (fun _ _ _ h => h) (Or.inr ⟨by rfl, rfl⟩) ?_ ?_
         rotate_left
         ·
          simp only [Act.put, List.setIfInBounds_toArray, List.set_cons_zero, List.set_cons_succ, i64_w, i32_w]
          rfl
         refine pure_ (i := 28) (N := some 82) (v := ?_) (a' := ?_) #[true, true, true, true, true, true, true, true, true, true, true, true, true, true, true, true, true, true, true, true, true, true, true, true, true, true, true, true, true] rfl rfl (zah HT_.out (by kernel_rfl)) (fun _ _ _ h => h) (Or.inl ⟨by rfl, ?_⟩) ?_ ?_
         rotate_left
         ·
          intro w'
          go_simp
          with_reducible rfl
         rotate_left
         ·
          simp only [Act.put, List.setIfInBounds_toArray, List.set_cons_zero, List.set_cons_succ, i64_w, i32_w]
          rfl
         refine done_ (zby HT_.out (by kernel_rfl)) ?_
         go_wp2_with fail
         go_roundg (L.length - (i + 1))
         case measure => omega
         case rel =>
          exact ⟨i + 1, by first | rfl | (simp; done), by omega, ⟨zab (HB7r.out) HBa.out⟩, ⟨fun k hk hkl => by
           by_cases e : k = i
           ·
            subst e
            rw [hy]
            exact fun hh => hbe hh.1
           ·
            exact HNO.out k (by omega) hkl⟩⟩
       ·
        have HS4 := Aside0.mk (HS3.out.trans (if_neg (fun hh => by
         obtain ⟨y, hym, h1, h2⟩ := hh
         obtain ⟨k, hk, e⟩ := List.getElem_of_mem hym
         subst e
         exact HNO.out k (by omega) hk ⟨h1, h2⟩)))
        have i1 : decide ((i : Int) < (L.length : Int)) = false := decide_eq_false (by omega)
        by_cases hpp : g.f1 = q.f0
        ·
         have HS5 := Aside0.mk (HS4.out.trans (if_neg (fun hh => hh.1 hpp)))
         have d4 : (g.f1 != q.f0) = false := bne_eq_false_iff_eq.mpr hpp
         have HA := HS5
         have u0 : (wr.alloc (.cells #[.int .i64 g.f0, .int .i64 q.f0, .int .i64 g.f2, .int .i64 g.f3, .int .i64 g.f4] 84)).cell? ⟨w.heap.size, 0, none⟩ = some (Value.int .i64 (room : Int)) := (za (zac HXr.out (.cells #[.int .i64 g.f0, .int .i64 q.f0, .int .i64 g.f2, .int .i64 g.f3, .int .i64 g.f4] 84)) 0).trans rfl
         have u1 : (wr.alloc (.cells #[.int .i64 g.f0, .int .i64 q.f0, .int .i64 g.f2, .int .i64 g.f3, .int .i64 g.f4] 84)).cell? ⟨w.heap.size, 1, none⟩ = some (Value.int .i64 last) := (za (zac HXr.out (.cells #[.int .i64 g.f0, .int .i64 q.f0, .int .i64 g.f2, .int .i64 g.f3, .int .i64 g.f4] 84)) 1).trans rfl
         have u2 : (wr.alloc (.cells #[.int .i64 g.f0, .int .i64 q.f0, .int .i64 g.f2, .int .i64 g.f3, .int .i64 g.f4] 84)).cell? ⟨w.heap.size, 2, none⟩ = some (Value.slice (some ad) L.length c) := (za (zac HXr.out (.cells #[.int .i64 g.f0, .int .i64 q.f0, .int .i64 g.f2, .int .i64 g.f3, .int .i64 g.f4] 84)) 2).trans rfl
         have HBn := Aside0.mk (zad HBr.out (.cells #[.int .i64 g.f0, .int .i64 q.f0, .int .i64 g.f2, .int .i64 g.f3, .int .i64 g.f4] 84))
         have HYn := Aside0.mk (zac HYr.out (.cells #[.int .i64 g.f0, .int .i64 q.f0, .int .i64 g.f2, .int .i64 g.f3, .int .i64 g.f4] 84))
         have HVn := Aside0.mk (Kd.zbs HVr.out (.cells #[.int .i64 g.f0, .int .i64 q.f0, .int .i64 g.f2, .int .i64 g.f3, .int .i64 g.f4] 84))
         have hset := setp_f (by omega) (room : Int) last hj g.f0 q.f0 g.f2 g.f3 g.f4
         rw [set_setG HG.out.2.2.2.2.1 HJG.out (fun g => ⟨g.f0, q.f0, g.f2, g.f3, g.f4⟩)] at hset
         have HSet := Aside0.mk hset
         clear hset
         go_wp2_with fail
         go_at_call 59
         refine (za9.calls (room : Int) last (some ad) c L (j : Int) g.f0 q.f0 g.f2 g.f3 g.f4 (room : Int) last _ _ (Kd.za0 HC.out HBn.out) Hc.out HSet.out).mono ?_
         rintro e w5 ⟨u9, rfl, hu, hb5⟩
         obtain ⟨A', c', rfl⟩ := Kd.zbv hu
         have hV5 : Kd.V k84 84 w5 0 (fun k => wr.heap.size ≤ k) (.slice A' _ c') _ := Kd.R_V (Kd.zbn (Kd.zcd hu) (fun k hk => by have := hk.2.1; simp at this; omega))
         have hy5 := (hb5.block _ (zar HYn.out)).trans HYn.out
         have HB5 := Aside0.mk (zab HBn.out hb5)
         have y0 : w5.cell? ⟨w.heap.size + 1, 0, none⟩ = some (.int .i64 0) := (za hy5 0).trans rfl
         have y1 : w5.cell? ⟨w.heap.size + 1, 1, none⟩ = some (.int .i64 0) := (za hy5 1).trans rfl
         have y2 : w5.cell? ⟨w.heap.size + 1, 2, none⟩ = some (.slice none 0 0) := (za hy5 2).trans rfl
         have z0 := zaa hy5 0
         have z1 := zaa hy5 1
         have z2 := zaa hy5 2
         have HY5 := Aside0.mk hy5
         have HV5 := Aside0.mk hV5
         have hsz3 := HBr.out.size
         have hsy := zar HYr.out
         clear hu hb5 hy5 hV5
         go_wp2_with fail
         obtain ⟨r1, r2, r3⟩ := zbm (room := room) (last := last) (P := P) HB5.out HY5.out HV5.out (fun k hk => ⟨.inr (by omega), by omega⟩)
         rw [HA.out]
         exact bodyPost_ret (zav rfl _ _ (w.heap.size + 1) 44 #[.int .i64 (room : Int), .int .i64 last, .slice A' _ c'] (0, 0) _ rfl r1 Try.underlying44 rfl (by kernel_rfl)) rfl ⟨_, rfl, r2, r3⟩
        ·
         have d4 : (g.f1 != q.f0) = true := bne_iff_ne.mpr hpp
         obtain ⟨kf, hkf⟩ := (fan_f HG.out HMQ.out (room : Int) last).get
         have HKF := Aside0.mk hkf
         clear hkf
         go_wp2_with fail
         refine (zaw.calls kf (room : Int) last (some ad) c L _ _ wr (Kd.za0 HC.out HBr.out) Hc.out HKF.out).mono ?_
         rintro e w8 ⟨rfl, hb8⟩
         have hx8 := (hb8.block _ (zar HXr.out)).trans HXr.out
         have hy8 := (hb8.block _ (zar HYr.out)).trans HYr.out
         have HB8 := Aside0.mk (zab HBr.out hb8)
         have HX8 := Aside0.mk hx8
         have HY8 := Aside0.mk hy8
         have HV8 := Aside0.mk (Kd.za1 HVr.out hb8)
         have HQ8 : Aside0 (QS w8 (ad.add (j * 5)) g) := ⟨HQr.out.below hb8⟩
         clear q0 q1 q2 q3 q4
         obtain ⟨q0, q1, q2, q3, q4⟩ := HQ8.out
         clear x0 x1 x2 y0 y1 y2 z0 z1 z2 HXr HYr HVr HBr HQr
         have x0 : w8.cell? ⟨w.heap.size, 0, none⟩ = some (.int .i64 (room : Int)) := (za hx8 0).trans rfl
         have x1 : w8.cell? ⟨w.heap.size, 1, none⟩ = some (.int .i64 last) := (za hx8 1).trans rfl
         have x2 : w8.cell? ⟨w.heap.size, 2, none⟩ = some (.slice (some ad) L.length c) := (za hx8 2).trans rfl
         have y0 : w8.cell? ⟨w.heap.size + 1, 0, none⟩ = some (.int .i64 0) := (za hy8 0).trans rfl
         have y1 : w8.cell? ⟨w.heap.size + 1, 1, none⟩ = some (.int .i64 0) := (za hy8 1).trans rfl
         have y2 : w8.cell? ⟨w.heap.size + 1, 2, none⟩ = some (.slice none 0 0) := (za hy8 2).trans rfl
         have z0 := zaa hy8 0
         have z1 := zaa hy8 1
         have z2 := zaa hy8 2
         clear hb8 hx8 hy8
         by_cases hfan : kid L q.f0 + q.f3 = 32
         ·
          have HA := Aside0.mk (HS4.out.trans (if_pos ⟨hpp, hfan⟩))
          have d6 : (kid L q.f0 + q.f3 == 32) = true := beq_iff_eq.mpr hfan
          go_wp2_with fail
          obtain ⟨r1, r2, r3⟩ := zbm (room := room) (last := last) (P := P) HB8.out HY8.out HV8.out (fun k hk => ⟨.inl hk.1, by omega⟩)
          rw [HA.out]
          exact bodyPost_ret (zav rfl _ _ (w.heap.size + 1) 44 #[.int .i64 (room : Int), .int .i64 last, .slice (some ad) L.length c] (0, 0) _ rfl r1 Try.underlying44 rfl (by kernel_rfl)) rfl ⟨_, rfl, r2, r3⟩
         ·
          have HA := Aside0.mk (HS4.out.trans (if_neg (fun hh => hfan hh.2)))
          have d6 : (kid L q.f0 + q.f3 == 32) = false := beq_eq_false_iff_ne.mpr hfan
          have u0 : (w8.alloc (.cells #[.int .i64 g.f0, .int .i64 q.f0, .int .i64 g.f2, .int .i64 g.f3, .int .i64 g.f4] 84)).cell? ⟨w.heap.size, 0, none⟩ = some (Value.int .i64 (room : Int)) := (za (zac HX8.out (.cells #[.int .i64 g.f0, .int .i64 q.f0, .int .i64 g.f2, .int .i64 g.f3, .int .i64 g.f4] 84)) 0).trans rfl
          have u1 : (w8.alloc (.cells #[.int .i64 g.f0, .int .i64 q.f0, .int .i64 g.f2, .int .i64 g.f3, .int .i64 g.f4] 84)).cell? ⟨w.heap.size, 1, none⟩ = some (Value.int .i64 last) := (za (zac HX8.out (.cells #[.int .i64 g.f0, .int .i64 q.f0, .int .i64 g.f2, .int .i64 g.f3, .int .i64 g.f4] 84)) 1).trans rfl
          have u2 : (w8.alloc (.cells #[.int .i64 g.f0, .int .i64 q.f0, .int .i64 g.f2, .int .i64 g.f3, .int .i64 g.f4] 84)).cell? ⟨w.heap.size, 2, none⟩ = some (Value.slice (some ad) L.length c) := (za (zac HX8.out (.cells #[.int .i64 g.f0, .int .i64 q.f0, .int .i64 g.f2, .int .i64 g.f3, .int .i64 g.f4] 84)) 2).trans rfl
          have HBn := Aside0.mk (zad HB8.out (.cells #[.int .i64 g.f0, .int .i64 q.f0, .int .i64 g.f2, .int .i64 g.f3, .int .i64 g.f4] 84))
          have HYn := Aside0.mk (zac HY8.out (.cells #[.int .i64 g.f0, .int .i64 q.f0, .int .i64 g.f2, .int .i64 g.f3, .int .i64 g.f4] 84))
          have HVn := Aside0.mk (Kd.zbs HV8.out (.cells #[.int .i64 g.f0, .int .i64 q.f0, .int .i64 g.f2, .int .i64 g.f3, .int .i64 g.f4] 84))
          have hset := setp_f (by omega) (room : Int) last hj g.f0 q.f0 g.f2 g.f3 g.f4
          rw [set_setG HG.out.2.2.2.2.1 HJG.out (fun g => ⟨g.f0, q.f0, g.f2, g.f3, g.f4⟩)] at hset
          have HSet := Aside0.mk hset
          clear hset
          go_wp2_with fail
          go_at_call 59
          refine (za9.calls (room : Int) last (some ad) c L (j : Int) g.f0 q.f0 g.f2 g.f3 g.f4 (room : Int) last _ _ (Kd.za0 HC.out HBn.out) Hc.out HSet.out).mono ?_
          rintro e w5 ⟨u9, rfl, hu, hb5⟩
          obtain ⟨A', c', rfl⟩ := Kd.zbv hu
          have hV5 : Kd.V k84 84 w5 0 (fun k => w8.heap.size ≤ k) (.slice A' _ c') _ := Kd.R_V (Kd.zbn (Kd.zcd hu) (fun k hk => by have := hk.2.1; simp at this; omega))
          have hy5 := (hb5.block _ (zar HYn.out)).trans HYn.out
          have HB5 := Aside0.mk (zab HBn.out hb5)
          have y0 : w5.cell? ⟨w.heap.size + 1, 0, none⟩ = some (.int .i64 0) := (za hy5 0).trans rfl
          have y1 : w5.cell? ⟨w.heap.size + 1, 1, none⟩ = some (.int .i64 0) := (za hy5 1).trans rfl
          have y2 : w5.cell? ⟨w.heap.size + 1, 2, none⟩ = some (.slice none 0 0) := (za hy5 2).trans rfl
          have z0 := zaa hy5 0
          have z1 := zaa hy5 1
          have z2 := zaa hy5 2
          have HY5 := Aside0.mk hy5
          have HV5 := Aside0.mk hV5
          have hsz3 := HB8.out.size
          have hsy := zar HY8.out
          clear hu hb5 hy5 hV5
          go_wp2_with fail
          obtain ⟨r1, r2, r3⟩ := zbm (room := room) (last := last) (P := P) HB5.out HY5.out HV5.out (fun k hk => ⟨.inr (by omega), by omega⟩)
          rw [HA.out]
          exact bodyPost_ret (zav rfl _ _ (w.heap.size + 1) 44 #[.int .i64 (room : Int), .int .i64 last, .slice A' _ c'] (0, 0) _ rfl r1 Try.underlying44 rfl (by kernel_rfl)) rfl ⟨_, rfl, r2, r3⟩
    ·
     have HA := Aside0.mk (HS1.out.trans (if_pos hrr))
     have d2 : (rootG L g.f0 != rootG L q.f0) = true := bne_iff_ne.mpr hrr
     go_wp2_with fail
     obtain ⟨r1, r2, r3⟩ := zbm (room := room) (last := last) (P := P) HB6.out HY6.out HV6.out (fun k hk => ⟨.inl hk.1, by omega⟩)
     rw [HA.out]
     exact bodyPost_ret (zav rfl _ _ (w.heap.size + 1) 44 #[.int .i64 (room : Int), .int .i64 last, .slice (some ad) L.length c] (0, 0) _ rfl r1 Try.underlying44 rfl (by kernel_rfl)) rfl ⟨_, rfl, r2, r3⟩
end Go.Proofs.Ytlmjdchcgfpngaa.P
end
section
namespace Go.Proofs.Ytlmjdchcgfpngaa.P
open Go.RowKit Go.Proofs.YtlmjdchcgfpngaaW.PrintWords Go.Proofs.YtlmjdchcgfpngaaW.PrintLast Go.Proofs.YtlmjdchcgfpngaaW.PrintMore
attribute [local go_sem] zbo zbq zbz zbx zbi zbg zbr zbp
def ForS (S : Nat → Prop) (w : World) (fb n room : Nat) (last : Int) (L : List S84) : Prop := ∃ tb ts m nb, FAt w fb tb ts m nb n room last L ∧ (∀ k, FS fb tb ts m nb L k → S k) ∧ ∀ k, S k → k < w.heap.size
def StepS (S : Nat → Prop) (w w' : World) (fb n room : Nat) (last : Int) (L : List S84) : Prop := ∃ S' : Nat → Prop, ForS S' w' fb n room last L ∧ (∀ k, S k → S' k) ∧ (∀ k, S' k → S k ∨ w.heap.size ≤ k) ∧ Wr S w w'
section
variable {S : Nat → Prop} {w w' : World} {fb n room : Nat} {last : Int} {L : List S84}
theorem ForS.keep (h : ForS S w fb n room last L) (hb : Below w.heap.size w w') : ForS S w' fb n room last L := by
 obtain ⟨tb, ts, m, nb, h1, h2, h3⟩ := h
 exact ⟨tb, ts, m, nb, h1.keep hb, h2, fun k hk => Nat.lt_of_lt_of_le (h3 k hk) hb.size⟩
theorem ForS.blocks (h : ForS S w fb n room last L) (he : ∀ k, S k → w'.heap[k]? = w.heap[k]?) (hs : w.heap.size ≤ w'.heap.size) : ForS S w' fb n room last L := by
 obtain ⟨tb, ts, m, nb, h1, h2, h3⟩ := h
 exact ⟨tb, ts, m, nb, h1.blocks fun k hk => he k (h2 k hk), h2, fun k hk => Nat.lt_of_lt_of_le (h3 k hk) hs⟩
theorem ForS.other (h : ForS S w fb n room last L) {p : Addr} (hp : ¬ S p.block) (u : Value) : ForS S (w.setCell p u) fb n room last L :=
 h.blocks (fun k hk => Below.heap_setCell w p u k fun e => hp (e ▸ hk)) (by simp)
theorem ForS.drew (h : ForS S w fb n room last L) : ForS S w.drew fb n room last L := h
theorem ForS.up {n' : Nat} (h : ForS S w fb n room last L) (hn : n ≤ n') : ForS S w fb n' room last L := by
 obtain ⟨tb, ts, m, nb, h1, h2, h3⟩ := h
 exact ⟨tb, ts, m, nb, h1.mono hn, h2, h3⟩
theorem ForS.forB (h : ForS S w fb n room last L) : ForB 0 w fb n room last L := by
 obtain ⟨tb, ts, m, nb, h1, _, _⟩ := h
 exact ⟨tb, ts, m, nb, h1, fun _ _ => Nat.zero_le _, Nat.zero_le _⟩
theorem ForS.step {tb ts m : Nat} {nb nb' : Int → Nat} {L' : List S84} {last' : Int} {n' : Nat} (h2 : ∀ k, FS fb tb ts m nb L k → S k) (h3 : ∀ k, S k → k < w.heap.size) (hF : FAt w' fb tb ts m nb' n' room last' L') (hW : Wr (FS fb tb ts m nb L) w w') (hS : ∀ k, FS fb tb ts m nb' L' k → FS fb tb ts m nb L k ∨ w.heap.size ≤ k) : StepS S w w' fb n' room last' L' := by
 refine ⟨fun k => S k ∨ (w.heap.size ≤ k ∧ FS fb tb ts m nb' L' k), ⟨tb, ts, m, nb', hF, fun k hk => (hS k hk).elim (fun h => .inl (h2 k h)) (fun h => .inr ⟨h, hk⟩), fun k hk => hk.elim (fun h => Nat.lt_of_lt_of_le (h3 k h) hW.size) fun h => hF.lt h.2⟩, fun k hk => .inl hk, fun k hk => hk.elim .inl fun h => .inr h.1, hW.mono h2⟩
theorem StepS.of_same {tb ts m : Nat} {nb : Int → Nat} {L' : List S84} (h2 : ∀ k, FS fb tb ts m nb L k → S k) (h3 : ∀ k, S k → k < w.heap.size) (hid : L'.map (·.f0) = L.map (·.f0)) (hF : FAt w' fb tb ts m nb n room last L') (hW : Wr (FS fb tb ts m nb L) w w') : StepS S w w' fb n room last L' :=
 ForS.step h2 h3 hF hW fun k hk => .inl (FS.same hid hk)
theorem StepS.up {n' : Nat} (h : StepS S w w' fb n room last L) (hn : n ≤ n') : StepS S w w' fb n' room last L := by
 obtain ⟨S', h1, h2⟩ := h
 exact ⟨S', h1.up hn, h2⟩
theorem forS_New (m : Nat) (h1 : 1 ≤ m) (h2 : m ≤ 64) (w : World) :
  Calls Try.prog 9 #[.int .i64 (m : Int)] w fun e w' => ∃ fb, e = .returned (.tuple #[.pointer (some ⟨fb, 0, none⟩), .int .i64 0]) ∧ (∃ S, ForS S w' fb 0 m 0 [] ∧ ∀ k, S k → w.heap.size ≤ k) ∧ Below w.heap.size w w' := by
 refine (forest_New_ok m h1 h2 w).mono ?_
 rintro e w' ⟨fb, tb, ts, mb, rfl, b1, b2, b3, b4, hF, hW⟩
 refine ⟨fb, rfl, ⟨FS fb tb ts mb (fun _ => 0) [], ⟨tb, ts, mb, _, hF, fun k hk => hk, fun k hk => hF.lt hk⟩, ?_⟩, hW⟩
 rintro k (rfl | rfl | rfl | rfl | ⟨g, hg, _⟩)
 ·
  exact b1
 ·
  exact b2
 ·
  exact b3
 ·
  exact b4
 ·
  cases hg
theorem forS_Root (h : ForS S w fb n room last L) (hG : GoodF room last L) (hnn : n < 1000000) :
  Calls Try.prog 10 #[.pointer (some ⟨fb, 0, none⟩)] w fun e w' => e = .returned (.tuple #[.int .i64 (rootF room last L).2.2.1, .int .i64 (rootF room last L).2.2.2]) ∧ StepS S w w' fb (n + 1) room (rootF room last L).1 (rootF room last L).2.1 := by
 obtain ⟨tb, ts, m, nb, h1, h2, h3⟩ := h
 refine (forest_Root_ok h1 hG hnn).mono ?_
 rintro e w' ⟨nb', rfl, hF, hW, hS⟩
 exact ⟨rfl, ForS.step h2 h3 hF hW hS⟩
theorem forS_Add (h : ForS S w fb n room last L) (hG : GoodF room last L) (hnn : n < 1000000) {p : Int} (wt : Int) (wf : (Lit.int .i64 p).wf = true) :
  Calls Try.prog 11 #[.pointer (some ⟨fb, 0, none⟩), .int .i64 p, .int .i64 wt] w fun e w' => e = .returned (.tuple #[.int .i64 (addF room last L p wt).2.2.1, .int .i64 (addF room last L p wt).2.2.2]) ∧ StepS S w w' fb (n + 1) room (addF room last L p wt).1 (addF room last L p wt).2.1 := by
 obtain ⟨tb, ts, m, nb, h1, h2, h3⟩ := h
 refine (forest_Add_ok h1 hG hnn wt wf).mono ?_
 rintro e w' ⟨nb', rfl, hF, hW, hS⟩
 exact ⟨rfl, ForS.step h2 h3 hF hW hS⟩
theorem forS_Drop (h : ForS S w fb n room last L) (hG : GoodF room last L) {id : Int} (wf : (Lit.int .i64 id).wf = true) :
  Calls Try.prog 34 #[.pointer (some ⟨fb, 0, none⟩), .int .i64 id] w fun e w' => e = .returned (.int .i64 (drpF L id).2) ∧ StepS S w w' fb n room last (drpF L id).1 := by
 obtain ⟨tb, ts, m, nb, h1, h2, h3⟩ := h
 refine (forest_Drop_ok h1 hG wf).mono ?_
 rintro e w' ⟨rfl, hF, hW⟩
 refine ⟨rfl, ForS.step h2 h3 hF hW fun k hk => .inl ?_⟩
 rcases hk with hk | hk | hk | hk | ⟨g, hg, rfl⟩
 ·
  exact .inl hk
 ·
  exact .inr (.inl hk)
 ·
  exact .inr (.inr (.inl hk))
 ·
  exact .inr (.inr (.inr (.inl hk)))
 ·
  exact .inr (.inr (.inr (.inr ⟨g, drpF_ids L id g hg, rfl⟩)))
theorem forS_Move (h : ForS S w fb n room last L) (hG : GoodF room last L) {id p : Int} (wf : (Lit.int .i64 id).wf = true) (wf2 : (Lit.int .i64 p).wf = true) :
  Calls Try.prog 12 #[.pointer (some ⟨fb, 0, none⟩), .int .i64 id, .int .i64 p] w fun e w' => e = .returned (.int .i64 (movF L id p).2) ∧ StepS S w w' fb n room last (movF L id p).1 := by
 obtain ⟨tb, ts, m, nb, h1, h2, h3⟩ := h
 refine (forest_Move_ok h1 hG wf wf2).mono ?_
 rintro e w' ⟨rfl, hF, hW⟩
 exact ⟨rfl, StepS.of_same h2 h3 (movF_ids L id p) hF hW⟩
theorem forS_Weight (h : ForS S w fb n room last L) (hG : GoodF room last L) {id : Int} (wt : Int) (wf : (Lit.int .i64 id).wf = true) :
  Calls Try.prog 37 #[.pointer (some ⟨fb, 0, none⟩), .int .i64 id, .int .i64 wt] w fun e w' => e = .returned (.int .i64 (wgtF L id wt).2) ∧ StepS S w w' fb n room last (wgtF L id wt).1 := by
 obtain ⟨tb, ts, m, nb, h1, h2, h3⟩ := h
 refine (weight_ok h1 hG wt wf).mono ?_
 rintro e w' ⟨rfl, hF, hW⟩
 exact ⟨rfl, StepS.of_same h2 h3 (wgtF_ids L id wt) hF hW⟩
theorem forS_Join (h : ForS S w fb n room last L) (hG : GoodF room last L) {id : Int} (wf : (Lit.int .i64 id).wf = true) :
  Calls Try.prog 15 #[.pointer (some ⟨fb, 0, none⟩), .int .i64 id] w fun e w' => e = .returned (.int .i64 (cntF L id 1 0).2) ∧ StepS S w w' fb n room last (cntF L id 1 0).1 := by
 obtain ⟨tb, ts, m, nb, h1, h2, h3⟩ := h
 refine (join_ok h1 hG wf).mono ?_
 rintro e w' ⟨rfl, hF, hW⟩
 exact ⟨rfl, StepS.of_same h2 h3 (cntF_ids _ _ _ _) hF hW⟩
theorem forS_Leave (h : ForS S w fb n room last L) (hG : GoodF room last L) {id : Int} (wf : (Lit.int .i64 id).wf = true) :
  Calls Try.prog 40 #[.pointer (some ⟨fb, 0, none⟩), .int .i64 id] w fun e w' => e = .returned (.int .i64 (cntF L id (-1) 0).2) ∧ StepS S w w' fb n room last (cntF L id (-1) 0).1 := by
 obtain ⟨tb, ts, m, nb, h1, h2, h3⟩ := h
 refine (leave_ok h1 hG wf).mono ?_
 rintro e w' ⟨rfl, hF, hW⟩
 exact ⟨rfl, StepS.of_same h2 h3 (cntF_ids _ _ _ _) hF hW⟩
theorem forS_Wake (h : ForS S w fb n room last L) (hG : GoodF room last L) {id : Int} (wf : (Lit.int .i64 id).wf = true) :
  Calls Try.prog 41 #[.pointer (some ⟨fb, 0, none⟩), .int .i64 id] w fun e w' => e = .returned (.int .i64 (cntF L id 0 1).2) ∧ StepS S w w' fb n room last (cntF L id 0 1).1 := by
 obtain ⟨tb, ts, m, nb, h1, h2, h3⟩ := h
 refine (wake_ok h1 hG wf).mono ?_
 rintro e w' ⟨rfl, hF, hW⟩
 exact ⟨rfl, StepS.of_same h2 h3 (cntF_ids _ _ _ _) hF hW⟩
theorem forS_Sleep (h : ForS S w fb n room last L) (hG : GoodF room last L) {id : Int} (wf : (Lit.int .i64 id).wf = true) :
  Calls Try.prog 42 #[.pointer (some ⟨fb, 0, none⟩), .int .i64 id] w fun e w' => e = .returned (.int .i64 (cntF L id 0 (-1)).2) ∧ StepS S w w' fb n room last (cntF L id 0 (-1)).1 := by
 obtain ⟨tb, ts, m, nb, h1, h2, h3⟩ := h
 refine (sleep_ok h1 hG wf).mono ?_
 rintro e w' ⟨rfl, hF, hW⟩
 exact ⟨rfl, StepS.of_same h2 h3 (cntF_ids _ _ _ _) hF hW⟩
end
end Go.Proofs.Ytlmjdchcgfpngaa.P
end
