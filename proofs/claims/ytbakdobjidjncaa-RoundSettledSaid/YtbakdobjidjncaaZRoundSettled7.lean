-- Written by a program of this session (wip/tools/shake.py) out of its own texts and of the kit's printed ones; not trusted: Lean checks it.
import Derived.Test.YtbakdobjidjncaaZRoundSettled6
set_option maxHeartbeats 8000000
set_option maxRecDepth 100000
set_option linter.unusedVariables false
set_option linter.unusedSimpArgs false
section
namespace Go.Proofs.Ytbakdobjidjncaa.P
open Go.RowKit Go.Proofs.YtbakdobjidjncaaW.PrintWords Go.Proofs.YtbakdobjidjncaaW.PrintLast Go.Proofs.YtbakdobjidjncaaW.PrintMore
attribute [local go_sem] zbv zbu max_two min_two zbn zbo zby zbw
theorem Ev.pos {α : Type} {c : Prop} [Decidable c] {F G : Nat → Option α} {r : α} (hc : c) (h : Ev F r) : Ev (fun k => if c then F k else G k) r := Ev.congr (fun k => if_pos hc) h
theorem Ev.neg {α : Type} {c : Prop} [Decidable c] {F G : Nat → Option α} {r : α} (hc : ¬ c) (h : Ev G r) : Ev (fun k => if c then F k else G k) r := Ev.congr (fun k => if_neg hc) h
theorem Ints_same (l : List Int) (hl : l.length < 1000000) : Ev (fun k => zaq.f k l l) true := by
 have key : ∀ q i : Nat, i + q = l.length → Ev (fun k => zaq.l0 k l l (l.length : Int) (i : Int)) true := by
  intro q
  induction q with
  | zero =>
   intro i hi
   refine Ev.step (fun _ => zaq.l0.eq_2 ..) ?_
   refine Ev.neg (by omega) ?_
   exact Ev.of (fun _ => rfl)
  | succ q ih =>
   intro i hi
   refine Ev.step (fun _ => zaq.l0.eq_2 ..) ?_
   refine Ev.pos (by omega) (Ev.pos (by omega) (Ev.pos (by omega) (Ev.pos (by omega) (Ev.pos rfl ?_))))
   rw [show wrap64 ((i : Int) + 1) = ((i + 1 : Nat) : Int) by rw [w64s (by omega) (by omega)]; omega]
   exact ih (i + 1) (by omega)
 unfold zaq.f
 refine Ev.pos rfl ?_
 exact key l.length 0 (by omega)
theorem do_4 {w : World} {P : Nat → Prop} {v : Value} {b m n : Nat} {low : Int} {L : List S86} (hb : Bk w b m n low L) (hr : RefAt w P v low L) (hP : ∀ k, P k → k ≠ b ∧ k ≠ m) (hG : GoodB low L) (hlow : 0 < low ∧ low < 900000) (hL : L.length < 900000) (hn : n < 900000) (k id tag left slice : Int) (hk : k.tmod 5 = 4) :
  Calls Try.prog 21 #[.pointer (some ⟨b, 0, none⟩), v, .agg #[.int .u8 k, .int .i64 id, .int .i64 tag, .int .i64 left, .int .i64 slice]] w fun e w' => ∃ v', e = .returned (.tuple #[v', .bool true]) ∧ Bk w' b m n (settleF 2 low L).1 (settleF 2 low L).2 ∧ RefAt w' (fun k => P k ∨ w.heap.size ≤ k) v' (settleF 2 low L).1 (settleF 2 low L).2 ∧ Wrote b m w w' := by
 have CB := Aside0.mk (fun (w : World) (P : Nat → Prop) (v : Value) (h : RefAt w P v low L) => ref_Settle h hG hlow (by omega))
 have CA := Aside0.mk (fun (w : World) (h : Bk w b m n low L) => book_Settle_ok h hG (by omega) (by omega) (by omega))
 have hsl := spent_len low L
 obtain ⟨ki, hki⟩ := (Ints_same (spent low L) (by omega)).get
 have HKI := Aside0.mk hki
 generalize spent low L = sp at CA CB HKI hsl ⊢
 generalize settleF 2 low L = F at CA CB ⊢
 obtain ⟨low', L'⟩ := F
 dsimp only at CA CB ⊢
 have d0 : (k.tmod 5 == 0) = false := beq_eq_false_iff_ne.mpr (by omega)
 have d1 : (k.tmod 5 == 1) = false := beq_eq_false_iff_ne.mpr (by omega)
 have d2 : (k.tmod 5 == 2) = false := beq_eq_false_iff_ne.mpr (by omega)
 have d3 : (k.tmod 5 == 3) = false := beq_eq_false_iff_ne.mpr (by omega)
 have HB := Aside0.mk hb
 have HR := Aside0.mk hr
 have HP := Aside0.mk hP
 obtain ⟨A, c, rfl, hv⟩ := hr
 obtain ⟨hbl, hml⟩ := BookAt.lt hb
 clear hk hb hG hv hP hki
 go_enter Try.func21, Try.ntmps21
 go_wp2_with fail
 have hX := Boxes3.at w low A L.length c k id tag left slice
 generalize ((w.alloc (.cells #[.int .i64 low, .slice A L.length c] 39)).alloc (.cells #[.int .u8 k, .int .i64 id, .int .i64 tag, .int .i64 left, .int .i64 slice] 42)).alloc (.cells #[.int .i64 0, .slice none 0 0] 39) = W2 at hX ⊢
 have HX := Aside0.mk hX
 have x0 : W2.cell? ⟨w.heap.size, 0, none⟩ = some (.int .i64 low) := (za hX.2.2.1 0).trans rfl
 have x1 : W2.cell? ⟨w.heap.size, 1, none⟩ = some (.slice A L.length c) := (za hX.2.2.1 1).trans rfl
 clear hX
 go_wp2_with fail
 have hX := HX.out
 go_at_call 22
 refine (CB.out W2 (fun k => P k ∧ k < w.heap.size) _ (HR.out.old hX.1)).mono ?_
 rintro e w3 ⟨v', u, rfl, hr3, hu3, hb3⟩
 have HB3 := Aside0.mk (zai hX.1 hb3)
 obtain ⟨A', c', rfl, hv3⟩ := hr3
 obtain ⟨A2, c2, rfl⟩ := Kd.zbr hu3
 obtain ⟨_, hx3, he3⟩ := hX.keep hb3
 have hsz3 : w.heap.size + 3 ≤ w3.heap.size := by rw [← hX.2.1]; exact hb3.size
 have hsz4 : W2.heap.size ≤ (w3.alloc (.cells #[.int .i64 low', .slice A' L'.length c'] 39)).heap.size := Nat.le_trans hb3.size (by simp)
 have hn4 := zau w3 (.cells #[.int .i64 low', .slice A' L'.length c'] 39)
 have he4 := zac he3 (.cells #[.int .i64 low', .slice A' L'.length c'] 39)
 have HB4 := Aside0.mk (zae HB3.out (.cells #[.int .i64 low', .slice A' L'.length c'] 39))
 have HV4 := Aside0.mk (Kd.zb hv3 (.cells #[.int .i64 low', .slice A' L'.length c'] 39))
 have HU4 := Aside0.mk (Kd.zb (Kd.R_V (base' := 0) hu3) (.cells #[.int .i64 low', .slice A' L'.length c'] 39))
 clear hX hb3 hv3 hu3 hx3 he3 x0 x1
 go_wp2_with fail
 generalize w3.alloc (.cells #[.int .i64 low', .slice A' L'.length c'] 39) = W4 at hsz4 hn4 he4 HB4 HV4 HU4 ⊢
 have e0 : W4.cell? ⟨w.heap.size + 2, 0, none⟩ = some (.int .i64 0) := (za he4 0).trans rfl
 have e1 : W4.cell? ⟨w.heap.size + 2, 1, none⟩ = some (.slice none 0 0) := (za he4 1).trans rfl
 have q0 := zaa he4 0
 have q1 := zaa he4 1
 have n0 : W4.cell? ⟨w3.heap.size, 0, none⟩ = some (.int .i64 low') := (za hn4 0).trans rfl
 have n1 : W4.cell? ⟨w3.heap.size, 1, none⟩ = some (.slice A' L'.length c') := (za hn4 1).trans rfl
 have HN4 := Aside0.mk hn4
 have HE4 := Aside0.mk he4
 have HK4 : Aside0 (Bk W4 b m n low L) := ⟨Bk.keep HB.out HB4.out⟩
 clear hn4 he4
 have HSK : Aside0 (∀ W, Same2 w3.heap.size w3.heap.size W4 W → W.cell? ⟨w3.heap.size, 0, none⟩ = some (.int .i64 low') ∧ W.cell? ⟨w3.heap.size, 1, none⟩ = some (.slice A' L'.length c')) := ⟨fun W h => by
  have h2 := h.2.trans HN4.out
  exact ⟨(za h2 0).trans rfl, (za h2 1).trans rfl⟩⟩
 have hn2 : w3.heap.size ≠ w.heap.size + 2 := by omega
 have hszw := HX.out.2.1
 go_region_held3 (fun W => W.cell? ⟨w3.heap.size, 0, none⟩ = some (.int .i64 low') ∧ W.cell? ⟨w3.heap.size, 1, none⟩ = some (.slice A' L'.length c')) (((with_reducible refine HSK.out _ ?_); (repeat (with_reducible refine Same2.set ?_ hn2 hn2 _)); first | (with_reducible exact HS6.out) | (with_reducible exact HS5.out) | (with_reducible exact Same2.drew _ _ _))) (first | (go_at_call 18; refine (CA.out W4.drew HK4.out).mono ?_; rintro e w5 ⟨v5, rfl, hi5, hk5, hw5⟩; obtain ⟨A5, c5, rfl, hc5, hC5⟩ := hi5; have HK5 := Aside0.mk hk5; have HW5 := Aside0.mk hw5; have Hc5 := Aside0.mk hc5; have HC5 := Aside0.mk hC5; have HU5 := Aside0.mk (Kd.zay (Kd.V_step (Kd.zba HU4.out) (fun k hk hlt => hw5.1.2 k hlt (by omega) (by omega)))); have HS5 : Aside0 (Same2 w3.heap.size w3.heap.size W4 w5) := ⟨⟨hw5.1.2 _ (zak HN4.out) (by omega) (by omega), hw5.1.2 _ (zak HN4.out) (by omega) (by omega)⟩⟩; have HE5 := Aside0.mk ((hw5.1.2 _ (zak HE4.out) (by omega) (by omega)).trans HE4.out); clear hk5 hw5 hc5 hC5) | (go_at_call 50; refine (zaq.calls ki A5 c5 sp A2 c2 sp true _ HC5.out Hc5.out HU5.out.2.2 HU5.out.2.1 HKI.out).mono ?_; rintro e w6 ⟨rfl, hw6⟩; have HB6 := Aside0.mk hw6.below; have he6 := (HB6.out.block _ (zak HE5.out)).trans HE5.out; have HE6 := Aside0.mk he6; have HS6 : Aside0 (Same2 w3.heap.size w3.heap.size W4 w6) := ⟨⟨(HB6.out.block _ (Nat.lt_of_lt_of_le (zak HN4.out) HW5.out.1.1)).trans HS5.out.1, (HB6.out.block _ (Nat.lt_of_lt_of_le (zak HN4.out) HW5.out.1.1)).trans HS5.out.2⟩⟩; have y0 : w6.cell? ⟨w.heap.size + 2, 0, none⟩ = some (.int .i64 0) := (za he6 0).trans rfl; have y1 : w6.cell? ⟨w.heap.size + 2, 1, none⟩ = some (.slice none 0 0) := (za he6 1).trans rfl; have z0 := zaa he6 0; have z1 := zaa he6 1; clear hw6 he6))
 all_goals
  go_wp2
 all_goals
  obtain ⟨r1, r2, ⟨A9, c9, r3, r5⟩, r4⟩ := do_end (x1 := .int .i64 0) (x2 := .slice none 0 0) HB4.out (Nat.le_of_eq HX.out.2.1.symm) hsz4 hbl hml HP.out (Bk.keep HK5.out HB6.out) (HW5.out.step HB6.out (Nat.lt_of_lt_of_le (Nat.lt_of_lt_of_le hbl HB4.out.size) HW5.out.1.1)) HE6.out HV4.out
  exact bodyPost_ret (za4 rfl _ _ (w.heap.size + 2) 39 #[.int .i64 low', .slice A' L'.length c'] (0, 0) _ rfl r1 Try.underlying39 rfl (by kernel_rfl)) rfl ⟨_, rfl, r2, ⟨A9, c9, r3, r5⟩, r4⟩
theorem do_ok {w : World} {P : Nat → Prop} {v : Value} {b m n : Nat} {low : Int} {L : List S86} (hb : Bk w b m n low L) (hr : RefAt w P v low L) (hP : ∀ k, P k → k ≠ b ∧ k ≠ m) (hG : GoodB low L) (hlow : 0 < low ∧ low < 900000) (hL : L.length < 900000) (hn : n < 900000) (k id tag left slice : Int) (hk : 0 ≤ k) (wf : (Lit.int .i64 id).wf = true) :
  Calls Try.prog 21 #[.pointer (some ⟨b, 0, none⟩), v, .agg #[.int .u8 k, .int .i64 id, .int .i64 tag, .int .i64 left, .int .i64 slice]] w fun e w' => ∃ v' low' L', e = .returned (.tuple #[v', .bool true]) ∧ Bk w' b m (n + 1) low' L' ∧ RefAt w' (fun k => P k ∨ w.heap.size ≤ k) v' low' L' ∧ GoodB low' L' ∧ low ≤ low' ∧ low' ≤ low + 2 ∧ L'.length ≤ L.length + 1 ∧ Wrote b m w w' := by
 have hm : k.tmod 5 = k % 5 := Int.tmod_eq_emod_of_nonneg hk
 have hc : k.tmod 5 = 0 ∨ k.tmod 5 = 1 ∨ k.tmod 5 = 2 ∨ k.tmod 5 = 3 ∨ k.tmod 5 = 4 := by omega
 rcases hc with hc | hc | hc | hc | hc
 ·
  refine (do_0 hb hr hP hG hlow hL hn k id tag left slice hc wf).mono ?_
  rintro e w' ⟨v', L', rfl, h1, h2, h3, h4, h5⟩
  exact ⟨v', low, L', rfl, h1, h2, h3, Int.le_refl _, by omega, h4, h5⟩
 ·
  refine (do_1 hb hr hP hG hlow hL hn k id tag left slice hc wf).mono ?_
  rintro e w' ⟨v', L', rfl, h1, h2, h3, h4, h5⟩
  exact ⟨v', low, L', rfl, h1, h2, h3, Int.le_refl _, by omega, h4, h5⟩
 ·
  refine (do_2 hb hr hP hG hlow hL hn k id tag left slice hc wf).mono ?_
  rintro e w' ⟨v', L', rfl, h1, h2, h3, h4, h5⟩
  exact ⟨v', low, L', rfl, h1, h2, h3, Int.le_refl _, by omega, h4, h5⟩
 ·
  refine (do_3 hb hr hP hG hlow hL hn k id tag left slice hc wf).mono ?_
  rintro e w' ⟨v', L', rfl, h1, h2, h3, h4, h5⟩
  exact ⟨v', low, L', rfl, h1, h2, h3, Int.le_refl _, by omega, h4, h5⟩
 ·
  refine (do_4 hb hr hP hG hlow hL hn k id tag left slice hc).mono ?_
  rintro e w' ⟨v', rfl, h1, h2, h5⟩
  obtain ⟨g1, _, g3, g4⟩ := hG.settle
  exact ⟨v', _, _, rfl, h1.up (Nat.le_succ _), h2, g1, g3, g4, by rw [settle_len]; omega, h5⟩
theorem add_block5 (ad : Addr) (i : Nat) : (ad.add i).block = ad.block := by
 unfold Addr.add
 split <;> rfl
def Acts5At (w : World) (A : Option Addr) (n : Nat) (f : Nat → Int × Int × Int × Int × Int) : Prop :=
 ∀ i, i < n → ∃ ad : Addr, A = some ad ∧ ad.block < w.heap.size ∧ w.cell? (ad.add (i * 5)) = some (.int .u8 (f i).1) ∧
  w.cell? ⟨(ad.add (i * 5)).block, (ad.add (i * 5)).off + 1, none⟩ = some (.int .i64 (f i).2.1) ∧ w.cell? ⟨(ad.add (i * 5)).block, (ad.add (i * 5)).off + 2, none⟩ = some (.int .i64 (f i).2.2.1) ∧
  w.cell? ⟨(ad.add (i * 5)).block, (ad.add (i * 5)).off + 3, none⟩ = some (.int .i64 (f i).2.2.2.1) ∧ w.cell? ⟨(ad.add (i * 5)).block, (ad.add (i * 5)).off + 4, none⟩ = some (.int .i64 (f i).2.2.2.2) ∧
  0 ≤ (f i).1 ∧ (Lit.int .i64 (f i).2.1).wf = true
theorem Acts5At.below {w w' : World} {A : Option Addr} {n : Nat} {f : Nat → Int × Int × Int × Int × Int} (h : Acts5At w A n f) (hb : Below w.heap.size w w') : Acts5At w' A n f := by
 intro i hi
 obtain ⟨ad, e, h1, h2, h3, h4, h5, h6, h7⟩ := h i hi
 have hl : (ad.add (i * 5)).block < w.heap.size := by rw [add_block5]; exact h1
 exact ⟨ad, e, Nat.lt_of_lt_of_le h1 hb.size, (hb.cell hl).trans h2, (hb.cell (p := ⟨(ad.add (i * 5)).block, _, none⟩) hl).trans h3, (hb.cell (p := ⟨(ad.add (i * 5)).block, _, none⟩) hl).trans h4, (hb.cell (p := ⟨(ad.add (i * 5)).block, _, none⟩) hl).trans h5, (hb.cell (p := ⟨(ad.add (i * 5)).block, _, none⟩) hl).trans h6, h7⟩
def RefBox (w : World) (q r : Nat) (A : Option Addr) (c : Nat) (low : Int) (L : List S86) : Prop :=
 w.heap[r]? = some (.cells #[.int .i64 low, .slice A L.length c] 39) ∧ RefAt w (fun k => q ≤ k ∧ k ≠ r) (.agg #[.int .i64 low, .slice A L.length c]) low L
theorem RefBox.below {w w' : World} {q r : Nat} {A : Option Addr} {c : Nat} {low : Int} {L : List S86} (h : RefBox w q r A c low L) (hb : Below w.heap.size w w') : RefBox w' q r A c low L :=
 ⟨(hb.block r (zak h.1)).trans h.1, h.2.below hb⟩
theorem RefBox.only {w w' : World} {q r b m : Nat} {A : Option Addr} {c : Nat} {low : Int} {L : List S86} (h : RefBox w q r A c low L) (ho : Only b m w w') (h1 : b < q) (h2 : m < q) (h3 : q ≤ r) : RefBox w' q r A c low L :=
 ⟨(ho.2 r (zak h.1) (by omega) (by omega)).trans h.1, h.2.only ho fun k hk => by omega⟩
theorem RefBox.facts {w : World} {q r : Nat} {A : Option Addr} {c : Nat} {low : Int} {L : List S86} (h : RefBox w q r A c low L) :
  w.cell? ⟨r, 0, none⟩ = some (.int .i64 low) ∧ w.cell? ⟨r, 1, none⟩ = some (.slice A L.length c) ∧ w.frozen? ⟨r, 0, none⟩ = false ∧ w.frozen? ⟨r, 1, none⟩ = false :=
 ⟨(za h.1 0).trans rfl, (za h.1 1).trans rfl, zaa h.1 0, zaa h.1 1⟩
theorem RefBox.put {w : World} {q r : Nat} {A : Option Addr} {c : Nat} {low : Int} {L : List S86} {x0 x1 : Value} (hb : w.heap[r]? = some (.cells #[x0, x1] 39)) (h : RefAt w (fun k => q ≤ k ∧ k ≠ r) (.agg #[.int .i64 low, .slice A L.length c]) low L) :
  RefBox ((w.setCell ⟨r, 0, none⟩ (.int .i64 low)).setCell ⟨r, 1, none⟩ (.slice A L.length c)) q r A c low L := by
 refine ⟨zal (zal hb 0 _ rfl) 1 _ rfl, ?_⟩
 obtain ⟨A', c', e, hv⟩ := h
 exact ⟨A', c', e, Kd.V_far (Kd.V_far hv (fun k hk => hk.2) _) (fun k hk => hk.2) _⟩
theorem RefBox.start {w1 w2 : World} {A : Option Addr} {c : Nat} (h : Kd.R k86 86 w2 w1.heap.size (fun _ => True) (.slice A 0 c) []) :
  RefBox (w2.alloc (.cells #[.int .i64 1, .slice A 0 c] 39)) w1.heap.size w2.heap.size A c 1 [] :=
 ⟨zau w2 _, A, c, rfl, Kd.za2 (Kd.zb (Kd.R_V (Kd.R_bound h)) _) (fun k hk => ⟨hk.2.1, by have := hk.2.2.1; omega⟩)⟩
theorem zbj {w : World} {b m n : Nat} {low : Int} {g : Int → Option E3} (h : BookAt w b m n low g) :
  Calls Try.prog 19 #[.pointer (some ⟨b, 0, none⟩)] w fun e w' => e = .returned (.int .i64 low) ∧ w' = w := by
 obtain ⟨f0, f1, f2⟩ := h.facts
 have H := Aside0.mk h
 clear h
 go_enter Try.func19, Try.ntmps19
 go_wp2_with fail
 go_ret
 exact ⟨rfl, rfl⟩
theorem BookAt.drewNb {w : World} {b m n : Nat} {low : Int} {g : Int → Option E3} (h : BookAt w b m n low g) (q : Nat) : BookAt (w.drewN q) b m n low g := h
theorem list5 {α : Type} {l : List α} (h : l.length = 5) : ∃ a b c d e, l = [a, b, c, d, e] := by
 match l, h with
 | [a, b, c, d, e], _ => exact ⟨a, b, c, d, e, rfl⟩
theorem add_zero5 (a : Addr) : a.add 0 = a := by
 unfold Addr.add
 simp
theorem add_off5 (a : Addr) {k : Nat} (h : 0 < k) : a.add k = ⟨a.block, a.off + k, none⟩ := by
 unfold Addr.add
 rw [if_neg (by omega)]
theorem open_acts12 {H : Type} {enc : TypeId × Value → H} {W : World} {base : Nat} {spare : Nat → Bool} {held : Bool} {fuel : Nat} {A : Option Addr} {len cap : Nat} {x : DataW H × List MemPlace}
  (h : DataW.trod enc Try.prog W base spare held fuel 35 [.slice A len cap] = some x) : ∃ f, Acts5At W A len f := by
 have ce : Try.prog.cellsOf 42 = 5 := by kernel_rfl
 have c3 : Try.prog.cellsOf 3 = 1 := by kernel_rfl
 have c5 : Try.prog.cellsOf 5 = 1 := by kernel_rfl
 rcases Go.Deep.open_slice Try.underlying35 h with ⟨hcs, _⟩ | ⟨a, len', cap', m, n, D, Pl, hcs, hb, hl, hm, hmm, _, hx⟩
 ·
  simp at hcs
  obtain ⟨rfl, rfl, rfl⟩ := hcs
  exact ⟨fun _ => (0, 0, 0, 0, 0), fun i hi => absurd hi (by omega)⟩
 ·
  simp at hcs
  obtain ⟨rfl, rfl, rfl⟩ := hcs
  have each : ∀ i, i < len → ∃ q : Int × Int × Int × Int × Int, W.cell? (a.add (i * 5)) = some (.int .u8 q.1) ∧ W.cell? ((a.add (i * 5)).add 1) = some (.int .i64 q.2.1) ∧ W.cell? ((a.add (i * 5)).add 2) = some (.int .i64 q.2.2.1) ∧ W.cell? ((a.add (i * 5)).add 3) = some (.int .i64 q.2.2.2.1) ∧ W.cell? ((a.add (i * 5)).add 4) = some (.int .i64 q.2.2.2.2) ∧ 0 ≤ q.1 ∧ (Lit.int .i64 q.2.1).wf = true := by
   intro i hi
   obtain ⟨cs', h1, h2⟩ := hx i (by rw [hmm]; split <;> omega)
   rw [ce] at h1
   obtain ⟨_, hlen, hcell⟩ := World.cells?_some h1
   obtain ⟨xs, k, hk, hxy, _, hxl, hf⟩ := DataW.trod_struct Try.underlying42 h2
   obtain ⟨y0, y1, y2, y3, y4, rfl⟩ := list5 (show xs.length = 5 from hxl)
   obtain ⟨v0, v1, v2, v3, v4, rfl⟩ := list5 hlen
   have g0 := hf 0 _ rfl
   have g1 := hf 1 _ rfl
   have g2 := hf 2 _ rfl
   have g3 := hf 3 _ rfl
   have g4 := hf 4 _ rfl
   simp [c3, c5] at g0 g1 g2 g3 g4
   have e0 := hcell 0 (by omega)
   have e1 := hcell 1 (by omega)
   have e2 := hcell 2 (by omega)
   have e3 := hcell 3 (by omega)
   have e4 := hcell 4 (by omega)
   rw [add_zero5] at e0
   simp only [List.getElem?_cons_zero, List.getElem?_cons_succ] at e0 e1 e2 e3 e4
   obtain ⟨x0, z0, _, w0⟩ := DataW.trod_int Try.underlying5 g0
   obtain ⟨x1, z1, _, w1⟩ := DataW.trod_int Try.underlying3 g1
   obtain ⟨x2, z2, _, w2⟩ := DataW.trod_int Try.underlying3 g2
   obtain ⟨x3, z3, _, w3⟩ := DataW.trod_int Try.underlying3 g3
   obtain ⟨x4, z4, _, w4⟩ := DataW.trod_int Try.underlying3 g4
   simp only [List.cons.injEq, and_true] at z0 z1 z2 z3 z4
   subst z0 z1 z2 z3 z4
   refine ⟨(x0, x1, x2, x3, x4), e0, e1, e2, e3, e4, (bounds_u8 w0).1, w1⟩
  obtain ⟨f, hf⟩ := Go.Deep.choose_lt each
  refine ⟨f, fun i hi => ?_⟩
  obtain ⟨c0, c1, c2, c3, c4, w0, w1⟩ := hf i hi
  have hlt : a.block < W.heap.size := by
   rcases Nat.lt_or_ge a.block W.heap.size with h | h
   ·
    exact h
   ·
    have := c0
    unfold World.cell? at this
    rw [add_block5, Array.getElem?_eq_none h] at this
    simp at this
  rw [add_off5 _ (by decide)] at c1 c2 c3 c4
  exact ⟨a, rfl, hlt, c0, c1, c2, c3, c4, w0, w1⟩
end Go.Proofs.Ytbakdobjidjncaa.P
end
section
namespace Go.Proofs
open Go.Shelf
def Try.keysA_ren : Go.Shelf.Ren := ⟨fun | 7 => 62 | 10 => 76 | n => n, fun | 23 => 76 | 26 => 3 | 3 => 48 | 28 => 106 | 0 => 0 | 27 => 105 | 33 => 31 | 4 => 4 | n => n, fun | n => n⟩
theorem Try.keysA : Go.Proofs.SlLaysZI.n7 Try.prog Try.keysA_ren := {
 mixed := by kernel_rfl
 f7 := ⟨Try.f62.name, by decide, Try.func62.trans (congrArg some (by kernel_rfl))⟩
 f10 := ⟨Try.f76.name, by decide, Try.func76.trans (congrArg some (by kernel_rfl))⟩
 t0 := Try.underlying0
 a0 := Try.isAgg0
 z0 := Try.sizeOf0
 v0 := Try.zeroValue0
 t4 := Try.underlying4
 a4 := Try.isAgg4
 z4 := Try.sizeOf4
 v4 := Try.zeroValue4
 t23 := Try.underlying76
 a23 := Try.isAgg76
 z23 := Try.sizeOf76
 v23 := Try.zeroValue76
 t26 := Try.underlying3
 a26 := Try.isAgg3
 z26 := Try.sizeOf3
 v26 := Try.zeroValue3
 t27 := Try.underlying105
 a27 := Try.isAgg105
 z27 := Try.sizeOf105
 v27 := Try.zeroValue105
 t28 := Try.underlying106
 a28 := Try.isAgg106
 z28 := Try.sizeOf106
 v28 := Try.zeroValue106
 t33 := Try.underlying31
 a33 := Try.isAgg31
 z33 := Try.sizeOf31
 v33 := Try.zeroValue31 }
def Try.sortedA_ren : Go.Shelf.Ren := ⟨fun | 6 => 61 | 8 => 75 | 9 => 45 | 11 => 83 | 13 => 58 | 12 => 57 | 23 => 73 | 24 => 74 | 14 => 64 | 15 => 65 | 16 => 66 | 17 => 67 | 18 => 68 | 19 => 69 | 20 => 70 | 21 => 71 | 22 => 72 | 25 => 77 | 26 => 78 | 27 => 79 | 28 => 80 | 29 => 81 | 30 => 82 | 31 => 84 | n => n, fun | 26 => 3 | 28 => 106 | 24 => 26 | 0 => 0 | 3 => 3 | 37 => 101 | 48 => 119 | 50 => 121 | 4 => 4 | 40 => 111 | 39 => 110 | 45 => 116 | 5 => 5 | 9 => 9 | 51 => 122 | 55 => 126 | 57 => 129 | 58 => 130 | 33 => 31 | n => n, fun | n => n⟩
theorem Try.sortedA : Go.Proofs.SlLaysZI.n6 Try.prog Try.sortedA_ren := {
 mixed := by kernel_rfl
 f6 := ⟨Try.f61.name, by decide, Try.func61.trans (congrArg some (by kernel_rfl))⟩
 f8 := ⟨Try.f75.name, by decide, Try.func75.trans (congrArg some (by kernel_rfl))⟩
 f11 := ⟨Try.f83.name, by decide, Try.func83.trans (congrArg some (by kernel_rfl))⟩
 t0 := Try.underlying0
 a0 := Try.isAgg0
 z0 := Try.sizeOf0
 v0 := Try.zeroValue0
 t24 := Try.underlying26
 a24 := Try.isAgg26
 z24 := Try.sizeOf26
 v24 := Try.zeroValue26
 t26 := Try.underlying3
 a26 := Try.isAgg3
 z26 := Try.sizeOf3
 v26 := Try.zeroValue3
 t28 := Try.underlying106
 a28 := Try.isAgg106
 z28 := Try.sizeOf106
 v28 := Try.zeroValue106
 i26 := by kernel_rfl }
end Go.Proofs
end
section
namespace Go.Proofs.Ytbakdobjidjncaa.P
open Go.RowKit Go.Proofs.YtbakdobjidjncaaW.PrintWords Go.Proofs.YtbakdobjidjncaaW.PrintLast Go.Proofs.YtbakdobjidjncaaW.PrintMore
attribute [local go_sem] zbv zbu max_two min_two zbn zbo zby zbw
section
open Go.Maps Go.Sort Go.Shelf
theorem sortsA (m : Nat) : AnyZI.SortsIn Try.prog Try.sortedA_ren Fence.wide m :=
 ⟨fun blk off cap ss W hH hblk hsz => callsIn_wide.2 (Try.slices_Sort_int blk off cap ss W hH hblk hsz),
  fun p cap W => callsIn_wide.2 (Try.slices_Sort_int_none p cap W)⟩
theorem keys_ok (mb : Option Nat) (W : World) : Calls Try.prog 62 #[.map mb] W fun e w' => e = .returned (.func (.func 76) #[] #[.pointer (some ⟨W.heap.size, 0, none⟩)]) ∧ w' = W.alloc (.cells #[.map mb] 76) :=
 (callsIn_wide (n := 5)).1 (AnyZI.keys_in Try.keysA Fence.wide 5 trivial rfl mb W)
theorem sorted_ok {H : Type} (b nn : Nat) (D0 : DataW H) (R : Value → Option (DataW H × List MemPlace)) (w : World) (hown : w.ownsMap Try.prog 3 R b nn D0) (hmax : Maps.size D0 ≤ maxLen) (hbytes : Maps.size D0 * 8 ≤ 140737488355328) :
  Calls Try.prog 61 #[.func (.func 76) #[] #[.pointer (some ⟨w.heap.size, 0, none⟩)]] (w.alloc (.cells #[.map (some b)] 76)) fun e w' => ∃ (v : Value) (ss : List Int), e = .returned v ∧ ss.Perm (intKeys D0) ∧
   w'.ownsRow (w.alloc (.cells #[.map (some b)] 76)).heap.size 3 1 v ss.length ((ss.mergeSort (fun x y => decide (x ≤ y))).map encZ) ∧ (v = .slice none 0 0 ↔ ss = []) ∧ Below (w.alloc (.cells #[.map (some b)] 76)).heap.size (w.alloc (.cells #[.map (some b)] 76)) w' := by
 have hbl := hown.lt
 have hseq : SeqGives Fence.wide 2 Try.prog 76 #[.pointer (some ⟨w.heap.size, 0, none⟩)] encZ (fun ss => ss.Perm (intKeys D0)) (Maps.size D0) (w.alloc (.cells #[.map (some b)] 76)) :=
  AnyZI.keys_gives (ρ := Try.keysA_ren) { Try.keysA with } Fence.wide _ trivial rfl (by omega) w.heap.size b nn D0 _ (by simp) (by simp) (by
   obtain ⟨es, clock, hb, Ft, hs, hD⟩ := hown
   exact ⟨es, clock, (Below.heap_alloc _ _ b hbl).trans hb, Ft, hs, hD⟩)
 have cS := AnyZI.sorted_in Try.sortedA Fence.wide 5 trivial trivial trivial trivial rfl (by omega) (sortsA _) (enters_of Try.func45 (by kernel_rfl) rfl) 76 #[.pointer (some ⟨w.heap.size, 0, none⟩)] trivial (enters_of Try.func76 (by kernel_rfl) rfl) _ _ hmax hbytes _ hseq
 change CallsIn _ _ Try.prog 61 _ _ _ at cS
 exact (callsIn_wide (n := 5)).1 cS
theorem ids_perm {w : World} {m n : Nat} {L : List S86} (hI : Ids L) {D : DataW E3} (hown : w.ownsMap Try.prog 3 (mkR mkE) m n D) (hd : HoldsM D (look L)) : (L.map (·.f0)).Perm (intKeys D) := by
 refine CollectedI.perm (left := fun _ => false) ⟨?_, fun x => ?_⟩ hown (Maps.int_keyed Try.underlying3) Try.underlying3 (fun _ => rfl)
 ·
  exact (List.pairwise_map.2 hI).imp (fun h e => by omega)
 ·
  rw [hd.has]
  constructor
  ·
   intro hx
   obtain ⟨e, he, rfl⟩ := List.mem_map.1 hx
   exact ⟨by rw [zbi hI he]; rfl, rfl⟩
  ·
   rintro ⟨hx, _⟩
   obtain ⟨e, he⟩ := Option.isSome_iff_exists.1 hx
   obtain ⟨y, hy, h1, _⟩ := zbh he
   exact List.mem_map.2 ⟨y, hy, h1⟩
end
theorem row_ints {w : World} {base : Nat} {v : Value} {n : Nat} {l : List Int} (h : w.ownsRow base 3 1 v n (l.map encZ)) : IntsAt w v l := by
 have hl : l.length = n := by have := h.1; simpa using this
 subst hl
 obtain ⟨_, hv⟩ := h
 rcases hv with ⟨rfl, h0⟩ | ⟨g, cap, cur, rfl, hb, hg, hc, hm, hsz, ht⟩
 ·
  obtain rfl : l = [] := List.length_eq_zero_iff.1 h0
  exact IntsAt.nil w none 0
 ·
  refine ⟨_, _, rfl, hc, rfl, by simp [maxLen] at hm; omega, fun _ => ⟨_, rfl, fun j p hj => ⟨[.int .i64 p], rfl, rfl, fun i u hu => ?_⟩⟩⟩
  match i, hu with
  | 0, hu =>
   have e : (Addr.add ⟨g, 0, none⟩ (j * (Kd.int .i64).sz + 0)) = ⟨g, j, none⟩ := by
    show (Addr.add ⟨g, 0, none⟩ (j * 1 + 0)) = _
    rw [Nat.mul_one, Nat.add_zero, add_plain]
   rw [e, za hg]
   have h1 : (cur.toList.take (l.length * 1))[j]? = (l.map encZ)[j]? := by rw [ht]
   obtain ⟨hjl, hjp⟩ := List.getElem?_eq_some_iff.1 hj
   rw [List.getElem?_take, if_pos (by omega), List.getElem?_map, hj] at h1
   rw [← Array.getElem?_toList, h1]
   simpa [encZ] using hu
theorem book_Ids_ok {w : World} {b m n : Nat} {low : Int} {L : List S86} (h : Bk w b m n low L) (hI : Ids L) (hL : L.length < 1000000) :
  Calls Try.prog 52 #[.pointer (some ⟨b, 0, none⟩)] w fun e w' => ∃ v, e = .returned v ∧ IntsAt w' v (L.map (·.f0)) ∧ Below w.heap.size w w' := by
 obtain ⟨D, hown, hd⟩ := h.2.2
 have hp := ids_perm hI hown hd
 have hsz : Maps.size D = L.length := by
  have h1 := hp.length_eq
  rw [List.length_map] at h1
  rw [h1]
  cases D <;> simp [Maps.size, intKeys]
 obtain ⟨f0, f1, f2⟩ := BookAt.facts h
 have HP := Aside0.mk hp
 have HS := Aside0.mk (sorted_ok m n D (mkR mkE) w hown (by rw [hsz]; simp [maxLen]; omega) (by rw [hsz]; omega))
 have HI := Aside0.mk hI
 clear hown hd hp hsz h hI
 go_enter Try.func52, Try.ntmps52
 go_wp2_with fail
 go_at_call 62
 refine (keys_ok _ _).mono ?_
 rintro e w1 ⟨rfl, rfl⟩
 go_wp2_with fail
 go_at_call 61
 refine HS.out.mono ?_
 rintro e w2 ⟨v, ss, rfl, hss, hrow, _, hb⟩
 rw [sort_perm (hss.trans HP.out.symm) (List.pairwise_map.2 HI.out)] at hrow
 have HR := Aside0.mk (row_ints hrow)
 have HB := Aside0.mk (zai (zae (Below.refl _ w) _) hb)
 clear hss hrow hb
 go_wp2_with fail
 go_ret
 exact ⟨v, rfl, HR.out, HB.out⟩
end Go.Proofs.Ytbakdobjidjncaa.P
end
section
namespace Go.Proofs.Ytbakdobjidjncaa.P
open Go.RowKit Go.Proofs.YtbakdobjidjncaaW.PrintWords Go.Proofs.YtbakdobjidjncaaW.PrintLast Go.Proofs.YtbakdobjidjncaaW.PrintMore
attribute [local go_sem] zbv zbu max_two min_two zbn zbo zby zbw
theorem IntsAt_get {w : World} {A : Option Addr} {l : List Int} (hC : Kd.C (Kd.int .i64) w A l.length l) {i : Nat} (hi : i < l.length) : ∃ ad : Addr, A = some ad ∧ w.cell? (ad.add i) = some (.int .i64 (l.getD i 0)) := by
 obtain ⟨ad, e, h⟩ := Kd.at_int hC (i : Int) (by omega) (by omega)
 refine ⟨ad, e, ?_⟩
 simpa [Int.toNat_natCast, rd] using h
theorem settled_ok {w : World} {b m n : Nat} {low : Int} {L : List S86} (hb : Bk w b m n low L) (hG : GoodB low L) (hs : stuckL low L = false) (hlow : 0 < low ∧ low < 900000) (hL : L.length < 900000) :
  Calls Try.prog 26 #[.pointer (some ⟨b, 0, none⟩)] w fun e w' => e = .returned (.bool true) ∧ Below w.heap.size w w' := by
 obtain ⟨ids, hids0⟩ : ∃ ids, L.map (·.f0) = ids := ⟨_, rfl⟩
 have hidl : ids.length = L.length := by rw [← hids0, List.length_map]
 have HB := Aside0.mk hb
 have HG := Aside0.mk hG
 have HS := Aside0.mk hs
 have HID := Aside0.mk hids0
 have HIL := Aside0.mk hidl
 clear hb hG hs hids0 hidl
 go_enter Try.func26, Try.ntmps26
 go_wp2_with fail
 go_at_call 52
 refine (book_Ids_ok HB.out HG.out.1 (by omega)).mono ?_
 rintro e w2 ⟨v2, rfl, hi2, hb2⟩
 rw [HID.out] at hi2
 obtain ⟨A2, c2, rfl, hc2, hC2⟩ := hi2
 have HB2 := Aside0.mk hb2
 clear hb2 hC2
 go_wp2_with fail
 go_at_call 52
 refine (book_Ids_ok (Bk.keep HB.out HB2.out) HG.out.1 (by omega)).mono ?_
 rintro e w3 ⟨v3, rfl, hi3, hb3⟩
 rw [HID.out] at hi3
 obtain ⟨A3, c3, rfl, hc3, hC3⟩ := hi3
 have HB3 := Aside0.mk (zai HB2.out hb3)
 have HC3 := Aside0.mk hC3
 clear hb3 hC3 hc2 hc3
 go_wp2_with fail
 go_loopg [3, 15] ids.length (fun gk v3 v15 w' => ∃ (i : Nat) (fl : Bool), v15 = .int .i64 (i : Int) ∧ v3 = .bool fl ∧ i + gk = ids.length ∧ Aside0 (fl = (decide (L.length = 0) || (L.take i).any fun e => e.f1 == low)) ∧ Aside0 (Below w3.heap.size w3 w'))
 case atStart =>
  refine ⟨0, decide (L.length = 0), by go_num, ?_, by omega, ⟨by simp⟩, ⟨Below.refl _ _⟩⟩
  rw [HIL.out]
  by_cases h0 : L.length = 0 <;> simp [h0]
 case round =>
  obtain ⟨i, fl, rfl, rfl, hi, HF, HW⟩ := hrel
  have HB4 := Aside0.mk (zai HB3.out HW.out)
  cases gk with
  | zero =>
   obtain rfl : i = ids.length := by omega
   have d1 : decide (((ids.length : Nat) : Int) < ((ids.length : Nat) : Int)) = false := decide_eq_false (by omega)
   have hfl : fl = true := by
    have h1 := HS.out
    rw [stuckL_any] at h1
    rw [HF.out, HIL.out, List.take_length]
    cases h2 : L.any fun e => e.f1 == low with
    | true => simp
    | false =>
     rw [h2] at h1
     simp at h1
     simp [h1]
   subst hfl
   go_wp2_with fail
   go_ret
   exact ⟨rfl, HB4.out⟩
  | succ g1 =>
   have d1 : decide ((i : Int) < ((ids.length : Nat) : Int)) = true := decide_eq_true (by omega)
   have d2 : 0 ≤ (i : Int) ∧ (i : Int) < ((ids.length : Nat) : Int) := by omega
   have hil : i < L.length := by have := HIL.out; omega
   obtain ⟨ad, rfl, x0⟩ := IntsAt_get HC3.out (i := i) (by omega)
   replace x0 := (HW.out.cell (World.block_lt_of_cell? w3 _ x0)).trans x0
   have hmem : L[i] ∈ L := List.getElem_mem hil
   have hx : ids.getD i 0 = L[i].f0 := by
    rw [← HID.out]
    simp [hil]
   have htk : (L.take (i + 1)).any (fun e => e.f1 == low) = ((L.take i).any (fun e => e.f1 == low) || (L[i].f1 == low)) := by
    rw [List.take_succ_eq_append_getElem hil, List.any_append]
    simp
   have hlk := zbi HG.out.1 hmem
   obtain ⟨wf, g1', g2, g3, g4, g5, g6, g7⟩ := HG.out.2 _ hmem
   rw [hx] at x0
   generalize L[i] = fe at x0 htk hlk wf g1' g2 g3 g4 g5 g6 g7
   obtain ⟨k, tg, lf, sl⟩ := fe
   dsimp only at x0 htk hlk wf g1' g2 g3 g4 g5 g6 g7
   have HTK := Aside0.mk htk
   have HLK := Aside0.mk hlk
   have WF := Aside0.mk wf
   clear hmem htk hlk wf hx
   go_wp2_with fail
   go_at_call 24
   have hEn := zbc (Bk.keep HB.out HB4.out) WF.out
   rw [HLK.out] at hEn
   dsimp only [ent, entCode, Option.getD] at hEn
   refine hEn.mono ?_
   rintro e w10 ⟨rfl, hb10⟩
   have hx10 := zau w10 (.cells #[.int .i64 tg, .int .i64 lf, .int .i64 sl] 48)
   have HB10 := Aside0.mk (zae (zai HB4.out hb10) (.cells #[.int .i64 tg, .int .i64 lf, .int .i64 sl] 48))
   have HW10 := Aside0.mk (zae (zai HW.out hb10) (.cells #[.int .i64 tg, .int .i64 lf, .int .i64 sl] 48))
   clear hb10 hEn x0
   go_wp2_with fail
   generalize w10.alloc (.cells #[.int .i64 tg, .int .i64 lf, .int .i64 sl] 48) = W10 at hx10 HB10 HW10 ⊢
   have HK10 := Aside0.mk (Bk.keep HB.out HB10.out)
   have HX10 := Aside0.mk hx10
   have n0 : W10.cell? ⟨w10.heap.size, 0, none⟩ = some (.int .i64 tg) := (za hx10 0).trans rfl
   have n1 : W10.cell? ⟨w10.heap.size, 1, none⟩ = some (.int .i64 lf) := (za hx10 1).trans rfl
   have n2 : W10.cell? ⟨w10.heap.size, 2, none⟩ = some (.int .i64 sl) := (za hx10 2).trans rfl
   clear hx10
   have e1 : decide (tg < low) = false := decide_eq_false (by omega)
   have e2 : decide (tg > low + 1) = false := decide_eq_false (by omega)
   have e3 : decide (lf < 0) = false := decide_eq_false (by omega)
   have e4 : decide (lf > sl) = false := decide_eq_false (by omega)
   have hq : ∃ q : Bool, (lf == 0) = q ∧ (q = true → (tg == low) = false) := ⟨_, rfl, fun h => by
    have := g7 (by simpa using h)
    exact beq_eq_false_iff_ne.mpr (by omega)⟩
   have wl : wrap64 (low + 1) = low + 1 := w64s (by omega) (by omega)
   obtain ⟨q, hq1, hq2⟩ := hq
   cases q with
   | true =>
    have hq3 := hq2 rfl
    clear hq2
    go_quiet (first | (go_at_call 19; exact Calls.quiet_of_same (zbj (BookAt.drewNb HK10.out _))))
    go_wp2
    have HK11 := Aside0.mk (BookAt.drewNb HK10.out nq)
    have HB11 := Aside0.mk (za1 HB10.out nq)
    have HW11 := Aside0.mk (za1 HW10.out nq)
    have m0 : (W10.drewN nq).cell? ⟨w10.heap.size, 0, none⟩ = some (.int .i64 tg) := n0
    generalize W10.drewN nq = W11 at HK11 HB11 HW11 m0 ⊢
    clear n0 n1 n2
    obtain ⟨tq, htq⟩ : ∃ tq : Bool, (tg == low) = tq := ⟨_, rfl⟩
    have HTQ := Aside0.mk htq
    have hgi : i + 1 + g1 = ids.length := by omega
    have hi9 : (i : Int) + 1 < 1000000 := by have := HIL.out; omega
    clear e1 e2 e3 e4 g1' g2 g3 g4 g5 g6 g7 wl hq1
    cases fl with
    | true =>
     go_quiet (first | (go_at_call 19; exact Calls.quiet_of_same (zbj (BookAt.drewNb HK11.out _))))
     go_wp2
     have wi : wrap64 ((i : Int) + 1) = (i : Int) + 1 := w64s (by omega) (by omega)
     go_roundg g1
     case measure => exact Nat.lt_succ_self _
     case rel =>
      refine ⟨i + 1, true, by go_num, by go_num, hgi, ⟨?_⟩, ⟨za1 HW11.out _⟩⟩
      rw [HTK.out, ← Bool.or_assoc, ← HF.out]
      rfl
    | false =>
     go_quiet (first | (go_at_call 19; exact Calls.quiet_of_same (zbj (BookAt.drewNb HK11.out _))))
     go_wp2
     have wi : wrap64 ((i : Int) + 1) = (i : Int) + 1 := w64s (by omega) (by omega)
     go_roundg g1
     case measure => exact Nat.lt_succ_self _
     case rel =>
      refine ⟨i + 1, tq, by go_num, by first | rfl | (rw [HTQ.out]; done) | (exact congrArg Value.bool (hq3.symm.trans HTQ.out)), hgi, ⟨?_⟩, ⟨za1 HW11.out _⟩⟩
      rw [HTK.out, ← Bool.or_assoc, ← HF.out, HTQ.out]
      rfl
   | false =>
    clear hq2
    go_quiet (first | (go_at_call 19; exact Calls.quiet_of_same (zbj (BookAt.drewNb HK10.out _))))
    go_wp2
    have HK11 := Aside0.mk (BookAt.drewNb HK10.out nq)
    have HB11 := Aside0.mk (za1 HB10.out nq)
    have HW11 := Aside0.mk (za1 HW10.out nq)
    have m0 : (W10.drewN nq).cell? ⟨w10.heap.size, 0, none⟩ = some (.int .i64 tg) := n0
    generalize W10.drewN nq = W11 at HK11 HB11 HW11 m0 ⊢
    clear n0 n1 n2
    obtain ⟨tq, htq⟩ : ∃ tq : Bool, (tg == low) = tq := ⟨_, rfl⟩
    have HTQ := Aside0.mk htq
    have hgi : i + 1 + g1 = ids.length := by omega
    have hi9 : (i : Int) + 1 < 1000000 := by have := HIL.out; omega
    clear e1 e2 e3 e4 g1' g2 g3 g4 g5 g6 g7 wl hq1
    cases fl with
    | true =>
     go_quiet (first | (go_at_call 19; exact Calls.quiet_of_same (zbj (BookAt.drewNb HK11.out _))))
     go_wp2
     have wi : wrap64 ((i : Int) + 1) = (i : Int) + 1 := w64s (by omega) (by omega)
     go_roundg g1
     case measure => exact Nat.lt_succ_self _
     case rel =>
      refine ⟨i + 1, true, by go_num, by go_num, hgi, ⟨?_⟩, ⟨za1 HW11.out _⟩⟩
      rw [HTK.out, ← Bool.or_assoc, ← HF.out]
      rfl
    | false =>
     go_quiet (first | (go_at_call 19; exact Calls.quiet_of_same (zbj (BookAt.drewNb HK11.out _))))
     go_wp2
     have wi : wrap64 ((i : Int) + 1) = (i : Int) + 1 := w64s (by omega) (by omega)
     go_roundg g1
     case measure => exact Nat.lt_succ_self _
     case rel =>
      refine ⟨i + 1, tq, by go_num, by first | rfl | (rw [HTQ.out]; done) | (exact congrArg Value.bool (hq3.symm.trans HTQ.out)), hgi, ⟨?_⟩, ⟨za1 HW11.out _⟩⟩
      rw [HTK.out, ← Bool.or_assoc, ← HF.out, HTQ.out]
      rfl
theorem RoundSettled_ok (A : Option Addr) (len cap : Nat) (f : Nat → Int × Int × Int × Int × Int) (w : World) (hR : Acts5At w A len f) (hlen : len ≤ 60) :
  Calls Try.prog 6 #[.slice A len cap] w fun e w' => e = .returned (.bool true) ∧ Below w.heap.size w w' := by
 have HR := Aside0.mk hR
 have d3 : decide ((len : Int) > 60) = false := decide_eq_false (by omega)
 clear hR
 go_enter Try.func6, Try.ntmps6
 go_wp2_with fail
 go_at_call 13
 refine (awake12_ok _).mono ?_
 rintro e w0 ⟨rfl, hw0⟩
 have HW0 := Aside0.mk hw0
 have HR0 : Aside0 (Acts5At w0 A len f) := ⟨HR.out.below HW0.out⟩
 clear hw0
 go_wp2_with fail
 go_at_call 14
 refine (book_New_ok w0).mono ?_
 rintro e w1 ⟨b, m, rfl, hb, hm, hbk, hw⟩
 have hsz0 := HW0.out.size
 have hbm : b ≠ m := hbk.1
 have hlt1 := hbk.lt
 have HK1 : Aside0 (Bk w1 b m 0 1 []) := ⟨BookAt.ext hbk fun _ => rfl⟩
 have HW1 := Aside0.mk (zai HW0.out hw)
 have HW01 := Aside0.mk hw
 clear hbk hw
 go_wp2_with fail
 go_at_call 20
 refine (roundelref12_New.calls 1 [] w1 rfl).mono ?_
 rintro e w2 ⟨v1, rfl, hr2, hw2⟩
 obtain ⟨A2, c2, rfl⟩ := Kd.zbr hr2
 have HQ2 := Aside0.mk (RefBox.start hr2)
 have HW2 := Aside0.mk (zae (Below.trans (Below.mono (Below.trans (Below.refl _ w0) HW01.out) (Nat.le_refl _)) (hw2.mono HW01.out.size)) (.cells #[.int .i64 1, .slice A2 0 c2] 39))
 have HK2 : Aside0 (Bk (w2.alloc (.cells #[.int .i64 1, .slice A2 0 c2] 39)) b m 0 1 []) := ⟨Bk.keep (Bk.keep HK1.out hw2) (zae (Below.refl _ w2) _)⟩
 have hszr := hw2.size
 clear hr2 hw2 HK1
 go_wp2_with fail
 generalize w2.alloc (.cells #[.int .i64 1, .slice A2 0 c2] 39) = W2 at HQ2 HW2 HK2 ⊢
 generalize w2.heap.size = r at HQ2 hszr ⊢
 generalize w1.heap.size = q at HQ2 hszr hlt1 ⊢
 refine (zbj HK2.out).mono ?_
 rintro e w3 ⟨rfl, rfl⟩
 go_wp2_with fail
 go_loopg [5, 22] len (fun gk v5 v22 w' => ∃ (i : Nat) (low : Int) (L : List S86) (A3 : Option Addr) (c3 : Nat), v22 = .int .i64 (i : Int) ∧ v5 = .int .i64 low ∧ i + gk = len ∧ Aside0 (Bk w' b m i low L) ∧ Aside0 (GoodB low L) ∧ Aside0 (RefBox w' q r A3 c3 low L) ∧ (1 ≤ low ∧ low ≤ 1 + 4 * (i : Int)) ∧ L.length ≤ i ∧ Aside0 (Below w0.heap.size w0 w'))
 case atStart => exact ⟨0, 1, [], A2, c2, by go_num, by go_num, by omega, HK2, ⟨⟨List.Pairwise.nil, fun e h => by cases h⟩⟩, HQ2, by omega, Nat.le_refl _, HW2⟩
 case round =>
  obtain ⟨i, low, L, A3, c3, rfl, rfl, hi, HK3, HG3, HQ3, hlow, hL, HW3⟩ := hrel
  cases gk with
  | zero =>
   obtain rfl : i = len := by omega
   have d1 : decide ((i : Int) < (i : Int)) = false := decide_eq_false (by omega)
   have HB0 := Aside0.mk (HW0.out.trans (HW3.out.mono hsz0))
   go_wp2_with fail
   go_ret
   exact ⟨rfl, HB0.out⟩
  | succ g1 =>
   have d1 : decide ((i : Int) < (len : Int)) = true := decide_eq_true (by omega)
   obtain ⟨ad, rfl, had, a0, a1, a2, a3, a4, ha0, ha1⟩ := (HR0.out.below HW3.out) i (by omega)
   have d2 : 0 ≤ (i : Int) ∧ (i : Int) < (len : Int) := by omega
   generalize hf : f i = fi at a0 a1 a2 a3 a4 ha0 ha1
   obtain ⟨k, aid, tag, left, slice⟩ := fi
   dsimp only at a0 a1 a2 a3 a4 ha0 ha1
   have HA1 := Aside0.mk ha1
   have HF := Aside0.mk hf
   obtain ⟨p0, p1, p2, p3⟩ := (HQ3.out.below (zae (Below.refl _ wr) (.cells #[.int .u8 k, .int .i64 aid, .int .i64 tag, .int .i64 left, .int .i64 slice] 42))).facts
   clear ha1 hf
   go_wp2_with fail
   have HK4 : Aside0 (Bk (wr.alloc (.cells #[.int .u8 k, .int .i64 aid, .int .i64 tag, .int .i64 left, .int .i64 slice] 42)) b m i low L) := ⟨Bk.keep HK3.out (zae (Below.refl _ wr) _)⟩
   have HQ4 := Aside0.mk (HQ3.out.below (zae (Below.refl _ wr) (.cells #[.int .u8 k, .int .i64 aid, .int .i64 tag, .int .i64 left, .int .i64 slice] 42)))
   have HW4 := Aside0.mk (zae HW3.out (.cells #[.int .u8 k, .int .i64 aid, .int .i64 tag, .int .i64 left, .int .i64 slice] 42))
   go_at_call 21
   generalize wr.alloc (.cells #[.int .u8 k, .int .i64 aid, .int .i64 tag, .int .i64 left, .int .i64 slice] 42) = W3 at HK4 HQ4 HW4 p0 p1 p2 p3 ⊢
   clear a0 a1 a2 a3 a4 p0 p1 p2 p3
   have hr3 := zak HQ4.out.1
   refine (do_ok HK4.out HQ4.out.2 (fun k (hk : q ≤ k ∧ k ≠ r) => ⟨by omega, by omega⟩) HG3.out (by omega) (by omega) (by omega) k aid tag left slice ha0 HA1.out).mono ?_
   rintro e w4 ⟨v', low', L', rfl, hk4, hr4, hg4, hlo, hhi, hl4, hw4⟩
   obtain ⟨A4, c4, rfl, hv4⟩ := hr4
   have hq4 := (hw4.1.2 r hr3 (by omega) (by omega)).trans HQ4.out.1
   have p0 : w4.cell? ⟨r, 0, none⟩ = some (.int .i64 low) := (za hq4 0).trans rfl
   have p1 : w4.cell? ⟨r, 1, none⟩ = some (.slice A3 L.length c3) := (za hq4 1).trans rfl
   have p2 := zaa hq4 0
   have p3 := zaa hq4 1
   have HQ5 := Aside0.mk (RefBox.put (q := q) (low := low') (A := A4) (c := c4) hq4 ⟨A4, c4, rfl, Kd.za2 hv4 (fun k (hk : (q ≤ k ∧ k ≠ r) ∨ W3.heap.size ≤ k) => ⟨by omega, by omega⟩)⟩)
   have HK5 : Aside0 (Bk ((w4.setCell ⟨r, 0, none⟩ (.int .i64 low')).setCell ⟨r, 1, none⟩ (.slice A4 L'.length c4)) b m (i + 1) low' L') := ⟨BookAt.other (BookAt.other hk4 (by omega) (by omega) _) (by omega) (by omega) _⟩
   have HW5 : Aside0 (Below w0.heap.size w0 ((w4.setCell ⟨r, 0, none⟩ (.int .i64 low')).setCell ⟨r, 1, none⟩ (.slice A4 L'.length c4))) := ⟨((HW4.out.trans (hw4.2 _ hb hm)).setCell (p := ⟨r, 0, none⟩) (by show w0.heap.size ≤ r; omega) _).setCell (p := ⟨r, 1, none⟩) (by show w0.heap.size ≤ r; omega) _⟩
   have HG4 := Aside0.mk hg4
   clear hq4 hv4 hk4 hw4 hg4
   go_wp2_with fail
   go_at_call 18
   generalize (w4.setCell ⟨r, 0, none⟩ (.int .i64 low')).setCell ⟨r, 1, none⟩ (.slice A4 L'.length c4) = W5 at HQ5 HK5 HW5 ⊢
   clear p0 p1 p2 p3
   refine (book_Settle_ok HK5.out HG4.out (by omega) (by omega) (by omega)).mono ?_
   rintro e w6 ⟨v6, rfl, _, hk6, hw6⟩
   have HQ6 := Aside0.mk (HQ5.out.only hw6.1 (by omega) (by omega) (by omega))
   have HK6 := Aside0.mk hk6
   have HW6 := Aside0.mk (HW5.out.trans (hw6.2 _ hb hm))
   obtain ⟨p0, p1, p2, p3⟩ := HQ6.out.facts
   clear hk6 hw6
   go_wp2_with fail
   go_at_call 22
   refine (ref_Settle HQ6.out.2 HG4.out (by omega) (by omega)).mono ?_
   rintro e w7 ⟨v7, u7, rfl, hr7, _, hb7⟩
   obtain ⟨g1_, gst, g3, g4⟩ := HG4.out.settle
   have HST := Aside0.mk gst
   have hsl := settle_len 2 low' L'
   have HS := Aside0.mk g1_
   clear g1_ gst p0 p1 p2 p3
   generalize settleF 2 low' L' = F at HK6 hr7 HS HST g3 g4 hsl ⊢
   obtain ⟨low2, L2⟩ := F
   dsimp only at HK6 hr7 HS HST g3 g4 hsl
   have hll2 : low ≤ low2 := by omega
   have hL2 : L2.length ≤ i + 1 := by omega
   have hlow2 : 1 ≤ low2 ∧ low2 ≤ 1 + 4 * ((i + 1 : Nat) : Int) := by omega
   clear hsl g3 g4
   obtain ⟨A7, c7, rfl, hv7⟩ := hr7
   have hq7 := (hb7.block _ (zak HQ6.out.1)).trans HQ6.out.1
   have hr6 := zak HQ6.out.1
   have p0 : w7.cell? ⟨r, 0, none⟩ = some (.int .i64 low') := (za hq7 0).trans rfl
   have p1 : w7.cell? ⟨r, 1, none⟩ = some (.slice A4 L'.length c4) := (za hq7 1).trans rfl
   have p2 := zaa hq7 0
   have p3 := zaa hq7 1
   have HQ7 := Aside0.mk (RefBox.put (q := q) (low := low2) (A := A7) (c := c7) hq7 ⟨A7, c7, rfl, Kd.za2 hv7 (fun k (hk : (q ≤ k ∧ k ≠ r) ∨ w6.heap.size ≤ k) => ⟨by omega, by omega⟩)⟩)
   have HK7 : Aside0 (Bk ((w7.setCell ⟨r, 0, none⟩ (.int .i64 low2)).setCell ⟨r, 1, none⟩ (.slice A7 L2.length c7)) b m (i + 1) low2 L2) := ⟨BookAt.other (BookAt.other (BookAt.keep HK6.out hb7) (by omega) (by omega) _) (by omega) (by omega) _⟩
   have HW7 : Aside0 (Below w0.heap.size w0 ((w7.setCell ⟨r, 0, none⟩ (.int .i64 low2)).setCell ⟨r, 1, none⟩ (.slice A7 L2.length c7))) := ⟨((zai HW6.out hb7).setCell (p := ⟨r, 0, none⟩) (by show w0.heap.size ≤ r; omega) _).setCell (p := ⟨r, 1, none⟩) (by show w0.heap.size ≤ r; omega) _⟩
   clear hq7 hv7 hb7
   go_wp2_with fail
   generalize (w7.setCell ⟨r, 0, none⟩ (.int .i64 low2)).setCell ⟨r, 1, none⟩ (.slice A7 L2.length c7) = W7 at HQ7 HK7 HW7 ⊢
   clear p0 p1 p2 p3
   refine (settled_ok HK7.out HS.out HST.out (by omega) (by omega)).mono ?_
   rintro e w8 ⟨rfl, hb8⟩
   have HQ8 := Aside0.mk (HQ7.out.below hb8)
   have HK8 := Aside0.mk (Bk.keep HK7.out hb8)
   have HW8 := Aside0.mk (zai HW7.out hb8)
   clear hb8
   go_wp2_with fail
   refine (zbj HK8.out).mono ?_
   rintro e w9 ⟨rfl, rfl⟩
   have dl : decide (low2 < low) = false := decide_eq_false (by omega)
   go_wp2_with fail
   refine (book_Settle_ok HK8.out HS.out (by omega) (by omega) (by omega)).mono ?_
   have hsf : settleF 2 low2 L2 = (low2, L2) := by
    unfold settleF
    rw [HST.out]
    rfl
   have hsp : spent low2 L2 = [] := by
    unfold spent
    rw [HST.out]
    rfl
   rw [hsf, hsp]
   rintro e w10 ⟨v10, rfl, hi10, hk10, hw10⟩
   obtain ⟨A10, c10, rfl, _, _⟩ := hi10
   have HQ10 := Aside0.mk (HQ8.out.only hw10.1 (by omega) (by omega) (by omega))
   have HK10 := Aside0.mk hk10
   have HW10 := Aside0.mk (HW8.out.trans (hw10.2 _ hb hm))
   clear hk10 hw10 hsf hsp
   go_wp2_with fail
   refine (zbj HK10.out).mono ?_
   rintro e w11 ⟨rfl, rfl⟩
   go_wp2_with fail
   have hgi : i + 1 + g1 = len := by omega
   have wi : wrap64 ((i : Int) + 1) = (i : Int) + 1 := w64s (by omega) (by omega)
   go_roundg g1
   case measure => exact Nat.lt_succ_self _
   case rel => exact ⟨i + 1, low2, L2, A7, c7, by go_num, by go_num, hgi, HK10, HS, HQ10, hlow2, hL2, HW10⟩
theorem RoundSettled_long (A : Option Addr) (len cap : Nat) (w : World) (hlen : 60 < len) :
  Calls Try.prog 6 #[.slice A len cap] w fun e w' => e = .returned (.bool true) ∧ Below w.heap.size w w' := by
 have d60 : decide ((len : Int) > 60) = true := decide_eq_true (by omega)
 go_enter Try.func6, Try.ntmps6
 go_wp2_with fail
 go_at_call 13
 refine (awake12_ok _).mono ?_
 rintro e w0 ⟨rfl, hw0⟩
 have HW0 := Aside0.mk hw0
 clear hw0
 go_wp2_with fail
 go_at_call 13
 refine (awake12_ok w0).mono ?_
 rintro e w1 ⟨rfl, hw1⟩
 have HW1 := Aside0.mk (zai HW0.out hw1)
 clear hw1
 go_wp2_with fail
 go_ret
 exact ⟨rfl, HW1.out⟩
theorem lRoundSettled {H : Type} {enc : TypeId × Value → H} {W : World} {base : Nat} {spare : Nat → Bool} {held : Bool} {d : DataW H} {p : List MemPlace} (v : Value) (hv : ∃ A len cap, v = .slice A len cap)
  (h : DataW.Trod enc Try.prog W base spare held 35 v d p) : Calls Try.prog 6 #[v] W fun e w' => e = .returned (.bool true) ∧ Below W.heap.size W w' := by
 obtain ⟨A, len, cap, rfl⟩ := hv
 obtain ⟨fuel, hf⟩ := h
 obtain ⟨f, hA⟩ := open_acts12 (by simpa [Value.cells] using hf)
 by_cases hlen : len ≤ 60
 ·
  exact RoundSettled_ok A len cap f W hA hlen
 ·
  exact RoundSettled_long A len cap W (by omega)
end Go.Proofs.Ytbakdobjidjncaa.P
end
