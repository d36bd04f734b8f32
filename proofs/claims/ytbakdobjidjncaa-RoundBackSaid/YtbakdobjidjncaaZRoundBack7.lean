-- Written by a program of this session (wip/tools/shake.py) out of its own texts and of the kit's printed ones; not trusted: Lean checks it.
import Derived.Test.YtbakdobjidjncaaZRoundBack6
set_option maxHeartbeats 8000000
set_option maxRecDepth 100000
set_option linter.unusedVariables false
set_option linter.unusedSimpArgs false
section
namespace Go.Proofs.Ytbakdobjidjncaa.P
open Go.RowKit Go.Proofs.YtbakdobjidjncaaW.PrintWords Go.Proofs.YtbakdobjidjncaaW.PrintLast Go.Proofs.YtbakdobjidjncaaW.PrintMore
attribute [local go_sem] zbx zbw max_two min_two zbm zbk zbs zbt
theorem Ev.pos {α : Type} {c : Prop} [Decidable c] {F G : Nat → Option α} {r : α} (hc : c) (h : Ev F r) : Ev (fun k => if c then F k else G k) r := Ev.congr (fun k => if_pos hc) h
theorem Ev.neg {α : Type} {c : Prop} [Decidable c] {F G : Nat → Option α} {r : α} (hc : ¬ c) (h : Ev G r) : Ev (fun k => if c then F k else G k) r := Ev.congr (fun k => if_neg hc) h
theorem Ints_same (l : List Int) (hl : l.length < 1000000) : Ev (fun k => zaq.f k l l) true := by
 have key : ∀ q i : Nat, i + q = l.length → Ev (fun k => zaq.l0 k l l (l.length : Int) (i : Int)) true := by
  intro q
  induction q with
  | zero =>
   intro i hi
   refine Ev.step (fun _ => zaq.l0.eq_2 ..) ?_
   refine Ev.neg (by omega) ?_
   exact Ev.of (fun _ => rfl)
  | succ q ih =>
   intro i hi
   refine Ev.step (fun _ => zaq.l0.eq_2 ..) ?_
   refine Ev.pos (by omega) (Ev.pos (by omega) (Ev.pos (by omega) (Ev.pos (by omega) (Ev.pos rfl ?_))))
   rw [show wrap64 ((i : Int) + 1) = ((i + 1 : Nat) : Int) by rw [w64s (by omega) (by omega)]; omega]
   exact ih (i + 1) (by omega)
 unfold zaq.f
 refine Ev.pos rfl ?_
 exact key l.length 0 (by omega)
theorem do_4 {w : World} {P : Nat → Prop} {v : Value} {b m n : Nat} {low : Int} {L : List S86} (hb : Bk w b m n low L) (hr : RefAt w P v low L) (hP : ∀ k, P k → k ≠ b ∧ k ≠ m) (hG : GoodB low L) (hlow : 0 < low ∧ low < 900000) (hL : L.length < 900000) (hn : n < 900000) (k id tag left slice : Int) (hk : k.tmod 5 = 4) :
  Calls Try.prog 21 #[.pointer (some ⟨b, 0, none⟩), v, .agg #[.int .u8 k, .int .i64 id, .int .i64 tag, .int .i64 left, .int .i64 slice]] w fun e w' => ∃ v', e = .returned (.tuple #[v', .bool true]) ∧ Bk w' b m n (settleF 2 low L).1 (settleF 2 low L).2 ∧ RefAt w' (fun k => P k ∨ w.heap.size ≤ k) v' (settleF 2 low L).1 (settleF 2 low L).2 ∧ Wrote b m w w' := by
 have CB := Aside0.mk (fun (w : World) (P : Nat → Prop) (v : Value) (h : RefAt w P v low L) => ref_Settle h hG hlow (by omega))
 have CA := Aside0.mk (fun (w : World) (h : Bk w b m n low L) => book_Settle_ok h hG (by omega) (by omega) (by omega))
 have hsl := spent_len low L
 obtain ⟨ki, hki⟩ := (Ints_same (spent low L) (by omega)).get
 have HKI := Aside0.mk hki
 generalize spent low L = sp at CA CB HKI hsl ⊢
 generalize settleF 2 low L = F at CA CB ⊢
 obtain ⟨low', L'⟩ := F
 dsimp only at CA CB ⊢
 have d0 : (k.tmod 5 == 0) = false := beq_eq_false_iff_ne.mpr (by omega)
 have d1 : (k.tmod 5 == 1) = false := beq_eq_false_iff_ne.mpr (by omega)
 have d2 : (k.tmod 5 == 2) = false := beq_eq_false_iff_ne.mpr (by omega)
 have d3 : (k.tmod 5 == 3) = false := beq_eq_false_iff_ne.mpr (by omega)
 have HB := Aside0.mk hb
 have HR := Aside0.mk hr
 have HP := Aside0.mk hP
 obtain ⟨A, c, rfl, hv⟩ := hr
 obtain ⟨hbl, hml⟩ := BookAt.lt hb
 clear hk hb hG hv hP hki
 go_enter Try.func21, Try.ntmps21
 go_wp2_with fail
 have hX := Boxes3.at w low A L.length c k id tag left slice
 generalize ((w.alloc (.cells #[.int .i64 low, .slice A L.length c] 39)).alloc (.cells #[.int .u8 k, .int .i64 id, .int .i64 tag, .int .i64 left, .int .i64 slice] 42)).alloc (.cells #[.int .i64 0, .slice none 0 0] 39) = W2 at hX ⊢
 have HX := Aside0.mk hX
 have x0 : W2.cell? ⟨w.heap.size, 0, none⟩ = some (.int .i64 low) := (za hX.2.2.1 0).trans rfl
 have x1 : W2.cell? ⟨w.heap.size, 1, none⟩ = some (.slice A L.length c) := (za hX.2.2.1 1).trans rfl
 clear hX
 go_wp2_with fail
 have hX := HX.out
 go_at_call 22
 refine (CB.out W2 (fun k => P k ∧ k < w.heap.size) _ (HR.out.old hX.1)).mono ?_
 rintro e w3 ⟨v', u, rfl, hr3, hu3, hb3⟩
 have HB3 := Aside0.mk (zai hX.1 hb3)
 obtain ⟨A', c', rfl, hv3⟩ := hr3
 obtain ⟨A2, c2, rfl⟩ := Kd.zbn hu3
 obtain ⟨_, hx3, he3⟩ := hX.keep hb3
 have hsz3 : w.heap.size + 3 ≤ w3.heap.size := by rw [← hX.2.1]; exact hb3.size
 have hsz4 : W2.heap.size ≤ (w3.alloc (.cells #[.int .i64 low', .slice A' L'.length c'] 39)).heap.size := Nat.le_trans hb3.size (by simp)
 have hn4 := zas w3 (.cells #[.int .i64 low', .slice A' L'.length c'] 39)
 have he4 := zac he3 (.cells #[.int .i64 low', .slice A' L'.length c'] 39)
 have HB4 := Aside0.mk (zae HB3.out (.cells #[.int .i64 low', .slice A' L'.length c'] 39))
 have HV4 := Aside0.mk (Kd.za8 hv3 (.cells #[.int .i64 low', .slice A' L'.length c'] 39))
 have HU4 := Aside0.mk (Kd.za8 (Kd.R_V (base' := 0) hu3) (.cells #[.int .i64 low', .slice A' L'.length c'] 39))
 clear hX hb3 hv3 hu3 hx3 he3 x0 x1
 go_wp2_with fail
 generalize w3.alloc (.cells #[.int .i64 low', .slice A' L'.length c'] 39) = W4 at hsz4 hn4 he4 HB4 HV4 HU4 ⊢
 have e0 : W4.cell? ⟨w.heap.size + 2, 0, none⟩ = some (.int .i64 0) := (za he4 0).trans rfl
 have e1 : W4.cell? ⟨w.heap.size + 2, 1, none⟩ = some (.slice none 0 0) := (za he4 1).trans rfl
 have q0 := zaa he4 0
 have q1 := zaa he4 1
 have n0 : W4.cell? ⟨w3.heap.size, 0, none⟩ = some (.int .i64 low') := (za hn4 0).trans rfl
 have n1 : W4.cell? ⟨w3.heap.size, 1, none⟩ = some (.slice A' L'.length c') := (za hn4 1).trans rfl
 have HN4 := Aside0.mk hn4
 have HE4 := Aside0.mk he4
 have HK4 : Aside0 (Bk W4 b m n low L) := ⟨Bk.keep HB.out HB4.out⟩
 clear hn4 he4
 have HSK : Aside0 (∀ W, Same2 w3.heap.size w3.heap.size W4 W → W.cell? ⟨w3.heap.size, 0, none⟩ = some (.int .i64 low') ∧ W.cell? ⟨w3.heap.size, 1, none⟩ = some (.slice A' L'.length c')) := ⟨fun W h => by
  have h2 := h.2.trans HN4.out
  exact ⟨(za h2 0).trans rfl, (za h2 1).trans rfl⟩⟩
 have hn2 : w3.heap.size ≠ w.heap.size + 2 := by omega
 have hszw := HX.out.2.1
 go_region_held3 (fun W => W.cell? ⟨w3.heap.size, 0, none⟩ = some (.int .i64 low') ∧ W.cell? ⟨w3.heap.size, 1, none⟩ = some (.slice A' L'.length c')) (((with_reducible refine HSK.out _ ?_); (repeat (with_reducible refine Same2.set ?_ hn2 hn2 _)); first | (with_reducible exact HS6.out) | (with_reducible exact HS5.out) | (with_reducible exact Same2.drew _ _ _))) (first | (go_at_call 18; refine (CA.out W4.drew HK4.out).mono ?_; rintro e w5 ⟨v5, rfl, hi5, hk5, hw5⟩; obtain ⟨A5, c5, rfl, hc5, hC5⟩ := hi5; have HK5 := Aside0.mk hk5; have HW5 := Aside0.mk hw5; have Hc5 := Aside0.mk hc5; have HC5 := Aside0.mk hC5; have HU5 := Aside0.mk (Kd.zaw (Kd.V_step (Kd.zba HU4.out) (fun k hk hlt => hw5.1.2 k hlt (by omega) (by omega)))); have HS5 : Aside0 (Same2 w3.heap.size w3.heap.size W4 w5) := ⟨⟨hw5.1.2 _ (zak HN4.out) (by omega) (by omega), hw5.1.2 _ (zak HN4.out) (by omega) (by omega)⟩⟩; have HE5 := Aside0.mk ((hw5.1.2 _ (zak HE4.out) (by omega) (by omega)).trans HE4.out); clear hk5 hw5 hc5 hC5) | (go_at_call 50; refine (zaq.calls ki A5 c5 sp A2 c2 sp true _ HC5.out Hc5.out HU5.out.2.2 HU5.out.2.1 HKI.out).mono ?_; rintro e w6 ⟨rfl, hw6⟩; have HB6 := Aside0.mk hw6.below; have he6 := (HB6.out.block _ (zak HE5.out)).trans HE5.out; have HE6 := Aside0.mk he6; have HS6 : Aside0 (Same2 w3.heap.size w3.heap.size W4 w6) := ⟨⟨(HB6.out.block _ (Nat.lt_of_lt_of_le (zak HN4.out) HW5.out.1.1)).trans HS5.out.1, (HB6.out.block _ (Nat.lt_of_lt_of_le (zak HN4.out) HW5.out.1.1)).trans HS5.out.2⟩⟩; have y0 : w6.cell? ⟨w.heap.size + 2, 0, none⟩ = some (.int .i64 0) := (za he6 0).trans rfl; have y1 : w6.cell? ⟨w.heap.size + 2, 1, none⟩ = some (.slice none 0 0) := (za he6 1).trans rfl; have z0 := zaa he6 0; have z1 := zaa he6 1; clear hw6 he6))
 all_goals
  go_wp2
 all_goals
  obtain ⟨r1, r2, ⟨A9, c9, r3, r5⟩, r4⟩ := do_end (x1 := .int .i64 0) (x2 := .slice none 0 0) HB4.out (Nat.le_of_eq HX.out.2.1.symm) hsz4 hbl hml HP.out (Bk.keep HK5.out HB6.out) (HW5.out.step HB6.out (Nat.lt_of_lt_of_le (Nat.lt_of_lt_of_le hbl HB4.out.size) HW5.out.1.1)) HE6.out HV4.out
  exact bodyPost_ret (za3 rfl _ _ (w.heap.size + 2) 39 #[.int .i64 low', .slice A' L'.length c'] (0, 0) _ rfl r1 Try.underlying39 rfl (by kernel_rfl)) rfl ⟨_, rfl, r2, ⟨A9, c9, r3, r5⟩, r4⟩
theorem do_ok {w : World} {P : Nat → Prop} {v : Value} {b m n : Nat} {low : Int} {L : List S86} (hb : Bk w b m n low L) (hr : RefAt w P v low L) (hP : ∀ k, P k → k ≠ b ∧ k ≠ m) (hG : GoodB low L) (hlow : 0 < low ∧ low < 900000) (hL : L.length < 900000) (hn : n < 900000) (k id tag left slice : Int) (hk : 0 ≤ k) (wf : (Lit.int .i64 id).wf = true) :
  Calls Try.prog 21 #[.pointer (some ⟨b, 0, none⟩), v, .agg #[.int .u8 k, .int .i64 id, .int .i64 tag, .int .i64 left, .int .i64 slice]] w fun e w' => ∃ v' low' L', e = .returned (.tuple #[v', .bool true]) ∧ Bk w' b m (n + 1) low' L' ∧ RefAt w' (fun k => P k ∨ w.heap.size ≤ k) v' low' L' ∧ GoodB low' L' ∧ low ≤ low' ∧ low' ≤ low + 2 ∧ L'.length ≤ L.length + 1 ∧ Wrote b m w w' := by
 have hm : k.tmod 5 = k % 5 := Int.tmod_eq_emod_of_nonneg hk
 have hc : k.tmod 5 = 0 ∨ k.tmod 5 = 1 ∨ k.tmod 5 = 2 ∨ k.tmod 5 = 3 ∨ k.tmod 5 = 4 := by omega
 rcases hc with hc | hc | hc | hc | hc
 ·
  refine (do_0 hb hr hP hG hlow hL hn k id tag left slice hc wf).mono ?_
  rintro e w' ⟨v', L', rfl, h1, h2, h3, h4, h5⟩
  exact ⟨v', low, L', rfl, h1, h2, h3, Int.le_refl _, by omega, h4, h5⟩
 ·
  refine (do_1 hb hr hP hG hlow hL hn k id tag left slice hc wf).mono ?_
  rintro e w' ⟨v', L', rfl, h1, h2, h3, h4, h5⟩
  exact ⟨v', low, L', rfl, h1, h2, h3, Int.le_refl _, by omega, h4, h5⟩
 ·
  refine (do_2 hb hr hP hG hlow hL hn k id tag left slice hc wf).mono ?_
  rintro e w' ⟨v', L', rfl, h1, h2, h3, h4, h5⟩
  exact ⟨v', low, L', rfl, h1, h2, h3, Int.le_refl _, by omega, h4, h5⟩
 ·
  refine (do_3 hb hr hP hG hlow hL hn k id tag left slice hc wf).mono ?_
  rintro e w' ⟨v', L', rfl, h1, h2, h3, h4, h5⟩
  exact ⟨v', low, L', rfl, h1, h2, h3, Int.le_refl _, by omega, h4, h5⟩
 ·
  refine (do_4 hb hr hP hG hlow hL hn k id tag left slice hc).mono ?_
  rintro e w' ⟨v', rfl, h1, h2, h5⟩
  obtain ⟨g1, _, g3, g4⟩ := hG.settle
  exact ⟨v', _, _, rfl, h1.up (Nat.le_succ _), h2, g1, g3, g4, by rw [settle_len]; omega, h5⟩
theorem add_block5 (ad : Addr) (i : Nat) : (ad.add i).block = ad.block := by
 unfold Addr.add
 split <;> rfl
def Acts5At (w : World) (A : Option Addr) (n : Nat) (f : Nat → Int × Int × Int × Int × Int) : Prop :=
 ∀ i, i < n → ∃ ad : Addr, A = some ad ∧ ad.block < w.heap.size ∧ w.cell? (ad.add (i * 5)) = some (.int .u8 (f i).1) ∧
  w.cell? ⟨(ad.add (i * 5)).block, (ad.add (i * 5)).off + 1, none⟩ = some (.int .i64 (f i).2.1) ∧ w.cell? ⟨(ad.add (i * 5)).block, (ad.add (i * 5)).off + 2, none⟩ = some (.int .i64 (f i).2.2.1) ∧
  w.cell? ⟨(ad.add (i * 5)).block, (ad.add (i * 5)).off + 3, none⟩ = some (.int .i64 (f i).2.2.2.1) ∧ w.cell? ⟨(ad.add (i * 5)).block, (ad.add (i * 5)).off + 4, none⟩ = some (.int .i64 (f i).2.2.2.2) ∧
  0 ≤ (f i).1 ∧ (Lit.int .i64 (f i).2.1).wf = true
theorem Acts5At.below {w w' : World} {A : Option Addr} {n : Nat} {f : Nat → Int × Int × Int × Int × Int} (h : Acts5At w A n f) (hb : Below w.heap.size w w') : Acts5At w' A n f := by
 intro i hi
 obtain ⟨ad, e, h1, h2, h3, h4, h5, h6, h7⟩ := h i hi
 have hl : (ad.add (i * 5)).block < w.heap.size := by rw [add_block5]; exact h1
 exact ⟨ad, e, Nat.lt_of_lt_of_le h1 hb.size, (hb.cell hl).trans h2, (hb.cell (p := ⟨(ad.add (i * 5)).block, _, none⟩) hl).trans h3, (hb.cell (p := ⟨(ad.add (i * 5)).block, _, none⟩) hl).trans h4, (hb.cell (p := ⟨(ad.add (i * 5)).block, _, none⟩) hl).trans h5, (hb.cell (p := ⟨(ad.add (i * 5)).block, _, none⟩) hl).trans h6, h7⟩
def RefBox (w : World) (q r : Nat) (A : Option Addr) (c : Nat) (low : Int) (L : List S86) : Prop :=
 w.heap[r]? = some (.cells #[.int .i64 low, .slice A L.length c] 39) ∧ RefAt w (fun k => q ≤ k ∧ k ≠ r) (.agg #[.int .i64 low, .slice A L.length c]) low L
theorem RefBox.below {w w' : World} {q r : Nat} {A : Option Addr} {c : Nat} {low : Int} {L : List S86} (h : RefBox w q r A c low L) (hb : Below w.heap.size w w') : RefBox w' q r A c low L :=
 ⟨(hb.block r (zak h.1)).trans h.1, h.2.below hb⟩
theorem RefBox.only {w w' : World} {q r b m : Nat} {A : Option Addr} {c : Nat} {low : Int} {L : List S86} (h : RefBox w q r A c low L) (ho : Only b m w w') (h1 : b < q) (h2 : m < q) (h3 : q ≤ r) : RefBox w' q r A c low L :=
 ⟨(ho.2 r (zak h.1) (by omega) (by omega)).trans h.1, h.2.only ho fun k hk => by omega⟩
theorem RefBox.facts {w : World} {q r : Nat} {A : Option Addr} {c : Nat} {low : Int} {L : List S86} (h : RefBox w q r A c low L) :
  w.cell? ⟨r, 0, none⟩ = some (.int .i64 low) ∧ w.cell? ⟨r, 1, none⟩ = some (.slice A L.length c) ∧ w.frozen? ⟨r, 0, none⟩ = false ∧ w.frozen? ⟨r, 1, none⟩ = false :=
 ⟨(za h.1 0).trans rfl, (za h.1 1).trans rfl, zaa h.1 0, zaa h.1 1⟩
theorem RefBox.put {w : World} {q r : Nat} {A : Option Addr} {c : Nat} {low : Int} {L : List S86} {x0 x1 : Value} (hb : w.heap[r]? = some (.cells #[x0, x1] 39)) (h : RefAt w (fun k => q ≤ k ∧ k ≠ r) (.agg #[.int .i64 low, .slice A L.length c]) low L) :
  RefBox ((w.setCell ⟨r, 0, none⟩ (.int .i64 low)).setCell ⟨r, 1, none⟩ (.slice A L.length c)) q r A c low L := by
 refine ⟨zal (zal hb 0 _ rfl) 1 _ rfl, ?_⟩
 obtain ⟨A', c', e, hv⟩ := h
 exact ⟨A', c', e, Kd.V_far (Kd.V_far hv (fun k hk => hk.2) _) (fun k hk => hk.2) _⟩
theorem RefBox.start {w1 w2 : World} {A : Option Addr} {c : Nat} (h : Kd.R k86 86 w2 w1.heap.size (fun _ => True) (.slice A 0 c) []) :
  RefBox (w2.alloc (.cells #[.int .i64 1, .slice A 0 c] 39)) w1.heap.size w2.heap.size A c 1 [] :=
 ⟨zas w2 _, A, c, rfl, Kd.za1 (Kd.za8 (Kd.R_V (Kd.R_bound h)) _) (fun k hk => ⟨hk.2.1, by have := hk.2.2.1; omega⟩)⟩
theorem book_Low_eq {w : World} {b m n : Nat} {low : Int} {g : Int → Option E3} (h : BookAt w b m n low g) :
  Calls Try.prog 19 #[.pointer (some ⟨b, 0, none⟩)] w fun e w' => e = .returned (.int .i64 low) ∧ w' = w := by
 obtain ⟨f0, f1, f2⟩ := h.facts
 have H := Aside0.mk h
 clear h
 go_enter Try.func19, Try.ntmps19
 go_wp2_with fail
 go_ret
 exact ⟨rfl, rfl⟩
theorem BookAt.drewNb {w : World} {b m n : Nat} {low : Int} {g : Int → Option E3} (h : BookAt w b m n low g) (q : Nat) : BookAt (w.drewN q) b m n low g := h
theorem list5 {α : Type} {l : List α} (h : l.length = 5) : ∃ a b c d e, l = [a, b, c, d, e] := by
 match l, h with
 | [a, b, c, d, e], _ => exact ⟨a, b, c, d, e, rfl⟩
theorem add_zero5 (a : Addr) : a.add 0 = a := by
 unfold Addr.add
 simp
theorem add_off5 (a : Addr) {k : Nat} (h : 0 < k) : a.add k = ⟨a.block, a.off + k, none⟩ := by
 unfold Addr.add
 rw [if_neg (by omega)]
theorem open_acts12 {H : Type} {enc : TypeId × Value → H} {W : World} {base : Nat} {spare : Nat → Bool} {held : Bool} {fuel : Nat} {A : Option Addr} {len cap : Nat} {x : DataW H × List MemPlace}
  (h : DataW.trod enc Try.prog W base spare held fuel 35 [.slice A len cap] = some x) : ∃ f, Acts5At W A len f := by
 have ce : Try.prog.cellsOf 42 = 5 := by kernel_rfl
 have c3 : Try.prog.cellsOf 3 = 1 := by kernel_rfl
 have c5 : Try.prog.cellsOf 5 = 1 := by kernel_rfl
 rcases Go.Deep.open_slice Try.underlying35 h with ⟨hcs, _⟩ | ⟨a, len', cap', m, n, D, Pl, hcs, hb, hl, hm, hmm, _, hx⟩
 ·
  simp at hcs
  obtain ⟨rfl, rfl, rfl⟩ := hcs
  exact ⟨fun _ => (0, 0, 0, 0, 0), fun i hi => absurd hi (by omega)⟩
 ·
  simp at hcs
  obtain ⟨rfl, rfl, rfl⟩ := hcs
  have each : ∀ i, i < len → ∃ q : Int × Int × Int × Int × Int, W.cell? (a.add (i * 5)) = some (.int .u8 q.1) ∧ W.cell? ((a.add (i * 5)).add 1) = some (.int .i64 q.2.1) ∧ W.cell? ((a.add (i * 5)).add 2) = some (.int .i64 q.2.2.1) ∧ W.cell? ((a.add (i * 5)).add 3) = some (.int .i64 q.2.2.2.1) ∧ W.cell? ((a.add (i * 5)).add 4) = some (.int .i64 q.2.2.2.2) ∧ 0 ≤ q.1 ∧ (Lit.int .i64 q.2.1).wf = true := by
   intro i hi
   obtain ⟨cs', h1, h2⟩ := hx i (by rw [hmm]; split <;> omega)
   rw [ce] at h1
   obtain ⟨_, hlen, hcell⟩ := World.cells?_some h1
   obtain ⟨xs, k, hk, hxy, _, hxl, hf⟩ := DataW.trod_struct Try.underlying42 h2
   obtain ⟨y0, y1, y2, y3, y4, rfl⟩ := list5 (show xs.length = 5 from hxl)
   obtain ⟨v0, v1, v2, v3, v4, rfl⟩ := list5 hlen
   have g0 := hf 0 _ rfl
   have g1 := hf 1 _ rfl
   have g2 := hf 2 _ rfl
   have g3 := hf 3 _ rfl
   have g4 := hf 4 _ rfl
   simp [c3, c5] at g0 g1 g2 g3 g4
   have e0 := hcell 0 (by omega)
   have e1 := hcell 1 (by omega)
   have e2 := hcell 2 (by omega)
   have e3 := hcell 3 (by omega)
   have e4 := hcell 4 (by omega)
   rw [add_zero5] at e0
   simp only [List.getElem?_cons_zero, List.getElem?_cons_succ] at e0 e1 e2 e3 e4
   obtain ⟨x0, z0, _, w0⟩ := DataW.trod_int Try.underlying5 g0
   obtain ⟨x1, z1, _, w1⟩ := DataW.trod_int Try.underlying3 g1
   obtain ⟨x2, z2, _, w2⟩ := DataW.trod_int Try.underlying3 g2
   obtain ⟨x3, z3, _, w3⟩ := DataW.trod_int Try.underlying3 g3
   obtain ⟨x4, z4, _, w4⟩ := DataW.trod_int Try.underlying3 g4
   simp only [List.cons.injEq, and_true] at z0 z1 z2 z3 z4
   subst z0 z1 z2 z3 z4
   refine ⟨(x0, x1, x2, x3, x4), e0, e1, e2, e3, e4, (bounds_u8 w0).1, w1⟩
  obtain ⟨f, hf⟩ := Go.Deep.choose_lt each
  refine ⟨f, fun i hi => ?_⟩
  obtain ⟨c0, c1, c2, c3, c4, w0, w1⟩ := hf i hi
  have hlt : a.block < W.heap.size := by
   rcases Nat.lt_or_ge a.block W.heap.size with h | h
   ·
    exact h
   ·
    have := c0
    unfold World.cell? at this
    rw [add_block5, Array.getElem?_eq_none h] at this
    simp at this
  rw [add_off5 _ (by decide)] at c1 c2 c3 c4
  exact ⟨a, rfl, hlt, c0, c1, c2, c3, c4, w0, w1⟩
end Go.Proofs.Ytbakdobjidjncaa.P
end
section
namespace Go.Proofs
open Go.Shelf
def Try.keysA_ren : Go.Shelf.Ren := ⟨fun | 7 => 62 | 10 => 76 | n => n, fun | 23 => 76 | 26 => 3 | 3 => 48 | 28 => 106 | 0 => 0 | 27 => 105 | 33 => 31 | 4 => 4 | n => n, fun | n => n⟩
theorem Try.keysA : Go.Proofs.SlLaysZI.n7 Try.prog Try.keysA_ren := {
 mixed := by kernel_rfl
 f7 := ⟨Try.f62.name, by decide, Try.func62.trans (congrArg some (by kernel_rfl))⟩
 f10 := ⟨Try.f76.name, by decide, Try.func76.trans (congrArg some (by kernel_rfl))⟩
 t0 := Try.underlying0
 a0 := Try.isAgg0
 z0 := Try.sizeOf0
 v0 := Try.zeroValue0
 t4 := Try.underlying4
 a4 := Try.isAgg4
 z4 := Try.sizeOf4
 v4 := Try.zeroValue4
 t23 := Try.underlying76
 a23 := Try.isAgg76
 z23 := Try.sizeOf76
 v23 := Try.zeroValue76
 t26 := Try.underlying3
 a26 := Try.isAgg3
 z26 := Try.sizeOf3
 v26 := Try.zeroValue3
 t27 := Try.underlying105
 a27 := Try.isAgg105
 z27 := Try.sizeOf105
 v27 := Try.zeroValue105
 t28 := Try.underlying106
 a28 := Try.isAgg106
 z28 := Try.sizeOf106
 v28 := Try.zeroValue106
 t33 := Try.underlying31
 a33 := Try.isAgg31
 z33 := Try.sizeOf31
 v33 := Try.zeroValue31 }
def Try.sortedA_ren : Go.Shelf.Ren := ⟨fun | 6 => 61 | 8 => 75 | 9 => 45 | 11 => 83 | 13 => 58 | 12 => 57 | 23 => 73 | 24 => 74 | 14 => 64 | 15 => 65 | 16 => 66 | 17 => 67 | 18 => 68 | 19 => 69 | 20 => 70 | 21 => 71 | 22 => 72 | 25 => 77 | 26 => 78 | 27 => 79 | 28 => 80 | 29 => 81 | 30 => 82 | 31 => 84 | n => n, fun | 26 => 3 | 28 => 106 | 24 => 26 | 0 => 0 | 3 => 3 | 37 => 101 | 48 => 119 | 50 => 121 | 4 => 4 | 40 => 111 | 39 => 110 | 45 => 116 | 5 => 5 | 9 => 9 | 51 => 122 | 55 => 126 | 57 => 129 | 58 => 130 | 33 => 31 | n => n, fun | n => n⟩
theorem Try.sortedA : Go.Proofs.SlLaysZI.n6 Try.prog Try.sortedA_ren := {
 mixed := by kernel_rfl
 f6 := ⟨Try.f61.name, by decide, Try.func61.trans (congrArg some (by kernel_rfl))⟩
 f8 := ⟨Try.f75.name, by decide, Try.func75.trans (congrArg some (by kernel_rfl))⟩
 f11 := ⟨Try.f83.name, by decide, Try.func83.trans (congrArg some (by kernel_rfl))⟩
 t0 := Try.underlying0
 a0 := Try.isAgg0
 z0 := Try.sizeOf0
 v0 := Try.zeroValue0
 t24 := Try.underlying26
 a24 := Try.isAgg26
 z24 := Try.sizeOf26
 v24 := Try.zeroValue26
 t26 := Try.underlying3
 a26 := Try.isAgg3
 z26 := Try.sizeOf3
 v26 := Try.zeroValue3
 t28 := Try.underlying106
 a28 := Try.isAgg106
 z28 := Try.sizeOf106
 v28 := Try.zeroValue106
 i26 := by kernel_rfl }
end Go.Proofs
end
section
namespace Go.Proofs.Ytbakdobjidjncaa.P
open Go.RowKit Go.Proofs.YtbakdobjidjncaaW.PrintWords Go.Proofs.YtbakdobjidjncaaW.PrintLast Go.Proofs.YtbakdobjidjncaaW.PrintMore
attribute [local go_sem] zbx zbw max_two min_two zbm zbk zbs zbt
section
open Go.Maps Go.Sort Go.Shelf
theorem sortsA (m : Nat) : AnyZI.SortsIn Try.prog Try.sortedA_ren Fence.wide m :=
 ⟨fun blk off cap ss W hH hblk hsz => callsIn_wide.2 (Try.slices_Sort_int blk off cap ss W hH hblk hsz),
  fun p cap W => callsIn_wide.2 (Try.slices_Sort_int_none p cap W)⟩
theorem keys_ok (mb : Option Nat) (W : World) : Calls Try.prog 62 #[.map mb] W fun e w' => e = .returned (.func (.func 76) #[] #[.pointer (some ⟨W.heap.size, 0, none⟩)]) ∧ w' = W.alloc (.cells #[.map mb] 76) :=
 (callsIn_wide (n := 5)).1 (AnyZI.keys_in Try.keysA Fence.wide 5 trivial rfl mb W)
theorem sorted_ok {H : Type} (b nn : Nat) (D0 : DataW H) (R : Value → Option (DataW H × List MemPlace)) (w : World) (hown : w.ownsMap Try.prog 3 R b nn D0) (hmax : Maps.size D0 ≤ maxLen) (hbytes : Maps.size D0 * 8 ≤ 140737488355328) :
  Calls Try.prog 61 #[.func (.func 76) #[] #[.pointer (some ⟨w.heap.size, 0, none⟩)]] (w.alloc (.cells #[.map (some b)] 76)) fun e w' => ∃ (v : Value) (ss : List Int), e = .returned v ∧ ss.Perm (intKeys D0) ∧
   w'.ownsRow (w.alloc (.cells #[.map (some b)] 76)).heap.size 3 1 v ss.length ((ss.mergeSort (fun x y => decide (x ≤ y))).map encZ) ∧ (v = .slice none 0 0 ↔ ss = []) ∧ Below (w.alloc (.cells #[.map (some b)] 76)).heap.size (w.alloc (.cells #[.map (some b)] 76)) w' := by
 have hbl := hown.lt
 have hseq : SeqGives Fence.wide 2 Try.prog 76 #[.pointer (some ⟨w.heap.size, 0, none⟩)] encZ (fun ss => ss.Perm (intKeys D0)) (Maps.size D0) (w.alloc (.cells #[.map (some b)] 76)) :=
  AnyZI.keys_gives (ρ := Try.keysA_ren) { Try.keysA with } Fence.wide _ trivial rfl (by omega) w.heap.size b nn D0 _ (by simp) (by simp) (by
   obtain ⟨es, clock, hb, Ft, hs, hD⟩ := hown
   exact ⟨es, clock, (Below.heap_alloc _ _ b hbl).trans hb, Ft, hs, hD⟩)
 have cS := AnyZI.sorted_in Try.sortedA Fence.wide 5 trivial trivial trivial trivial rfl (by omega) (sortsA _) (enters_of Try.func45 (by kernel_rfl) rfl) 76 #[.pointer (some ⟨w.heap.size, 0, none⟩)] trivial (enters_of Try.func76 (by kernel_rfl) rfl) _ _ hmax hbytes _ hseq
 change CallsIn _ _ Try.prog 61 _ _ _ at cS
 exact (callsIn_wide (n := 5)).1 cS
theorem ids_perm {w : World} {m n : Nat} {L : List S86} (hI : Ids L) {D : DataW E3} (hown : w.ownsMap Try.prog 3 (mkR mkE) m n D) (hd : HoldsM D (look L)) : (L.map (·.f0)).Perm (intKeys D) := by
 refine CollectedI.perm (left := fun _ => false) ⟨?_, fun x => ?_⟩ hown (Maps.int_keyed Try.underlying3) Try.underlying3 (fun _ => rfl)
 ·
  exact (List.pairwise_map.2 hI).imp (fun h e => by omega)
 ·
  rw [hd.has]
  constructor
  ·
   intro hx
   obtain ⟨e, he, rfl⟩ := List.mem_map.1 hx
   exact ⟨by rw [zbh hI he]; rfl, rfl⟩
  ·
   rintro ⟨hx, _⟩
   obtain ⟨e, he⟩ := Option.isSome_iff_exists.1 hx
   obtain ⟨y, hy, h1, _⟩ := zbe he
   exact List.mem_map.2 ⟨y, hy, h1⟩
end
theorem row_ints {w : World} {base : Nat} {v : Value} {n : Nat} {l : List Int} (h : w.ownsRow base 3 1 v n (l.map encZ)) : IntsAt w v l := by
 have hl : l.length = n := by have := h.1; simpa using this
 subst hl
 obtain ⟨_, hv⟩ := h
 rcases hv with ⟨rfl, h0⟩ | ⟨g, cap, cur, rfl, hb, hg, hc, hm, hsz, ht⟩
 ·
  obtain rfl : l = [] := List.length_eq_zero_iff.1 h0
  exact IntsAt.nil w none 0
 ·
  refine ⟨_, _, rfl, hc, rfl, by simp [maxLen] at hm; omega, fun _ => ⟨_, rfl, fun j p hj => ⟨[.int .i64 p], rfl, rfl, fun i u hu => ?_⟩⟩⟩
  match i, hu with
  | 0, hu =>
   have e : (Addr.add ⟨g, 0, none⟩ (j * (Kd.int .i64).sz + 0)) = ⟨g, j, none⟩ := by
    show (Addr.add ⟨g, 0, none⟩ (j * 1 + 0)) = _
    rw [Nat.mul_one, Nat.add_zero, add_plain]
   rw [e, za hg]
   have h1 : (cur.toList.take (l.length * 1))[j]? = (l.map encZ)[j]? := by rw [ht]
   obtain ⟨hjl, hjp⟩ := List.getElem?_eq_some_iff.1 hj
   rw [List.getElem?_take, if_pos (by omega), List.getElem?_map, hj] at h1
   rw [← Array.getElem?_toList, h1]
   simpa [encZ] using hu
theorem book_Ids_ok {w : World} {b m n : Nat} {low : Int} {L : List S86} (h : Bk w b m n low L) (hI : Ids L) (hL : L.length < 1000000) :
  Calls Try.prog 52 #[.pointer (some ⟨b, 0, none⟩)] w fun e w' => ∃ v, e = .returned v ∧ IntsAt w' v (L.map (·.f0)) ∧ Below w.heap.size w w' := by
 obtain ⟨D, hown, hd⟩ := h.2.2
 have hp := ids_perm hI hown hd
 have hsz : Maps.size D = L.length := by
  have h1 := hp.length_eq
  rw [List.length_map] at h1
  rw [h1]
  cases D <;> simp [Maps.size, intKeys]
 obtain ⟨f0, f1, f2⟩ := BookAt.facts h
 have HP := Aside0.mk hp
 have HS := Aside0.mk (sorted_ok m n D (mkR mkE) w hown (by rw [hsz]; simp [maxLen]; omega) (by rw [hsz]; omega))
 have HI := Aside0.mk hI
 clear hown hd hp hsz h hI
 go_enter Try.func52, Try.ntmps52
 go_wp2_with fail
 go_at_call 62
 refine (keys_ok _ _).mono ?_
 rintro e w1 ⟨rfl, rfl⟩
 go_wp2_with fail
 go_at_call 61
 refine HS.out.mono ?_
 rintro e w2 ⟨v, ss, rfl, hss, hrow, _, hb⟩
 rw [sort_perm (hss.trans HP.out.symm) (List.pairwise_map.2 HI.out)] at hrow
 have HR := Aside0.mk (row_ints hrow)
 have HB := Aside0.mk (zai (zae (Below.refl _ w) _) hb)
 clear hss hrow hb
 go_wp2_with fail
 go_ret
 exact ⟨v, rfl, HR.out, HB.out⟩
end Go.Proofs.Ytbakdobjidjncaa.P
end
section
namespace Go.Proofs.Ytbakdobjidjncaa.P
open Go.RowKit Go.Proofs.YtbakdobjidjncaaW.PrintWords Go.Proofs.YtbakdobjidjncaaW.PrintLast Go.Proofs.YtbakdobjidjncaaW.PrintMore
attribute [local go_sem] zbx zbw max_two min_two zbm zbk zbs zbt
theorem Is_ok {w : World} {P : Nat → Prop} {v : Value} {b m n : Nat} {low : Int} {L : List S86} (hb : Bk w b m n low L) (hr : RefAt w P v low L) (hG : GoodB low L) (hL : L.length < 900000) :
  Calls Try.prog 27 #[.pointer (some ⟨b, 0, none⟩), v] w fun e w' => e = .returned (.bool true) ∧ Below w.heap.size w w' := by
 obtain ⟨A, c, rfl, hv⟩ := hr
 have HB := Aside0.mk hb
 have HV := Aside0.mk hv
 have HG := Aside0.mk hG
 obtain ⟨ki, hki⟩ := (Ints_same (L.map (·.f0)) (by rw [List.length_map]; omega)).get
 obtain ⟨ids, hids0⟩ : ∃ ids, L.map (·.f0) = ids := ⟨_, rfl⟩
 rw [hids0] at hki
 have hidl : ids.length = L.length := by rw [← hids0, List.length_map]
 have HKI := Aside0.mk hki
 have HID := Aside0.mk hids0
 have HIL := Aside0.mk hidl
 clear hb hv hG hki hids0 hidl
 go_enter Try.func27, Try.ntmps27
 go_wp2_with fail
 have hal := zae (Below.refl _ w) (.cells #[.int .i64 low, .slice A L.length c] 39)
 have hx := zas w (.cells #[.int .i64 low, .slice A L.length c] 39)
 generalize w.alloc (.cells #[.int .i64 low, .slice A L.length c] 39) = W0 at hal hx ⊢
 have HK0 := Aside0.mk (Bk.keep HB.out hal)
 have p0 : W0.cell? ⟨w.heap.size, 0, none⟩ = some (.int .i64 low) := (za hx 0).trans rfl
 have p1 : W0.cell? ⟨w.heap.size, 1, none⟩ = some (.slice A L.length c) := (za hx 1).trans rfl
 have HA := Aside0.mk hal
 clear hx hal
 have d1 : (low == low) = true := beq_self_eq_true _
 go_quiet (first | (go_at_call 19; exact Calls.quiet_of_same (book_Low_eq (BookAt.drewNb HK0.out _))))
 go_wp2
 have HA1 := Aside0.mk (zbp HA.out nq)
 have p2 : (W0.drewN nq).cell? ⟨w.heap.size, 1, none⟩ = some (.slice A L.length c) := p1
 generalize W0.drewN nq = W1 at HA1 p2 ⊢
 clear p0 p1 HA HK0
 go_loopg [5, 22] L.length (fun gk v5 v22 w' => ∃ i : Nat, v22 = .int .i64 (i : Int) ∧ i + gk = L.length ∧ Aside0 (Kd.R (Kd.int .i64) 3 w' w.heap.size (fun k => w.heap.size ≤ k) v5 (ids.take i)) ∧ Aside0 (Below w.heap.size w w'))
 case atStart => exact ⟨0, by go_num, by omega, ⟨Kd.R_nil _ _ _ _ _⟩, HA1⟩
 case round =>
  obtain ⟨i, rfl, hi, HO, HW⟩ := hrel
  clear p2
  cases gk with
  | zero =>
   have d1 : decide ((i : Int) < (L.length : Int)) = false := decide_eq_false (by omega)
   go_wp2_with fail
   go_at_call 52
   refine (book_Ids_ok (Bk.keep HB.out HW.out) HG.out.1 (by omega)).mono ?_
   rintro e w2 ⟨v2, rfl, hi2, hb2⟩
   rw [HID.out] at hi2
   obtain ⟨A2, c2, rfl, hc2, hC2⟩ := hi2
   have ho2 := Kd.R_below HO.out hb2
   rw [List.take_of_length_le (by have := HIL.out; omega)] at ho2
   have hv2 := Kd.R_V (base' := 0) ho2
   obtain ⟨A3, c3, rfl⟩ := Kd.zbn ho2
   obtain ⟨_, hc3, hC3⟩ := Kd.zaw hv2
   have HC2 := Aside0.mk hC2
   have HC3 := Aside0.mk hC3
   have HB2 := Aside0.mk (zai HW.out hb2)
   have HL2 := Aside0.mk hc2
   have HL3 := Aside0.mk hc3
   clear hC2 hC3 hb2 ho2 hv2 hc2 hc3
   go_wp2_with fail
   go_at_call 50
   refine (zaq.calls ki A2 c2 ids A3 c3 ids true _ HC2.out HL2.out HC3.out HL3.out HKI.out).mono ?_
   rintro e w6 ⟨rfl, hw6⟩
   have HB6 := Aside0.mk (zai HB2.out hw6.below)
   clear hw6
   go_wp2_with fail
   go_ret
   exact ⟨rfl, HB6.out⟩
  | succ g1 =>
   have d1 : decide ((i : Int) < (L.length : Int)) = true := decide_eq_true (by omega)
   have d2 : 0 ≤ (i : Int) ∧ (i : Int) < (L.length : Int) := by omega
   have hil : i < L.length := by omega
   obtain ⟨_, _, hC⟩ := Kd.zaw (Kd.zbg HV.out HW.out)
   obtain ⟨ad, rfl, x0, x1, x2, x3⟩ := at_T86 hC (i : Int) (by omega) (by omega)
   have hmem : rd_T86 L (i : Int) ∈ L := by
    have : rd_T86 L (i : Int) = L[i] := by simp [rd_T86, hil]
    rw [this]
    exact List.getElem_mem hil
   have hids : ids.take (i + 1) = ids.take i ++ [(rd_T86 L (i : Int)).f0] := by
    rw [← HID.out, List.take_succ_eq_append_getElem (by rw [List.length_map]; exact hil)]
    simp [rd_T86, hil]
   have hlk := zbh HG.out.1 hmem
   obtain ⟨wf, g1', g2, g3, g4, g5, g6, g7⟩ := HG.out.2 _ hmem
   simp only [Int.toNat_natCast] at x0 x1 x2 x3
   generalize rd_T86 L (i : Int) = fe at x0 x1 x2 x3 hids hlk wf g1' g2 g3 g4 g5 g6 g7
   obtain ⟨k, tg, lf, sl⟩ := fe
   dsimp only at x0 x1 x2 x3 hids hlk wf g1' g2 g3 g4 g5 g6 g7
   have HIDS := Aside0.mk hids
   have HLK := Aside0.mk hlk
   have WF := Aside0.mk wf
   clear hC hmem hids hlk wf g1' g2 g4 g5 g6 g7
   have hb1 := zae HW.out (.cells #[.int .i64 k, .int .i64 tg, .int .i64 lf, .int .i64 sl] 86)
   have ho1 := Kd.R_below HO.out (zae (Below.refl _ wr) (.cells #[.int .i64 k, .int .i64 tg, .int .i64 lf, .int .i64 sl] 86))
   have hown := Kd.R_lt HO.out
   have HE1 := Aside0.mk (zas wr (.cells #[.int .i64 k, .int .i64 tg, .int .i64 lf, .int .i64 sl] 86))
   have hsz1 : w.heap.size ≤ (wr.alloc (.cells #[.int .i64 k, .int .i64 tg, .int .i64 lf, .int .i64 sl] 86)).heap.size := hb1.size
   have hwr := HW.out.size
   have hll : (ids.take i).length + 1 < 1000000 := by rw [List.length_take]; omega
   have HB1 := Aside0.mk hb1
   have HO1 := Aside0.mk ho1
   clear hb1 ho1
   go_wp2_with (first | ((with_reducible refine gate_builtin (b := .append) (xs := #[.tmp 26, .tmp 29]) rfl ?_); at_builtin; refine Kd.R_append (Kd.int .i64) (w0 := w) w.heap.size rfl (.tmp 26) (.tmp 29) 26 3 (.int .i64 0) 8 rfl Try.underlying26 info3 rfl (by decide) (by omega) u5 (ids.take i) k [.int .i64 k] (fun k_ => w.heap.size ≤ k_) (fun _ => False) rfl (by first | rfl | simp [Act.eval]) rfl (fun _ hk => hk.elim) (fun k_ hk => Nat.le_trans hsz1 hk) HO1.out HB1.out hsz1 (by omega) ?_; intro v9 w9 ho9 hb9 hg9 hat9; have HO9 := Aside0.mk ho9; have HB9 := Aside0.mk hb9; have he9 := (hg9.block _ (zak HE1.out) (fun e => Nat.lt_irrefl _ (hown _ e.symm))).trans HE1.out; have HE9 := Aside0.mk he9; have y0 : w9.cell? ⟨wr.heap.size, 0, none⟩ = some (.int .i64 k) := (za he9 0).trans rfl; clear ho9 hb9 hg9 hat9 he9))
   go_at_call 24
   have hEn := zb (Bk.keep HB.out HB9.out) WF.out
   rw [HLK.out] at hEn
   dsimp only [ent, entCode, Option.getD] at hEn
   refine hEn.mono ?_
   rintro e w10 ⟨rfl, hb10⟩
   have hx10 := zas w10 (.cells #[.int .i64 tg, .int .i64 lf, .int .i64 sl] 48)
   have he10 := zac ((hb10.block _ (zak HE9.out)).trans HE9.out) (.cells #[.int .i64 tg, .int .i64 lf, .int .i64 sl] 48)
   have HB10 := Aside0.mk (zae (zai HB9.out hb10) (.cells #[.int .i64 tg, .int .i64 lf, .int .i64 sl] 48))
   have HO10 := Aside0.mk (Kd.R_below HO9.out (zae hb10 (.cells #[.int .i64 tg, .int .i64 lf, .int .i64 sl] 48)))
   clear hb10 hEn y0
   go_wp2_with fail
   generalize w10.alloc (.cells #[.int .i64 tg, .int .i64 lf, .int .i64 sl] 48) = W10 at hx10 he10 HB10 HO10 ⊢
   have HSK : Aside0 (∀ W, Below W10.heap.size W10 W → W.cell? ⟨wr.heap.size, 0, none⟩ = some (.int .i64 k) ∧ W.cell? ⟨wr.heap.size, 1, none⟩ = some (.int .i64 tg) ∧ W.cell? ⟨wr.heap.size, 2, none⟩ = some (.int .i64 lf) ∧ W.cell? ⟨wr.heap.size, 3, none⟩ = some (.int .i64 sl) ∧ W.cell? ⟨w10.heap.size, 0, none⟩ = some (.int .i64 tg) ∧ W.cell? ⟨w10.heap.size, 1, none⟩ = some (.int .i64 lf) ∧ W.cell? ⟨w10.heap.size, 2, none⟩ = some (.int .i64 sl)) := ⟨fun W h => by
    have h1 := (h.block _ (zak he10)).trans he10
    have h2 := (h.block _ (zak hx10)).trans hx10
    exact ⟨(za h1 0).trans rfl, (za h1 1).trans rfl, (za h1 2).trans rfl, (za h1 3).trans rfl, (za h2 0).trans rfl, (za h2 1).trans rfl, (za h2 2).trans rfl⟩⟩
   obtain ⟨y0, y1, y2, y3, y4, y5, y6⟩ := HSK.out W10 (Below.refl _ _)
   have hOp := book_Open_ok (w := W10.drew) (Bk.keep HB.out HB10.out.drew) WF.out
   rw [HLK.out] at hOp
   dsimp only [ent, Option.getD] at hOp
   have HOP := Aside0.mk hOp
   have q1 : (tg == tg) = true := beq_self_eq_true _
   have q2 : (lf == lf) = true := beq_self_eq_true _
   have q3 : (sl == sl) = true := beq_self_eq_true _
   have q4 : (decide (lf > 0) == decide (lf > 0)) = true := beq_self_eq_true _
   clear hOp hx10 he10
   go_region_held3 (fun W => W.cell? ⟨wr.heap.size, 0, none⟩ = some (.int .i64 k) ∧ W.cell? ⟨wr.heap.size, 1, none⟩ = some (.int .i64 tg) ∧ W.cell? ⟨wr.heap.size, 2, none⟩ = some (.int .i64 lf) ∧ W.cell? ⟨wr.heap.size, 3, none⟩ = some (.int .i64 sl) ∧ W.cell? ⟨w10.heap.size, 0, none⟩ = some (.int .i64 tg) ∧ W.cell? ⟨w10.heap.size, 1, none⟩ = some (.int .i64 lf) ∧ W.cell? ⟨w10.heap.size, 2, none⟩ = some (.int .i64 sl)) (((with_reducible refine HSK.out _ ?_); first | (with_reducible exact HB11.out) | (with_reducible exact (Below.refl _ W10).drew))) (first | (go_at_call 17; refine HOP.out.mono ?_; rintro e w11 ⟨rfl, hb11⟩; have HB11 := Aside0.mk (((Below.refl W10.heap.size W10).drew).trans hb11); clear hb11))
   all_goals
    go_wp2
    go_roundg g1
    case measure => exact Nat.lt_succ_self _
    case rel => exact ⟨i + 1, by go_num, by omega, ⟨by rw [HIDS.out]; exact Kd.R_below HO10.out HB11.out⟩, ⟨zai HB10.out HB11.out⟩⟩
theorem insL_low {x : S86} : ∀ {L : List S86}, (∀ y ∈ L, x.f0 < y.f0) → insL x L = x :: L
 | [], _ => rfl
 | y :: ys, h => by
  unfold insL
  rw [if_neg (by have := h y List.mem_cons_self; omega)]
theorem ins_del {id t l s : Int} : ∀ {L : List S86}, Ids L → look L id = some (t, l, s) → insL ⟨id, t, l, s⟩ (delL id L) = L
 | [], _, h => by cases h
 | x :: xs, hI, h => by
  have hI' := List.pairwise_cons.1 hI
  by_cases e : x.f0 = id
  ·
   have hx : x = ⟨id, t, l, s⟩ := by
    have h1 := zbh hI (x := x) List.mem_cons_self
    rw [e, h] at h1
    obtain ⟨a, b, c, d⟩ := x
    dsimp only at e
    cases h1
    rw [e]
   have hd : delL id (x :: xs) = xs := by
    unfold delL
    rw [List.filter_cons, if_neg (by simp [e])]
    refine List.filter_eq_self.2 fun y hy => ?_
    have := hI'.1 y hy
    simp
    omega
   rw [hd, insL_low (fun y hy => by have := hI'.1 y hy; dsimp only; omega), hx]
  ·
   have h2 : look xs id = some (t, l, s) := by
    unfold look at h ⊢
    rw [List.find?_cons] at h
    rw [show (x.f0 == id) = false from beq_eq_false_iff_ne.mpr e] at h
    exact h
   have hlt : x.f0 < id := by
    obtain ⟨y, hy, h3, _⟩ := zbe h2
    have := hI'.1 y hy
    omega
   have hd : delL id (x :: xs) = x :: delL id xs := by
    unfold delL
    rw [List.filter_cons, if_pos (by simp [e])]
   rw [hd]
   unfold insL
   rw [if_pos (by dsimp only; omega), ins_del hI'.2 h2]
theorem RoundBack_ok (A : Option Addr) (len cap : Nat) (f : Nat → Int × Int × Int × Int × Int) (id : Int) (w : World) (hR : Acts5At w A len f) (hlen : len ≤ 50) (wf : (Lit.int .i64 id).wf = true) :
  Calls Try.prog 8 #[.slice A len cap, .int .i64 id] w fun e w' => e = .returned (.bool true) ∧ Below w.heap.size w w' := by
 have HR := Aside0.mk hR
 have d3 : decide ((len : Int) > 50) = false := decide_eq_false (by omega)
 clear hR
 go_enter Try.func8, Try.ntmps8
 go_wp2_with fail
 go_at_call 13
 refine (awake12_ok _).mono ?_
 rintro e w0 ⟨rfl, hw0⟩
 have HW0 := Aside0.mk hw0
 have HR0 : Aside0 (Acts5At w0 A len f) := ⟨HR.out.below HW0.out⟩
 clear hw0
 go_wp2_with fail
 go_at_call 14
 refine (book_New_ok w0).mono ?_
 rintro e w1 ⟨b, m, rfl, hb, hm, hbk, hw⟩
 have hsz0 := HW0.out.size
 have hbm : b ≠ m := hbk.1
 have hlt1 := hbk.lt
 have HK1 : Aside0 (Bk w1 b m 0 1 []) := ⟨BookAt.ext hbk fun _ => rfl⟩
 have HW1 := Aside0.mk (zai HW0.out hw)
 have HW01 := Aside0.mk hw
 clear hbk hw
 go_wp2_with fail
 go_at_call 20
 refine (roundelref12_New.calls 1 [] w1 rfl).mono ?_
 rintro e w2 ⟨v1, rfl, hr2, hw2⟩
 obtain ⟨A2, c2, rfl⟩ := Kd.zbn hr2
 have HQ2 := Aside0.mk (RefBox.start hr2)
 have HW2 := Aside0.mk (zae (Below.trans (Below.mono (Below.trans (Below.refl _ w0) HW01.out) (Nat.le_refl _)) (hw2.mono HW01.out.size)) (.cells #[.int .i64 1, .slice A2 0 c2] 39))
 have HK2 : Aside0 (Bk (w2.alloc (.cells #[.int .i64 1, .slice A2 0 c2] 39)) b m 0 1 []) := ⟨Bk.keep (Bk.keep HK1.out hw2) (zae (Below.refl _ w2) _)⟩
 have hszr := hw2.size
 clear hr2 hw2 HK1
 go_wp2_with fail
 generalize w2.alloc (.cells #[.int .i64 1, .slice A2 0 c2] 39) = W2 at HQ2 HW2 HK2 ⊢
 generalize w2.heap.size = r at HQ2 hszr ⊢
 generalize w1.heap.size = q at HQ2 hszr hlt1 ⊢
 go_loopg [25] len (fun gk v25 w' => ∃ (i : Nat) (low : Int) (L : List S86) (A3 : Option Addr) (c3 : Nat), v25 = .int .i64 (i : Int) ∧ i + gk = len ∧ Aside0 (Bk w' b m i low L) ∧ Aside0 (GoodB low L) ∧ Aside0 (RefBox w' q r A3 c3 low L) ∧ (1 ≤ low ∧ low ≤ 1 + 4 * (i : Int)) ∧ L.length ≤ i ∧ Aside0 (Below w0.heap.size w0 w'))
 case atStart => exact ⟨0, 1, [], A2, c2, by go_num, by omega, HK2, ⟨⟨List.Pairwise.nil, fun e h => by cases h⟩⟩, HQ2, by omega, Nat.le_refl _, HW2⟩
 case round =>
  obtain ⟨i, low, L, A3, c3, rfl, hi, HK3, HG3, HQ3, hlow, hL, HW3⟩ := hrel
  cases gk with
  | zero =>
   obtain rfl : i = len := by omega
   have d1 : decide ((i : Int) < (i : Int)) = false := decide_eq_false (by omega)
   have HB0 := Aside0.mk (HW0.out.trans (HW3.out.mono hsz0))
   obtain ⟨p0, p1, p2, p3⟩ := HQ3.out.facts
   go_wp2_with fail
   have HLV := book_Leave_ok HK3.out wf
   cases hk : look L id with
   | none =>
    rw [hk] at HLV
    dsimp only [ent, entCode, Option.getD] at HLV
    refine HLV.mono ?_
    rintro e w4 ⟨rfl, hk4, hw4⟩
    have HB4 := Aside0.mk (HB0.out.trans (hw4.2 _ (by omega) (by omega)))
    clear hk4 hw4 HLV hk p0 p1 p2 p3
    go_wp2_with fail
    go_ret
    exact ⟨rfl, zae HB4.out _⟩
   | some e0 =>
    obtain ⟨tag, left, slice⟩ := e0
    have hge := HG3.out.lo hk
    obtain ⟨g0, g1, g2, g3, g4, g5, g6, g7⟩ := hge
    dsimp only at g0 g1 g2 g3 g4 g5 g6 g7
    rw [hk] at HLV
    dsimp only [ent, entCode, Option.getD] at HLV
    refine HLV.mono ?_
    rintro e w4 ⟨rfl, hk4, hw4⟩
    have HB4 := Aside0.mk (zae (HB0.out.trans (hw4.2 _ (by omega) (by omega))) (.cells #[.int .i64 tag, .int .i64 left, .int .i64 slice] 48))
    have hk4' : Bk w4 b m i low (delL id L) := BookAt.ext hk4 fun j => look_del HG3.out.1 id j
    have HK4 := Aside0.mk (Bk.keep hk4' (zae (Below.refl _ w4) (.cells #[.int .i64 tag, .int .i64 left, .int .i64 slice] 48)))
    have HG4 := Aside0.mk (HG3.out.del id)
    have hL4 : (delL id L).length ≤ 50 := Nat.le_trans (delL_len id L) (by omega)
    have hno : look (delL id L) id = none := by rw [look_del HG3.out.1, if_pos rfl]
    have HNO := Aside0.mk hno
    have HQ4 := Aside0.mk ((HQ3.out.only hw4.1 (by omega) (by omega) (by omega)).below (zae (Below.refl _ w4) (.cells #[.int .i64 tag, .int .i64 left, .int .i64 slice] 48)))
    have HX4 := Aside0.mk (zas w4 (.cells #[.int .i64 tag, .int .i64 left, .int .i64 slice] 48))
    have hs4 : w4.heap.size < (w4.alloc (.cells #[.int .i64 tag, .int .i64 left, .int .i64 slice] 48)).heap.size := by simp
    have hw4s := hw4.1.1
    have HLK := Aside0.mk hk
    have hr4 : r < w4.heap.size := Nat.lt_of_lt_of_le (zak HQ3.out.1) hw4s
    clear hk4 hk4' hw4 hno HLV hk p0 p1 p2 p3
    go_wp2_with fail
    generalize w4.alloc (.cells #[.int .i64 tag, .int .i64 left, .int .i64 slice] 48) = W4 at HB4 HK4 HQ4 HX4 hs4 ⊢
    have hin : inE low tag left slice = (tag, left, slice) := by
     unfold inE
     have h1 : mn left slice = left := by
      have h2 := mn_le left slice
      unfold mn at h2 ⊢
      omega
     rw [if_neg (by omega), h1]
     by_cases h2 : left > 0
     ·
      rw [if_pos h2]
     ·
      have h3 := g7 (by omega)
      rw [if_neg h2, if_neg (by omega)]
    have HIN := Aside0.mk hin
    clear hin
    have x0 : W4.cell? ⟨w4.heap.size, 0, none⟩ = some (.int .i64 tag) := (za HX4.out 0).trans rfl
    have x1 : W4.cell? ⟨w4.heap.size, 1, none⟩ = some (.int .i64 left) := (za HX4.out 1).trans rfl
    have x2 : W4.cell? ⟨w4.heap.size, 2, none⟩ = some (.int .i64 slice) := (za HX4.out 2).trans rfl
    go_wp2_with fail
    have HEN := Bk_Enter (w := W4) HK4.out HG4.out (by omega) (by omega) wf tag left slice HNO.out (by omega) (by omega) (by omega)
    rw [HIN.out] at HEN
    refine HEN.mono ?_
    rintro e w5 ⟨rfl, hk5, _, hw5⟩
    dsimp only at hk5
    have hL : insL ⟨id, tag, left, slice⟩ (delL id L) = L := ins_del HG3.out.1 HLK.out
    rw [hL] at hk5
    have HK5 := Aside0.mk hk5
    have HQ5 := Aside0.mk (HQ4.out.only hw5.1 (by omega) (by omega) (by omega))
    have HX5 := Aside0.mk ((hw5.1.2 _ (zak HX4.out) (by omega) (by omega)).trans HX4.out)
    have HB5 := Aside0.mk (HB4.out.trans (hw5.2 _ (by omega) (by omega)))
    clear hk5 hw5 HEN hL x0 x1 x2
    go_wp2_with fail
    have HE := zb HK5.out wf
    rw [HLK.out] at HE
    dsimp only [ent, entCode, Option.getD] at HE
    refine HE.mono ?_
    rintro e w6 ⟨rfl, hb6⟩
    have HB6 := Aside0.mk (zae (zai HB5.out hb6) (.cells #[.int .i64 tag, .int .i64 left, .int .i64 slice] 48))
    have HK6 := Aside0.mk (Bk.keep (Bk.keep HK5.out hb6) (zae (Below.refl _ w6) (.cells #[.int .i64 tag, .int .i64 left, .int .i64 slice] 48)))
    have HQ6 := Aside0.mk ((HQ5.out.below hb6).below (zae (Below.refl _ w6) (.cells #[.int .i64 tag, .int .i64 left, .int .i64 slice] 48)))
    have hx6 := zac ((hb6.block _ (zak HX5.out)).trans HX5.out) (.cells #[.int .i64 tag, .int .i64 left, .int .i64 slice] 48)
    have hn6 := zas w6 (.cells #[.int .i64 tag, .int .i64 left, .int .i64 slice] 48)
    clear hb6 HE
    have x0 : (w6.alloc (.cells #[.int .i64 tag, .int .i64 left, .int .i64 slice] 48)).cell? ⟨w4.heap.size, 0, none⟩ = some (.int .i64 tag) := (za hx6 0).trans rfl
    have x1 : (w6.alloc (.cells #[.int .i64 tag, .int .i64 left, .int .i64 slice] 48)).cell? ⟨w4.heap.size, 1, none⟩ = some (.int .i64 left) := (za hx6 1).trans rfl
    have x2 : (w6.alloc (.cells #[.int .i64 tag, .int .i64 left, .int .i64 slice] 48)).cell? ⟨w4.heap.size, 2, none⟩ = some (.int .i64 slice) := (za hx6 2).trans rfl
    have n0 : (w6.alloc (.cells #[.int .i64 tag, .int .i64 left, .int .i64 slice] 48)).cell? ⟨w6.heap.size, 0, none⟩ = some (.int .i64 tag) := (za hn6 0).trans rfl
    have n1 : (w6.alloc (.cells #[.int .i64 tag, .int .i64 left, .int .i64 slice] 48)).cell? ⟨w6.heap.size, 1, none⟩ = some (.int .i64 left) := (za hn6 1).trans rfl
    have n2 : (w6.alloc (.cells #[.int .i64 tag, .int .i64 left, .int .i64 slice] 48)).cell? ⟨w6.heap.size, 2, none⟩ = some (.int .i64 slice) := (za hn6 2).trans rfl
    obtain ⟨p0, p1, p2, p3⟩ := HQ6.out.facts
    have q1 : (tag == tag) = true := beq_self_eq_true _
    have q2 : (left == left) = true := beq_self_eq_true _
    have q3 : (slice == slice) = true := beq_self_eq_true _
    clear hx6 hn6
    go_wp2_with fail
    refine (Is_ok HK6.out HQ6.out.2 HG3.out (by omega)).mono ?_
    rintro e w7 ⟨rfl, hb7⟩
    have HB7 := Aside0.mk (zai HB6.out hb7)
    clear hb7
    go_wp2_with fail
    go_ret
    exact ⟨by simp, HB7.out⟩
  | succ g1 =>
   have d1 : decide ((i : Int) < (len : Int)) = true := decide_eq_true (by omega)
   obtain ⟨ad, rfl, had, a0, a1, a2, a3, a4, ha0, ha1⟩ := (HR0.out.below HW3.out) i (by omega)
   have d2 : 0 ≤ (i : Int) ∧ (i : Int) < (len : Int) := by omega
   generalize hf : f i = fi at a0 a1 a2 a3 a4 ha0 ha1
   obtain ⟨k, aid, tag, left, slice⟩ := fi
   dsimp only at a0 a1 a2 a3 a4 ha0 ha1
   have HA1 := Aside0.mk ha1
   have HF := Aside0.mk hf
   obtain ⟨p0, p1, p2, p3⟩ := (HQ3.out.below (zae (Below.refl _ wr) (.cells #[.int .u8 k, .int .i64 aid, .int .i64 tag, .int .i64 left, .int .i64 slice] 42))).facts
   clear ha1 hf
   go_wp2_with fail
   have HK4 : Aside0 (Bk (wr.alloc (.cells #[.int .u8 k, .int .i64 aid, .int .i64 tag, .int .i64 left, .int .i64 slice] 42)) b m i low L) := ⟨Bk.keep HK3.out (zae (Below.refl _ wr) _)⟩
   have HQ4 := Aside0.mk (HQ3.out.below (zae (Below.refl _ wr) (.cells #[.int .u8 k, .int .i64 aid, .int .i64 tag, .int .i64 left, .int .i64 slice] 42)))
   have HW4 := Aside0.mk (zae HW3.out (.cells #[.int .u8 k, .int .i64 aid, .int .i64 tag, .int .i64 left, .int .i64 slice] 42))
   go_at_call 21
   generalize wr.alloc (.cells #[.int .u8 k, .int .i64 aid, .int .i64 tag, .int .i64 left, .int .i64 slice] 42) = W3 at HK4 HQ4 HW4 p0 p1 p2 p3 ⊢
   clear a0 a1 a2 a3 a4 p0 p1 p2 p3
   have hr3 := zak HQ4.out.1
   refine (do_ok HK4.out HQ4.out.2 (fun k (hk : q ≤ k ∧ k ≠ r) => ⟨by omega, by omega⟩) HG3.out (by omega) (by omega) (by omega) k aid tag left slice ha0 HA1.out).mono ?_
   rintro e w4 ⟨v', low', L', rfl, hk4, hr4, hg4, hlo, hhi, hl4, hw4⟩
   obtain ⟨A4, c4, rfl, hv4⟩ := hr4
   have hq4 := (hw4.1.2 r hr3 (by omega) (by omega)).trans HQ4.out.1
   have p0 : w4.cell? ⟨r, 0, none⟩ = some (.int .i64 low) := (za hq4 0).trans rfl
   have p1 : w4.cell? ⟨r, 1, none⟩ = some (.slice A3 L.length c3) := (za hq4 1).trans rfl
   have p2 := zaa hq4 0
   have p3 := zaa hq4 1
   have HQ5 := Aside0.mk (RefBox.put (q := q) (low := low') (A := A4) (c := c4) hq4 ⟨A4, c4, rfl, Kd.za1 hv4 (fun k (hk : (q ≤ k ∧ k ≠ r) ∨ W3.heap.size ≤ k) => ⟨by omega, by omega⟩)⟩)
   have HK5 : Aside0 (Bk ((w4.setCell ⟨r, 0, none⟩ (.int .i64 low')).setCell ⟨r, 1, none⟩ (.slice A4 L'.length c4)) b m (i + 1) low' L') := ⟨BookAt.other (BookAt.other hk4 (by omega) (by omega) _) (by omega) (by omega) _⟩
   have HW5 : Aside0 (Below w0.heap.size w0 ((w4.setCell ⟨r, 0, none⟩ (.int .i64 low')).setCell ⟨r, 1, none⟩ (.slice A4 L'.length c4))) := ⟨((HW4.out.trans (hw4.2 _ hb hm)).setCell (p := ⟨r, 0, none⟩) (by show w0.heap.size ≤ r; omega) _).setCell (p := ⟨r, 1, none⟩) (by show w0.heap.size ≤ r; omega) _⟩
   have HG4 := Aside0.mk hg4
   clear hq4 hv4 hk4 hw4 hg4
   go_wp2_with fail
   go_at_call 18
   generalize (w4.setCell ⟨r, 0, none⟩ (.int .i64 low')).setCell ⟨r, 1, none⟩ (.slice A4 L'.length c4) = W5 at HQ5 HK5 HW5 ⊢
   clear p0 p1 p2 p3
   refine (book_Settle_ok HK5.out HG4.out (by omega) (by omega) (by omega)).mono ?_
   rintro e w6 ⟨v6, rfl, _, hk6, hw6⟩
   have HQ6 := Aside0.mk (HQ5.out.only hw6.1 (by omega) (by omega) (by omega))
   have HK6 := Aside0.mk hk6
   have HW6 := Aside0.mk (HW5.out.trans (hw6.2 _ hb hm))
   obtain ⟨p0, p1, p2, p3⟩ := HQ6.out.facts
   clear hk6 hw6
   go_wp2_with fail
   go_at_call 22
   refine (ref_Settle HQ6.out.2 HG4.out (by omega) (by omega)).mono ?_
   rintro e w7 ⟨v7, u7, rfl, hr7, _, hb7⟩
   obtain ⟨g1_, _, g3, g4⟩ := HG4.out.settle
   have hsl := settle_len 2 low' L'
   have HS := Aside0.mk g1_
   clear g1_ p0 p1 p2 p3
   generalize settleF 2 low' L' = F at HK6 hr7 HS g3 g4 hsl ⊢
   obtain ⟨low2, L2⟩ := F
   dsimp only at HK6 hr7 HS g3 g4 hsl
   have hL2 : L2.length ≤ i + 1 := by omega
   have hlow2 : 1 ≤ low2 ∧ low2 ≤ 1 + 4 * ((i + 1 : Nat) : Int) := by omega
   clear hsl g3 g4
   obtain ⟨A7, c7, rfl, hv7⟩ := hr7
   have hq7 := (hb7.block _ (zak HQ6.out.1)).trans HQ6.out.1
   have hr6 := zak HQ6.out.1
   have p0 : w7.cell? ⟨r, 0, none⟩ = some (.int .i64 low') := (za hq7 0).trans rfl
   have p1 : w7.cell? ⟨r, 1, none⟩ = some (.slice A4 L'.length c4) := (za hq7 1).trans rfl
   have p2 := zaa hq7 0
   have p3 := zaa hq7 1
   have HQ7 := Aside0.mk (RefBox.put (q := q) (low := low2) (A := A7) (c := c7) hq7 ⟨A7, c7, rfl, Kd.za1 hv7 (fun k (hk : (q ≤ k ∧ k ≠ r) ∨ w6.heap.size ≤ k) => ⟨by omega, by omega⟩)⟩)
   have HK7 : Aside0 (Bk ((w7.setCell ⟨r, 0, none⟩ (.int .i64 low2)).setCell ⟨r, 1, none⟩ (.slice A7 L2.length c7)) b m (i + 1) low2 L2) := ⟨BookAt.other (BookAt.other (BookAt.keep HK6.out hb7) (by omega) (by omega) _) (by omega) (by omega) _⟩
   have HW7 : Aside0 (Below w0.heap.size w0 ((w7.setCell ⟨r, 0, none⟩ (.int .i64 low2)).setCell ⟨r, 1, none⟩ (.slice A7 L2.length c7))) := ⟨((zai HW6.out hb7).setCell (p := ⟨r, 0, none⟩) (by show w0.heap.size ≤ r; omega) _).setCell (p := ⟨r, 1, none⟩) (by show w0.heap.size ≤ r; omega) _⟩
   clear hq7 hv7 hb7
   go_wp2_with fail
   generalize (w7.setCell ⟨r, 0, none⟩ (.int .i64 low2)).setCell ⟨r, 1, none⟩ (.slice A7 L2.length c7) = W7 at HQ7 HK7 HW7 ⊢
   clear p0 p1 p2 p3
   have wi : wrap64 ((i : Int) + 1) = (i : Int) + 1 := w64s (by omega) (by omega)
   have hgi : i + 1 + g1 = len := by omega
   go_roundg g1
   case measure => exact Nat.lt_succ_self _
   case rel => exact ⟨i + 1, low2, L2, A7, c7, by go_num, hgi, HK7, HS, HQ7, hlow2, hL2, HW7⟩
theorem RoundBack_long (A : Option Addr) (len cap : Nat) (id : Int) (w : World) (hlen : 50 < len) :
  Calls Try.prog 8 #[.slice A len cap, .int .i64 id] w fun e w' => e = .returned (.bool true) ∧ Below w.heap.size w w' := by
 have d60 : decide ((len : Int) > 50) = true := decide_eq_true (by omega)
 go_enter Try.func8, Try.ntmps8
 go_wp2_with fail
 go_at_call 13
 refine (awake12_ok _).mono ?_
 rintro e w0 ⟨rfl, hw0⟩
 have HW0 := Aside0.mk hw0
 clear hw0
 go_wp2_with fail
 go_at_call 13
 refine (awake12_ok w0).mono ?_
 rintro e w1 ⟨rfl, hw1⟩
 have HW1 := Aside0.mk (zai HW0.out hw1)
 clear hw1
 go_wp2_with fail
 go_ret
 exact ⟨rfl, HW1.out⟩
theorem lRoundBack {H : Type} {enc : TypeId × Value → H} {W : World} {base : Nat} {spare : Nat → Bool} {held : Bool} {d : DataW H} {p : List MemPlace} (v : Value) (id : Int) (hid : (Lit.int .i64 id).wf = true) (hv : ∃ A len cap, v = .slice A len cap)
  (h : DataW.Trod enc Try.prog W base spare held 35 v d p) : Calls Try.prog 8 #[v, .int .i64 id] W fun e w' => e = .returned (.bool true) ∧ Below W.heap.size W w' := by
 obtain ⟨A, len, cap, rfl⟩ := hv
 obtain ⟨fuel, hf⟩ := h
 obtain ⟨f, hA⟩ := open_acts12 (by simpa [Value.cells] using hf)
 by_cases hlen : len ≤ 50
 ·
  exact RoundBack_ok A len cap f id W hA hlen hid
 ·
  exact RoundBack_long A len cap id W (by omega)
end Go.Proofs.Ytbakdobjidjncaa.P
end
