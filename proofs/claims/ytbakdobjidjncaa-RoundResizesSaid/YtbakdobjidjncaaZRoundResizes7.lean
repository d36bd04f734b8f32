-- Written by a program of this session (wip/tools/shake.py) out of its own texts and of the kit's printed ones; not trusted: Lean checks it.
import Derived.Test.YtbakdobjidjncaaZRoundResizes6
set_option maxHeartbeats 8000000
set_option maxRecDepth 100000
set_option linter.unusedVariables false
set_option linter.unusedSimpArgs false
section
namespace Go.Proofs.Ytbakdobjidjncaa.P
open Go.RowKit Go.Proofs.YtbakdobjidjncaaW.PrintWords Go.Proofs.YtbakdobjidjncaaW.PrintLast Go.Proofs.YtbakdobjidjncaaW.PrintMore
attribute [local go_sem] max2_int min2_int max_two min_two zbt zbs max_four min_four
theorem Ev.pos {α : Type} {c : Prop} [Decidable c] {F G : Nat → Option α} {r : α} (hc : c) (h : Ev F r) : Ev (fun k => if c then F k else G k) r := Ev.congr (fun k => if_pos hc) h
theorem Ev.neg {α : Type} {c : Prop} [Decidable c] {F G : Nat → Option α} {r : α} (hc : ¬ c) (h : Ev G r) : Ev (fun k => if c then F k else G k) r := Ev.congr (fun k => if_neg hc) h
theorem Ints_same (l : List Int) (hl : l.length < 1000000) : Ev (fun k => zaq.f k l l) true := by
 have key : ∀ q i : Nat, i + q = l.length → Ev (fun k => zaq.l0 k l l (l.length : Int) (i : Int)) true := by
  intro q
  induction q with
  | zero =>
   intro i hi
   refine Ev.step (fun _ => zaq.l0.eq_2 ..) ?_
   refine Ev.neg (by omega) ?_
   exact Ev.of (fun _ => rfl)
  | succ q ih =>
   intro i hi
   refine Ev.step (fun _ => zaq.l0.eq_2 ..) ?_
   refine Ev.pos (by omega) (Ev.pos (by omega) (Ev.pos (by omega) (Ev.pos (by omega) (Ev.pos rfl ?_))))
   rw [show wrap64 ((i : Int) + 1) = ((i + 1 : Nat) : Int) by rw [w64s (by omega) (by omega)]; omega]
   exact ih (i + 1) (by omega)
 unfold zaq.f
 refine Ev.pos rfl ?_
 exact key l.length 0 (by omega)
theorem do_4 {w : World} {P : Nat → Prop} {v : Value} {b m n : Nat} {low : Int} {L : List S86} (hb : Bk w b m n low L) (hr : RefAt w P v low L) (hP : ∀ k, P k → k ≠ b ∧ k ≠ m) (hG : GoodB low L) (hlow : 0 < low ∧ low < 900000) (hL : L.length < 900000) (hn : n < 900000) (k id tag left slice : Int) (hk : k.tmod 5 = 4) :
  Calls Try.prog 21 #[.pointer (some ⟨b, 0, none⟩), v, .agg #[.int .u8 k, .int .i64 id, .int .i64 tag, .int .i64 left, .int .i64 slice]] w fun e w' => ∃ v', e = .returned (.tuple #[v', .bool true]) ∧ Bk w' b m n (settleF 2 low L).1 (settleF 2 low L).2 ∧ RefAt w' (fun k => P k ∨ w.heap.size ≤ k) v' (settleF 2 low L).1 (settleF 2 low L).2 ∧ Wrote b m w w' := by
 have CB := Aside0.mk (fun (w : World) (P : Nat → Prop) (v : Value) (h : RefAt w P v low L) => ref_Settle h hG hlow (by omega))
 have CA := Aside0.mk (fun (w : World) (h : Bk w b m n low L) => book_Settle_ok h hG (by omega) (by omega) (by omega))
 have hsl := spent_len low L
 obtain ⟨ki, hki⟩ := (Ints_same (spent low L) (by omega)).get
 have HKI := Aside0.mk hki
 generalize spent low L = sp at CA CB HKI hsl ⊢
 generalize settleF 2 low L = F at CA CB ⊢
 obtain ⟨low', L'⟩ := F
 dsimp only at CA CB ⊢
 have d0 : (k.tmod 5 == 0) = false := beq_eq_false_iff_ne.mpr (by omega)
 have d1 : (k.tmod 5 == 1) = false := beq_eq_false_iff_ne.mpr (by omega)
 have d2 : (k.tmod 5 == 2) = false := beq_eq_false_iff_ne.mpr (by omega)
 have d3 : (k.tmod 5 == 3) = false := beq_eq_false_iff_ne.mpr (by omega)
 have HB := Aside0.mk hb
 have HR := Aside0.mk hr
 have HP := Aside0.mk hP
 obtain ⟨A, c, rfl, hv⟩ := hr
 obtain ⟨hbl, hml⟩ := BookAt.lt hb
 clear hk hb hG hv hP hki
 go_enter Try.func21, Try.ntmps21
 go_wp2_with fail
 have hX := Boxes3.at w low A L.length c k id tag left slice
 generalize ((w.alloc (.cells #[.int .i64 low, .slice A L.length c] 39)).alloc (.cells #[.int .u8 k, .int .i64 id, .int .i64 tag, .int .i64 left, .int .i64 slice] 42)).alloc (.cells #[.int .i64 0, .slice none 0 0] 39) = W2 at hX ⊢
 have HX := Aside0.mk hX
 have x0 : W2.cell? ⟨w.heap.size, 0, none⟩ = some (.int .i64 low) := (za hX.2.2.1 0).trans rfl
 have x1 : W2.cell? ⟨w.heap.size, 1, none⟩ = some (.slice A L.length c) := (za hX.2.2.1 1).trans rfl
 clear hX
 go_wp2_with fail
 have hX := HX.out
 go_at_call 22
 refine (CB.out W2 (fun k => P k ∧ k < w.heap.size) _ (HR.out.old hX.1)).mono ?_
 rintro e w3 ⟨v', u, rfl, hr3, hu3, hb3⟩
 have HB3 := Aside0.mk (zai hX.1 hb3)
 obtain ⟨A', c', rfl, hv3⟩ := hr3
 obtain ⟨A2, c2, rfl⟩ := Kd.zbo hu3
 obtain ⟨_, hx3, he3⟩ := hX.keep hb3
 have hsz3 : w.heap.size + 3 ≤ w3.heap.size := by rw [← hX.2.1]; exact hb3.size
 have hsz4 : W2.heap.size ≤ (w3.alloc (.cells #[.int .i64 low', .slice A' L'.length c'] 39)).heap.size := Nat.le_trans hb3.size (by simp)
 have hn4 := zat w3 (.cells #[.int .i64 low', .slice A' L'.length c'] 39)
 have he4 := zac he3 (.cells #[.int .i64 low', .slice A' L'.length c'] 39)
 have HB4 := Aside0.mk (zae HB3.out (.cells #[.int .i64 low', .slice A' L'.length c'] 39))
 have HV4 := Aside0.mk (Kd.za8 hv3 (.cells #[.int .i64 low', .slice A' L'.length c'] 39))
 have HU4 := Aside0.mk (Kd.za8 (Kd.R_V (base' := 0) hu3) (.cells #[.int .i64 low', .slice A' L'.length c'] 39))
 clear hX hb3 hv3 hu3 hx3 he3 x0 x1
 go_wp2_with fail
 generalize w3.alloc (.cells #[.int .i64 low', .slice A' L'.length c'] 39) = W4 at hsz4 hn4 he4 HB4 HV4 HU4 ⊢
 have e0 : W4.cell? ⟨w.heap.size + 2, 0, none⟩ = some (.int .i64 0) := (za he4 0).trans rfl
 have e1 : W4.cell? ⟨w.heap.size + 2, 1, none⟩ = some (.slice none 0 0) := (za he4 1).trans rfl
 have q0 := zaa he4 0
 have q1 := zaa he4 1
 have n0 : W4.cell? ⟨w3.heap.size, 0, none⟩ = some (.int .i64 low') := (za hn4 0).trans rfl
 have n1 : W4.cell? ⟨w3.heap.size, 1, none⟩ = some (.slice A' L'.length c') := (za hn4 1).trans rfl
 have HN4 := Aside0.mk hn4
 have HE4 := Aside0.mk he4
 have HK4 : Aside0 (Bk W4 b m n low L) := ⟨Bk.keep HB.out HB4.out⟩
 clear hn4 he4
 have HSK : Aside0 (∀ W, Same2 w3.heap.size w3.heap.size W4 W → W.cell? ⟨w3.heap.size, 0, none⟩ = some (.int .i64 low') ∧ W.cell? ⟨w3.heap.size, 1, none⟩ = some (.slice A' L'.length c')) := ⟨fun W h => by
  have h2 := h.2.trans HN4.out
  exact ⟨(za h2 0).trans rfl, (za h2 1).trans rfl⟩⟩
 have hn2 : w3.heap.size ≠ w.heap.size + 2 := by omega
 have hszw := HX.out.2.1
 go_region_held3 (fun W => W.cell? ⟨w3.heap.size, 0, none⟩ = some (.int .i64 low') ∧ W.cell? ⟨w3.heap.size, 1, none⟩ = some (.slice A' L'.length c')) (((with_reducible refine HSK.out _ ?_); (repeat (with_reducible refine Same2.set ?_ hn2 hn2 _)); first | (with_reducible exact HS6.out) | (with_reducible exact HS5.out) | (with_reducible exact Same2.drew _ _ _))) (first | (go_at_call 18; refine (CA.out W4.drew HK4.out).mono ?_; rintro e w5 ⟨v5, rfl, hi5, hk5, hw5⟩; obtain ⟨A5, c5, rfl, hc5, hC5⟩ := hi5; have HK5 := Aside0.mk hk5; have HW5 := Aside0.mk hw5; have Hc5 := Aside0.mk hc5; have HC5 := Aside0.mk hC5; have HU5 := Aside0.mk (Kd.zaz (Kd.V_step (Kd.zba HU4.out) (fun k hk hlt => hw5.1.2 k hlt (by omega) (by omega)))); have HS5 : Aside0 (Same2 w3.heap.size w3.heap.size W4 w5) := ⟨⟨hw5.1.2 _ (zak HN4.out) (by omega) (by omega), hw5.1.2 _ (zak HN4.out) (by omega) (by omega)⟩⟩; have HE5 := Aside0.mk ((hw5.1.2 _ (zak HE4.out) (by omega) (by omega)).trans HE4.out); clear hk5 hw5 hc5 hC5) | (go_at_call 50; refine (zaq.calls ki A5 c5 sp A2 c2 sp true _ HC5.out Hc5.out HU5.out.2.2 HU5.out.2.1 HKI.out).mono ?_; rintro e w6 ⟨rfl, hw6⟩; have HB6 := Aside0.mk hw6.below; have he6 := (HB6.out.block _ (zak HE5.out)).trans HE5.out; have HE6 := Aside0.mk he6; have HS6 : Aside0 (Same2 w3.heap.size w3.heap.size W4 w6) := ⟨⟨(HB6.out.block _ (Nat.lt_of_lt_of_le (zak HN4.out) HW5.out.1.1)).trans HS5.out.1, (HB6.out.block _ (Nat.lt_of_lt_of_le (zak HN4.out) HW5.out.1.1)).trans HS5.out.2⟩⟩; have y0 : w6.cell? ⟨w.heap.size + 2, 0, none⟩ = some (.int .i64 0) := (za he6 0).trans rfl; have y1 : w6.cell? ⟨w.heap.size + 2, 1, none⟩ = some (.slice none 0 0) := (za he6 1).trans rfl; have z0 := zaa he6 0; have z1 := zaa he6 1; clear hw6 he6))
 all_goals
  go_wp2
 all_goals
  obtain ⟨r1, r2, ⟨A9, c9, r3, r5⟩, r4⟩ := do_end (x1 := .int .i64 0) (x2 := .slice none 0 0) HB4.out (Nat.le_of_eq HX.out.2.1.symm) hsz4 hbl hml HP.out (Bk.keep HK5.out HB6.out) (HW5.out.step HB6.out (Nat.lt_of_lt_of_le (Nat.lt_of_lt_of_le hbl HB4.out.size) HW5.out.1.1)) HE6.out HV4.out
  exact bodyPost_ret (za3 rfl _ _ (w.heap.size + 2) 39 #[.int .i64 low', .slice A' L'.length c'] (0, 0) _ rfl r1 Try.underlying39 rfl (by kernel_rfl)) rfl ⟨_, rfl, r2, ⟨A9, c9, r3, r5⟩, r4⟩
theorem do_ok {w : World} {P : Nat → Prop} {v : Value} {b m n : Nat} {low : Int} {L : List S86} (hb : Bk w b m n low L) (hr : RefAt w P v low L) (hP : ∀ k, P k → k ≠ b ∧ k ≠ m) (hG : GoodB low L) (hlow : 0 < low ∧ low < 900000) (hL : L.length < 900000) (hn : n < 900000) (k id tag left slice : Int) (hk : 0 ≤ k) (wf : (Lit.int .i64 id).wf = true) :
  Calls Try.prog 21 #[.pointer (some ⟨b, 0, none⟩), v, .agg #[.int .u8 k, .int .i64 id, .int .i64 tag, .int .i64 left, .int .i64 slice]] w fun e w' => ∃ v' low' L', e = .returned (.tuple #[v', .bool true]) ∧ Bk w' b m (n + 1) low' L' ∧ RefAt w' (fun k => P k ∨ w.heap.size ≤ k) v' low' L' ∧ GoodB low' L' ∧ low ≤ low' ∧ low' ≤ low + 2 ∧ L'.length ≤ L.length + 1 ∧ Wrote b m w w' := by
 have hm : k.tmod 5 = k % 5 := Int.tmod_eq_emod_of_nonneg hk
 have hc : k.tmod 5 = 0 ∨ k.tmod 5 = 1 ∨ k.tmod 5 = 2 ∨ k.tmod 5 = 3 ∨ k.tmod 5 = 4 := by omega
 rcases hc with hc | hc | hc | hc | hc
 ·
  refine (do_0 hb hr hP hG hlow hL hn k id tag left slice hc wf).mono ?_
  rintro e w' ⟨v', L', rfl, h1, h2, h3, h4, h5⟩
  exact ⟨v', low, L', rfl, h1, h2, h3, Int.le_refl _, by omega, h4, h5⟩
 ·
  refine (do_1 hb hr hP hG hlow hL hn k id tag left slice hc wf).mono ?_
  rintro e w' ⟨v', L', rfl, h1, h2, h3, h4, h5⟩
  exact ⟨v', low, L', rfl, h1, h2, h3, Int.le_refl _, by omega, h4, h5⟩
 ·
  refine (do_2 hb hr hP hG hlow hL hn k id tag left slice hc wf).mono ?_
  rintro e w' ⟨v', L', rfl, h1, h2, h3, h4, h5⟩
  exact ⟨v', low, L', rfl, h1, h2, h3, Int.le_refl _, by omega, h4, h5⟩
 ·
  refine (do_3 hb hr hP hG hlow hL hn k id tag left slice hc wf).mono ?_
  rintro e w' ⟨v', L', rfl, h1, h2, h3, h4, h5⟩
  exact ⟨v', low, L', rfl, h1, h2, h3, Int.le_refl _, by omega, h4, h5⟩
 ·
  refine (do_4 hb hr hP hG hlow hL hn k id tag left slice hc).mono ?_
  rintro e w' ⟨v', rfl, h1, h2, h5⟩
  obtain ⟨g1, _, g3, g4⟩ := hG.settle
  exact ⟨v', _, _, rfl, h1.up (Nat.le_succ _), h2, g1, g3, g4, by rw [settle_len]; omega, h5⟩
theorem add_block5 (ad : Addr) (i : Nat) : (ad.add i).block = ad.block := by
 unfold Addr.add
 split <;> rfl
def Acts5At (w : World) (A : Option Addr) (n : Nat) (f : Nat → Int × Int × Int × Int × Int) : Prop :=
 ∀ i, i < n → ∃ ad : Addr, A = some ad ∧ ad.block < w.heap.size ∧ w.cell? (ad.add (i * 5)) = some (.int .u8 (f i).1) ∧
  w.cell? ⟨(ad.add (i * 5)).block, (ad.add (i * 5)).off + 1, none⟩ = some (.int .i64 (f i).2.1) ∧ w.cell? ⟨(ad.add (i * 5)).block, (ad.add (i * 5)).off + 2, none⟩ = some (.int .i64 (f i).2.2.1) ∧
  w.cell? ⟨(ad.add (i * 5)).block, (ad.add (i * 5)).off + 3, none⟩ = some (.int .i64 (f i).2.2.2.1) ∧ w.cell? ⟨(ad.add (i * 5)).block, (ad.add (i * 5)).off + 4, none⟩ = some (.int .i64 (f i).2.2.2.2) ∧
  0 ≤ (f i).1 ∧ (Lit.int .i64 (f i).2.1).wf = true
theorem Acts5At.below {w w' : World} {A : Option Addr} {n : Nat} {f : Nat → Int × Int × Int × Int × Int} (h : Acts5At w A n f) (hb : Below w.heap.size w w') : Acts5At w' A n f := by
 intro i hi
 obtain ⟨ad, e, h1, h2, h3, h4, h5, h6, h7⟩ := h i hi
 have hl : (ad.add (i * 5)).block < w.heap.size := by rw [add_block5]; exact h1
 exact ⟨ad, e, Nat.lt_of_lt_of_le h1 hb.size, (hb.cell hl).trans h2, (hb.cell (p := ⟨(ad.add (i * 5)).block, _, none⟩) hl).trans h3, (hb.cell (p := ⟨(ad.add (i * 5)).block, _, none⟩) hl).trans h4, (hb.cell (p := ⟨(ad.add (i * 5)).block, _, none⟩) hl).trans h5, (hb.cell (p := ⟨(ad.add (i * 5)).block, _, none⟩) hl).trans h6, h7⟩
def RefBox (w : World) (q r : Nat) (A : Option Addr) (c : Nat) (low : Int) (L : List S86) : Prop :=
 w.heap[r]? = some (.cells #[.int .i64 low, .slice A L.length c] 39) ∧ RefAt w (fun k => q ≤ k ∧ k ≠ r) (.agg #[.int .i64 low, .slice A L.length c]) low L
theorem RefBox.below {w w' : World} {q r : Nat} {A : Option Addr} {c : Nat} {low : Int} {L : List S86} (h : RefBox w q r A c low L) (hb : Below w.heap.size w w') : RefBox w' q r A c low L :=
 ⟨(hb.block r (zak h.1)).trans h.1, h.2.below hb⟩
theorem RefBox.only {w w' : World} {q r b m : Nat} {A : Option Addr} {c : Nat} {low : Int} {L : List S86} (h : RefBox w q r A c low L) (ho : Only b m w w') (h1 : b < q) (h2 : m < q) (h3 : q ≤ r) : RefBox w' q r A c low L :=
 ⟨(ho.2 r (zak h.1) (by omega) (by omega)).trans h.1, h.2.only ho fun k hk => by omega⟩
theorem RefBox.facts {w : World} {q r : Nat} {A : Option Addr} {c : Nat} {low : Int} {L : List S86} (h : RefBox w q r A c low L) :
  w.cell? ⟨r, 0, none⟩ = some (.int .i64 low) ∧ w.cell? ⟨r, 1, none⟩ = some (.slice A L.length c) ∧ w.frozen? ⟨r, 0, none⟩ = false ∧ w.frozen? ⟨r, 1, none⟩ = false :=
 ⟨(za h.1 0).trans rfl, (za h.1 1).trans rfl, zaa h.1 0, zaa h.1 1⟩
theorem RefBox.put {w : World} {q r : Nat} {A : Option Addr} {c : Nat} {low : Int} {L : List S86} {x0 x1 : Value} (hb : w.heap[r]? = some (.cells #[x0, x1] 39)) (h : RefAt w (fun k => q ≤ k ∧ k ≠ r) (.agg #[.int .i64 low, .slice A L.length c]) low L) :
  RefBox ((w.setCell ⟨r, 0, none⟩ (.int .i64 low)).setCell ⟨r, 1, none⟩ (.slice A L.length c)) q r A c low L := by
 refine ⟨zal (zal hb 0 _ rfl) 1 _ rfl, ?_⟩
 obtain ⟨A', c', e, hv⟩ := h
 exact ⟨A', c', e, Kd.V_far (Kd.V_far hv (fun k hk => hk.2) _) (fun k hk => hk.2) _⟩
theorem RefBox.start {w1 w2 : World} {A : Option Addr} {c : Nat} (h : Kd.R k86 86 w2 w1.heap.size (fun _ => True) (.slice A 0 c) []) :
  RefBox (w2.alloc (.cells #[.int .i64 1, .slice A 0 c] 39)) w1.heap.size w2.heap.size A c 1 [] :=
 ⟨zat w2 _, A, c, rfl, Kd.za1 (Kd.za8 (Kd.R_V (Kd.R_bound h)) _) (fun k hk => ⟨hk.2.1, by have := hk.2.2.1; omega⟩)⟩
theorem book_Low_eq {w : World} {b m n : Nat} {low : Int} {g : Int → Option E3} (h : BookAt w b m n low g) :
  Calls Try.prog 19 #[.pointer (some ⟨b, 0, none⟩)] w fun e w' => e = .returned (.int .i64 low) ∧ w' = w := by
 obtain ⟨f0, f1, f2⟩ := h.facts
 have H := Aside0.mk h
 clear h
 go_enter Try.func19, Try.ntmps19
 go_wp2_with fail
 go_ret
 exact ⟨rfl, rfl⟩
theorem BookAt.drewNb {w : World} {b m n : Nat} {low : Int} {g : Int → Option E3} (h : BookAt w b m n low g) (q : Nat) : BookAt (w.drewN q) b m n low g := h
theorem list5 {α : Type} {l : List α} (h : l.length = 5) : ∃ a b c d e, l = [a, b, c, d, e] := by
 match l, h with
 | [a, b, c, d, e], _ => exact ⟨a, b, c, d, e, rfl⟩
theorem add_zero5 (a : Addr) : a.add 0 = a := by
 unfold Addr.add
 simp
theorem add_off5 (a : Addr) {k : Nat} (h : 0 < k) : a.add k = ⟨a.block, a.off + k, none⟩ := by
 unfold Addr.add
 rw [if_neg (by omega)]
theorem open_acts12 {H : Type} {enc : TypeId × Value → H} {W : World} {base : Nat} {spare : Nat → Bool} {held : Bool} {fuel : Nat} {A : Option Addr} {len cap : Nat} {x : DataW H × List MemPlace}
  (h : DataW.trod enc Try.prog W base spare held fuel 35 [.slice A len cap] = some x) : ∃ f, Acts5At W A len f := by
 have ce : Try.prog.cellsOf 42 = 5 := by kernel_rfl
 have c3 : Try.prog.cellsOf 3 = 1 := by kernel_rfl
 have c5 : Try.prog.cellsOf 5 = 1 := by kernel_rfl
 rcases Go.Deep.open_slice Try.underlying35 h with ⟨hcs, _⟩ | ⟨a, len', cap', m, n, D, Pl, hcs, hb, hl, hm, hmm, _, hx⟩
 ·
  simp at hcs
  obtain ⟨rfl, rfl, rfl⟩ := hcs
  exact ⟨fun _ => (0, 0, 0, 0, 0), fun i hi => absurd hi (by omega)⟩
 ·
  simp at hcs
  obtain ⟨rfl, rfl, rfl⟩ := hcs
  have each : ∀ i, i < len → ∃ q : Int × Int × Int × Int × Int, W.cell? (a.add (i * 5)) = some (.int .u8 q.1) ∧ W.cell? ((a.add (i * 5)).add 1) = some (.int .i64 q.2.1) ∧ W.cell? ((a.add (i * 5)).add 2) = some (.int .i64 q.2.2.1) ∧ W.cell? ((a.add (i * 5)).add 3) = some (.int .i64 q.2.2.2.1) ∧ W.cell? ((a.add (i * 5)).add 4) = some (.int .i64 q.2.2.2.2) ∧ 0 ≤ q.1 ∧ (Lit.int .i64 q.2.1).wf = true := by
   intro i hi
   obtain ⟨cs', h1, h2⟩ := hx i (by rw [hmm]; split <;> omega)
   rw [ce] at h1
   obtain ⟨_, hlen, hcell⟩ := World.cells?_some h1
   obtain ⟨xs, k, hk, hxy, _, hxl, hf⟩ := DataW.trod_struct Try.underlying42 h2
   obtain ⟨y0, y1, y2, y3, y4, rfl⟩ := list5 (show xs.length = 5 from hxl)
   obtain ⟨v0, v1, v2, v3, v4, rfl⟩ := list5 hlen
   have g0 := hf 0 _ rfl
   have g1 := hf 1 _ rfl
   have g2 := hf 2 _ rfl
   have g3 := hf 3 _ rfl
   have g4 := hf 4 _ rfl
   simp [c3, c5] at g0 g1 g2 g3 g4
   have e0 := hcell 0 (by omega)
   have e1 := hcell 1 (by omega)
   have e2 := hcell 2 (by omega)
   have e3 := hcell 3 (by omega)
   have e4 := hcell 4 (by omega)
   rw [add_zero5] at e0
   simp only [List.getElem?_cons_zero, List.getElem?_cons_succ] at e0 e1 e2 e3 e4
   obtain ⟨x0, z0, _, w0⟩ := DataW.trod_int Try.underlying5 g0
   obtain ⟨x1, z1, _, w1⟩ := DataW.trod_int Try.underlying3 g1
   obtain ⟨x2, z2, _, w2⟩ := DataW.trod_int Try.underlying3 g2
   obtain ⟨x3, z3, _, w3⟩ := DataW.trod_int Try.underlying3 g3
   obtain ⟨x4, z4, _, w4⟩ := DataW.trod_int Try.underlying3 g4
   simp only [List.cons.injEq, and_true] at z0 z1 z2 z3 z4
   subst z0 z1 z2 z3 z4
   refine ⟨(x0, x1, x2, x3, x4), e0, e1, e2, e3, e4, (bounds_u8 w0).1, w1⟩
  obtain ⟨f, hf⟩ := Go.Deep.choose_lt each
  refine ⟨f, fun i hi => ?_⟩
  obtain ⟨c0, c1, c2, c3, c4, w0, w1⟩ := hf i hi
  have hlt : a.block < W.heap.size := by
   rcases Nat.lt_or_ge a.block W.heap.size with h | h
   ·
    exact h
   ·
    have := c0
    unfold World.cell? at this
    rw [add_block5, Array.getElem?_eq_none h] at this
    simp at this
  rw [add_off5 _ (by decide)] at c1 c2 c3 c4
  exact ⟨a, rfl, hlt, c0, c1, c2, c3, c4, w0, w1⟩
theorem look_within {L : List S86} {k : Int} {e : E3} (h : look L k = some e) {low : Int} (hG : GoodB low L) : low ≤ e.1 ∧ e.1 ≤ low + 1 ∧ 0 ≤ e.2.1 ∧ e.2.1 ≤ e.2.2 ∧ e.2.2 ≤ 1000 := by
 obtain ⟨x, hx, _, rfl⟩ := zbf h
 obtain ⟨g0, g1, g2, g3, g4, g5, g6, g7⟩ := hG.2 x hx
 exact ⟨g1, g2, g3, g4, g6⟩
theorem RoundResizes_ok (A : Option Addr) (len cap : Nat) (f : Nat → Int × Int × Int × Int × Int) (id sb : Int) (w : World) (hR : Acts5At w A len f) (hlen : len ≤ 40) (wf : (Lit.int .i64 id).wf = true) (h0 : 0 ≤ sb ∧ sb ≤ 255) :
  Calls Try.prog 5 #[.slice A len cap, .int .i64 id, .int .u8 sb] w fun e w' => e = .returned (.bool true) ∧ Below w.heap.size w w' := by
 have HR := Aside0.mk hR
 have d3 : decide ((len : Int) > 40) = false := decide_eq_false (by omega)
 clear hR
 go_enter Try.func5, Try.ntmps5
 go_wp2_with fail
 go_at_call 13
 refine (awake12_ok _).mono ?_
 rintro e w0 ⟨rfl, hw0⟩
 have HW0 := Aside0.mk hw0
 have HR0 : Aside0 (Acts5At w0 A len f) := ⟨HR.out.below HW0.out⟩
 clear hw0
 go_wp2_with fail
 go_at_call 14
 refine (book_New_ok w0).mono ?_
 rintro e w1 ⟨b, m, rfl, hb, hm, hbk, hw⟩
 have hsz0 := HW0.out.size
 have hbm : b ≠ m := hbk.1
 have hlt1 := hbk.lt
 have HK1 : Aside0 (Bk w1 b m 0 1 []) := ⟨BookAt.ext hbk fun _ => rfl⟩
 have HW1 := Aside0.mk (zai HW0.out hw)
 have HW01 := Aside0.mk hw
 clear hbk hw
 go_wp2_with fail
 go_at_call 20
 refine (roundelref12_New.calls 1 [] w1 rfl).mono ?_
 rintro e w2 ⟨v1, rfl, hr2, hw2⟩
 obtain ⟨A2, c2, rfl⟩ := Kd.zbo hr2
 have HQ2 := Aside0.mk (RefBox.start hr2)
 have HW2 := Aside0.mk (zae (Below.trans (Below.mono (Below.trans (Below.refl _ w0) HW01.out) (Nat.le_refl _)) (hw2.mono HW01.out.size)) (.cells #[.int .i64 1, .slice A2 0 c2] 39))
 have HK2 : Aside0 (Bk (w2.alloc (.cells #[.int .i64 1, .slice A2 0 c2] 39)) b m 0 1 []) := ⟨Bk.keep (Bk.keep HK1.out hw2) (zae (Below.refl _ w2) _)⟩
 have hszr := hw2.size
 clear hr2 hw2 HK1
 go_wp2_with fail
 generalize w2.alloc (.cells #[.int .i64 1, .slice A2 0 c2] 39) = W2 at HQ2 HW2 HK2 ⊢
 generalize w2.heap.size = r at HQ2 hszr ⊢
 generalize w1.heap.size = q at HQ2 hszr hlt1 ⊢
 go_loopg [31] len (fun gk v31 w' => ∃ (i : Nat) (low : Int) (L : List S86) (A3 : Option Addr) (c3 : Nat), v31 = .int .i64 (i : Int) ∧ i + gk = len ∧ Aside0 (Bk w' b m i low L) ∧ Aside0 (GoodB low L) ∧ Aside0 (RefBox w' q r A3 c3 low L) ∧ (1 ≤ low ∧ low ≤ 1 + 4 * (i : Int)) ∧ L.length ≤ i ∧ Aside0 (Below w0.heap.size w0 w'))
 case atStart => exact ⟨0, 1, [], A2, c2, by go_num, by omega, HK2, ⟨⟨List.Pairwise.nil, fun e h => by cases h⟩⟩, HQ2, by omega, Nat.le_refl _, HW2⟩
 case round =>
  obtain ⟨i, low, L, A3, c3, rfl, hi, HK3, HG3, HQ3, hlow, hL, HW3⟩ := hrel
  cases gk with
  | zero =>
   obtain rfl : i = len := by omega
   have d1 : decide ((i : Int) < (i : Int)) = false := decide_eq_false (by omega)
   have hn : 1 ≤ 1 + sb % 20 ∧ 1 + sb % 20 ≤ 20 := by omega
   obtain ⟨p0, p1, p2, p3⟩ := HQ3.out.facts
   go_wp2_with fail
   have HE := za5 HK3.out wf
   have HB0 := Aside0.mk (HW0.out.trans (HW3.out.mono hsz0))
   cases hk : look L id with
   | none =>
    rw [hk] at HE
    dsimp only [ent, entCode, Option.getD] at HE
    refine HE.mono ?_
    rintro e w4 ⟨rfl, hb4⟩
    have HB4 := Aside0.mk (zae (zai HB0.out hb4) (.cells #[.int .i64 0, .int .i64 0, .int .i64 0] 48))
    have HK4 := Aside0.mk (BookAt.keep (BookAt.keep HK3.out hb4) (zae (Below.refl _ w4) (.cells #[.int .i64 0, .int .i64 0, .int .i64 0] 48)))
    have HLK := Aside0.mk hk
    clear hb4 HE hk p0 p1 p2 p3
    go_wp2_with fail
    generalize 1 + sb % 20 = nn at hn ⊢
    have hal : Below w.heap.size w (w4.alloc (.cells #[.int .i64 0, .int .i64 0, .int .i64 0] 48)) := HB4.out
    generalize w4.alloc (.cells #[.int .i64 0, .int .i64 0, .int .i64 0] 48) = W4 at HB4 HK4 hal ⊢
    clear hal
    refine (book_Resize_none HK4.out wf nn HLK.out).mono ?_
    rintro e w5 ⟨rfl, hb5⟩
    have HK5 := Aside0.mk (BookAt.keep HK4.out hb5)
    have HB5 := Aside0.mk (zai HB4.out hb5)
    clear hb5
    go_wp2_with fail
    have HE := za5 HK5.out wf
    rw [HLK.out] at HE
    dsimp only [ent, entCode, Option.getD] at HE
    refine HE.mono ?_
    rintro e w6 ⟨rfl, hb6⟩
    have HB6 := Aside0.mk (zae (zai HB5.out hb6) (.cells #[.int .i64 0, .int .i64 0, .int .i64 0] 48))
    clear hb6 HE
    go_wp2_with fail
    go_ret
    exact ⟨rfl, HB6.out⟩
   | some e0 =>
    obtain ⟨tag, left, slice⟩ := e0
    rw [hk] at HE
    dsimp only [ent, entCode, Option.getD] at HE
    refine HE.mono ?_
    rintro e w4 ⟨rfl, hb4⟩
    have HB4 := Aside0.mk (zae (zai HB0.out hb4) (.cells #[.int .i64 tag, .int .i64 left, .int .i64 slice] 48))
    have HW4 := Aside0.mk (zae (zai HW3.out hb4) (.cells #[.int .i64 tag, .int .i64 left, .int .i64 slice] 48))
    have HQ4 := Aside0.mk ((HQ3.out.below hb4).below (zae (Below.refl _ w4) (.cells #[.int .i64 tag, .int .i64 left, .int .i64 slice] 48)))
    have HK4 := Aside0.mk (BookAt.keep (BookAt.keep HK3.out hb4) (zae (Below.refl _ w4) (.cells #[.int .i64 tag, .int .i64 left, .int .i64 slice] 48)))
    have HC4 := Aside0.mk (zat w4 (.cells #[.int .i64 tag, .int .i64 left, .int .i64 slice] 48))
    have HLK := Aside0.mk hk
    have hs4 : r < w4.heap.size := Nat.lt_of_lt_of_le (zak HQ3.out.1) hb4.size
    obtain ⟨k1, k2, k3, k4, k5⟩ := look_within hk HG3.out
    dsimp only at k1 k2 k3 k4 k5
    clear hb4 HE hk p0 p1 p2 p3
    go_wp2_with fail
    generalize 1 + sb % 20 = nn at hn ⊢
    generalize w4.alloc (.cells #[.int .i64 tag, .int .i64 left, .int .i64 slice] 48) = W4 at HB4 HW4 HQ4 HK4 HC4 ⊢
    generalize w4.heap.size = s4 at HC4 hs4 ⊢
    refine (book_Resize_ok HK4.out (by omega) wf tag left slice nn HLK.out (by omega)).mono ?_
    rintro e w5 ⟨rfl, hk5, hw5⟩
    have hmn := mn_le left nn
    obtain ⟨M, hM, hM2⟩ : ∃ M, mn left nn = M ∧ (if nn < left then nn else left) = M := ⟨_, rfl, rfl⟩
    rw [hM] at hk5 hmn
    have HM2 := Aside0.mk hM2
    clear hM hM2
    have hm1 : M = 0 → left = 0 := by omega
    have hsome : (look L id).isSome = true := by rw [HLK.out]; rfl
    have HK5 : Aside0 (Bk w5 b m (i + 1) low (upd id (tag, M, nn) L)) := ⟨BookAt.ext hk5 fun j => look_upd hsome j⟩
    have HG5 : Aside0 (GoodB low (upd id (tag, M, nn) L)) := ⟨HG3.out.upd _ _ fun _ => by
     obtain ⟨g0, g1, g2, g3, g4, g5, g6, g7⟩ := HG3.out.lo HLK.out
     exact ⟨g0, g1, g2, by dsimp only; omega, by dsimp only; omega, by dsimp only; omega, by dsimp only; omega, fun h => g7 (hm1 h)⟩⟩
    have hlk5 : look (upd id (tag, M, nn) L) id = some (tag, M, nn) := by rw [look_upd hsome, if_pos rfl]
    have HL5 : (upd id (tag, M, nn) L).length ≤ 40 := by rw [upd_len]; omega
    have HQ5 := Aside0.mk (HQ4.out.only hw5.1 (by omega) (by omega) (by omega))
    have HC5 := Aside0.mk ((hw5.1.2 _ (zak HC4.out) (by omega) (by omega)).trans HC4.out)
    have HW5 := Aside0.mk (HW4.out.trans (hw5.2 _ hb hm))
    have HB5 := Aside0.mk (HB4.out.trans (hw5.2 _ (by omega) (by omega)))
    have HLK5 := Aside0.mk hlk5
    generalize upd id (tag, M, nn) L = L5 at HK5 HG5 HL5 HLK5
    clear hk5 hw5 hlk5 hm1 hsome HK3 HG3 HQ3 HW3 HK4 HQ4 HC4 HW4 HLK
    go_wp2_with fail
    have HE := za5 HK5.out wf
    rw [HLK5.out] at HE
    dsimp only [ent, entCode, Option.getD] at HE
    refine HE.mono ?_
    rintro e w6 ⟨rfl, hb6⟩
    have HB6 := Aside0.mk (zae (zai HB5.out hb6) (.cells #[.int .i64 tag, .int .i64 (M), .int .i64 nn] 48))
    have HW6 := Aside0.mk (zae (zai HW5.out hb6) (.cells #[.int .i64 tag, .int .i64 (M), .int .i64 nn] 48))
    have HK6 := Aside0.mk (BookAt.keep (BookAt.keep HK5.out hb6) (zae (Below.refl _ w6) (.cells #[.int .i64 tag, .int .i64 (M), .int .i64 nn] 48)))
    have hq6 := (HQ5.out.below hb6).below (zae (Below.refl _ w6) (.cells #[.int .i64 tag, .int .i64 (M), .int .i64 nn] 48))
    have hc6 := zac ((hb6.block _ (zak HC5.out)).trans HC5.out) (.cells #[.int .i64 tag, .int .i64 (M), .int .i64 nn] 48)
    have hn6 := zat w6 (.cells #[.int .i64 tag, .int .i64 (M), .int .i64 nn] 48)
    have hl6 := (BookAt.keep HK5.out hb6).lt
    clear hb6 HE
    go_wp2_with fail
    generalize w6.alloc (.cells #[.int .i64 tag, .int .i64 (M), .int .i64 nn] 48) = W6 at HB6 HW6 HK6 hq6 hc6 hn6 ⊢
    generalize w6.heap.size = s6 at hn6 hl6 ⊢
    obtain ⟨p0, p1, p2, p3⟩ := hq6.facts
    have c0 : W6.cell? ⟨s4, 0, none⟩ = some (.int .i64 tag) := (za hc6 0).trans rfl
    have c1 : W6.cell? ⟨s4, 1, none⟩ = some (.int .i64 left) := (za hc6 1).trans rfl
    have c2 : W6.cell? ⟨s4, 2, none⟩ = some (.int .i64 slice) := (za hc6 2).trans rfl
    have n0 : W6.cell? ⟨s6, 0, none⟩ = some (.int .i64 tag) := (za hn6 0).trans rfl
    have n1 : W6.cell? ⟨s6, 1, none⟩ = some (.int .i64 (M)) := (za hn6 1).trans rfl
    have n2 : W6.cell? ⟨s6, 2, none⟩ = some (.int .i64 nn) := (za hn6 2).trans rfl
    have HN6 := Aside0.mk hn6
    clear hq6 hc6 hn6
    have d2 : (tag == tag) = true := beq_self_eq_true _
    have d4 := HM2.out
    have d5 : (nn == nn) = true := beq_self_eq_true _
    have d6 : (low == low) = true := beq_self_eq_true _
    go_quiet (first | (go_at_call 19; exact Calls.quiet_of_same (book_Low_eq (BookAt.drewNb HK6.out _))))
    go_wp2
    have HK9 := Aside0.mk (BookAt.drewNb HK6.out nq)
    have HB9 := Aside0.mk (zbi HB6.out nq)
    have HW9 := Aside0.mk (zbi HW6.out nq)
    have hn9 : (W6.drewN nq).heap[s6]? = some (.cells #[.int .i64 tag, .int .i64 M, .int .i64 nn] 48) := HN6.out
    generalize W6.drewN nq = W9 at HK9 HB9 HW9 hn9 ⊢
    have HN9 := Aside0.mk hn9
    clear p0 p1 p2 p3 c0 c1 c2 n0 n1 n2 d2 d4 d5 d6 hn9
    have n9 : W9.cell? ⟨s6, 0, none⟩ = some (.int .i64 tag) := (za HN9.out 0).trans rfl
    have HSK : Aside0 (∀ W, Below W9.heap.size W9 W → W.cell? ⟨s6, 0, none⟩ = some (.int .i64 tag)) := ⟨fun W h => (za ((h.block _ (zak HN9.out)).trans HN9.out) 0).trans rfl⟩
    have HSK1 : Aside0 (∀ W, Below W9.heap.size W9 W → W.cell? ⟨s6, 0, none⟩ = some (.int .i64 tag) ∧ W.cell? ⟨s6, 1, none⟩ = some (.int .i64 M)) := ⟨fun W h => ⟨(za ((h.block _ (zak HN9.out)).trans HN9.out) 0).trans rfl, (za ((h.block _ (zak HN9.out)).trans HN9.out) 1).trans rfl⟩⟩
    have hO := book_Open_ok (w := W9.drew) HK9.out wf
    rw [HLK5.out] at hO
    by_cases hM0 : M > 0
    ·
     have d7 : decide (M > 0) = true := decide_eq_true hM0
     rw [show decide ((ent (some (tag, M, nn))).2.1 > 0) = true from decide_eq_true hM0] at hO
     have HO := Aside0.mk hO
     clear hO
     by_cases htl : tag = low
     ·
      have d8 : (tag == low) = true := beq_iff_eq.mpr htl
      have HTL := Aside0.mk htl
      clear htl
      go_region_held3 (fun W => W.cell? ⟨s6, 0, none⟩ = some (.int .i64 tag)) (((with_reducible refine HSK.out _ ?_); first | (with_reducible exact HB10.out) | (with_reducible exact (Below.refl _ W9).drew))) (first | (go_at_call 17; refine HO.out.mono ?_; rintro e w10 ⟨rfl, hb10⟩; have HB10 := Aside0.mk (((Below.refl W9.heap.size W9).drew).trans hb10); clear hb10) | (go_at_call 19; refine (book_Low_eq (BookAt.keep HK9.out HB10.out)).mono ?_; rintro e w11 ⟨rfl, rfl⟩))
      all_goals
       obtain ⟨n0, n1⟩ := HSK1.out _ HB10.out
       go_wp2
      all_goals
       have HK10 := Aside0.mk (BookAt.keep HK9.out HB10.out)
       have HW10 := Aside0.mk (HW9.out.trans (HB10.out.mono HW9.out.size))
       have HN10 := Aside0.mk ((HB10.out.block _ (zak HN9.out)).trans HN9.out)
       obtain ⟨Mn, hMn⟩ := Int.eq_ofNat_of_zero_le (show 0 ≤ M by omega)
       have hMl : Mn ≤ 1000 := by omega
       have HMN := Aside0.mk hMn
       have hsb : s6 ≠ b ∧ s6 ≠ m := ⟨by omega, by omega⟩
       try simp only [show (tag != low) = false by rw [bne, d8]; rfl]
       clear n0 n1 hMn n9 hmn d8 d7
       go_loopg [118] Mn (fun gk v118 w' => ∃ (q1 : Nat) (L1 : List S86), v118 = .int .i64 (q1 : Int) ∧ q1 + gk = Mn ∧ Aside0 (Bk w' b m (i + 1 + q1) low L1) ∧ Aside0 (GoodB low L1) ∧ L1.length ≤ 40 ∧ Aside0 (look L1 id = some (if q1 < Mn then (tag, M - (q1 : Int), nn) else (tag + 1, nn, nn))) ∧ Aside0 (w'.heap[s6]? = some (.cells #[.int .i64 tag, .int .i64 M, .int .i64 nn] 48)) ∧ Aside0 (Below w0.heap.size w0 w'))
       case atStart => exact ⟨0, L5, by go_num, by omega, HK10, HG5, HL5, ⟨by rw [HLK5.out, if_pos (by have := HMN.out; omega)]; simp⟩, HN10, HW10⟩
       case round =>
        obtain ⟨q1, L1, rfl, hq1, HK1, HG1, hL1, HLK1, HN1, HWW1⟩ := hrel
        cases gk with
        | zero =>
         have dm : decide ((q1 : Int) < M) = false := decide_eq_false (by have := HMN.out; omega)
         have hlk1 : look L1 id = some (tag + 1, nn, nn) := by rw [HLK1.out, if_neg (by omega)]
         have HE := za5 HK1.out wf
         rw [hlk1] at HE
         dsimp only [ent, entCode, Option.getD] at HE
         have HE1 := Aside0.mk HE
         clear hlk1 HE
         go_wp2_with fail
         refine HE1.out.mono ?_
         rintro e w12 ⟨rfl, hb12⟩
         have h12 := zat w12 (.cells #[.int .i64 (tag + 1), .int .i64 nn, .int .i64 nn] 48)
         have hn12 := zac ((hb12.block _ (zak HN1.out)).trans HN1.out) (.cells #[.int .i64 (tag + 1), .int .i64 nn, .int .i64 nn] 48)
         have HB12 := Aside0.mk (zae (HW0.out.trans ((zai HWW1.out hb12).mono hsz0)) (.cells #[.int .i64 (tag + 1), .int .i64 nn, .int .i64 nn] 48))
         have c0 : (w12.alloc (.cells #[.int .i64 (tag + 1), .int .i64 nn, .int .i64 nn] 48)).cell? ⟨w12.heap.size, 0, none⟩ = some (.int .i64 (tag + 1)) := (za h12 0).trans rfl
         have c1 : (w12.alloc (.cells #[.int .i64 (tag + 1), .int .i64 nn, .int .i64 nn] 48)).cell? ⟨w12.heap.size, 1, none⟩ = some (.int .i64 nn) := (za h12 1).trans rfl
         have n0 : (w12.alloc (.cells #[.int .i64 (tag + 1), .int .i64 nn, .int .i64 nn] 48)).cell? ⟨s6, 0, none⟩ = some (.int .i64 tag) := (za hn12 0).trans rfl
         have wl : wrap64 (tag + 1) = tag + 1 := w64s (by omega) (by omega)
         have d7 : (nn == nn) = true := beq_self_eq_true _
         have d8 : (tag + 1 == tag + 1) = true := beq_self_eq_true _
         clear hb12 h12 hn12
         go_wp2_with fail
         go_ret
         exact ⟨rfl, HB12.out⟩
        | succ g2 =>
         have dm : decide ((q1 : Int) < M) = true := decide_eq_true (by have := HMN.out; omega)
         have hlk1 : look L1 id = some (tag, M - (q1 : Int), nn) := by rw [HLK1.out, if_pos (by omega)]
         have hpos : 0 < M - (q1 : Int) := by have := HMN.out; omega
         have HLK2 := Aside0.mk hlk1
         clear hlk1
         go_wp2_with fail
         go_at_call 16
         refine (Bk_Charge HK1.out HG1.out (by omega) (by omega) tag _ nn HLK2.out hpos).mono ?_
         rintro e w12 ⟨rfl, hk12, hg12, hw12⟩
         have HK12 := Aside0.mk hk12
         have HG12 := Aside0.mk hg12
         have hL12 : (upd id (chE low tag (M - (q1 : Int)) nn) L1).length ≤ 40 := by rw [upd_len]; exact hL1
         have HLK12 : Aside0 (look (upd id (chE low tag (M - (q1 : Int)) nn) L1) id = some (if q1 + 1 < Mn then (tag, M - ((q1 + 1 : Nat) : Int), nn) else (tag + 1, nn, nn))) := ⟨by
          rw [look_upd (by rw [HLK2.out]; rfl), if_pos rfl]
          have h1 := HMN.out
          have h2 := HTL.out
          unfold chE
          by_cases c : q1 + 1 < Mn
          ·
           rw [if_pos (by omega), if_pos c]
           rw [show M - (q1 : Int) - 1 = M - ((q1 + 1 : Nat) : Int) by omega]
          ·
           rw [if_neg (by omega), if_pos h2, if_neg c]⟩
         have HN12 := Aside0.mk ((hw12.1.2 _ (zak HN1.out) hsb.1 hsb.2).trans HN1.out)
         have HW12 := Aside0.mk (HWW1.out.trans (hw12.2 _ hb hm))
         generalize upd id (chE low tag (M - (q1 : Int)) nn) L1 = L12 at HK12 HG12 hL12 HLK12
         clear hk12 hg12 hw12 hpos
         go_wp2_with fail
         have hgi : q1 + 1 + g2 = Mn := by omega
         have wi : wrap64 ((q1 : Int) + 1) = (q1 : Int) + 1 := w64s (by omega) (by omega)
         go_roundg g2
         case measure => exact Nat.lt_succ_self _
         case rel => exact ⟨q1 + 1, L12, by go_num, hgi, HK12, HG12, hL12, HLK12, HN12, HW12⟩
     ·
      have d8 : (tag == low) = false := beq_eq_false_iff_ne.mpr htl
      go_region_held3 (fun W => W.cell? ⟨s6, 0, none⟩ = some (.int .i64 tag)) (((with_reducible refine HSK.out _ ?_); first | (with_reducible exact HB10.out) | (with_reducible exact (Below.refl _ W9).drew))) (first | (go_at_call 17; refine HO.out.mono ?_; rintro e w10 ⟨rfl, hb10⟩; have HB10 := Aside0.mk (((Below.refl W9.heap.size W9).drew).trans hb10); clear hb10) | (go_at_call 19; refine (book_Low_eq (BookAt.keep HK9.out HB10.out)).mono ?_; rintro e w11 ⟨rfl, rfl⟩))
      all_goals
       go_wp2
      all_goals
       go_ret
       exact ⟨rfl, HB9.out.trans (HB10.out.mono HB9.out.size)⟩
    ·
     have d7 : decide (M > 0) = false := decide_eq_false hM0
     rw [show decide ((ent (some (tag, M, nn))).2.1 > 0) = false from decide_eq_false hM0] at hO
     have HO := Aside0.mk hO
     clear hO
     first | (go_region_with (go_at_call 17; refine HO.out.mono ?_; rintro e w10 ⟨rfl, hb10⟩; have HB10 := Aside0.mk (((Below.refl W9.heap.size W9).drew).trans hb10); clear hb10)) | fail
     all_goals
      go_wp2
     all_goals
      go_ret
      exact ⟨rfl, HB9.out.trans (HB10.out.mono HB9.out.size)⟩
  | succ g1 =>
   have d1 : decide ((i : Int) < (len : Int)) = true := decide_eq_true (by omega)
   obtain ⟨ad, rfl, had, a0, a1, a2, a3, a4, ha0, ha1⟩ := (HR0.out.below HW3.out) i (by omega)
   have d2 : 0 ≤ (i : Int) ∧ (i : Int) < (len : Int) := by omega
   generalize hf : f i = fi at a0 a1 a2 a3 a4 ha0 ha1
   obtain ⟨k, aid, tag, left, slice⟩ := fi
   dsimp only at a0 a1 a2 a3 a4 ha0 ha1
   have HA1 := Aside0.mk ha1
   have HF := Aside0.mk hf
   obtain ⟨p0, p1, p2, p3⟩ := (HQ3.out.below (zae (Below.refl _ wr) (.cells #[.int .u8 k, .int .i64 aid, .int .i64 tag, .int .i64 left, .int .i64 slice] 42))).facts
   clear ha1 hf
   go_wp2_with fail
   have HK4 : Aside0 (Bk (wr.alloc (.cells #[.int .u8 k, .int .i64 aid, .int .i64 tag, .int .i64 left, .int .i64 slice] 42)) b m i low L) := ⟨Bk.keep HK3.out (zae (Below.refl _ wr) _)⟩
   have HQ4 := Aside0.mk (HQ3.out.below (zae (Below.refl _ wr) (.cells #[.int .u8 k, .int .i64 aid, .int .i64 tag, .int .i64 left, .int .i64 slice] 42)))
   have HW4 := Aside0.mk (zae HW3.out (.cells #[.int .u8 k, .int .i64 aid, .int .i64 tag, .int .i64 left, .int .i64 slice] 42))
   go_at_call 21
   generalize wr.alloc (.cells #[.int .u8 k, .int .i64 aid, .int .i64 tag, .int .i64 left, .int .i64 slice] 42) = W3 at HK4 HQ4 HW4 p0 p1 p2 p3 ⊢
   clear a0 a1 a2 a3 a4 p0 p1 p2 p3
   have hr3 := zak HQ4.out.1
   refine (do_ok HK4.out HQ4.out.2 (fun k (hk : q ≤ k ∧ k ≠ r) => ⟨by omega, by omega⟩) HG3.out (by omega) (by omega) (by omega) k aid tag left slice ha0 HA1.out).mono ?_
   rintro e w4 ⟨v', low', L', rfl, hk4, hr4, hg4, hlo, hhi, hl4, hw4⟩
   obtain ⟨A4, c4, rfl, hv4⟩ := hr4
   have hq4 := (hw4.1.2 r hr3 (by omega) (by omega)).trans HQ4.out.1
   have p0 : w4.cell? ⟨r, 0, none⟩ = some (.int .i64 low) := (za hq4 0).trans rfl
   have p1 : w4.cell? ⟨r, 1, none⟩ = some (.slice A3 L.length c3) := (za hq4 1).trans rfl
   have p2 := zaa hq4 0
   have p3 := zaa hq4 1
   have HQ5 := Aside0.mk (RefBox.put (q := q) (low := low') (A := A4) (c := c4) hq4 ⟨A4, c4, rfl, Kd.za1 hv4 (fun k (hk : (q ≤ k ∧ k ≠ r) ∨ W3.heap.size ≤ k) => ⟨by omega, by omega⟩)⟩)
   have HK5 : Aside0 (Bk ((w4.setCell ⟨r, 0, none⟩ (.int .i64 low')).setCell ⟨r, 1, none⟩ (.slice A4 L'.length c4)) b m (i + 1) low' L') := ⟨BookAt.other (BookAt.other hk4 (by omega) (by omega) _) (by omega) (by omega) _⟩
   have HW5 : Aside0 (Below w0.heap.size w0 ((w4.setCell ⟨r, 0, none⟩ (.int .i64 low')).setCell ⟨r, 1, none⟩ (.slice A4 L'.length c4))) := ⟨((HW4.out.trans (hw4.2 _ hb hm)).setCell (p := ⟨r, 0, none⟩) (by show w0.heap.size ≤ r; omega) _).setCell (p := ⟨r, 1, none⟩) (by show w0.heap.size ≤ r; omega) _⟩
   have HG4 := Aside0.mk hg4
   clear hq4 hv4 hk4 hw4 hg4
   go_wp2_with fail
   go_at_call 18
   generalize (w4.setCell ⟨r, 0, none⟩ (.int .i64 low')).setCell ⟨r, 1, none⟩ (.slice A4 L'.length c4) = W5 at HQ5 HK5 HW5 ⊢
   clear p0 p1 p2 p3
   refine (book_Settle_ok HK5.out HG4.out (by omega) (by omega) (by omega)).mono ?_
   rintro e w6 ⟨v6, rfl, _, hk6, hw6⟩
   have HQ6 := Aside0.mk (HQ5.out.only hw6.1 (by omega) (by omega) (by omega))
   have HK6 := Aside0.mk hk6
   have HW6 := Aside0.mk (HW5.out.trans (hw6.2 _ hb hm))
   obtain ⟨p0, p1, p2, p3⟩ := HQ6.out.facts
   clear hk6 hw6
   go_wp2_with fail
   go_at_call 22
   refine (ref_Settle HQ6.out.2 HG4.out (by omega) (by omega)).mono ?_
   rintro e w7 ⟨v7, u7, rfl, hr7, _, hb7⟩
   obtain ⟨g1_, _, g3, g4⟩ := HG4.out.settle
   have hsl := settle_len 2 low' L'
   have HS := Aside0.mk g1_
   clear g1_ p0 p1 p2 p3
   generalize settleF 2 low' L' = F at HK6 hr7 HS g3 g4 hsl ⊢
   obtain ⟨low2, L2⟩ := F
   dsimp only at HK6 hr7 HS g3 g4 hsl
   have hL2 : L2.length ≤ i + 1 := by omega
   have hlow2 : 1 ≤ low2 ∧ low2 ≤ 1 + 4 * ((i + 1 : Nat) : Int) := by omega
   clear hsl g3 g4
   obtain ⟨A7, c7, rfl, hv7⟩ := hr7
   have hq7 := (hb7.block _ (zak HQ6.out.1)).trans HQ6.out.1
   have hr6 := zak HQ6.out.1
   have p0 : w7.cell? ⟨r, 0, none⟩ = some (.int .i64 low') := (za hq7 0).trans rfl
   have p1 : w7.cell? ⟨r, 1, none⟩ = some (.slice A4 L'.length c4) := (za hq7 1).trans rfl
   have p2 := zaa hq7 0
   have p3 := zaa hq7 1
   have HQ7 := Aside0.mk (RefBox.put (q := q) (low := low2) (A := A7) (c := c7) hq7 ⟨A7, c7, rfl, Kd.za1 hv7 (fun k (hk : (q ≤ k ∧ k ≠ r) ∨ w6.heap.size ≤ k) => ⟨by omega, by omega⟩)⟩)
   have HK7 : Aside0 (Bk ((w7.setCell ⟨r, 0, none⟩ (.int .i64 low2)).setCell ⟨r, 1, none⟩ (.slice A7 L2.length c7)) b m (i + 1) low2 L2) := ⟨BookAt.other (BookAt.other (BookAt.keep HK6.out hb7) (by omega) (by omega) _) (by omega) (by omega) _⟩
   have HW7 : Aside0 (Below w0.heap.size w0 ((w7.setCell ⟨r, 0, none⟩ (.int .i64 low2)).setCell ⟨r, 1, none⟩ (.slice A7 L2.length c7))) := ⟨((zai HW6.out hb7).setCell (p := ⟨r, 0, none⟩) (by show w0.heap.size ≤ r; omega) _).setCell (p := ⟨r, 1, none⟩) (by show w0.heap.size ≤ r; omega) _⟩
   clear hq7 hv7 hb7
   go_wp2_with fail
   generalize (w7.setCell ⟨r, 0, none⟩ (.int .i64 low2)).setCell ⟨r, 1, none⟩ (.slice A7 L2.length c7) = W7 at HQ7 HK7 HW7 ⊢
   clear p0 p1 p2 p3
   have wi : wrap64 ((i : Int) + 1) = (i : Int) + 1 := w64s (by omega) (by omega)
   have hgi : i + 1 + g1 = len := by omega
   go_roundg g1
   case measure => exact Nat.lt_succ_self _
   case rel => exact ⟨i + 1, low2, L2, A7, c7, by go_num, hgi, HK7, HS, HQ7, hlow2, hL2, HW7⟩
theorem RoundResizes_long (A : Option Addr) (len cap : Nat) (id sb : Int) (w : World) (hlen : 40 < len) :
  Calls Try.prog 5 #[.slice A len cap, .int .i64 id, .int .u8 sb] w fun e w' => e = .returned (.bool true) ∧ Below w.heap.size w w' := by
 have d60 : decide ((len : Int) > 40) = true := decide_eq_true (by omega)
 go_enter Try.func5, Try.ntmps5
 go_wp2_with fail
 go_at_call 13
 refine (awake12_ok _).mono ?_
 rintro e w0 ⟨rfl, hw0⟩
 have HW0 := Aside0.mk hw0
 clear hw0
 go_wp2_with fail
 go_at_call 13
 refine (awake12_ok w0).mono ?_
 rintro e w1 ⟨rfl, hw1⟩
 have HW1 := Aside0.mk (zai HW0.out hw1)
 clear hw1
 go_wp2_with fail
 go_ret
 exact ⟨rfl, HW1.out⟩
theorem lRoundResizes {H : Type} {enc : TypeId × Value → H} {W : World} {base : Nat} {spare : Nat → Bool} {held : Bool} {d : DataW H} {p : List MemPlace} (v : Value) (id sb : Int) (hid : (Lit.int .i64 id).wf = true) (hsb : (Lit.int .u8 sb).wf = true) (hv : ∃ A len cap, v = .slice A len cap)
  (h : DataW.Trod enc Try.prog W base spare held 35 v d p) : Calls Try.prog 5 #[v, .int .i64 id, .int .u8 sb] W fun e w' => e = .returned (.bool true) ∧ Below W.heap.size W w' := by
 obtain ⟨A, len, cap, rfl⟩ := hv
 obtain ⟨fuel, hf⟩ := h
 obtain ⟨f, hA⟩ := open_acts12 (by simpa [Value.cells] using hf)
 by_cases hlen : len ≤ 40
 ·
  exact RoundResizes_ok A len cap f id sb W hA hlen hid (bounds_u8 hsb)
 ·
  exact RoundResizes_long A len cap id sb W (by omega)
end Go.Proofs.Ytbakdobjidjncaa.P
end
