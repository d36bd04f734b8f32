-- Written by a program of this session (wip/tools/shake.py) out of its own texts and of the kit's printed ones; not trusted: Lean checks it.
import Derived.Test.YtlmjdchcgfpngaaZTreePlays7
set_option maxHeartbeats 8000000
set_option maxRecDepth 100000
set_option linter.unusedVariables false
set_option linter.unusedSimpArgs false
section
namespace Go.Proofs.Ytlmjdchcgfpngaa.P
open Go.RowKit Go.Proofs.YtlmjdchcgfpngaaW.PrintWords Go.Proofs.YtlmjdchcgfpngaaW.PrintLast Go.Proofs.YtlmjdchcgfpngaaW.PrintMore
attribute [local go_sem] zbo zbr zbw zbx zbf zbi zbp zbq
theorem add_block3 (ad : Addr) (i : Nat) : (ad.add i).block = ad.block := by
 unfold Addr.add
 split <;> rfl
def Acts3At (w : World) (A : Option Addr) (n : Nat) (f : Nat → Int × Int × Int) : Prop :=
 ∀ i, i < n → ∃ ad : Addr, A = some ad ∧ ad.block < w.heap.size ∧ w.cell? (ad.add (i * 3)) = some (.int .u8 (f i).1) ∧
  w.cell? ⟨(ad.add (i * 3)).block, (ad.add (i * 3)).off + 1, none⟩ = some (.int .i64 (f i).2.1) ∧ w.cell? ⟨(ad.add (i * 3)).block, (ad.add (i * 3)).off + 2, none⟩ = some (.int .i64 (f i).2.2) ∧
  0 ≤ (f i).1 ∧ (Lit.int .i64 (f i).2.1).wf = true ∧ (Lit.int .i64 (f i).2.2).wf = true
theorem Acts3At.below {w w' : World} {A : Option Addr} {n : Nat} {f : Nat → Int × Int × Int} (h : Acts3At w A n f) (hb : Below w.heap.size w w') : Acts3At w' A n f := by
 intro i hi
 obtain ⟨ad, e, h1, h2, h3, h4, h5⟩ := h i hi
 have hl : (ad.add (i * 3)).block < w.heap.size := by rw [add_block3]; exact h1
 exact ⟨ad, e, Nat.lt_of_lt_of_le h1 hb.size, (hb.cell hl).trans h2, (hb.cell (p := ⟨(ad.add (i * 3)).block, _, none⟩) hl).trans h3, (hb.cell (p := ⟨(ad.add (i * 3)).block, _, none⟩) hl).trans h4, h5⟩
theorem list3' {α : Type} {l : List α} (h : l.length = 3) : ∃ a b c, l = [a, b, c] := by
 match l, h with
 | [a, b, c], _ => exact ⟨a, b, c, rfl⟩
theorem add_zero3 (a : Addr) : a.add 0 = a := by
 unfold Addr.add
 simp
theorem add_off3 (a : Addr) {k : Nat} (h : 0 < k) : a.add k = ⟨a.block, a.off + k, none⟩ := by
 unfold Addr.add
 rw [if_neg (by omega)]
theorem open_acts08 {H : Type} {enc : TypeId × Value → H} {W : World} {base : Nat} {spare : Nat → Bool} {held : Bool} {fuel : Nat} {A : Option Addr} {len cap : Nat} {x : DataW H × List MemPlace}
  (h : DataW.trod enc Try.prog W base spare held fuel 41 [.slice A len cap] = some x) : ∃ f, Acts3At W A len f := by
 have ce : Try.prog.cellsOf 48 = 3 := by kernel_rfl
 have c3 : Try.prog.cellsOf 3 = 1 := by kernel_rfl
 have c5 : Try.prog.cellsOf 5 = 1 := by kernel_rfl
 rcases Go.Deep.open_slice Try.underlying41 h with ⟨hcs, _⟩ | ⟨a, len', cap', m, n, D, Pl, hcs, hb, hl, hm, hmm, _, hx⟩
 ·
  simp at hcs
  obtain ⟨rfl, rfl, rfl⟩ := hcs
  exact ⟨fun _ => (0, 0, 0), fun i hi => absurd hi (by omega)⟩
 ·
  simp at hcs
  obtain ⟨rfl, rfl, rfl⟩ := hcs
  have each : ∀ i, i < len → ∃ q : Int × Int × Int, W.cell? (a.add (i * 3)) = some (.int .u8 q.1) ∧ W.cell? ((a.add (i * 3)).add 1) = some (.int .i64 q.2.1) ∧ W.cell? ((a.add (i * 3)).add 2) = some (.int .i64 q.2.2) ∧ 0 ≤ q.1 ∧ (Lit.int .i64 q.2.1).wf = true ∧ (Lit.int .i64 q.2.2).wf = true := by
   intro i hi
   obtain ⟨cs', h1, h2⟩ := hx i (by rw [hmm]; split <;> omega)
   rw [ce] at h1
   obtain ⟨_, hlen, hcell⟩ := World.cells?_some h1
   obtain ⟨xs, k, hk, hxy, _, hxl, hf⟩ := DataW.trod_struct Try.underlying48 h2
   obtain ⟨y0, y1, y2, rfl⟩ := list3' (show xs.length = 3 from hxl)
   obtain ⟨v0, v1, v2, rfl⟩ := list3' hlen
   have g0 := hf 0 _ rfl
   have g1 := hf 1 _ rfl
   have g2 := hf 2 _ rfl
   simp [c3, c5] at g0 g1 g2
   have e0 := hcell 0 (by omega)
   have e1 := hcell 1 (by omega)
   have e2 := hcell 2 (by omega)
   rw [add_zero3] at e0
   simp only [List.getElem?_cons_zero, List.getElem?_cons_succ] at e0 e1 e2
   obtain ⟨x0, z0, _, w0⟩ := DataW.trod_int Try.underlying5 g0
   obtain ⟨x1, z1, _, w1⟩ := DataW.trod_int Try.underlying3 g1
   obtain ⟨x2, z2, _, w2⟩ := DataW.trod_int Try.underlying3 g2
   simp only [List.cons.injEq, and_true] at z0 z1 z2
   subst z0 z1 z2
   refine ⟨(x0, x1, x2), e0, e1, e2, (bounds_u8 w0).1, w1, w2⟩
  obtain ⟨f, hf⟩ := Go.Deep.choose_lt each
  refine ⟨f, fun i hi => ?_⟩
  obtain ⟨c0, c1, c2, w0, w1, w2⟩ := hf i hi
  have hlt : a.block < W.heap.size := by
   rcases Nat.lt_or_ge a.block W.heap.size with h | h
   ·
    exact h
   ·
    have := c0
    unfold World.cell? at this
    rw [add_block3, Array.getElem?_eq_none h] at this
    simp at this
  rw [add_off3 _ (by decide)] at c1 c2
  exact ⟨a, rfl, hlt, c0, c1, c2, w0, w1, w2⟩
def StX (B r : Nat) (w : World) (fb n room : Nat) (last : Int) (L : List S84) (A : Option Addr) (c : Nat) : Prop :=
 ∃ S P : Nat → Prop, ForS S w fb n room last L ∧ GoodF room last L ∧ RefF w P (.agg #[.int .i64 (room : Int), .int .i64 last, .slice A L.length c]) room last L ∧ (∀ k, P k → ¬ S k ∧ k ≠ r) ∧ ¬ S r ∧ (∀ k, S k → B ≤ k) ∧ B ≤ r ∧ r < w.heap.size
def BoxR (w : World) (r room : Nat) (last : Int) (A : Option Addr) (len c : Nat) : Prop := w.heap[r]? = some (.cells #[.int .i64 (room : Int), .int .i64 last, .slice A len c] 44 (0, 0))
section
variable {B r : Nat} {w w' : World} {fb n room : Nat} {last : Int} {L : List S84} {A : Option Addr} {c : Nat}
theorem StX.keep (h : StX B r w fb n room last L A c) (hb : Below w.heap.size w w') : StX B r w' fb n room last L A c := by
 obtain ⟨S, P, h1, h2, h3, h4, h5, h6, h7, h8⟩ := h
 exact ⟨S, P, h1.keep hb, h2, h3.below hb, h4, h5, h6, h7, Nat.lt_of_lt_of_le h8 hb.size⟩
theorem StX.forB (h : StX B r w fb n room last L A c) : ForB 0 w fb n room last L := by
 obtain ⟨S, P, h1, _⟩ := h
 exact h1.forB
theorem StX.good (h : StX B r w fb n room last L A c) : GoodF room last L := by
 obtain ⟨S, P, _, h2, _⟩ := h
 exact h2
theorem StX.ref (h : StX B r w fb n room last L A c) : ∃ P, RefF w P (.agg #[.int .i64 (room : Int), .int .i64 last, .slice A L.length c]) room last L := by
 obtain ⟨S, P, _, _, h3, _⟩ := h
 exact ⟨P, h3⟩
theorem BoxR.facts {len : Nat} (h : BoxR w r room last A len c) : w.cell? ⟨r, 0, none⟩ = some (.int .i64 (room : Int)) ∧ w.cell? ⟨r, 1, none⟩ = some (.int .i64 last) ∧ w.cell? ⟨r, 2, none⟩ = some (.slice A len c) ∧ w.frozen? ⟨r, 0, none⟩ = false ∧ w.frozen? ⟨r, 1, none⟩ = false ∧ w.frozen? ⟨r, 2, none⟩ = false :=
 ⟨(za h 0).trans rfl, (za h 1).trans rfl, (za h 2).trans rfl, zaa h 0, zaa h 1, zaa h 2⟩
theorem BoxR.keep {len : Nat} (h : BoxR w r room last A len c) (hb : Below w.heap.size w w') : BoxR w' r room last A len c := (hb.block _ (zar h)).trans h
theorem StX.put {x0 x1 x2 : Value} (h : StX B r w fb n room last L A c) (hx : w.heap[r]? = some (.cells #[x0, x1, x2] 44 (0, 0))) :
  StX B r (((w.setCell ⟨r, 0, none⟩ (.int .i64 (room : Int))).setCell ⟨r, 1, none⟩ (.int .i64 last)).setCell ⟨r, 2, none⟩ (.slice A L.length c)) fb n room last L A c ∧ BoxR (((w.setCell ⟨r, 0, none⟩ (.int .i64 (room : Int))).setCell ⟨r, 1, none⟩ (.int .i64 last)).setCell ⟨r, 2, none⟩ (.slice A L.length c)) r room last A L.length c := by
 obtain ⟨S, P, h1, h2, ⟨A0, c0, e0, h3⟩, h4, h5, h6, h7, h8⟩ := h
 refine ⟨⟨S, P, ((h1.other h5 _).other h5 _).other h5 _, h2, ⟨A0, c0, e0, ?_⟩, h4, h5, h6, h7, by simpa using h8⟩, zau (zau (zau hx 0 _ rfl) 1 _ rfl) 2 _ rfl⟩
 exact Kd.V_far (Kd.V_far (Kd.V_far h3 (fun k hk => (h4 k hk).2) _) (fun k hk => (h4 k hk).2) _) (fun k hk => (h4 k hk).2) _
theorem StX.act (h : StX B r w fb n room last L A c) (hnn : n < 900000) (h9 : last < 99999) (hB : B ≤ w.heap.size) (k gg nn : Int) (hk : 0 ≤ k) (wf1 : (Lit.int .i64 gg).wf = true) (wf2 : (Lit.int .i64 nn).wf = true) :
  Calls Try.prog 18 #[.pointer (some ⟨fb, 0, none⟩), .agg #[.int .i64 (room : Int), .int .i64 last, .slice A L.length c], .agg #[.int .u8 k, .int .i64 gg, .int .i64 nn]] w fun e w' => ∃ last' L' A' c', e = .returned (.tuple #[.agg #[.int .i64 (room : Int), .int .i64 last', .slice A' L'.length c'], .bool true]) ∧ StX B r w' fb (n + 1) room last' L' A' c' ∧ w'.heap[r]? = w.heap[r]? ∧ (last ≤ last' ∧ last' ≤ last + 1) ∧ Below B w w' := by
 obtain ⟨S, P, h1, h2, h3, h4, h5, h6, h7, h8⟩ := h
 refine (do_ok h1 h3 (fun k hk => (h4 k hk).1) h2 hnn h9 k gg nn hk wf1 wf2).mono ?_
 rintro e w' ⟨v', last', L', S', rfl, g1, ⟨P', ⟨A', c', rfl, g2⟩, g3⟩, g4, g5, g6, g7, g8, g9⟩
 refine ⟨last', L', A', c', rfl, ⟨S', P', g1, g6, ⟨A', c', rfl, g2⟩, fun k hk => ⟨(g3 k hk).2, fun e => ?_⟩, fun hs => ?_, fun k hk => (g5 k hk).elim (h6 k) (fun h => Nat.le_trans hB h), h7, Nat.lt_of_lt_of_le h8 g9.size⟩, g9.2 r h8 h5, ⟨g7, g8⟩, g9.below hB h6⟩
 ·
  subst e
  exact (g3 k hk).1.elim (fun h => (h4 k h).2 rfl) (fun h => by omega)
 ·
  exact (g5 r hs).elim h5 (fun h => by omega)
theorem StX.start {w1 w2 : World} {S : Nat → Prop} (hF : ForS S w1 fb 0 room 0 []) (hS : ∀ k, S k → B ≤ k) (hB : B ≤ w1.heap.size) (hb : Below w1.heap.size w1 w2) (h : Kd.R k84 84 w2 w1.heap.size (fun _ => True) (.slice A 0 c) []) (h64 : room ≤ 64) :
  StX B w2.heap.size (w2.alloc (.cells #[.int .i64 (room : Int), .int .i64 0, .slice A 0 c] 44)) fb 0 room 0 [] A c ∧ BoxR (w2.alloc (.cells #[.int .i64 (room : Int), .int .i64 0, .slice A 0 c] 44)) w2.heap.size room 0 A 0 c := by
 have hlt : ∀ k, S k → k < w1.heap.size := fun k hk => hF.lt hk
 have hsz := hb.size
 refine ⟨⟨S, fun k => w1.heap.size ≤ k ∧ k < w2.heap.size, (hF.keep hb).keep (zaf (Below.refl _ w2) _), good_nil room h64, ⟨A, c, rfl, ?_⟩, fun k hk => ⟨fun hs => by have := hlt k hs; omega, by omega⟩, fun hs => by have := hlt _ hs; omega, hS, by omega, by simp⟩, za7 w2 _⟩
 exact Kd.zbj (Kd.zbs (Kd.R_V (Kd.zb8 h)) _) (fun k hk => ⟨hk.2.1, by have := hk.2.2.1; omega⟩)
end
end Go.Proofs.Ytlmjdchcgfpngaa.P
end
section
namespace Go.Proofs.Ytlmjdchcgfpngaa.P
open Go.RowKit Go.Proofs.YtlmjdchcgfpngaaW.PrintWords Go.Proofs.YtlmjdchcgfpngaaW.PrintLast Go.Proofs.YtlmjdchcgfpngaaW.PrintMore
attribute [local go_sem] zbo zbr zbw zbx zbf zbi zbp zbq
theorem TreePlays_ok (room : Nat) (A : Option Addr) (len cap : Nat) (f : Nat → Int × Int × Int) (w : World) (hR : Acts3At w A len f) (hlen : len ≤ 60) (hr1 : 1 ≤ room) (hr2 : room ≤ 64) :
  Calls Try.prog 5 #[.int .i64 (room : Int), .slice A len cap] w fun e w' => e = .returned (.bool true) ∧ Below w.heap.size w w' := by
 have HR := Aside0.mk hR
 have d3 : decide ((len : Int) > 60) = false := decide_eq_false (by omega)
 clear hR
 go_enter Try.func5, Try.ntmps5
 go_wp2_with fail
 go_at_call 8
 refine (awake08_ok _).mono ?_
 rintro e w0 ⟨rfl, hw0⟩
 have HW0 := Aside0.mk hw0
 have HR0 : Aside0 (Acts3At w0 A len f) := ⟨HR.out.below HW0.out⟩
 clear hw0
 go_wp2_with fail
 go_at_call 9
 refine (forS_New room hr1 hr2 w0).mono ?_
 rintro e w1 ⟨fb, rfl, ⟨S, hF, hS⟩, hw⟩
 have hsz0 := HW0.out.size
 have HF1 := Aside0.mk hF
 have HS1 := Aside0.mk hS
 have HW01 := Aside0.mk hw
 clear hF hS hw
 go_wp2_with fail
 go_at_call 17
 refine (zbm.calls (room : Int) (room : Int) 0 [] 0 w1 (by unfold zbm.f; rw [if_neg (by omega), if_neg (by omega)])).mono ?_
 rintro e w2 ⟨v1, rfl, hr2', hw2⟩
 obtain ⟨A2, c2, rfl⟩ := Kd.zbt hr2'
 obtain ⟨hX2, hB2⟩ := StX.start HF1.out HS1.out HW01.out.size hw2 hr2' hr2
 have HX2 := Aside0.mk hX2
 have HB2 := Aside0.mk hB2
 have HW2 := Aside0.mk (zaf (Below.trans (Below.mono (Below.trans (Below.refl _ w0) HW01.out) (Nat.le_refl _)) (hw2.mono HW01.out.size)) (.cells #[.int .i64 (room : Int), .int .i64 0, .slice A2 0 c2] 44))
 have hszr := hw2.size
 have hsz1 := HW01.out.size
 clear hr2' hw2 hX2 hB2
 go_wp2_with fail
 generalize w2.alloc (.cells #[.int .i64 (room : Int), .int .i64 0, .slice A2 0 c2] 44) = W2 at HX2 HB2 HW2 ⊢
 generalize w2.heap.size = r at HX2 HB2 hszr ⊢
 go_loopg [45] len (fun gk v45 w' => ∃ (i : Nat) (last : Int) (L : List S84) (A3 : Option Addr) (c3 : Nat), v45 = .int .i64 (i : Int) ∧ i + gk = len ∧ Aside0 (StX w0.heap.size r w' fb i room last L A3 c3) ∧ Aside0 (BoxR w' r room last A3 L.length c3) ∧ (0 ≤ last ∧ last ≤ (i : Int)) ∧ Aside0 (Below w0.heap.size w0 w'))
 case atStart => exact ⟨0, 0, [], A2, c2, by go_num, by omega, HX2, HB2, by omega, HW2⟩
 case round =>
  obtain ⟨i, last, L, A3, c3, rfl, hi, HX3, HQ3, hlast, HW3⟩ := hrel
  cases gk with
  | zero =>
   obtain rfl : i = len := by omega
   have d1 : decide ((i : Int) < (i : Int)) = false := decide_eq_false (by omega)
   have HB0 := Aside0.mk (HW0.out.trans (HW3.out.mono hsz0))
   go_wp2_with fail
   go_ret
   exact ⟨rfl, HB0.out⟩
  | succ g1 =>
   have d1 : decide ((i : Int) < (len : Int)) = true := decide_eq_true (by omega)
   obtain ⟨ad, rfl, had, a0, a1, a2, ha0, ha1, ha2⟩ := (HR0.out.below HW3.out) i (by omega)
   have d2 : 0 ≤ (i : Int) ∧ (i : Int) < (len : Int) := by omega
   generalize hf : f i = fi at a0 a1 a2 ha0 ha1 ha2
   obtain ⟨k, gg, nn⟩ := fi
   dsimp only at a0 a1 a2 ha0 ha1 ha2
   have HA1 := Aside0.mk ha1
   have HA2 := Aside0.mk ha2
   have HF := Aside0.mk hf
   obtain ⟨p0, p1, p2, _, _, _⟩ := (HQ3.out.keep (zaf (Below.refl _ wr) (.cells #[.int .u8 k, .int .i64 gg, .int .i64 nn] 48))).facts
   clear ha1 ha2 hf
   go_wp2_with fail
   have HX4 := Aside0.mk (HX3.out.keep (zaf (Below.refl _ wr) (.cells #[.int .u8 k, .int .i64 gg, .int .i64 nn] 48)))
   have HQ4 := Aside0.mk (HQ3.out.keep (zaf (Below.refl _ wr) (.cells #[.int .u8 k, .int .i64 gg, .int .i64 nn] 48)))
   have HW4 := Aside0.mk (zaf HW3.out (.cells #[.int .u8 k, .int .i64 gg, .int .i64 nn] 48))
   go_at_call 18
   generalize wr.alloc (.cells #[.int .u8 k, .int .i64 gg, .int .i64 nn] 48) = W3 at HX4 HQ4 HW4 p0 p1 p2 ⊢
   clear a0 a1 a2 p0 p1 p2
   refine (HX4.out.act (by omega) (by omega) HW4.out.size k gg nn ha0 HA1.out HA2.out).mono ?_
   rintro e w4 ⟨last', L', A4, c4, rfl, hx4, hq4, hl4, hw4⟩
   have hq4 := hq4.trans HQ4.out
   have HX5' := Aside0.mk ((hx4.keep (zaf (Below.refl _ w4) (.cells #[.int .i64 (room : Int), .int .i64 last', .slice A4 L'.length c4] 44))).put (zac hq4 (.cells #[.int .i64 (room : Int), .int .i64 last', .slice A4 L'.length c4] 44)))
   have hr0 : w0.heap.size ≤ r := by omega
   have HW5 : Aside0 (Below w0.heap.size w0 ((((w4.alloc (.cells #[.int .i64 (room : Int), .int .i64 last', .slice A4 L'.length c4] 44)).setCell ⟨r, 0, none⟩ (.int .i64 (room : Int))).setCell ⟨r, 1, none⟩ (.int .i64 last')).setCell ⟨r, 2, none⟩ (.slice A4 L'.length c4))) := ⟨(((zaf (HW4.out.trans hw4) (.cells #[.int .i64 (room : Int), .int .i64 last', .slice A4 L'.length c4] 44)).setCell (p := ⟨r, 0, none⟩) hr0 _).setCell (p := ⟨r, 1, none⟩) hr0 _).setCell (p := ⟨r, 2, none⟩) hr0 _⟩
   have hq4' := zac hq4 (.cells #[.int .i64 (room : Int), .int .i64 last', .slice A4 L'.length c4] 44)
   have hn4 := za7 w4 (.cells #[.int .i64 (room : Int), .int .i64 last', .slice A4 L'.length c4] 44)
   have p0 : (w4.alloc (.cells #[.int .i64 (room : Int), .int .i64 last', .slice A4 L'.length c4] 44)).cell? ⟨r, 0, none⟩ = some (.int .i64 (room : Int)) := (za hq4' 0).trans rfl
   have p1 : (w4.alloc (.cells #[.int .i64 (room : Int), .int .i64 last', .slice A4 L'.length c4] 44)).cell? ⟨r, 1, none⟩ = some (.int .i64 last) := (za hq4' 1).trans rfl
   have p2 : (w4.alloc (.cells #[.int .i64 (room : Int), .int .i64 last', .slice A4 L'.length c4] 44)).cell? ⟨r, 2, none⟩ = some (.slice A3 L.length c3) := (za hq4' 2).trans rfl
   have q0 := zaa hq4' 0
   have q1 := zaa hq4' 1
   have q2 := zaa hq4' 2
   have n0 : (w4.alloc (.cells #[.int .i64 (room : Int), .int .i64 last', .slice A4 L'.length c4] 44)).cell? ⟨w4.heap.size, 0, none⟩ = some (.int .i64 (room : Int)) := (za hn4 0).trans rfl
   have n1 : (w4.alloc (.cells #[.int .i64 (room : Int), .int .i64 last', .slice A4 L'.length c4] 44)).cell? ⟨w4.heap.size, 1, none⟩ = some (.int .i64 last') := (za hn4 1).trans rfl
   have n2 : (w4.alloc (.cells #[.int .i64 (room : Int), .int .i64 last', .slice A4 L'.length c4] 44)).cell? ⟨w4.heap.size, 2, none⟩ = some (.slice A4 L'.length c4) := (za hn4 2).trans rfl
   have hq5 := HX5'.out.2.facts
   clear hq4 hq4' hn4 hx4 hw4
   obtain ⟨s0, s1, s2, s3, s4, s5⟩ := hq5
   go_wp2_with fail
   clear p0 p1 p2 q0 q1 q2 n0 n1 n2
   generalize (((w4.alloc (.cells #[.int .i64 (room : Int), .int .i64 last', .slice A4 L'.length c4] 44)).setCell ⟨r, 0, none⟩ (.int .i64 (room : Int))).setCell ⟨r, 1, none⟩ (.int .i64 last')).setCell ⟨r, 2, none⟩ (.slice A4 L'.length c4) = W5 at HX5' HW5 s0 s1 s2 s3 s4 s5 ⊢
   obtain ⟨P5, hP5⟩ := HX5'.out.1.ref
   refine (Is_ok HX5'.out.1.forB hP5 HX5'.out.1.good (by omega)).mono ?_
   rintro e w7 ⟨rfl, hb7⟩
   have HX7 := Aside0.mk (HX5'.out.1.keep hb7)
   have HQ7 := Aside0.mk (HX5'.out.2.keep hb7)
   have HW7 := Aside0.mk (zab HW5.out hb7)
   clear hb7 s0 s1 s2 s3 s4 s5 hP5
   go_wp2_with fail
   have hgi : i + 1 + g1 = len := by omega
   have hl2 : 0 ≤ last' ∧ last' ≤ ((i + 1 : Nat) : Int) := by omega
   have wi : wrap64 ((i : Int) + 1) = (i : Int) + 1 := w64s (by omega) (by omega)
   go_roundg g1
   case measure => exact Nat.lt_succ_self _
   case rel => exact ⟨i + 1, last', L', A4, c4, by go_num, hgi, HX7, HQ7, hl2, HW7⟩
theorem TreePlays_none (room : Int) (A : Option Addr) (len cap : Nat) (w : World) (hlen : len ≤ 60) (hr : room < 1 ∨ 64 < room) :
  Calls Try.prog 5 #[.int .i64 room, .slice A len cap] w fun e w' => e = .returned (.bool true) ∧ Below w.heap.size w w' := by
 have d3 : decide ((len : Int) > 60) = false := decide_eq_false (by omega)
 go_enter Try.func5, Try.ntmps5
 go_wp2_with fail
 go_at_call 8
 refine (awake08_ok _).mono ?_
 rintro e w0 ⟨rfl, hw0⟩
 have HW0 := Aside0.mk hw0
 clear hw0
 go_wp2_with fail
 go_at_call 9
 refine (forest_New_bad room hr w0).mono ?_
 rintro e w1 ⟨rfl, hw⟩
 have HW1 := Aside0.mk (zab HW0.out hw)
 clear hw
 go_wp2_with fail
 go_at_call 17
 refine (zbm.calls room 0 0 [] 14 w1 (by
  unfold zbm.f
  by_cases h1 : room < 1
  ·
   rw [if_pos h1]
  ·
   rw [if_neg h1, if_pos (by omega)])).mono ?_
 rintro e w2 ⟨v1, rfl, hr2', hw2⟩
 obtain ⟨A2, c2, rfl⟩ := Kd.zbt hr2'
 have HW2 := Aside0.mk (zaf (zab HW1.out hw2) (.cells #[.int .i64 0, .int .i64 0, .slice A2 0 c2] 44))
 clear hr2' hw2
 go_wp2_with fail
 go_ret
 exact ⟨rfl, HW2.out⟩
theorem TreePlays_long (room : Int) (A : Option Addr) (len cap : Nat) (w : World) (hlen : 60 < len) :
  Calls Try.prog 5 #[.int .i64 room, .slice A len cap] w fun e w' => e = .returned (.bool true) ∧ Below w.heap.size w w' := by
 have d60 : decide ((len : Int) > 60) = true := decide_eq_true (by omega)
 go_enter Try.func5, Try.ntmps5
 go_wp2_with fail
 go_at_call 8
 refine (awake08_ok _).mono ?_
 rintro e w0 ⟨rfl, hw0⟩
 have HW0 := Aside0.mk hw0
 clear hw0
 go_wp2_with fail
 go_at_call 8
 refine (awake08_ok w0).mono ?_
 rintro e w1 ⟨rfl, hw1⟩
 have HW1 := Aside0.mk (zab HW0.out hw1)
 clear hw1
 go_wp2_with fail
 go_ret
 exact ⟨rfl, HW1.out⟩
theorem lTreePlays {H : Type} {enc : TypeId × Value → H} {W : World} {base : Nat} {spare : Nat → Bool} {held : Bool} {d : DataW H} {p : List MemPlace} (room : Int) (v : Value) (hv : ∃ A len cap, v = .slice A len cap)
  (h : DataW.Trod enc Try.prog W base spare held 41 v d p) : Calls Try.prog 5 #[.int .i64 room, v] W fun e w' => e = .returned (.bool true) ∧ Below W.heap.size W w' := by
 obtain ⟨A, len, cap, rfl⟩ := hv
 obtain ⟨fuel, hf⟩ := h
 obtain ⟨f, hA⟩ := open_acts08 (by simpa [Value.cells] using hf)
 by_cases hlen : len ≤ 60
 ·
  by_cases hr : 1 ≤ room ∧ room ≤ 64
  ·
   have := TreePlays_ok room.toNat A len cap f W hA hlen (by omega) (by omega)
   rw [show ((room.toNat : Nat) : Int) = room by omega] at this
   exact this
  ·
   exact TreePlays_none room A len cap W hlen (by omega)
 ·
  exact TreePlays_long room A len cap W (by omega)
end Go.Proofs.Ytlmjdchcgfpngaa.P
end
