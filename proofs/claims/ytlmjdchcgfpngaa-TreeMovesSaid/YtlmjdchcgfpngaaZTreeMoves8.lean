-- Written by a program of this session (wip/tools/shake.py) out of its own texts and of the kit's printed ones; not trusted: Lean checks it.
import Derived.Test.YtlmjdchcgfpngaaZTreeMoves7
set_option maxHeartbeats 8000000
set_option maxRecDepth 100000
set_option linter.unusedVariables false
set_option linter.unusedSimpArgs false
section
namespace Go.Proofs.Ytlmjdchcgfpngaa.P
open Go.RowKit Go.Proofs.YtlmjdchcgfpngaaW.PrintWords Go.Proofs.YtlmjdchcgfpngaaW.PrintLast Go.Proofs.YtlmjdchcgfpngaaW.PrintMore
attribute [local go_sem] zbo zbq zbz zbx zbi zbg zbr zbp
theorem add_block3 (ad : Addr) (i : Nat) : (ad.add i).block = ad.block := by
 unfold Addr.add
 split <;> rfl
def Acts3At (w : World) (A : Option Addr) (n : Nat) (f : Nat → Int × Int × Int) : Prop :=
 ∀ i, i < n → ∃ ad : Addr, A = some ad ∧ ad.block < w.heap.size ∧ w.cell? (ad.add (i * 3)) = some (.int .u8 (f i).1) ∧
  w.cell? ⟨(ad.add (i * 3)).block, (ad.add (i * 3)).off + 1, none⟩ = some (.int .i64 (f i).2.1) ∧ w.cell? ⟨(ad.add (i * 3)).block, (ad.add (i * 3)).off + 2, none⟩ = some (.int .i64 (f i).2.2) ∧
  0 ≤ (f i).1 ∧ (Lit.int .i64 (f i).2.1).wf = true ∧ (Lit.int .i64 (f i).2.2).wf = true
theorem Acts3At.below {w w' : World} {A : Option Addr} {n : Nat} {f : Nat → Int × Int × Int} (h : Acts3At w A n f) (hb : Below w.heap.size w w') : Acts3At w' A n f := by
 intro i hi
 obtain ⟨ad, e, h1, h2, h3, h4, h5⟩ := h i hi
 have hl : (ad.add (i * 3)).block < w.heap.size := by rw [add_block3]; exact h1
 exact ⟨ad, e, Nat.lt_of_lt_of_le h1 hb.size, (hb.cell hl).trans h2, (hb.cell (p := ⟨(ad.add (i * 3)).block, _, none⟩) hl).trans h3, (hb.cell (p := ⟨(ad.add (i * 3)).block, _, none⟩) hl).trans h4, h5⟩
theorem list3' {α : Type} {l : List α} (h : l.length = 3) : ∃ a b c, l = [a, b, c] := by
 match l, h with
 | [a, b, c], _ => exact ⟨a, b, c, rfl⟩
theorem add_zero3 (a : Addr) : a.add 0 = a := by
 unfold Addr.add
 simp
theorem add_off3 (a : Addr) {k : Nat} (h : 0 < k) : a.add k = ⟨a.block, a.off + k, none⟩ := by
 unfold Addr.add
 rw [if_neg (by omega)]
theorem open_acts08 {H : Type} {enc : TypeId × Value → H} {W : World} {base : Nat} {spare : Nat → Bool} {held : Bool} {fuel : Nat} {A : Option Addr} {len cap : Nat} {x : DataW H × List MemPlace}
  (h : DataW.trod enc Try.prog W base spare held fuel 41 [.slice A len cap] = some x) : ∃ f, Acts3At W A len f := by
 have ce : Try.prog.cellsOf 48 = 3 := by kernel_rfl
 have c3 : Try.prog.cellsOf 3 = 1 := by kernel_rfl
 have c5 : Try.prog.cellsOf 5 = 1 := by kernel_rfl
 rcases Go.Deep.open_slice Try.underlying41 h with ⟨hcs, _⟩ | ⟨a, len', cap', m, n, D, Pl, hcs, hb, hl, hm, hmm, _, hx⟩
 ·
  simp at hcs
  obtain ⟨rfl, rfl, rfl⟩ := hcs
  exact ⟨fun _ => (0, 0, 0), fun i hi => absurd hi (by omega)⟩
 ·
  simp at hcs
  obtain ⟨rfl, rfl, rfl⟩ := hcs
  have each : ∀ i, i < len → ∃ q : Int × Int × Int, W.cell? (a.add (i * 3)) = some (.int .u8 q.1) ∧ W.cell? ((a.add (i * 3)).add 1) = some (.int .i64 q.2.1) ∧ W.cell? ((a.add (i * 3)).add 2) = some (.int .i64 q.2.2) ∧ 0 ≤ q.1 ∧ (Lit.int .i64 q.2.1).wf = true ∧ (Lit.int .i64 q.2.2).wf = true := by
   intro i hi
   obtain ⟨cs', h1, h2⟩ := hx i (by rw [hmm]; split <;> omega)
   rw [ce] at h1
   obtain ⟨_, hlen, hcell⟩ := World.cells?_some h1
   obtain ⟨xs, k, hk, hxy, _, hxl, hf⟩ := DataW.trod_struct Try.underlying48 h2
   obtain ⟨y0, y1, y2, rfl⟩ := list3' (show xs.length = 3 from hxl)
   obtain ⟨v0, v1, v2, rfl⟩ := list3' hlen
   have g0 := hf 0 _ rfl
   have g1 := hf 1 _ rfl
   have g2 := hf 2 _ rfl
   simp [c3, c5] at g0 g1 g2
   have e0 := hcell 0 (by omega)
   have e1 := hcell 1 (by omega)
   have e2 := hcell 2 (by omega)
   rw [add_zero3] at e0
   simp only [List.getElem?_cons_zero, List.getElem?_cons_succ] at e0 e1 e2
   obtain ⟨x0, z0, _, w0⟩ := DataW.trod_int Try.underlying5 g0
   obtain ⟨x1, z1, _, w1⟩ := DataW.trod_int Try.underlying3 g1
   obtain ⟨x2, z2, _, w2⟩ := DataW.trod_int Try.underlying3 g2
   simp only [List.cons.injEq, and_true] at z0 z1 z2
   subst z0 z1 z2
   refine ⟨(x0, x1, x2), e0, e1, e2, (bounds_u8 w0).1, w1, w2⟩
  obtain ⟨f, hf⟩ := Go.Deep.choose_lt each
  refine ⟨f, fun i hi => ?_⟩
  obtain ⟨c0, c1, c2, w0, w1, w2⟩ := hf i hi
  have hlt : a.block < W.heap.size := by
   rcases Nat.lt_or_ge a.block W.heap.size with h | h
   ·
    exact h
   ·
    have := c0
    unfold World.cell? at this
    rw [add_block3, Array.getElem?_eq_none h] at this
    simp at this
  rw [add_off3 _ (by decide)] at c1 c2
  exact ⟨a, rfl, hlt, c0, c1, c2, w0, w1, w2⟩
def StX (B r : Nat) (w : World) (fb n room : Nat) (last : Int) (L : List S84) (A : Option Addr) (c : Nat) : Prop :=
 ∃ S P : Nat → Prop, ForS S w fb n room last L ∧ GoodF room last L ∧ RefF w P (.agg #[.int .i64 (room : Int), .int .i64 last, .slice A L.length c]) room last L ∧ (∀ k, P k → ¬ S k ∧ k ≠ r) ∧ ¬ S r ∧ (∀ k, S k → B ≤ k) ∧ B ≤ r ∧ r < w.heap.size
def BoxR (w : World) (r room : Nat) (last : Int) (A : Option Addr) (len c : Nat) : Prop := w.heap[r]? = some (.cells #[.int .i64 (room : Int), .int .i64 last, .slice A len c] 44 (0, 0))
section
variable {B r : Nat} {w w' : World} {fb n room : Nat} {last : Int} {L : List S84} {A : Option Addr} {c : Nat}
theorem StX.keep (h : StX B r w fb n room last L A c) (hb : Below w.heap.size w w') : StX B r w' fb n room last L A c := by
 obtain ⟨S, P, h1, h2, h3, h4, h5, h6, h7, h8⟩ := h
 exact ⟨S, P, h1.keep hb, h2, h3.below hb, h4, h5, h6, h7, Nat.lt_of_lt_of_le h8 hb.size⟩
theorem StX.forB (h : StX B r w fb n room last L A c) : ForB 0 w fb n room last L := by
 obtain ⟨S, P, h1, _⟩ := h
 exact h1.forB
theorem StX.good (h : StX B r w fb n room last L A c) : GoodF room last L := by
 obtain ⟨S, P, _, h2, _⟩ := h
 exact h2
theorem StX.ref (h : StX B r w fb n room last L A c) : ∃ P, RefF w P (.agg #[.int .i64 (room : Int), .int .i64 last, .slice A L.length c]) room last L := by
 obtain ⟨S, P, _, _, h3, _⟩ := h
 exact ⟨P, h3⟩
theorem BoxR.facts {len : Nat} (h : BoxR w r room last A len c) : w.cell? ⟨r, 0, none⟩ = some (.int .i64 (room : Int)) ∧ w.cell? ⟨r, 1, none⟩ = some (.int .i64 last) ∧ w.cell? ⟨r, 2, none⟩ = some (.slice A len c) ∧ w.frozen? ⟨r, 0, none⟩ = false ∧ w.frozen? ⟨r, 1, none⟩ = false ∧ w.frozen? ⟨r, 2, none⟩ = false :=
 ⟨(za h 0).trans rfl, (za h 1).trans rfl, (za h 2).trans rfl, zaa h 0, zaa h 1, zaa h 2⟩
theorem BoxR.keep {len : Nat} (h : BoxR w r room last A len c) (hb : Below w.heap.size w w') : BoxR w' r room last A len c := (hb.block _ (zar h)).trans h
theorem StX.put {x0 x1 x2 : Value} (h : StX B r w fb n room last L A c) (hx : w.heap[r]? = some (.cells #[x0, x1, x2] 44 (0, 0))) :
  StX B r (((w.setCell ⟨r, 0, none⟩ (.int .i64 (room : Int))).setCell ⟨r, 1, none⟩ (.int .i64 last)).setCell ⟨r, 2, none⟩ (.slice A L.length c)) fb n room last L A c ∧ BoxR (((w.setCell ⟨r, 0, none⟩ (.int .i64 (room : Int))).setCell ⟨r, 1, none⟩ (.int .i64 last)).setCell ⟨r, 2, none⟩ (.slice A L.length c)) r room last A L.length c := by
 obtain ⟨S, P, h1, h2, ⟨A0, c0, e0, h3⟩, h4, h5, h6, h7, h8⟩ := h
 refine ⟨⟨S, P, ((h1.other h5 _).other h5 _).other h5 _, h2, ⟨A0, c0, e0, ?_⟩, h4, h5, h6, h7, by simpa using h8⟩, zau (zau (zau hx 0 _ rfl) 1 _ rfl) 2 _ rfl⟩
 exact Kd.V_far (Kd.V_far (Kd.V_far h3 (fun k hk => (h4 k hk).2) _) (fun k hk => (h4 k hk).2) _) (fun k hk => (h4 k hk).2) _
theorem StX.act (h : StX B r w fb n room last L A c) (hnn : n < 900000) (h9 : last < 99999) (hB : B ≤ w.heap.size) (k gg nn : Int) (hk : 0 ≤ k) (wf1 : (Lit.int .i64 gg).wf = true) (wf2 : (Lit.int .i64 nn).wf = true) :
  Calls Try.prog 18 #[.pointer (some ⟨fb, 0, none⟩), .agg #[.int .i64 (room : Int), .int .i64 last, .slice A L.length c], .agg #[.int .u8 k, .int .i64 gg, .int .i64 nn]] w fun e w' => ∃ last' L' A' c', e = .returned (.tuple #[.agg #[.int .i64 (room : Int), .int .i64 last', .slice A' L'.length c'], .bool true]) ∧ StX B r w' fb (n + 1) room last' L' A' c' ∧ w'.heap[r]? = w.heap[r]? ∧ (last ≤ last' ∧ last' ≤ last + 1) ∧ Below B w w' := by
 obtain ⟨S, P, h1, h2, h3, h4, h5, h6, h7, h8⟩ := h
 refine (do_ok h1 h3 (fun k hk => (h4 k hk).1) h2 hnn h9 k gg nn hk wf1 wf2).mono ?_
 rintro e w' ⟨v', last', L', S', rfl, g1, ⟨P', ⟨A', c', rfl, g2⟩, g3⟩, g4, g5, g6, g7, g8, g9⟩
 refine ⟨last', L', A', c', rfl, ⟨S', P', g1, g6, ⟨A', c', rfl, g2⟩, fun k hk => ⟨(g3 k hk).2, fun e => ?_⟩, fun hs => ?_, fun k hk => (g5 k hk).elim (h6 k) (fun h => Nat.le_trans hB h), h7, Nat.lt_of_lt_of_le h8 g9.size⟩, g9.2 r h8 h5, ⟨g7, g8⟩, g9.below hB h6⟩
 ·
  subst e
  exact (g3 k hk).1.elim (fun h => (h4 k h).2 rfl) (fun h => by omega)
 ·
  exact (g5 r hs).elim h5 (fun h => by omega)
theorem StX.start {w1 w2 : World} {S : Nat → Prop} (hF : ForS S w1 fb 0 room 0 []) (hS : ∀ k, S k → B ≤ k) (hB : B ≤ w1.heap.size) (hb : Below w1.heap.size w1 w2) (h : Kd.R k84 84 w2 w1.heap.size (fun _ => True) (.slice A 0 c) []) (h64 : room ≤ 64) :
  StX B w2.heap.size (w2.alloc (.cells #[.int .i64 (room : Int), .int .i64 0, .slice A 0 c] 44)) fb 0 room 0 [] A c ∧ BoxR (w2.alloc (.cells #[.int .i64 (room : Int), .int .i64 0, .slice A 0 c] 44)) w2.heap.size room 0 A 0 c := by
 have hlt : ∀ k, S k → k < w1.heap.size := fun k hk => hF.lt hk
 have hsz := hb.size
 refine ⟨⟨S, fun k => w1.heap.size ≤ k ∧ k < w2.heap.size, (hF.keep hb).keep (zad (Below.refl _ w2) _), good_nil room h64, ⟨A, c, rfl, ?_⟩, fun k hk => ⟨fun hs => by have := hlt k hs; omega, by omega⟩, fun hs => by have := hlt _ hs; omega, hS, by omega, by simp⟩, za6 w2 _⟩
 exact Kd.zbk (Kd.zbs (Kd.R_V (Kd.zcd h)) _) (fun k hk => ⟨hk.2.1, by have := hk.2.2.1; omega⟩)
end
end Go.Proofs.Ytlmjdchcgfpngaa.P
end
section
namespace Go.Proofs.Ytlmjdchcgfpngaa.P
open Go.RowKit Go.Proofs.YtlmjdchcgfpngaaW.PrintWords Go.Proofs.YtlmjdchcgfpngaaW.PrintLast Go.Proofs.YtlmjdchcgfpngaaW.PrintMore
attribute [local go_sem] zbo zbq zbz zbx zbi zbg zbr zbp
theorem movF_cases {L : List S84} {id p : Int} {g q : S84} (hf : fnd L id = some g) (hq : fnd L p = some q) : ((movF L id p).1 = L ∧ (movF L id p).2 ≠ 0) ∨ (movF L id p = (movG L id p, 0) ∧ 0 ≤ g.f1 ∧ rootG L id = rootG L p ∧ id ∉ way L p) := by
 rw [movF_some hf hq]
 split
 ·
  exact .inl ⟨rfl, by simp⟩
 ·
  rename_i h0
  split
  ·
   exact .inl ⟨rfl, by simp⟩
  ·
   rename_i h1
   split
   ·
    exact .inl ⟨rfl, by simp⟩
   ·
    rename_i h2
    split
    ·
     exact .inl ⟨rfl, by simp⟩
    ·
     split
     ·
      exact .inl ⟨rfl, by simp⟩
     ·
      exact .inr ⟨rfl, by omega, Classical.not_not.1 h1, h2⟩
theorem way_self {room : Nat} {last : Int} {L : List S84} (hG : GoodF room last L) {g : S84} (hg : g ∈ L) (h0 : 0 ≤ g.f1) : way L g.f0 = g.f0 :: way L g.f1 ∧ g.f0 ∉ way L g.f1 := by
 have hc := (hG.way hg).1
 have h1 := (hG.2.2.2.2.2 g hg).1
 obtain ⟨t, ht⟩ := hc.head (by omega)
 have hn := hc.nodup
 rw [ht] at hc hn
 obtain ⟨_, _, p, hp, hc1⟩ := hc
 rw [prt_mem hG.2.2.2.2.1 hg] at hp
 cases hp
 rw [ht, way_eq hc1]
 exact ⟨rfl, (List.nodup_cons.1 hn).1⟩
section
variable {room : Nat} {last : Int} {L : List S84} {g q : S84}
theorem mov_way (hG : GoodF room last L) (hg : g ∈ L) (hq : q ∈ L) (h0 : 0 ≤ g.f1) (hnl : g.f0 ∉ way L q.f0) {y : S84} (hy : y ∈ L) (hin : g.f0 ∈ way L y.f0) : g.f0 ∈ way (movG L g.f0 q.f0) y.f0 ∧ q.f0 ∈ way (movG L g.f0 q.f0) y.f0 := by
 rcases way_mov hG hg hq hy h0 hnl with ⟨h, _⟩ | ⟨c1, _, hc, _⟩
 ·
  exact absurd hin h
 ·
  obtain ⟨t, ht⟩ := (hG.way hq).1.head (by have := (hG.2.2.2.2.2 q hq).1; omega)
  rw [way_eq hc, ht]
  simp
theorem mov_self (hG : GoodF room last L) (hg : g ∈ L) (hq : q ∈ L) (h0 : 0 ≤ g.f1) (hnl : g.f0 ∉ way L q.f0) : way (movG L g.f0 q.f0) g.f0 = g.f0 :: way L q.f0 := by
 obtain ⟨h1, h2⟩ := way_self hG hg h0
 rcases way_mov hG hg hq hg h0 hnl with ⟨h, _⟩ | ⟨c1, e, hc, _⟩
 ·
  exact absurd (by rw [h1]; exact List.mem_cons_self) h
 ·
  cases c1 with
  | nil => exact way_eq hc
  | cons z c1 =>
   rw [h1] at e
   simp only [List.cons_append, List.cons.injEq] at e
   exact absurd (by rw [e.2]; simp) h2
theorem mov_act_self (hG : GoodF room last L) (hg : g ∈ L) (hq : q ∈ L) (h0 : 0 ≤ g.f1) (hnl : g.f0 ∉ way L q.f0) : act (movG L g.f0 q.f0) g.f0 = act L g.f0 := by
 rw [act_mov hG hg hq h0 hnl, if_neg hnl, if_neg (way_self hG hg h0).2]
 omega
theorem mov_act_root (hG : GoodF room last L) (hg : g ∈ L) (hq : q ∈ L) (h0 : 0 ≤ g.f1) (hnl : g.f0 ∉ way L q.f0) (hr : rootG L g.f0 = rootG L q.f0) : act (movG L g.f0 q.f0) (rootG L g.f0) = act L (rootG L g.f0) := by
 have h1 : rootG L g.f0 ∈ way L q.f0 := by
  rw [hr]
  exact List.mem_of_getLast? (rootG_mem hG hq).1
 have h2 : rootG L g.f0 ∈ way L g.f1 := by
  have e := (rootG_mem hG hg).1
  obtain ⟨p, hp, hpe⟩ := par_in hG hg h0
  obtain ⟨t, ht⟩ := (hG.way hp).1.head (by rw [hpe]; exact h0)
  rw [hpe] at ht
  rw [(way_self hG hg h0).1, ht, List.getLast?_cons_cons, ← ht] at e
  exact List.mem_of_getLast? e
 rw [act_mov hG hg hq h0 hnl, if_pos h1, if_pos h2]
 omega
theorem mov_fnd (x : Int) : (fnd (movG L g.f0 q.f0) x).isSome = (fnd L x).isSome := by
 unfold movG
 rw [fnd_setG (h := fun g => { g with f1 := q.f0 }) (fun _ => rfl)]
 cases fnd L x <;> rfl
theorem mov_fnd_self (hA : Asc L) (hg : g ∈ L) : fnd (movG L g.f0 q.f0) g.f0 = some { g with f1 := q.f0 } := by
 unfold movG
 rw [fnd_setG (h := fun g => { g with f1 := q.f0 }) (fun _ => rfl), fnd_mem hA hg]
 simp
end
theorem StX.move {B r : Nat} {wA w : World} {fb n room : Nat} {last : Int} {L : List S84} {A : Option Addr} {c : Nat} (h : StX B r wA fb n room last L A c) (hb : Below wA.heap.size wA w) (hB : B ≤ wA.heap.size) {id p : Int} (wf : (Lit.int .i64 id).wf = true) (wf2 : (Lit.int .i64 p).wf = true) :
  Calls Try.prog 12 #[.pointer (some ⟨fb, 0, none⟩), .int .i64 id, .int .i64 p] w fun e w' => e = .returned (.int .i64 (movF L id p).2) ∧ ForB 0 w' fb n room last (movF L id p).1 ∧ ((movF L id p).1 = L → StX B r w' fb n room last L A c) ∧ Below B w w' ∧ w.heap.size ≤ w'.heap.size ∧ (∀ k, wA.heap.size ≤ k → k < w.heap.size → w'.heap[k]? = w.heap[k]?) ∧ w'.heap[r]? = w.heap[r]? := by
 obtain ⟨S, P, h1, h2, h3, h4, h5, h6, h7, h8⟩ := h
 have hSl : ∀ k, S k → k < wA.heap.size := fun k hk => h1.lt hk
 have hsz := hb.size
 refine (forS_Move (h1.keep hb) h2 wf wf2).mono ?_
 rintro e w' ⟨rfl, S', g1, g2, g3, g4⟩
 refine ⟨rfl, g1.forB, fun e => ?_, g4.below (by omega) h6, g4.size, fun k h0 hk => g4.2 k hk fun hs => by have := hSl k hs; omega, g4.2 r (by omega) h5⟩
 rw [e] at g1
 have h3' := (h3.old (Below.refl wA.heap.size wA)).below hb
 have h3'' := h3'.step (w' := w') fun k hk hl => g4.2 k hl fun hs => (h4 k hk.1).1 hs
 refine ⟨S', _, g1, h2, h3'', fun k hk => ⟨fun hs => ?_, (h4 k hk.1).2⟩, fun hs => ?_, fun k hk => (g3 k hk).elim (h6 k) (fun h => by omega), h7, by have := g4.size; omega⟩
 ·
  exact (g3 k hs).elim (h4 k hk.1).1 (fun h => by omega)
 ·
  exact (g3 r hs).elim h5 (fun h => by omega)
theorem int_at8 {w : World} {A : Option Addr} {l : List Int} (h : Kd.C (Kd.int .i64) w A l.length l) {i : Nat} (hi : i < l.length) : ∃ ad : Addr, A = some ad ∧ w.cell? (ad.add i) = some (.int .i64 (l.getD i 0)) := by
 obtain ⟨ad, e, h⟩ := Kd.at_int h (i : Int) (by omega) (by omega)
 refine ⟨ad, e, ?_⟩
 rw [Int.toNat_natCast, rd_nat] at h
 exact h
theorem TreeMoves_ok (A : Option Addr) (len cap : Nat) (f : Nat → Int × Int × Int) (w : World) (hR : Acts3At w A len f) (hlen : len ≤ 50) (gi pi : Int) (wfg : (Lit.int .i64 gi).wf = true) (wfp : (Lit.int .i64 pi).wf = true) :
  Calls Try.prog 7 #[.slice A len cap, .int .i64 gi, .int .i64 pi] w fun e w' => e = .returned (.bool true) ∧ Below w.heap.size w w' := by
 have HR := Aside0.mk hR
 have d3 : decide ((len : Int) > 50) = false := decide_eq_false (by omega)
 clear hR
 obtain ⟨room, HRM⟩ : ∃ room : Nat, Aside0 (room = 20) := ⟨20, ⟨rfl⟩⟩
 go_enter Try.func7, Try.ntmps7
 go_wp2_with fail
 go_at_call 8
 refine (awake08_ok _).mono ?_
 rintro e w0 ⟨rfl, hw0⟩
 have HW0 := Aside0.mk hw0
 have HR0 : Aside0 (Acts3At w0 A len f) := ⟨HR.out.below HW0.out⟩
 clear hw0
 go_wp2_with fail
 go_at_call 9
 have hN := forS_New room (by have := HRM.out; omega) (by have := HRM.out; omega) w0
 rw [show ((room : Nat) : Int) = 20 by have := HRM.out; omega] at hN
 refine hN.mono ?_
 rintro e w1 ⟨fb, rfl, ⟨S, hF, hS⟩, hw⟩
 have hsz0 := HW0.out.size
 have HF1 := Aside0.mk hF
 have HS1 := Aside0.mk hS
 have HW01 := Aside0.mk hw
 clear hF hS hw hN
 go_wp2_with fail
 go_at_call 17
 refine (zb7.calls 20 (room : Int) 0 [] 0 w1 (by unfold zb7.f; rw [if_neg (by omega), if_neg (by omega), show ((room : Nat) : Int) = 20 by have := HRM.out; omega])).mono ?_
 rintro e w2 ⟨v1, rfl, hr2', hw2⟩
 obtain ⟨A2, c2, rfl⟩ := Kd.zbv hr2'
 obtain ⟨hX2, hB2⟩ := StX.start HF1.out HS1.out HW01.out.size hw2 hr2' (by have := HRM.out; omega)
 have HX2 := Aside0.mk hX2
 have HB2 := Aside0.mk hB2
 have HW2 := Aside0.mk (zad (Below.trans (Below.mono (Below.trans (Below.refl _ w0) HW01.out) (Nat.le_refl _)) (hw2.mono HW01.out.size)) (.cells #[.int .i64 (room : Int), .int .i64 0, .slice A2 0 c2] 44))
 have hszr := hw2.size
 have hsz1 := HW01.out.size
 clear hr2' hw2 hX2 hB2
 go_wp2_with fail
 generalize w2.alloc (.cells #[.int .i64 (room : Int), .int .i64 0, .slice A2 0 c2] 44) = W2 at HX2 HB2 HW2 ⊢
 generalize w2.heap.size = r at HX2 HB2 hszr ⊢
 go_loopg [51] len (fun gk v51 w' => ∃ (i : Nat) (last : Int) (L : List S84) (A3 : Option Addr) (c3 : Nat), v51 = .int .i64 (i : Int) ∧ i + gk = len ∧ Aside0 (StX w0.heap.size r w' fb i room last L A3 c3) ∧ Aside0 (BoxR w' r room last A3 L.length c3) ∧ (0 ≤ last ∧ last ≤ (i : Int)) ∧ Aside0 (Below w0.heap.size w0 w'))
 case atStart => exact ⟨0, 0, [], A2, c2, by go_num, by omega, HX2, HB2, by omega, HW2⟩
 case round =>
  obtain ⟨i, last, L, A3, c3, rfl, hi, HX3, HQ3, hlast, HW3⟩ := hrel
  cases gk with
  | zero =>
   obtain rfl : i = len := by omega
   have d1 : decide ((i : Int) < (i : Int)) = false := decide_eq_false (by omega)
   have HB0 := Aside0.mk (HW0.out.trans (HW3.out.mono hsz0))
   have HG := Aside0.mk HX3.out.good
   have WG := Aside0.mk wfg
   have WP := Aside0.mk wfp
   clear wfg wfp
   cases hf : fnd L gi with
   | none =>
    have HF := Aside0.mk hf
    clear hf
    cases hq : fnd L pi with
    | none =>
     have HQ := Aside0.mk hq
     clear hq
     have hg1 := zbe HX3.out.forB HG.out WG.out
     rw [show grpV L _ = .agg #[.int .i64 0, .int .i64 0, .int .i64 0, .int .i64 0, .int .i64 0, .int .i64 0, .int .i64 0] by unfold grpV; rw [HF.out], show grpE L _ = 4 by unfold grpE; rw [HF.out]; rfl] at hg1
     have HG1 := Aside0.mk hg1
     have HMV := Aside0.mk (zbt (L := L) (id := gi) (p := pi) (.inl HF.out))
     clear hg1
     go_wp2_with fail
     refine HG1.out.mono ?_
     rintro e w5 ⟨rfl, hb5⟩
     have HB5 := Aside0.mk (zad hb5 (.cells #[.int .i64 0, .int .i64 0, .int .i64 0, .int .i64 0, .int .i64 0, .int .i64 0, .int .i64 0] 32))
     clear hb5 HG1
     have hg2 := zbe (HX3.out.keep HB5.out).forB HG.out WP.out
     rw [show grpV L _ = .agg #[.int .i64 0, .int .i64 0, .int .i64 0, .int .i64 0, .int .i64 0, .int .i64 0, .int .i64 0] by unfold grpV; rw [HQ.out], show grpE L _ = 4 by unfold grpE; rw [HQ.out]; rfl] at hg2
     have HG2 := Aside0.mk hg2
     clear hg2
     go_wp2_with fail
     refine HG2.out.mono ?_
     rintro e w6 ⟨rfl, hb6⟩
     have HB6 := Aside0.mk (zad (zab HB5.out hb6) (.cells #[.int .i64 0, .int .i64 0, .int .i64 0, .int .i64 0, .int .i64 0, .int .i64 0, .int .i64 0] 32))
     clear hb6 HG2
     have hmv := HX3.out.move HB6.out HW3.out.size WG.out WP.out
     rw [HMV.out] at hmv
     have HMO := Aside0.mk hmv
     clear hmv
     go_wp2_with fail
     refine HMO.out.mono ?_
     rintro e w7 ⟨rfl, _, _, hb7, _, _, _⟩
     have HB7 := Aside0.mk (HB0.out.trans ((HB6.out.mono (by have := HW0.out.size; have := HW3.out.size; omega)).trans (hb7.mono (by have := HW0.out.size; omega))))
     clear hb7 HMO
     go_wp2_with fail
     go_ret
     exact ⟨rfl, HB7.out⟩
    | some q =>
     obtain ⟨hqm, rfl⟩ := za5 hq
     have HQ := Aside0.mk hq
     clear hq hqm
     have hg1 := zbe HX3.out.forB HG.out WG.out
     rw [show grpV L _ = .agg #[.int .i64 0, .int .i64 0, .int .i64 0, .int .i64 0, .int .i64 0, .int .i64 0, .int .i64 0] by unfold grpV; rw [HF.out], show grpE L _ = 4 by unfold grpE; rw [HF.out]; rfl] at hg1
     have HG1 := Aside0.mk hg1
     have HMV := Aside0.mk (zbt (L := L) (id := gi) (p := q.f0) (.inl HF.out))
     clear hg1
     go_wp2_with fail
     refine HG1.out.mono ?_
     rintro e w5 ⟨rfl, hb5⟩
     have HB5 := Aside0.mk (zad hb5 (.cells #[.int .i64 0, .int .i64 0, .int .i64 0, .int .i64 0, .int .i64 0, .int .i64 0, .int .i64 0] 32))
     clear hb5 HG1
     have hg2 := zbe (HX3.out.keep HB5.out).forB HG.out WP.out
     rw [show grpV L _ = .agg #[.int .i64 q.f0, .int .i64 q.f1, .int .i64 q.f2, .int .i64 ((way L q.f0).length : Nat), .int .i64 (rootG L q.f0), .int .i64 q.f3, .int .i64 q.f4] by unfold grpV; rw [HQ.out], show grpE L _ = 0 by unfold grpE; rw [HQ.out]; rfl] at hg2
     have HG2 := Aside0.mk hg2
     clear hg2
     go_wp2_with fail
     refine HG2.out.mono ?_
     rintro e w6 ⟨rfl, hb6⟩
     have HB6 := Aside0.mk (zad (zab HB5.out hb6) (.cells #[.int .i64 q.f0, .int .i64 q.f1, .int .i64 q.f2, .int .i64 ((way L q.f0).length : Nat), .int .i64 (rootG L q.f0), .int .i64 q.f3, .int .i64 q.f4] 32))
     clear hb6 HG2
     have hmv := HX3.out.move HB6.out HW3.out.size WG.out WP.out
     rw [HMV.out] at hmv
     have HMO := Aside0.mk hmv
     clear hmv
     go_wp2_with fail
     refine HMO.out.mono ?_
     rintro e w7 ⟨rfl, _, _, hb7, _, _, _⟩
     have HB7 := Aside0.mk (HB0.out.trans ((HB6.out.mono (by have := HW0.out.size; have := HW3.out.size; omega)).trans (hb7.mono (by have := HW0.out.size; omega))))
     clear hb7 HMO
     go_wp2_with fail
     go_ret
     exact ⟨rfl, HB7.out⟩
   | some g =>
    obtain ⟨hgm, rfl⟩ := za5 hf
    have HF := Aside0.mk hf
    have HM := Aside0.mk hgm
    clear hf hgm
    cases hq : fnd L pi with
    | none =>
     have HQ := Aside0.mk hq
     clear hq
     have hg1 := zbe HX3.out.forB HG.out WG.out
     rw [show grpV L _ = .agg #[.int .i64 g.f0, .int .i64 g.f1, .int .i64 g.f2, .int .i64 ((way L g.f0).length : Nat), .int .i64 (rootG L g.f0), .int .i64 g.f3, .int .i64 g.f4] by unfold grpV; rw [HF.out], show grpE L _ = 0 by unfold grpE; rw [HF.out]; rfl] at hg1
     have HG1 := Aside0.mk hg1
     have HMV := Aside0.mk (zbt (L := L) (id := g.f0) (p := pi) (.inr HQ.out))
     clear hg1
     go_wp2_with fail
     refine HG1.out.mono ?_
     rintro e w5 ⟨rfl, hb5⟩
     have HB5 := Aside0.mk (zad hb5 (.cells #[.int .i64 g.f0, .int .i64 g.f1, .int .i64 g.f2, .int .i64 ((way L g.f0).length : Nat), .int .i64 (rootG L g.f0), .int .i64 g.f3, .int .i64 g.f4] 32))
     clear hb5 HG1
     have hg2 := zbe (HX3.out.keep HB5.out).forB HG.out WP.out
     rw [show grpV L _ = .agg #[.int .i64 0, .int .i64 0, .int .i64 0, .int .i64 0, .int .i64 0, .int .i64 0, .int .i64 0] by unfold grpV; rw [HQ.out], show grpE L _ = 4 by unfold grpE; rw [HQ.out]; rfl] at hg2
     have HG2 := Aside0.mk hg2
     clear hg2
     go_wp2_with fail
     refine HG2.out.mono ?_
     rintro e w6 ⟨rfl, hb6⟩
     have HB6 := Aside0.mk (zad (zab HB5.out hb6) (.cells #[.int .i64 0, .int .i64 0, .int .i64 0, .int .i64 0, .int .i64 0, .int .i64 0, .int .i64 0] 32))
     clear hb6 HG2
     have hmv := HX3.out.move HB6.out HW3.out.size WG.out WP.out
     rw [HMV.out] at hmv
     have HMO := Aside0.mk hmv
     clear hmv
     go_wp2_with fail
     refine HMO.out.mono ?_
     rintro e w7 ⟨rfl, _, _, hb7, _, _, _⟩
     have HB7 := Aside0.mk (HB0.out.trans ((HB6.out.mono (by have := HW0.out.size; have := HW3.out.size; omega)).trans (hb7.mono (by have := HW0.out.size; omega))))
     clear hb7 HMO
     go_wp2_with fail
     go_ret
     exact ⟨rfl, HB7.out⟩
    | some q =>
     obtain ⟨hqm, rfl⟩ := za5 hq
     have HQ := Aside0.mk hq
     have HQM := Aside0.mk hqm
     clear hq hqm
     obtain ⟨wA, rfl⟩ : ∃ wA, wA = wr := ⟨_, rfl⟩
     have hwq := (HG.out.way HQM.out).2
     obtain ⟨z, hz0⟩ : ∃ z : Int, ((way L q.f0).length : Int) = z := ⟨_, rfl⟩
     have hz : 0 ≤ z ∧ z ≤ 8 := by omega
     obtain ⟨rt, hrt⟩ : ∃ rt : Int, rootG L g.f0 = rt := ⟨_, rfl⟩
     have HZ := Aside0.mk hz0
     have HRT := Aside0.mk hrt
     obtain ⟨ids, hids⟩ : ∃ ids, L.map (·.f0) = ids := ⟨_, rfl⟩
     have hl64 : L.length ≤ 64 := Nat.le_trans HG.out.2.1 HG.out.1
     have hil : ids.length ≤ 64 := by rw [← hids, List.length_map]; exact hl64
     have HID := Aside0.mk hids
     have HIL := Aside0.mk (show ids.length = L.length by rw [← hids, List.length_map])
     obtain ⟨p, hp⟩ : ∃ p : Int → Bool, ∀ x, p x = decide (g.f0 ∈ way L x) := ⟨_, fun _ => rfl⟩
     have HP := Aside0.mk hp
     have hg1 := zbe HX3.out.forB HG.out WG.out
     rw [show grpV L _ = .agg #[.int .i64 g.f0, .int .i64 g.f1, .int .i64 g.f2, .int .i64 ((way L g.f0).length : Nat), .int .i64 (rootG L g.f0), .int .i64 g.f3, .int .i64 g.f4] by unfold grpV; rw [HF.out], show grpE L _ = 0 by unfold grpE; rw [HF.out]; rfl, hrt] at hg1
     have HG1 := Aside0.mk hg1
     have hg2 := fun W (h : Below wA.heap.size wA W) => zbe (HX3.out.keep h).forB HG.out WP.out
     rw [show grpV L q.f0 = .agg #[.int .i64 q.f0, .int .i64 q.f1, .int .i64 q.f2, .int .i64 ((way L q.f0).length : Nat), .int .i64 (rootG L q.f0), .int .i64 q.f3, .int .i64 q.f4] by unfold grpV; rw [HQ.out], show grpE L q.f0 = 0 by unfold grpE; rw [HQ.out]; rfl, hz0] at hg2
     have HG2 := Aside0.mk hg2
     clear hg1 hg2 hz0 hrt hids hp hwq
     go_wp2_with fail
     refine HG1.out.mono ?_
     rintro e w5 ⟨rfl, hb5⟩
     have HB5 := Aside0.mk (zad hb5 (.cells #[.int .i64 g.f0, .int .i64 g.f1, .int .i64 g.f2, .int .i64 ((way L g.f0).length : Nat), .int .i64 rt, .int .i64 g.f3, .int .i64 g.f4] 32))
     have HY5 := Aside0.mk (za6 w5 (.cells #[.int .i64 g.f0, .int .i64 g.f1, .int .i64 g.f2, .int .i64 ((way L g.f0).length : Nat), .int .i64 rt, .int .i64 g.f3, .int .i64 g.f4] 32))
     have hs5 := hb5.size
     clear hb5 HG1
     go_wp2_with fail
     refine (HG2.out _ HB5.out).mono ?_
     rintro e w6 ⟨rfl, hb6⟩
     have HB6 := Aside0.mk (zad (zab HB5.out hb6) (.cells #[.int .i64 q.f0, .int .i64 q.f1, .int .i64 q.f2, .int .i64 z, .int .i64 (rootG L q.f0), .int .i64 q.f3, .int .i64 q.f4] 32))
     have HY13 := Aside0.mk (zac ((hb6.block _ (zar HY5.out)).trans HY5.out) (.cells #[.int .i64 q.f0, .int .i64 q.f1, .int .i64 q.f2, .int .i64 z, .int .i64 (rootG L q.f0), .int .i64 q.f3, .int .i64 q.f4] 32))
     have HY14 := Aside0.mk (za6 w6 (.cells #[.int .i64 q.f0, .int .i64 q.f1, .int .i64 q.f2, .int .i64 z, .int .i64 (rootG L q.f0), .int .i64 q.f3, .int .i64 q.f4] 32))
     have hs6 : w5.heap.size < w6.heap.size := Nat.lt_of_lt_of_le (zar HY5.out) hb6.size
     clear hb6 HG2 HB5 HY5
     go_wp2_with fail
     generalize w6.alloc (.cells #[.int .i64 q.f0, .int .i64 q.f1, .int .i64 q.f2, .int .i64 z, .int .i64 (rootG L q.f0), .int .i64 q.f3, .int .i64 q.f4] 32) = W6 at HB6 HY13 HY14 ⊢
     refine (forB_Ids (HX3.out.keep HB6.out).forB HG.out).mono ?_
     rintro e w7 ⟨v7, rfl, hi7, hb7⟩
     rw [HID.out] at hi7
     obtain ⟨A7, c7, rfl, _, hC7⟩ := hi7
     have HC7 := Aside0.mk hC7
     have HB7 := Aside0.mk (zab HB6.out hb7)
     have HZ13 := Aside0.mk ((hb7.block _ (zar HY13.out)).trans HY13.out)
     have HZ14 := Aside0.mk ((hb7.block _ (zar HY14.out)).trans HY14.out)
     have hs7 : w6.heap.size < w7.heap.size := zar HZ14.out
     clear hC7 hb7 HY13 HY14 HB6
     go_wp2_with fail
     go_loopg [16, 89] ids.length (fun gk v16 v89 w' => ∃ i2 : Nat, v89 = .int .i64 (i2 : Int) ∧ i2 + gk = ids.length ∧ Aside0 (Kd.R (Kd.int .i64) 3 w' w7.heap.size (fun k => w7.heap.size ≤ k) v16 ((ids.take i2).filter p)) ∧ Aside0 (Below w7.heap.size w7 w'))
     case atStart => exact ⟨0, by go_num, by omega, ⟨Kd.R_nil _ _ _ _ _⟩, ⟨Below.refl _ _⟩⟩
     case round =>
      obtain ⟨i2, rfl, hi2, HO, HW8⟩ := hrel
      cases gk with
      | zero =>
       have d4 : decide ((i2 : Int) < (ids.length : Int)) = false := decide_eq_false (by omega)
       have d4' : decide (i2 < ids.length) = false := decide_eq_false (by omega)
       have ho := HO.out
       rw [List.take_of_length_le (by omega)] at ho
       obtain ⟨bel, hbel⟩ : ∃ bel, ids.filter p = bel := ⟨_, rfl⟩
       rw [hbel] at ho
       have HBL := Aside0.mk hbel
       have hbl : bel.length ≤ 64 := by rw [← hbel]; exact Nat.le_trans (List.length_filter_le _ _) hil
       obtain ⟨Ab, cb, rfl⟩ := Kd.zbv ho
       have HO8 := Aside0.mk ho
       have hz13 := (HW8.out.block _ (zar HZ13.out)).trans HZ13.out
       have x4 : wr.cell? ⟨w5.heap.size, 4, none⟩ = some (.int .i64 rt) := (za hz13 4).trans rfl
       have hacr : ∀ W, Below w7.heap.size w7 W → Calls Try.prog 21 #[.pointer (some ⟨fb, 0, none⟩), .int .i64 rt] W fun e w' => e = .returned (.int .i64 (act L rt)) ∧ Below W.heap.size W w' := fun W h => by
        obtain ⟨_, r, hr, hre⟩ := rootG_mem HG.out HM.out
        rw [HRT.out] at hre
        subst hre
        have := zbw (HX3.out.keep (zab HB7.out h)).forB HG.out (wf_of HG.out hr)
        rw [fnd_mem HG.out.2.2.2.2.1 hr, Option.isSome_some, if_pos rfl] at this
        exact this
       have hacg : ∀ W, Below w7.heap.size w7 W → Calls Try.prog 21 #[.pointer (some ⟨fb, 0, none⟩), .int .i64 g.f0] W fun e w' => e = .returned (.int .i64 (act L g.f0)) ∧ Below W.heap.size W w' := fun W h => by
        have := zbw (HX3.out.keep (zab HB7.out h)).forB HG.out WG.out
        rw [HF.out, Option.isSome_some, if_pos rfl] at this
        exact this
       have HACR := Aside0.mk hacr
       have HACG := Aside0.mk hacg
       clear ho hbel hz13 hacr hacg
       go_wp2_with fail
       refine (HACR.out _ HW8.out).mono ?_
       rintro e w9 ⟨rfl, hb9⟩
       have HW9 := Aside0.mk (zab HW8.out hb9)
       have HO9 := Aside0.mk (Kd.zca HO8.out (by exact hb9.mono (by exact Nat.le_refl _)))
       clear hb9 x4
       go_wp2_with fail
       refine (HACG.out _ HW9.out).mono ?_
       rintro e w10 ⟨rfl, hb10⟩
       have HW10 := Aside0.mk (zab HW9.out hb10)
       have HO10 := Aside0.mk (Kd.zca HO9.out hb10)
       have hz13 := (HW10.out.block _ (zar HZ13.out)).trans HZ13.out
       have hz14 := (HW10.out.block _ (zar HZ14.out)).trans HZ14.out
       have HY13 := Aside0.mk hz13
       have HY14 := Aside0.mk hz14
       have HBR := Aside0.mk (HQ3.out.keep (zab HB7.out HW10.out))
       have hs10 := HW10.out.size
       clear hb10 hz13 hz14 HO8 HO9
       go_wp2_with fail
       have hmv := HX3.out.move (zab HB7.out HW10.out) HW3.out.size WG.out WP.out
       rcases movF_cases HF.out HQ.out with ⟨hc1, hc2⟩ | ⟨hc1, hc2, hc3, hc4⟩
       ·
        obtain ⟨cd, hcd⟩ : ∃ cd, (movF L g.f0 q.f0).2 = cd := ⟨_, rfl⟩
        rw [hcd] at hc2 hmv
        rw [hc1] at hmv
        have HMV := Aside0.mk hmv
        have dcd : (cd == 0) = false := beq_eq_false_iff_ne.mpr hc2
        clear hmv hc1 hc2 hcd
        refine HMV.out.mono ?_
        rintro e w11 ⟨rfl, _, hx11, hb11, hsz11, hk11, hr11⟩
        have HX11 := Aside0.mk (hx11 rfl)
        have HB11 := Aside0.mk hb11
        have HY11 := Aside0.mk ((hk11 _ hs5 (by omega)).trans HY13.out)
        have HR11 : Aside0 (BoxR w11 r room last A3 L.length c3) := ⟨hr11.trans HBR.out⟩
        have hg1 := zbe HX11.out.forB HG.out WG.out
        rw [show grpV L _ = .agg #[.int .i64 g.f0, .int .i64 g.f1, .int .i64 g.f2, .int .i64 ((way L g.f0).length : Nat), .int .i64 (rootG L g.f0), .int .i64 g.f3, .int .i64 g.f4] by unfold grpV; rw [HF.out], show grpE L _ = 0 by unfold grpE; rw [HF.out]; rfl, HRT.out] at hg1
        have HG1 := Aside0.mk hg1
        clear hg1 hx11 hb11 hk11 hr11 HMV
        go_wp2_with fail
        refine HG1.out.mono ?_
        rintro e w12 ⟨rfl, hb12⟩
        have HX12 := Aside0.mk (HX11.out.keep (zad hb12 (.cells #[.int .i64 g.f0, .int .i64 g.f1, .int .i64 g.f2, .int .i64 ((way L g.f0).length : Nat), .int .i64 rt, .int .i64 g.f3, .int .i64 g.f4] 32)))
        have HR12 := Aside0.mk (HR11.out.keep (zad hb12 (.cells #[.int .i64 g.f0, .int .i64 g.f1, .int .i64 g.f2, .int .i64 ((way L g.f0).length : Nat), .int .i64 rt, .int .i64 g.f3, .int .i64 g.f4] 32)))
        have HB12 := Aside0.mk (zad (zab ((zab (zab HW3.out HB7.out) HW10.out).trans HB11.out) hb12) (.cells #[.int .i64 g.f0, .int .i64 g.f1, .int .i64 g.f2, .int .i64 ((way L g.f0).length : Nat), .int .i64 rt, .int .i64 g.f3, .int .i64 g.f4] 32))
        have hy12 := zac ((hb12.block _ (zar HY11.out)).trans HY11.out) (.cells #[.int .i64 g.f0, .int .i64 g.f1, .int .i64 g.f2, .int .i64 ((way L g.f0).length : Nat), .int .i64 rt, .int .i64 g.f3, .int .i64 g.f4] 32)
        have hn12 := za6 w12 (.cells #[.int .i64 g.f0, .int .i64 g.f1, .int .i64 g.f2, .int .i64 ((way L g.f0).length : Nat), .int .i64 rt, .int .i64 g.f3, .int .i64 g.f4] 32)
        have k0 : (w12.alloc (.cells #[.int .i64 g.f0, .int .i64 g.f1, .int .i64 g.f2, .int .i64 ((way L g.f0).length : Nat), .int .i64 rt, .int .i64 g.f3, .int .i64 g.f4] 32)).cell? ⟨w5.heap.size, 0, none⟩ = some (.int .i64 g.f0) := (za hy12 0).trans rfl
        have j0 : (w12.alloc (.cells #[.int .i64 g.f0, .int .i64 g.f1, .int .i64 g.f2, .int .i64 ((way L g.f0).length : Nat), .int .i64 rt, .int .i64 g.f3, .int .i64 g.f4] 32)).cell? ⟨w12.heap.size, 0, none⟩ = some (.int .i64 g.f0) := (za hn12 0).trans rfl
        have k1 : (w12.alloc (.cells #[.int .i64 g.f0, .int .i64 g.f1, .int .i64 g.f2, .int .i64 ((way L g.f0).length : Nat), .int .i64 rt, .int .i64 g.f3, .int .i64 g.f4] 32)).cell? ⟨w5.heap.size, 1, none⟩ = some (.int .i64 g.f1) := (za hy12 1).trans rfl
        have j1 : (w12.alloc (.cells #[.int .i64 g.f0, .int .i64 g.f1, .int .i64 g.f2, .int .i64 ((way L g.f0).length : Nat), .int .i64 rt, .int .i64 g.f3, .int .i64 g.f4] 32)).cell? ⟨w12.heap.size, 1, none⟩ = some (.int .i64 g.f1) := (za hn12 1).trans rfl
        have k2 : (w12.alloc (.cells #[.int .i64 g.f0, .int .i64 g.f1, .int .i64 g.f2, .int .i64 ((way L g.f0).length : Nat), .int .i64 rt, .int .i64 g.f3, .int .i64 g.f4] 32)).cell? ⟨w5.heap.size, 2, none⟩ = some (.int .i64 g.f2) := (za hy12 2).trans rfl
        have j2 : (w12.alloc (.cells #[.int .i64 g.f0, .int .i64 g.f1, .int .i64 g.f2, .int .i64 ((way L g.f0).length : Nat), .int .i64 rt, .int .i64 g.f3, .int .i64 g.f4] 32)).cell? ⟨w12.heap.size, 2, none⟩ = some (.int .i64 g.f2) := (za hn12 2).trans rfl
        have k3 : (w12.alloc (.cells #[.int .i64 g.f0, .int .i64 g.f1, .int .i64 g.f2, .int .i64 ((way L g.f0).length : Nat), .int .i64 rt, .int .i64 g.f3, .int .i64 g.f4] 32)).cell? ⟨w5.heap.size, 3, none⟩ = some (.int .i64 ((way L g.f0).length : Nat)) := (za hy12 3).trans rfl
        have j3 : (w12.alloc (.cells #[.int .i64 g.f0, .int .i64 g.f1, .int .i64 g.f2, .int .i64 ((way L g.f0).length : Nat), .int .i64 rt, .int .i64 g.f3, .int .i64 g.f4] 32)).cell? ⟨w12.heap.size, 3, none⟩ = some (.int .i64 ((way L g.f0).length : Nat)) := (za hn12 3).trans rfl
        have k4 : (w12.alloc (.cells #[.int .i64 g.f0, .int .i64 g.f1, .int .i64 g.f2, .int .i64 ((way L g.f0).length : Nat), .int .i64 rt, .int .i64 g.f3, .int .i64 g.f4] 32)).cell? ⟨w5.heap.size, 4, none⟩ = some (.int .i64 rt) := (za hy12 4).trans rfl
        have j4 : (w12.alloc (.cells #[.int .i64 g.f0, .int .i64 g.f1, .int .i64 g.f2, .int .i64 ((way L g.f0).length : Nat), .int .i64 rt, .int .i64 g.f3, .int .i64 g.f4] 32)).cell? ⟨w12.heap.size, 4, none⟩ = some (.int .i64 rt) := (za hn12 4).trans rfl
        have k5 : (w12.alloc (.cells #[.int .i64 g.f0, .int .i64 g.f1, .int .i64 g.f2, .int .i64 ((way L g.f0).length : Nat), .int .i64 rt, .int .i64 g.f3, .int .i64 g.f4] 32)).cell? ⟨w5.heap.size, 5, none⟩ = some (.int .i64 g.f3) := (za hy12 5).trans rfl
        have j5 : (w12.alloc (.cells #[.int .i64 g.f0, .int .i64 g.f1, .int .i64 g.f2, .int .i64 ((way L g.f0).length : Nat), .int .i64 rt, .int .i64 g.f3, .int .i64 g.f4] 32)).cell? ⟨w12.heap.size, 5, none⟩ = some (.int .i64 g.f3) := (za hn12 5).trans rfl
        have k6 : (w12.alloc (.cells #[.int .i64 g.f0, .int .i64 g.f1, .int .i64 g.f2, .int .i64 ((way L g.f0).length : Nat), .int .i64 rt, .int .i64 g.f3, .int .i64 g.f4] 32)).cell? ⟨w5.heap.size, 6, none⟩ = some (.int .i64 g.f4) := (za hy12 6).trans rfl
        have j6 : (w12.alloc (.cells #[.int .i64 g.f0, .int .i64 g.f1, .int .i64 g.f2, .int .i64 ((way L g.f0).length : Nat), .int .i64 rt, .int .i64 g.f3, .int .i64 g.f4] 32)).cell? ⟨w12.heap.size, 6, none⟩ = some (.int .i64 g.f4) := (za hn12 6).trans rfl
        obtain ⟨s0, s1, s2, _, _, _⟩ := HR12.out.facts
        clear hb12 hy12 hn12 HG1
        go_wp2_with fail
        obtain ⟨P5, hP5⟩ := HX12.out.ref
        refine (Is_ok HX12.out.forB hP5 HG.out (by omega)).mono ?_
        rintro e w13 ⟨rfl, hb13⟩
        have HB13 := Aside0.mk (HW0.out.trans ((zab HB12.out hb13).mono hsz0))
        clear hb13 hP5
        go_wp2_with fail
        go_ret
        exact ⟨rfl, HB13.out⟩
       ·
        have hgl := movF_good HG.out g.f0 q.f0
        rw [hc1] at hmv hgl
        dsimp only at hmv hgl
        have hww := mov_self HG.out HM.out HQM.out hc2 hc4
        have hwl : ((way (movG L g.f0 q.f0) g.f0).length : Int) = z + 1 := by
         rw [hww, List.length_cons, ← HZ.out]
         omega
        have hfg := mov_fnd_self (q := q) HG.out.2.2.2.2.1 HM.out
        have hag := mov_act_self HG.out HM.out HQM.out hc2 hc4
        have har := mov_act_root HG.out HM.out HQM.out hc2 hc4 hc3
        rw [HRT.out] at har
        have hisS : ∀ x, (fnd (movG L g.f0 q.f0) x).isSome = (fnd L x).isSome := fun x => mov_fnd (g := g) (q := q) x
        have hbw : ∀ x ∈ bel, (fnd L x).isSome = true ∧ q.f0 ∈ way (movG L g.f0 q.f0) x ∧ g.f0 ∈ way (movG L g.f0 q.f0) x ∧ (Lit.int .i64 x).wf = true := fun x hx => by
         rw [← HBL.out, List.mem_filter, ← HID.out] at hx
         obtain ⟨hx1, hx2⟩ := hx
         obtain ⟨y, hy, rfl⟩ := List.mem_map.1 hx1
         rw [HP.out, decide_eq_true_iff] at hx2
         obtain ⟨m1, m2⟩ := mov_way HG.out HM.out HQM.out hc2 hc4 hy hx2
         exact ⟨by rw [fnd_mem HG.out.2.2.2.2.1 hy]; rfl, m2, m1, wf_of HG.out hy⟩
        have hfrt : (fnd L rt).isSome = true ∧ (Lit.int .i64 rt).wf = true := by
         obtain ⟨_, r, hr, hre⟩ := rootG_mem HG.out HM.out
         rw [HRT.out] at hre
         subst hre
         exact ⟨by rw [fnd_mem HG.out.2.2.2.2.1 hr]; rfl, wf_of HG.out hr⟩
        generalize movG L g.f0 q.f0 = LL at hmv hgl hww hwl hfg hag har hisS hbw hc1
        obtain ⟨rt2, hrt2⟩ : ∃ rt2, rootG LL g.f0 = rt2 := ⟨_, rfl⟩
        have HMV := Aside0.mk hmv
        have HGL := Aside0.mk hgl
        have HWL := Aside0.mk hwl
        have HFG := Aside0.mk hfg
        have HAG := Aside0.mk hag
        have HAR := Aside0.mk har
        have HIS := Aside0.mk hisS
        have HBW := Aside0.mk hbw
        have HFR := Aside0.mk hfrt
        have HRT2 := Aside0.mk hrt2
        clear hmv hgl hww hwl hfg hag har hisS hbw hc1 hc2 hc3 hc4 hfrt hrt2
        refine HMV.out.mono ?_
        rintro e w11 ⟨rfl, hf11, _, hb11, hsz11, hk11, _⟩
        have HF11 := Aside0.mk hf11
        have HB11 := Aside0.mk hb11
        have HY13' := Aside0.mk ((hk11 _ hs5 (by omega)).trans HY13.out)
        have HY14' := Aside0.mk ((hk11 w6.heap.size (by omega) (by omega)).trans HY14.out)
        have HV11 := Aside0.mk (Kd.V_step (Kd.R_V (base' := 0) HO10.out) (fun k (hk : w7.heap.size ≤ k) hlt => hk11 k (by omega) hlt))
        have hg3 := zbe hf11 HGL.out WG.out
        rw [show grpV LL g.f0 = .agg #[.int .i64 g.f0, .int .i64 q.f0, .int .i64 g.f2, .int .i64 (z + 1), .int .i64 rt2, .int .i64 g.f3, .int .i64 g.f4] by unfold grpV; rw [HFG.out]; dsimp only; rw [HWL.out, HRT2.out], show grpE LL g.f0 = 0 by unfold grpE; rw [HFG.out]; rfl] at hg3
        have HG3 := Aside0.mk hg3
        clear hg3 hf11 hb11 hk11 HMV
        go_wp2_with fail
        refine HG3.out.mono ?_
        rintro e w12 ⟨rfl, hb12⟩
        have HF12 := Aside0.mk (HF11.out.keep (zad hb12 (.cells #[.int .i64 g.f0, .int .i64 q.f0, .int .i64 g.f2, .int .i64 (z + 1), .int .i64 rt2, .int .i64 g.f3, .int .i64 g.f4] 32)))
        have HB12 := Aside0.mk (zad (zab ((zab (zab HW3.out HB7.out) HW10.out).trans HB11.out) hb12) (.cells #[.int .i64 g.f0, .int .i64 q.f0, .int .i64 g.f2, .int .i64 (z + 1), .int .i64 rt2, .int .i64 g.f3, .int .i64 g.f4] 32))
        have HY13b := Aside0.mk (zac ((hb12.block _ (zar HY13'.out)).trans HY13'.out) (.cells #[.int .i64 g.f0, .int .i64 q.f0, .int .i64 g.f2, .int .i64 (z + 1), .int .i64 rt2, .int .i64 g.f3, .int .i64 g.f4] 32))
        have HY14b := Aside0.mk (zac ((hb12.block _ (zar HY14'.out)).trans HY14'.out) (.cells #[.int .i64 g.f0, .int .i64 q.f0, .int .i64 g.f2, .int .i64 (z + 1), .int .i64 rt2, .int .i64 g.f3, .int .i64 g.f4] 32))
        have HY23 := Aside0.mk (za6 w12 (.cells #[.int .i64 g.f0, .int .i64 q.f0, .int .i64 g.f2, .int .i64 (z + 1), .int .i64 rt2, .int .i64 g.f3, .int .i64 g.f4] 32))
        have hv12 := Kd.za1 HV11.out (zad hb12 (.cells #[.int .i64 g.f0, .int .i64 q.f0, .int .i64 g.f2, .int .i64 (z + 1), .int .i64 rt2, .int .i64 g.f3, .int .i64 g.f4] 32))
        obtain ⟨_, _, hCb⟩ := Kd.zay hv12
        have HCB := Aside0.mk hCb
        clear hb12 HG3 hv12 hCb HV11 HY13' HY14'
        go_wp2_with fail
        generalize w12.alloc (.cells #[.int .i64 g.f0, .int .i64 q.f0, .int .i64 g.f2, .int .i64 (z + 1), .int .i64 rt2, .int .i64 g.f3, .int .i64 g.f4] 32) = W12 at HF12 HB12 HY13b HY14b HY23 HCB ⊢
        go_loopg [136] bel.length (fun gk v136 w' => ∃ i4 : Nat, v136 = .int .i64 (i4 : Int) ∧ i4 + gk = bel.length ∧ Aside0 (Below W12.heap.size W12 w'))
        case atStart => exact ⟨0, by go_num, by omega, ⟨Below.refl _ _⟩⟩
        case round =>
         obtain ⟨i4, rfl, hi4, HW4⟩ := hrel
         cases gk with
         | zero =>
          have d6 : decide ((i4 : Int) < (bel.length : Int)) = false := decide_eq_false (by omega)
          have hz13 := (HW4.out.block _ (zar HY13b.out)).trans HY13b.out
          have hz14 := (HW4.out.block _ (zar HY14b.out)).trans HY14b.out
          have hz23 := (HW4.out.block _ (zar HY23.out)).trans HY23.out
          have k1 : wr.cell? ⟨w12.heap.size, 1, none⟩ = some (.int .i64 q.f0) := (za hz23 1).trans rfl
          have k3 : wr.cell? ⟨w12.heap.size, 3, none⟩ = some (.int .i64 (z + 1)) := (za hz23 3).trans rfl
          have j3 : wr.cell? ⟨w6.heap.size, 3, none⟩ = some (.int .i64 z) := (za hz14 3).trans rfl
          have x4 : wr.cell? ⟨w5.heap.size, 4, none⟩ = some (.int .i64 rt) := (za hz13 4).trans rfl
          have wz : wrap64 (z + 1) = z + 1 := w64s (by omega) (by omega)
          have hacr := zbw (HF12.out.keep HW4.out) HGL.out HFR.out.2
          rw [HIS.out, HFR.out.1, if_pos rfl, HAR.out] at hacr
          have hacg : ∀ W, Below W12.heap.size W12 W → Calls Try.prog 21 #[.pointer (some ⟨fb, 0, none⟩), .int .i64 g.f0] W fun e w' => e = .returned (.int .i64 (act L g.f0)) ∧ Below W.heap.size W w' := fun W h => by
           have := zbw (HF12.out.keep h) HGL.out WG.out
           rw [HIS.out, HF.out, Option.isSome_some, if_pos rfl, HAG.out] at this
           exact this
          have HACR := Aside0.mk hacr
          have HACG := Aside0.mk hacg
          clear hz13 hz14 hz23 hacr hacg
          go_wp2_with fail
          clear wz
          refine HACR.out.mono ?_
          rintro e w13 ⟨rfl, hb13⟩
          have HW13 := Aside0.mk (zab HW4.out hb13)
          clear hb13 k1 k3 j3 x4 HACR
          go_wp2_with fail
          refine (HACG.out _ HW13.out).mono ?_
          rintro e w14 ⟨rfl, hb14⟩
          have HB14 := Aside0.mk (HW0.out.trans ((zab HB12.out (zab HW13.out hb14)).mono hsz0))
          clear hb14 HACG
          go_wp2_with fail
          go_ret
          exact ⟨by first | rfl | simp, HB14.out⟩
         | succ g4 =>
          have d6 : decide ((i4 : Int) < (bel.length : Int)) = true := decide_eq_true (by omega)
          have d7 : 0 ≤ (i4 : Int) ∧ (i4 : Int) < (bel.length : Int) := by omega
          have hi4l : i4 < bel.length := by omega
          obtain ⟨ab, rfl, x0⟩ := int_at8 (Kd.za0 HCB.out HW4.out) hi4l
          have hgv : bel.getD i4 0 = bel[i4] := by simp [hi4l]
          obtain ⟨b1, b2, b3, b4⟩ := HBW.out bel[i4] (List.getElem_mem hi4l)
          rw [hgv] at x0
          generalize bel[i4] = x at x0 b1 b2 b3 b4
          have hb1 := forB_Below (HF12.out.keep HW4.out) HGL.out b4 WP.out
          rw [HIS.out, HIS.out, b1, HQ.out, Option.isSome_some, decide_eq_true b2] at hb1
          have hb2 : ∀ W, Below W12.heap.size W12 W → Calls Try.prog 14 #[.pointer (some ⟨fb, 0, none⟩), .int .i64 x, .int .i64 g.f0] W fun e w' => e = .returned (.bool true) ∧ Below W.heap.size W w' := fun W h => by
           have := forB_Below (HF12.out.keep h) HGL.out b4 WG.out
           rw [HIS.out, HIS.out, b1, HF.out, Option.isSome_some, decide_eq_true b3] at this
           exact this
          have HB1 := Aside0.mk hb1
          have HB2 := Aside0.mk hb2
          have hgi4 : i4 + 1 + g4 = bel.length := by omega
          clear hgv hi4l hb1 hb2 b1 b2 b3 b4
          go_wp2_with fail
          clear x0
          refine HB1.out.mono ?_
          rintro e w13 ⟨rfl, hb13⟩
          have HW13 := Aside0.mk (zab HW4.out hb13)
          clear hb13 HB1
          go_wp2_with fail
          refine (HB2.out _ HW13.out).mono ?_
          rintro e w14 ⟨rfl, hb14⟩
          have HW14 := Aside0.mk (zab HW13.out hb14)
          clear hb14 HB2
          go_wp2_with fail
          have wi : wrap64 ((i4 : Int) + 1) = (i4 : Int) + 1 := w64s (by omega) (by omega)
          go_roundg g4
          case measure => exact Nat.lt_succ_self _
          case rel => exact ⟨i4 + 1, by go_num, hgi4, HW14⟩
      | succ g2 =>
       have d4 : decide ((i2 : Int) < (ids.length : Int)) = true := decide_eq_true (by omega)
       have d5 : 0 ≤ (i2 : Int) ∧ (i2 : Int) < (ids.length : Int) := by omega
       have hi2l : i2 < L.length := by have := HIL.out; omega
       obtain ⟨a7, rfl, x0⟩ := int_at8 (Kd.za0 HC7.out HW8.out) (i := i2) (by omega)
       have hgv : ids.getD i2 0 = L[i2].f0 := by rw [← HID.out]; simp [hi2l]
       have htk : ids.take (i2 + 1) = ids.take i2 ++ [L[i2].f0] := by
        rw [List.take_succ_eq_append_getElem (by omega)]
        congr 2
        have h9 : i2 < ids.length := by omega
        rw [show ids[i2] = ids.getD i2 0 by simp [h9], hgv]
       rw [hgv] at x0
       obtain ⟨y, hy⟩ : ∃ y, L[i2] = y := ⟨_, rfl⟩
       have hmem : y ∈ L := by rw [← hy]; exact List.getElem_mem hi2l
       rw [hy] at x0 htk
       have HTK := Aside0.mk htk
       have hbe := forB_Below (HX3.out.keep (zab HB7.out HW8.out)).forB HG.out (wf_of HG.out hmem) WG.out
       rw [fnd_mem HG.out.2.2.2.2.1 hmem, HF.out, Option.isSome_some, Option.isSome_some, Bool.true_and, Bool.true_and, ← HP.out] at hbe
       have HBE := Aside0.mk hbe
       clear hgv htk hy hmem hbe hi2l
       have hwsz := HW8.out.size
       have hfl : ((ids.take i2).filter p).length + 1 < 1000000 := by
        have := List.length_filter_le p (ids.take i2)
        rw [List.length_take] at this
        omega
       have hgi2 : i2 + 1 + g2 = ids.length := by omega
       cases hpy : p y.f0 with
       | false =>
        rw [hpy] at HBE
        have HPY := Aside0.mk hpy
        clear hpy
        go_wp2_with fail
        clear x0
        refine HBE.out.mono ?_
        rintro e w9 ⟨rfl, hb9⟩
        have HW9 := Aside0.mk (zab HW8.out hb9)
        have HO9 := Aside0.mk (Kd.zca HO.out hb9)
        clear hb9 HBE
        go_wp2_with fail
        have wi : wrap64 ((i2 : Int) + 1) = (i2 : Int) + 1 := w64s (by omega) (by omega)
        go_roundg g2
        case measure => exact Nat.lt_succ_self _
        case rel => exact ⟨i2 + 1, by go_num, hgi2, ⟨by rw [HTK.out, List.filter_append, List.filter_cons, if_neg (by rw [HPY.out]; decide), List.filter_nil, List.append_nil]; exact HO9.out⟩, HW9⟩
       | true =>
        rw [hpy] at HBE
        have HPY := Aside0.mk hpy
        clear hpy
        go_wp2_with fail
        clear x0
        refine HBE.out.mono ?_
        rintro e w9 ⟨rfl, hb9⟩
        have HW9 := Aside0.mk (zab HW8.out hb9)
        have HO9 := Aside0.mk (Kd.zca HO.out hb9)
        have hsz9 : w7.heap.size ≤ w9.heap.size := HW9.out.size
        clear hb9 HBE
        go_wp2_with (first | ((with_reducible refine zcc (b := .append) (xs := #[.tmp 97, .tmp 99]) rfl ?_); at_builtin; refine Kd.R_append (Kd.int .i64) (w0 := w7) w7.heap.size rfl (.tmp 97) (.tmp 99) 38 3 (.int .i64 0) 8 rfl Try.underlying38 info3t rfl (by decide) (by omega) u16 ((ids.take i2).filter p) y.f0 [.int .i64 y.f0] (fun k_ => w7.heap.size ≤ k_) (fun _ => False) rfl (by first | rfl | simp [Act.eval]) rfl (fun _ hk => hk.elim) (fun k_ hk => Nat.le_trans hsz9 hk) HO9.out HW9.out hsz9 (by omega) ?_; intro v9 w9' ho9 hb9 hg9 hat9; have HOn := Aside0.mk ho9; have HBn := Aside0.mk hb9; clear ho9 hb9 hg9 hat9))
        have wi : wrap64 ((i2 : Int) + 1) = (i2 : Int) + 1 := w64s (by omega) (by omega)
        go_roundg g2
        case measure => exact Nat.lt_succ_self _
        case rel => exact ⟨i2 + 1, by go_num, hgi2, ⟨by rw [HTK.out, List.filter_append, List.filter_cons, if_pos HPY.out, List.filter_nil]; exact HOn.out⟩, HBn⟩
  | succ g1 =>
   have d1 : decide ((i : Int) < (len : Int)) = true := decide_eq_true (by omega)
   obtain ⟨ad, rfl, had, a0, a1, a2, ha0, ha1, ha2⟩ := (HR0.out.below HW3.out) i (by omega)
   have d2 : 0 ≤ (i : Int) ∧ (i : Int) < (len : Int) := by omega
   generalize hf : f i = fi at a0 a1 a2 ha0 ha1 ha2
   obtain ⟨k, gg, nn⟩ := fi
   dsimp only at a0 a1 a2 ha0 ha1 ha2
   have HA1 := Aside0.mk ha1
   have HA2 := Aside0.mk ha2
   have HF := Aside0.mk hf
   obtain ⟨p0, p1, p2, _, _, _⟩ := (HQ3.out.keep (zad (Below.refl _ wr) (.cells #[.int .u8 k, .int .i64 gg, .int .i64 nn] 48))).facts
   clear ha1 ha2 hf
   go_wp2_with fail
   have HX4 := Aside0.mk (HX3.out.keep (zad (Below.refl _ wr) (.cells #[.int .u8 k, .int .i64 gg, .int .i64 nn] 48)))
   have HQ4 := Aside0.mk (HQ3.out.keep (zad (Below.refl _ wr) (.cells #[.int .u8 k, .int .i64 gg, .int .i64 nn] 48)))
   have HW4 := Aside0.mk (zad HW3.out (.cells #[.int .u8 k, .int .i64 gg, .int .i64 nn] 48))
   go_at_call 18
   generalize wr.alloc (.cells #[.int .u8 k, .int .i64 gg, .int .i64 nn] 48) = W3 at HX4 HQ4 HW4 p0 p1 p2 ⊢
   clear a0 a1 a2 p0 p1 p2
   refine (HX4.out.act (by omega) (by omega) HW4.out.size k gg nn ha0 HA1.out HA2.out).mono ?_
   rintro e w4 ⟨last', L', A4, c4, rfl, hx4, hq4, hl4, hw4⟩
   have hq4 := hq4.trans HQ4.out
   have HX5' := Aside0.mk (hx4.put hq4)
   have hr0 : w0.heap.size ≤ r := by omega
   have HW5 : Aside0 (Below w0.heap.size w0 (((w4.setCell ⟨r, 0, none⟩ (.int .i64 (room : Int))).setCell ⟨r, 1, none⟩ (.int .i64 last')).setCell ⟨r, 2, none⟩ (.slice A4 L'.length c4))) := ⟨(((HW4.out.trans hw4).setCell (p := ⟨r, 0, none⟩) hr0 _).setCell (p := ⟨r, 1, none⟩) hr0 _).setCell (p := ⟨r, 2, none⟩) hr0 _⟩
   have p0 : w4.cell? ⟨r, 0, none⟩ = some (.int .i64 (room : Int)) := (za hq4 0).trans rfl
   have p1 : w4.cell? ⟨r, 1, none⟩ = some (.int .i64 last) := (za hq4 1).trans rfl
   have p2 : w4.cell? ⟨r, 2, none⟩ = some (.slice A3 L.length c3) := (za hq4 2).trans rfl
   have q0 := zaa hq4 0
   have q1 := zaa hq4 1
   have q2 := zaa hq4 2
   clear hq4 hx4 hw4
   have HX6 := Aside0.mk HX5'.out.1
   have HQ6 := Aside0.mk HX5'.out.2
   have hgi : i + 1 + g1 = len := by omega
   have hl2 : 0 ≤ last' ∧ last' ≤ ((i + 1 : Nat) : Int) := by omega
   go_wp2_with fail
   clear p0 p1 p2 q0 q1 q2
   have wi : wrap64 ((i : Int) + 1) = (i : Int) + 1 := w64s (by omega) (by omega)
   go_roundg g1
   case measure => exact Nat.lt_succ_self _
   case rel => exact ⟨i + 1, last', L', A4, c4, by go_num, hgi, HX6, HQ6, hl2, HW5⟩
theorem TreeMoves_long (A : Option Addr) (len cap : Nat) (gi pi : Int) (w : World) (hlen : 50 < len) :
  Calls Try.prog 7 #[.slice A len cap, .int .i64 gi, .int .i64 pi] w fun e w' => e = .returned (.bool true) ∧ Below w.heap.size w w' := by
 have d60 : decide ((len : Int) > 50) = true := decide_eq_true (by omega)
 go_enter Try.func7, Try.ntmps7
 go_wp2_with fail
 go_at_call 8
 refine (awake08_ok _).mono ?_
 rintro e w0 ⟨rfl, hw0⟩
 have HW0 := Aside0.mk hw0
 clear hw0
 go_wp2_with fail
 go_at_call 8
 refine (awake08_ok w0).mono ?_
 rintro e w1 ⟨rfl, hw1⟩
 have HW1 := Aside0.mk (zab HW0.out hw1)
 clear hw1
 go_wp2_with fail
 go_ret
 exact ⟨rfl, HW1.out⟩
theorem lTreeMoves {H : Type} {enc : TypeId × Value → H} {W : World} {base : Nat} {spare : Nat → Bool} {held : Bool} {d : DataW H} {p : List MemPlace} (v : Value) (gi pi : Int) (wfg : (Lit.int .i64 gi).wf = true) (wfp : (Lit.int .i64 pi).wf = true) (hv : ∃ A len cap, v = .slice A len cap)
  (h : DataW.Trod enc Try.prog W base spare held 41 v d p) : Calls Try.prog 7 #[v, .int .i64 gi, .int .i64 pi] W fun e w' => e = .returned (.bool true) ∧ Below W.heap.size W w' := by
 obtain ⟨A, len, cap, rfl⟩ := hv
 obtain ⟨fuel, hf⟩ := h
 obtain ⟨f, hA⟩ := open_acts08 (by simpa [Value.cells] using hf)
 by_cases hlen : len ≤ 50
 ·
  exact TreeMoves_ok A len cap f W hA hlen gi pi wfg wfp
 ·
  exact TreeMoves_long A len cap gi pi W (by omega)
end Go.Proofs.Ytlmjdchcgfpngaa.P
end
