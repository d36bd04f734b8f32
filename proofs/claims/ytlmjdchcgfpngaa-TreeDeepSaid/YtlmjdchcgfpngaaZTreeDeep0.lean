-- Written by a program of this session (wip/tools/shake.py) out of its own texts and of the kit's printed ones; not trusted: Lean checks it.
import Derived.Below
import Derived.Deep.Draws
import Derived.Deep.AppendLies
import Derived.Maps.AppendAt
import Derived.OwnWalk
import Derived.Laws.BytesArg
import Derived.Laws.MakeOwn
import Derived.Laws.OwnMore
import Derived.Deep.OwnRows
import Derived.Tactics
import Derived.Lib.ConvBytes
import Derived.Laws.Slices
import Derived.WalkKit
import Derived.KernelRfl
import Derived.RowKit3
import Derived.Deep.LoopGhost
import Derived.Deep.QuietTactic
import Derived.BigQuiet
import Derived.WideLaws
import Derived.Deep.DeepCutAuto
import Derived.Deep.CutBlock
import Derived.Deep.RegionHeld3
import Derived.Laws.Rows
import Derived.Lib.AppendStr
import Derived.ArgAppend
import Derived.Laws.IdiomCopy
import Derived.RowKit
import Derived.OrdersHeld
import Derived.Laws.BitsLemmas
import Derived.Laws.StructEq
import Derived.Test.YtlmjdchcgfpngaaProg
import Derived.Lib.LaidTab
import Derived.Lib.ItoaNum
import Derived.WalkSmall
import Derived.Shelf.Small.Bits
import Derived.Shelf.Small.Wraps
import Derived.Shelf.Strconv.Itoa0
import Derived.Shelf.Sort.Plain
import Derived.Shelf.Slices.Turned
import Derived.Ground.Names2Prog
import Derived.Shelf.Slices.SearchI
import Derived.Shelf.Slices.In.SortNone
import GoSem.Extern.MathBitsCarry
import Derived.Laws.Externs
import Derived.Lib.Repeat
import Derived.Lib.AppendIntMem
import Derived.Lib.ItoaWalk
import Derived.RangeFuncBox
import Derived.RangeFuncLeaves
import Derived.Shelf.Abstract
import Derived.OwnWalkIn
import Derived.TacticsInMore
import Derived.LoopNIn
import Derived.LoopIn
import Derived.RangeFuncCalls
import Derived.Lib.SliceRun
import Derived.Shelf.RegionOpen
import Derived.Lib.Strings
import Derived.Lib.OthersKept
import Derived.Lib.OwnBridge
import Derived.Maps.RangeWalk
import Derived.LaidEqlPtr
import Derived.OpenShut
import Derived.SizedLaws
import Derived.ChangeSlices
import Derived.ProofKit
import Derived.ShutString
import Derived.ChangeOld
import Derived.Carry
import Derived.Handed
set_option maxHeartbeats 8000000
set_option maxRecDepth 100000
set_option linter.unusedVariables false
set_option linter.unusedSimpArgs false
section
namespace Go.Proofs.YtlmjdchcgfpngaaW.PrintWords
open Go.RowKit
structure Aside0 (p : Prop) : Prop where mk :: (out : p)
structure Drawn0 (w w' : World) : Prop where mk :: (out : ∃ n, w' = w.drewN n)
theorem Drawn0.refl (w : World) : Drawn0 w w := ⟨⟨0, rfl⟩⟩
theorem Drawn0.step {w w' : World} (h : Drawn0 w w') (n : Nat) : Drawn0 w (w'.drewN n) := by
 obtain ⟨m, rfl⟩ := h
 exact ⟨⟨m + n, World.drewN_drewN ..⟩⟩
theorem Drawn0.grown {w w' : World} (h : Drawn0 w w') : Grown w w' := by
 obtain ⟨n, rfl⟩ := h
 induction n with
 | zero => exact Grown.refl _
 | succ n ih => rw [← World.drew_drewN]; exact Grown.drew ih
theorem Drawn0.below {w w' : World} (h : Drawn0 w w') : Below w.heap.size w w' := by
 obtain ⟨n, rfl⟩ := h
 induction n with
 | zero => exact Below.refl _ _
 | succ n ih => rw [← World.drew_drewN]; exact ih.drew
def rd (xs : List Int) (i : Int) : Int := xs.getD i.toNat 0
theorem zac {w W : World} (h : Below w.heap.size w W) (o : Obj) : Below w.heap.size w (W.alloc o) := h.alloc h.size o
theorem pw_below_drewN {B : Nat} {w W : World} (h : Below B w W) (n : Nat) : Below B w (W.drewN n) := ⟨h.os, h.tape, h.output, h.size, h.block⟩
theorem below_then {B : Nat} {w w1 w2 : World} (h : Below B w w1) (hB : B ≤ w1.heap.size) (k : Below w1.heap.size w1 w2) : Below B w w2 :=
 h.trans ⟨k.os, k.tape, k.output, k.size, fun i hi => k.block i (Nat.lt_of_lt_of_le hi hB)⟩
theorem grown_of_below {w w1 : World} (h : Below w.heap.size w w1) (row : Option Nat) : w.grownBy w1 row := ⟨h.os, h.tape, h.output, h.size, fun i hi _ => h.block i hi⟩
theorem pw_cell_below {w w1 : World} (h : Below w.heap.size w w1) {a : Addr} {v : Value} (hc : w.cell? a = some v) : w1.cell? a = some v := (h.cell (World.block_lt_of_cell? w a hc)).trans hc
theorem add_plain (g j : Nat) : (⟨g, 0, none⟩ : Addr).add j = ⟨g, j, none⟩ := by unfold Addr.add; split <;> simp_all
def ReadsInt (w : World) (k : IntKind) (A : Option Addr) (n : Nat) (xs : List Int) : Prop :=
 xs.length = n ∧ n ≤ 9223372036854775807 ∧ (0 < n → ∃ ad, A = some ad ∧ ∀ j, j < n → w.cell? (ad.add j) = some (.int k (xs.getD j 0)))
theorem ReadsInt.at_ {w : World} {k : IntKind} {A : Option Addr} {n : Nat} {xs : List Int} (h : ReadsInt w k A n xs) (i : Int) (h0 : 0 ≤ i) (h1 : i < n) : ∃ ad, A = some ad ∧ w.cell? (ad.add i.toNat) = some (.int k (rd xs i)) := by
 obtain ⟨ad, e, hc⟩ := h.2.2 (by omega)
 exact ⟨ad, e, hc _ (by omega)⟩
theorem ReadsInt.below {w w1 : World} {k : IntKind} {A : Option Addr} {n : Nat} {xs : List Int} (h : ReadsInt w k A n xs) (hb : Below w.heap.size w w1) : ReadsInt w1 k A n xs :=
 ⟨h.1, h.2.1, fun hn => by
  obtain ⟨ad, e, hc⟩ := h.2.2 hn
  exact ⟨ad, e, fun j hj => pw_cell_below hb (hc j hj)⟩⟩
theorem own_nil (W : World) (base : Nat) (e : TypeId) (size : Nat) : W.ownsRow base e size (.slice none 0 0) 0 [] := ⟨by simp, .inl ⟨rfl, rfl⟩⟩
theorem own_base {w : World} {base : Nat} {e : TypeId} {size n : Nat} {v : Value} {xs : List Value} (h : w.ownsRow base e size v n xs) (k : Nat) (hk : v.ownBlock = some k) : base ≤ k := by
 rcases h.2 with ⟨rfl, _⟩ | ⟨g, cap, cur, rfl, hb, _⟩
 ·
  simp [Value.ownBlock] at hk
 ·
  have : g = k := by simpa [Value.ownBlock] using hk
  omega
theorem own_lt {w : World} {base : Nat} {e : TypeId} {size n : Nat} {v : Value} {xs : List Value} (h : w.ownsRow base e size v n xs) (k : Nat) (hk : v.ownBlock = some k) : k < w.heap.size := by
 rcases h.2 with ⟨rfl, _⟩ | ⟨g, cap, cur, rfl, hb, hh, _⟩
 ·
  simp [Value.ownBlock] at hk
 ·
  have : g = k := by simpa [Value.ownBlock] using hk
  subst this
  exact (Array.getElem?_eq_some_iff.1 hh).1
theorem pw_own_below {w w1 : World} {base : Nat} {e : TypeId} {size n : Nat} {v : Value} {xs : List Value} (h : w.ownsRow base e size v n xs) (hb : Below w.heap.size w w1) : w1.ownsRow base e size v n xs :=
 h.kept (grown_of_below hb none) (by cases v.ownBlock <;> simp)
section
variable {P : Program}
theorem print_make (t e : TypeId) (k : IntKind) (bytes : Nat) (ht : P.underlying t = some (.slice e)) (hinfo : (P.info? e).map (fun i => (i.zero, i.size, i.bytes)) = some (some (.int k 0), 1, bytes)) (hb0 : 0 < bytes)
  (m : Nat) (hn : m * bytes ≤ 281474976710656) :
  ∀ W : World, (Instr.makeSlice t (.int .i64 (m : Int)) (.int .i64 (m : Int))).run P W = .ok (.slice (some ⟨W.heap.size, 0, none⟩) m m) (W.alloc (.cells (madeCells #[.int k 0] m) e)) := by
 intro W
 have hm : m ≤ 281474976710656 := Nat.le_trans (Nat.le_mul_of_pos_right _ hb0) hn
 exact run_make_row' t e (.int k 0) bytes ht hinfo rfl .i64 .i64 m (by rw [Nat.mul_comm]; exact hn) (by omega) W
end
def LeO {α : Type} (a b : Option α) : Prop := ∀ r, a = some r → b = some r
theorem LeO.refl {α : Type} (a : Option α) : LeO a a := fun _ h => h
theorem LeO.none {α : Type} (b : Option α) : LeO Option.none b := fun _ h => by cases h
theorem LeO.trans {α : Type} {a b c : Option α} (h : LeO a b) (k : LeO b c) : LeO a c := fun r hr => k r (h r hr)
theorem LeO.map {α β : Type} {a a' : Option α} (f : α → β) (h : LeO a a') : LeO (a.map f) (a'.map f) := by
 intro r hr
 obtain ⟨x, hx, hf⟩ := Option.map_eq_some_iff.1 hr
 exact Option.map_eq_some_iff.2 ⟨x, h x hx, hf⟩
def Reps {α : Type} (R : α → List Value → Prop) (size : Nat) (ps : List α) (cs : List Value) : Prop :=
 cs.length = ps.length * size ∧ ∀ j p, ps[j]? = some p → R p ((cs.drop (j * size)).take size)
theorem Reps.none {α : Type} (R : α → List Value → Prop) (size : Nat) : Reps R size [] [] := ⟨by simp, fun j p h => by simp at h⟩
theorem Reps.snoc {α : Type} {R : α → List Value → Prop} {size : Nat} {ps : List α} {cs c : List Value} {p : α} (h : Reps R size ps cs) (hp : R p c) (hc : c.length = size) : Reps R size (ps ++ [p]) (cs ++ c) := by
 refine ⟨by rw [List.length_append, h.1, hc, List.length_append, List.length_singleton, Nat.add_mul, Nat.one_mul], fun j q hq => ?_⟩
 rcases Nat.lt_or_ge j ps.length with hj | hj
 ·
  rw [List.getElem?_append_left hj] at hq
  have h1 : j * size + size ≤ cs.length := by rw [h.1, ← Nat.succ_mul]; exact Nat.mul_le_mul_right _ hj
  have h2 := h.2 j q hq
  rw [List.drop_append_of_le_length (by omega), List.take_append_of_le_length (by rw [List.length_drop]; omega)]
  exact h2
 ·
  have hj' : j = ps.length := by
   have := (List.getElem?_eq_some_iff.1 hq).1
   rw [List.length_append, List.length_singleton] at this
   omega
  subst hj'
  have hq' : p = q := by simpa using hq
  subst hq'
  rw [← h.1, List.drop_left, ← hc, List.take_length]
  exact hp
theorem Reps.imp_ {α : Type} {R R' : α → List Value → Prop} {size : Nat} {ps : List α} {cs : List Value} (h : Reps R size ps cs) (hR : ∀ p c, R p c → R' p c) : Reps R' size ps cs := ⟨h.1, fun j p hj => hR _ _ (h.2 j p hj)⟩
def ReadsRow {α : Type} (R : α → List Value → Prop) (size : Nat) (w : World) (A : Option Addr) (n : Nat) (ps : List α) : Prop :=
 ps.length = n ∧ n ≤ 9223372036854775807 ∧ (0 < n → ∃ ad, A = some ad ∧ ∀ j p, ps[j]? = some p → ∃ c, c.length = size ∧ R p c ∧ ∀ i u, c[i]? = some u → w.cell? (ad.add (j * size + i)) = some u)
theorem ReadsRow.imp_ {α : Type} {R R' : α → List Value → Prop} {size : Nat} {w w1 : World} {A : Option Addr} {n : Nat} {ps : List α} (h : ReadsRow R size w A n ps) (hb : Below w.heap.size w w1) (hR : ∀ p c, R p c → R' p c) : ReadsRow R' size w1 A n ps :=
 ⟨h.1, h.2.1, fun hn => by
  obtain ⟨ad, e, hc⟩ := h.2.2 hn
  refine ⟨ad, e, fun j p hj => ?_⟩
  obtain ⟨c, hs, hr, hcell⟩ := hc j p hj
  exact ⟨c, hs, hR _ _ hr, fun i u hu => pw_cell_below hb (hcell i u hu)⟩⟩
theorem own_reads_row {α : Type} {R : α → List Value → Prop} {w : World} {base n size : Nat} {e : TypeId} {v : Value} {ps : List α} {cs : List Value} (h : w.ownsRow base e size v n cs) (hR : Reps R size ps cs) (hn : ps.length = n) :
  ∃ A c, v = .slice A n c ∧ ReadsRow R size w A n ps := by
 rcases Nat.eq_zero_or_pos n with h0 | h0
 ·
  rcases h.2 with ⟨rfl, rfl⟩ | ⟨g, cap, cur, rfl, _⟩
  ·
   exact ⟨none, 0, rfl, hn, by omega, fun hp => absurd hp (by omega)⟩
  ·
   exact ⟨_, cap, rfl, hn, by omega, fun hp => absurd hp (by omega)⟩
 ·
  obtain ⟨g, cap, rfl, _, _⟩ := h.form h0
  have hm : n ≤ 9223372036854775807 := by
   rcases h.2 with ⟨_, h1⟩ | ⟨g', cap', cur, he, _, _, h1, h2, _⟩
   ·
    omega
   ·
    simp only [maxLen] at h2
    omega
  refine ⟨_, cap, rfl, hn, hm, fun _ => ⟨_, rfl, fun j p hj => ⟨(cs.drop (j * size)).take size, ?_, hR.2 j p hj, fun i u hu => ?_⟩⟩⟩
  ·
   have hjl := (List.getElem?_eq_some_iff.1 hj).1
   have h1 : j * size + size ≤ cs.length := by rw [hR.1, ← Nat.succ_mul]; exact Nat.mul_le_mul_right _ hjl
   rw [List.length_take, List.length_drop]
   omega
  ·
   refine h.cells (g := g) rfl _ u ?_
   rw [List.getElem?_take] at hu
   split at hu
   ·
    rw [List.getElem?_drop] at hu
    exact hu
   ·
    cases hu
section
variable {P : Program} {ops : Array Oper} {rest : List Oper} {o : Oper} {a : Act} {Q : Exit → Act → World → Prop}
theorem print_append_cells {w0 W : World} (base : Nat) (hgd : o.guard = none) (s x : Operand) (t e : TypeId) (z : Value) (size bytes : Nat)
  (ho : o.op = .call { callee := .builtin .append, args := #[s, x], argTypes := #[t, t] })
  (ht : P.underlying t = some (.slice e)) (hinfo : (P.info? e).map (fun i => (i.zero, i.size, i.bytes)) = some (some z, size, bytes)) (hz : z.cells.size = size) (hs0 : 0 < size) (hb0 : 0 < bytes)
  (v : Value) (n : Nat) (xs ys : List Value) (hs : a.eval s = v) (hx : a.eval x = .slice (some ⟨W.heap.size, 0, none⟩) 1 1) (hys : ys.length = size) (h1 : ∀ u ∈ ys, u.oneCell' = true)
  (HO : W.ownsRow base e size v n xs) (HB : Below base w0 W) (hbase : base ≤ W.heap.size) (hl : (n + 1) * bytes ≤ 140737488355328)
  (h : ∀ v1 w1, w1.ownsRow base e size v1 (n + 1) (xs ++ ys) → Below base w0 w1 → W.grownBy w1 v.ownBlock → (v1.ownBlock = v.ownBlock ∨ ∃ b, v1.ownBlock = some b ∧ W.heap.size ≤ b) → wpList P ops Q rest (a.put o.dst v1) w1) :
  wpList P ops Q (o :: rest) a (W.alloc (.cells ys.toArray e)) := by
 obtain ⟨i0, hi, hzz⟩ := Option.map_eq_some_iff.1 hinfo
 simp only [Prod.mk.injEq] at hzz
 obtain ⟨hz0, hz1, hz2⟩ := hzz
 have hlen : n + 1 ≤ 140737488355328 := Nat.le_trans (Nat.le_mul_of_pos_right _ hb0) hl
 refine wpList_append_own_at (W.alloc (.cells ys.toArray e)) hgd s x t ho base e i0 z size bytes ht hi hz0 hz1 hz2 hz hs0 v n xs hs (HO.alloc _) ⟨W.heap.size, 0, none⟩ 1 1 ys hx (by rw [hys]; simp)
  (by simpa using World.news_of_block (cs := ys.toArray) (t := e) (fr := (0, 0)) (heap_alloc_new W (.cells ys.toArray e))) h1 (by simp only [maxLen]; omega) hl (by simp; omega) ?_
 intro v1 w1 hown hg _ hat
 refine h v1 w1 hown ((HB.alloc hbase _).grown hg (by simp; omega) (own_base HO)) (World.grownBy.trans (World.grownBy_alloc W _ _) hg) ?_
 rcases hat with hat | hat
 ·
  exact .inl hat
 ·
  exact .inr ⟨_, hat, by simp⟩
end
theorem own_ne {w : World} {base : Nat} {e t : TypeId} {size n g : Nat} {v : Value} {xs : List Value} {cs : Array Value} (h : w.ownsRow base e size v n xs) (hg : w.heap[g]? = some (.cells cs t (0, 0))) (hne : e ≠ t) : some g ≠ v.ownBlock := by
 rcases h.2 with ⟨rfl, _⟩ | ⟨g', cap, cur, rfl, _, hh, _⟩
 ·
  simp [Value.ownBlock]
 ·
  intro he
  have : g = g' := by simpa [Value.ownBlock] using he
  subst this
  rw [hg] at hh
  injection hh with hh
  injection hh with _ ht
  exact hne ht.symm
theorem blk_set {w : World} {g : Nat} {t : TypeId} {cs : Array Value} (h : w.heap[g]? = some (.cells cs t (0, 0))) (i : Nat) (u : Value) : (w.setCell ⟨g, i, none⟩ u).heap[g]? = some (.cells (cs.setIfInBounds i u) t (0, 0)) := by
 simp [World.setCell, Array.getElem?_modify, h]
theorem zah {w : World} {g : Nat} {o : Obj} (h : w.heap[g]? = some o) : g < w.heap.size := (Array.getElem?_eq_some_iff.1 h).1
theorem za {w : World} {g : Nat} {t : TypeId} {cs : Array Value} (h : w.heap[g]? = some (.cells cs t (0, 0))) (i : Nat) : w.cell? ⟨g, i, none⟩ = cs[i]? := cell_of_row w g i cs t (0, 0) h
theorem zaa {w : World} {g : Nat} {t : TypeId} {cs : Array Value} (h : w.heap[g]? = some (.cells cs t (0, 0))) (i : Nat) : w.frozen? ⟨g, i, none⟩ = false := by simp [World.frozen?, h]
def KeepBut (w w' : World) (g : Nat) (row : Option Nat) : Prop := w.heap.size ≤ w'.heap.size ∧ ∀ i, i < w.heap.size → i ≠ g → some i ≠ row → w'.heap[i]? = w.heap[i]?
theorem KeepBut.refl (w : World) (g : Nat) (row : Option Nat) : KeepBut w w g row := ⟨Nat.le_refl _, fun _ _ _ _ => rfl⟩
theorem KeepBut.of_below {w w1 : World} (h : Below w.heap.size w w1) (g : Nat) (row : Option Nat) : KeepBut w w1 g row := ⟨h.size, fun i hi _ _ => h.block i hi⟩
theorem KeepBut.trans {w w1 w2 : World} {g : Nat} {row row1 : Option Nat} (h : KeepBut w w1 g row) (k : KeepBut w1 w2 g row1) (hr : row1 = row ∨ ∃ b, row1 = some b ∧ w.heap.size ≤ b) : KeepBut w w2 g row :=
 ⟨Nat.le_trans h.1 k.1, fun i hi hg hn => by
  refine (k.2 i (Nat.lt_of_lt_of_le hi h.1) hg ?_).trans (h.2 i hi hg hn)
  rcases hr with rfl | ⟨b, rfl, hb⟩
  ·
   exact hn
  ·
   intro e
   injection e with e
   omega⟩
theorem KeepBut.blk {w w1 : World} {g g' : Nat} {row : Option Nat} {o : Obj} (h : KeepBut w w1 g row) (hb : w.heap[g']? = some o) (hg : g' ≠ g) (hr : some g' ≠ row) : w1.heap[g']? = some o := (h.2 g' (zah hb) hg hr).trans hb
theorem KeepBut.own {w w1 : World} {g : Nat} {row : Option Nat} {base : Nat} {e : TypeId} {size n : Nat} {v : Value} {xs : List Value} (h : KeepBut w w1 g row) (ho : w.ownsRow base e size v n xs) (hg : v.ownBlock ≠ some g) (hr : v.ownBlock = none ∨ v.ownBlock ≠ row) : w1.ownsRow base e size v n xs := by
 obtain ⟨h1, h2⟩ := ho
 refine ⟨h1, ?_⟩
 rcases h2 with h2 | ⟨b, cap, cur, rfl, hb, hh, r⟩
 ·
  exact .inl h2
 ·
  refine .inr ⟨b, cap, cur, rfl, hb, h.blk hh ?_ ?_, r⟩
  ·
   intro e
   exact hg (by rw [← e]; rfl)
  ·
   rcases hr with hr | hr
   ·
    simp [Value.ownBlock] at hr
   ·
    exact hr
def Ev {α : Type} (g : Nat → Option α) (r : α) : Prop := ∃ K, ∀ k, K ≤ k → g k = some r
theorem Ev.now {α : Type} (r : α) : Ev (fun _ => some r) r := ⟨0, fun _ _ => rfl⟩
theorem Ev.step {α : Type} {g f : Nat → Option α} {r : α} (h : ∀ k, g (k + 1) = f k) (k : Ev f r) : Ev g r := by
 obtain ⟨K, k⟩ := k
 refine ⟨K + 1, fun n hn => ?_⟩
 obtain ⟨m, rfl⟩ : ∃ m, n = m + 1 := ⟨n - 1, by omega⟩
 rw [h]
 exact k m (by omega)
theorem Ev.congr {α : Type} {g f : Nat → Option α} {r : α} (h : ∀ k, g k = f k) (k : Ev f r) : Ev g r := by
 obtain ⟨K, k⟩ := k
 exact ⟨K, fun n hn => (h n).trans (k n hn)⟩
theorem own_weaken {w : World} {base base' : Nat} {e : TypeId} {size n : Nat} {v : Value} {xs : List Value} (h : w.ownsRow base e size v n xs) (hb : base' ≤ base) : w.ownsRow base' e size v n xs := by
 obtain ⟨h1, h2⟩ := h
 refine ⟨h1, ?_⟩
 rcases h2 with h2 | ⟨g, cap, cur, rfl, hg, r⟩
 ·
  exact .inl h2
 ·
  exact .inr ⟨g, cap, cur, rfl, Nat.le_trans hb hg, r⟩
section
variable {α : Type} {enc : α → Value} {d : α}
def rdOf (d : α) (xs : List α) (i : Int) : α := xs.getD i.toNat d
def ReadsOf (enc : α → Value) (d : α) (w : World) (A : Option Addr) (n : Nat) (xs : List α) : Prop :=
 xs.length = n ∧ n ≤ 9223372036854775807 ∧ (0 < n → ∃ ad, A = some ad ∧ ∀ j, j < n → w.cell? (ad.add j) = some (enc (xs.getD j d)))
theorem ReadsOf.at_ {w : World} {A : Option Addr} {n : Nat} {xs : List α} (h : ReadsOf enc d w A n xs) (i : Int) (h0 : 0 ≤ i) (h1 : i < n) : ∃ ad, A = some ad ∧ w.cell? (ad.add i.toNat) = some (enc (rdOf d xs i)) := by
 obtain ⟨ad, e, hc⟩ := h.2.2 (by omega)
 exact ⟨ad, e, hc _ (by omega)⟩
theorem ReadsOf.below {w w1 : World} {A : Option Addr} {n : Nat} {xs : List α} (h : ReadsOf enc d w A n xs) (hb : Below w.heap.size w w1) : ReadsOf enc d w1 A n xs :=
 ⟨h.1, h.2.1, fun hn => by
  obtain ⟨ad, e, hc⟩ := h.2.2 hn
  exact ⟨ad, e, fun j hj => pw_cell_below hb (hc j hj)⟩⟩
end
theorem blk_alloc {w : World} {g : Nat} {o : Obj} (h : w.heap[g]? = some o) (o' : Obj) : (w.alloc o').heap[g]? = some o := (Below.heap_alloc w o' g (zah h)).trans h
theorem blk_drew {w : World} {g : Nat} {o : Obj} (h : w.heap[g]? = some o) : w.drew.heap[g]? = some o := h
theorem zai (w : World) (o : Obj) : (w.alloc o).heap[w.heap.size]? = some o := heap_alloc_new w o
section
variable {P : Program}
theorem results_ct {fn : Func} {p u : Tmp} {ty : TypeId} (h : fn.results = #[.cell p ty, .tmp u]) (tmps : Array Value) (w : World) (g : Nat) (t : TypeId) (cs : Array Value) (fr : Nat × Nat) (d : TypeDesc)
  (hp : tmps.getD p undef = .pointer (some ⟨g, 0, none⟩)) (hg : w.heap[g]? = some (.cells cs t fr))
  (hu : P.underlying ty = some d) (hd : (match d with | .struct _ | .array _ _ => true | _ => false) = true) (hi : (P.info? ty).map (·.size) = some cs.size) :
  (results fn tmps).run P w = .ok (.tuple #[.agg cs, tmps.getD u undef]) w := by
 have hp' : tmps[p]?.getD undef = .pointer (some ⟨g, 0, none⟩) := by simpa using hp
 simp [results, h, hp', asAddr, run_loadVar_row w g t ty cs fr d hg hu hd hi]
end
theorem own_le {w : World} {base n m c size : Nat} {e : TypeId} {A : Option Addr} {xs : List Value} (h : w.ownsRow base e size (.slice A m c) n xs) : m ≤ c := by
 rcases h.2 with ⟨he, _⟩ | ⟨g, cap, cur, he, _, _, hnc, _⟩
 ·
  injection he with _ h2 h3
  omega
 ·
  injection he with _ h2 h3
  omega
def OwnRow {α : Type} (R : α → List Value → Prop) (e : TypeId) (size : Nat) (w : World) (base : Nat) (v : Value) (ps : List α) : Prop :=
 ∃ inner, w.ownsRow base e size v ps.length inner ∧ Reps R size ps inner
section
variable {α : Type} {R R' : α → List Value → Prop} {e : TypeId} {size : Nat} {w w1 : World} {base : Nat} {v : Value} {ps : List α}
theorem OwnRow.none_ (R : α → List Value → Prop) (e : TypeId) (size : Nat) (w : World) (base : Nat) : OwnRow R e size w base (.slice none 0 0) [] := ⟨[], own_nil _ _ _ _, Reps.none _ _⟩
theorem OwnRow.imp_ (h : OwnRow R e size w base v ps) (hR : ∀ p c, R p c → R' p c) : OwnRow R' e size w base v ps := by
 obtain ⟨inner, ho, hr⟩ := h
 exact ⟨inner, ho, hr.imp_ hR⟩
theorem OwnRow.below (h : OwnRow R e size w base v ps) (hb : Below w.heap.size w w1) : OwnRow R e size w1 base v ps := by
 obtain ⟨inner, ho, hr⟩ := h
 exact ⟨inner, pw_own_below ho hb, hr⟩
theorem OwnRow.keep (h : OwnRow R e size w base v ps) {g : Nat} {t : TypeId} {cells : Array Value} (hb : w.heap[g]? = some (.cells cells t (0, 0))) (ht : e ≠ t) (hk : KeepBut w w1 g none) : OwnRow R e size w1 base v ps := by
 obtain ⟨inner, ho, hr⟩ := h
 exact ⟨inner, hk.own ho (Ne.symm (own_ne ho hb ht)) (by cases v.ownBlock <;> simp), hr⟩
theorem OwnRow.reads (h : OwnRow R e size w base v ps) : ∃ A c, v = .slice A ps.length c ∧ ps.length ≤ c ∧ ReadsRow R size w A ps.length ps := by
 obtain ⟨inner, ho, hr⟩ := h
 obtain ⟨A, c, rfl, hrow⟩ := own_reads_row ho hr rfl
 exact ⟨A, c, rfl, own_le ho, hrow⟩
end
section
variable {P : Program} {ops : Array Oper} {rest : List Oper} {o : Oper} {a : Act} {Q : Exit → Act → World → Prop} {α : Type} {R : α → List Value → Prop}
theorem OwnRow.append {w0 W : World} (base : Nat) (hgd : o.guard = none) (s x : Operand) (t e : TypeId) (z : Value) (size bytes : Nat)
  (ho : o.op = .call { callee := .builtin .append, args := #[s, x], argTypes := #[t, t] })
  (ht : P.underlying t = some (.slice e)) (hinfo : (P.info? e).map (fun i => (i.zero, i.size, i.bytes)) = some (some z, size, bytes)) (hz : z.cells.size = size) (hs0 : 0 < size) (hb0 : 0 < bytes)
  (v : Value) (ps : List α) (p : α) (cs : List Value) (hs : a.eval s = v) (hx : a.eval x = .slice (some ⟨W.heap.size, 0, none⟩) 1 1) (hp : R p cs) (hcs : cs.length = size) (h1 : ∀ u ∈ cs, u.oneCell' = true)
  (HO : OwnRow R e size W base v ps) (HB : Below base w0 W) (hbase : base ≤ W.heap.size) (hl : (ps.length + 1) * bytes ≤ 140737488355328)
  (h : ∀ v1 w1, OwnRow R e size w1 base v1 (ps ++ [p]) → Below base w0 w1 → W.grownBy w1 v.ownBlock → (v1.ownBlock = v.ownBlock ∨ ∃ b, v1.ownBlock = some b ∧ W.heap.size ≤ b) → wpList P ops Q rest (a.put o.dst v1) w1) :
  wpList P ops Q (o :: rest) a (W.alloc (.cells cs.toArray e)) := by
 obtain ⟨inner, hown, hr⟩ := HO
 refine print_append_cells base hgd s x t e z size bytes ho ht hinfo hz hs0 hb0 v ps.length inner cs hs hx hcs h1 hown HB hbase hl ?_
 intro v1 w1 hown1 hb1 hg1 hat1
 exact h v1 w1 ⟨inner ++ cs, by rw [List.length_append, List.length_singleton]; exact hown1, hr.snoc hp hcs⟩ hb1 hg1 hat1
end
section
variable {α : Type} {P : Program}
theorem ReadsOf.len_ {enc : α → Value} {d : α} {w : World} {A : Option Addr} {n : Nat} {xs : List α} (h : ReadsOf enc d w A n xs) : ReadsOf enc d w A xs.length xs := by rw [h.1]; exact h
end
structure Kd (α : Type) where
 sz : Nat
 E : List Nat
 K : World → α → List Value → Prop
 M : World → Nat → (Nat → Prop) → α → List Value → Prop
 K_len : ∀ {w x cs}, K w x cs → cs.length = sz
 K_one : ∀ {w x cs}, K w x cs → ∀ u ∈ cs, u.oneCell' = true
 K_below : ∀ {w w1 : World} {x cs}, Below w.heap.size w w1 → K w x cs → K w1 x cs
 K_of_M : ∀ {w base ok x cs}, M w base ok x cs → K w x cs
 M_mono : ∀ {w base ok ok' x cs}, (∀ k, ok k → ok' k) → M w base ok x cs → M w base ok' x cs
 M_bound : ∀ {w : World} {base ok x cs}, M w base ok x cs → M w base (fun k => ok k ∧ base ≤ k ∧ k < w.heap.size ∧ ∃ q, q ∈ E ∧ ∃ cells, w.heap[k]? = some (.cells cells q (0, 0))) x cs
 M_move : ∀ {w w1 : World} {base ok x cs}, (∀ k, ok k → w1.heap[k]? = w.heap[k]?) → M w base ok x cs → M w1 base ok x cs
 M_lower : ∀ {w base base' ok x cs}, base' ≤ base → M w base ok x cs → M w base' ok x cs
theorem own_move {w w1 : World} {base : Nat} {e : TypeId} {size n : Nat} {v : Value} {xs : List Value} (h : w.ownsRow base e size v n xs) (hm : ∀ k, v.ownBlock = some k → w1.heap[k]? = w.heap[k]?) : w1.ownsRow base e size v n xs := by
 obtain ⟨h1, h2⟩ := h
 refine ⟨h1, ?_⟩
 rcases h2 with h2 | ⟨g, cap, cur, rfl, hg, hh, r⟩
 ·
  exact .inl h2
 ·
  exact .inr ⟨g, cap, cur, rfl, hg, (hm g (by simp [Value.ownBlock])).trans hh, r⟩
theorem own_typed {w : World} {base : Nat} {e : TypeId} {size n : Nat} {v : Value} {xs : List Value} (h : w.ownsRow base e size v n xs) (k : Nat) (hk : v.ownBlock = some k) : ∃ cells, w.heap[k]? = some (.cells cells e (0, 0)) := by
 rcases h.2 with ⟨rfl, _⟩ | ⟨g, cap, cur, rfl, hg, hh, r⟩
 ·
  simp [Value.ownBlock] at hk
 ·
  have : g = k := by simpa [Value.ownBlock] using hk
  subst this
  exact ⟨cur, hh⟩
namespace Kd
def C {α : Type} (d : Kd α) (w : World) (A : Option Addr) (n : Nat) (xs : List α) : Prop := ReadsRow (d.K w) d.sz w A n xs
def R {α : Type} (d : Kd α) (e : Nat) (w : World) (base : Nat) (ok : Nat → Prop) (v : Value) (xs : List α) : Prop :=
 (∀ k, v.ownBlock = some k → ok k) ∧ OwnRow (d.M w base (fun k => ok k ∧ some k ≠ v.ownBlock)) e d.sz w base v xs
section
variable {α : Type} {d : Kd α} {e : Nat} {w w1 : World} {base : Nat} {ok ok' : Nat → Prop} {v : Value} {xs : List α}
theorem C_below {A : Option Addr} {n : Nat} (h : d.C w A n xs) (hb : Below w.heap.size w w1) : d.C w1 A n xs := ReadsRow.imp_ h hb (fun _ _ hp => d.K_below hb hp)
theorem R_nil (d : Kd α) (e : Nat) (w : World) (base : Nat) (ok : Nat → Prop) : d.R e w base ok (.slice none 0 0) [] := ⟨fun k hk => by simp [Value.ownBlock] at hk, OwnRow.none_ _ _ _ _ _⟩
theorem R_mono (h : d.R e w base ok v xs) (hok : ∀ k, ok k → ok' k) : d.R e w base ok' v xs := ⟨fun k hk => hok k (h.1 k hk), h.2.imp_ (fun _ _ hp => d.M_mono (fun k hk => ⟨hok k hk.1, hk.2⟩) hp)⟩
theorem R_bound (h : d.R e w base ok v xs) : d.R e w base (fun k => ok k ∧ base ≤ k ∧ k < w.heap.size ∧ ∃ q, q ∈ e :: d.E ∧ ∃ cells, w.heap[k]? = some (.cells cells q (0, 0))) v xs := by
 obtain ⟨h0, inner, ho, hr⟩ := h
 refine ⟨fun k hk => ?_, inner, ho, hr.imp_ (fun _ _ hp => d.M_mono (fun k hk => ?_) (d.M_bound hp))⟩
 ·
  obtain ⟨cells, hc⟩ := own_typed ho k hk
  exact ⟨h0 k hk, own_base ho k hk, own_lt ho k hk, e, List.mem_cons_self, cells, hc⟩
 ·
  obtain ⟨⟨h1, h2⟩, h3, h4, q, hq, hc⟩ := hk
  exact ⟨⟨h1, h3, h4, q, List.mem_cons_of_mem _ hq, hc⟩, h2⟩
theorem R_move (h : d.R e w base ok v xs) (hm : ∀ k, ok k → w1.heap[k]? = w.heap[k]?) : d.R e w1 base ok v xs := by
 obtain ⟨h0, inner, ho, hr⟩ := h
 exact ⟨h0, inner, own_move ho (fun k hk => hm k (h0 k hk)), hr.imp_ (fun _ _ hp => d.M_move (fun k hk => hm k hk.1) hp)⟩
theorem R_lower {base' : Nat} (h : d.R e w base ok v xs) (hb : base' ≤ base) : d.R e w base' ok v xs := by
 obtain ⟨h0, inner, ho, hr⟩ := h
 exact ⟨h0, inner, own_weaken ho hb, hr.imp_ (fun _ _ hp => d.M_lower hb hp)⟩
theorem R_step (h : d.R e w base ok v xs) (hm : ∀ k, ok k → k < w.heap.size → w1.heap[k]? = w.heap[k]?) : d.R e w1 base ok v xs :=
 R_mono (R_move (R_bound h) (fun k hk => hm k hk.1 hk.2.2.1)) (fun _ hk => hk.1)
theorem R_far (h : d.R e w base ok v xs) {p : Addr} (hok : ∀ k, ok k → k ≠ p.block) (u : Value) : d.R e (w.setCell p u) base ok v xs := R_step h (fun k ho _ => Below.heap_setCell w p u k (hok k ho))
theorem R_reads (h : d.R e w base ok v xs) : ∃ A c, v = .slice A xs.length c ∧ xs.length ≤ c ∧ d.C w A xs.length xs := by
 obtain ⟨A, c, he, hl, hr⟩ := OwnRow.reads h.2
 exact ⟨A, c, he, hl, hr.imp_ (Below.refl _ _) (fun _ _ hp => d.K_of_M hp)⟩
theorem R_slice (h : d.R e w base ok v xs) : ∃ A c, v = .slice A xs.length c := by
 obtain ⟨A, c, he, _⟩ := R_reads h
 exact ⟨A, c, he⟩
theorem R_own (h : d.R e w base ok v xs) : ∃ inner, w.ownsRow base e d.sz v xs.length inner := by
 obtain ⟨_, inner, ho, _⟩ := h
 exact ⟨inner, ho⟩
end
def scalar {α : Type} (enc : α → Value) (h1 : ∀ x, (enc x).oneCell' = true) : Kd α where
 sz := 1
 E := []
 K := fun _ x cs => cs = [enc x]
 M := fun _ _ _ x cs => cs = [enc x]
 K_len := fun h => by rw [h]; rfl
 K_one := fun h u hu => by
  rw [h] at hu
  rw [List.mem_singleton.1 hu]
  exact h1 _
 K_below := fun _ h => h
 K_of_M := fun h => h
 M_mono := fun _ h => h
 M_bound := fun h => h
 M_move := fun _ h => h
 M_lower := fun _ h => h
def int (k : IntKind) : Kd Int := scalar (Value.int k) (fun _ => rfl)
def bool : Kd Bool := scalar Value.bool (fun _ => rfl)
def slice {α : Type} (e : Nat) (d : Kd α) : Kd (List α) where
 sz := 1
 E := e :: d.E
 K := fun w xs cs => ∃ A c, cs = [.slice A xs.length c] ∧ xs.length ≤ c ∧ d.C w A xs.length xs
 M := fun w base ok xs cs => ∃ v, cs = [v] ∧ d.R e w base ok v xs
 K_len := by
  rintro w x cs ⟨A, c, rfl, _⟩
  rfl
 K_one := by
  rintro w x cs ⟨A, c, rfl, _⟩ u hu
  rw [List.mem_singleton.1 hu]
  rfl
 K_below := by
  rintro w w1 x cs hb ⟨A, c, rfl, hl, hr⟩
  exact ⟨A, c, rfl, hl, C_below hr hb⟩
 K_of_M := by
  rintro w base ok x cs ⟨v, rfl, h⟩
  obtain ⟨A, c, rfl, hl, hr⟩ := R_reads h
  exact ⟨A, c, rfl, hl, hr⟩
 M_mono := by
  rintro w base ok ok' x cs hok ⟨v, rfl, h⟩
  exact ⟨v, rfl, R_mono h hok⟩
 M_bound := by
  rintro w base ok x cs ⟨v, rfl, h⟩
  exact ⟨v, rfl, R_bound h⟩
 M_move := by
  rintro w w1 base ok x cs hm ⟨v, rfl, h⟩
  exact ⟨v, rfl, R_move h hm⟩
 M_lower := by
  rintro w base base' ok x cs hb ⟨v, rfl, h⟩
  exact ⟨v, rfl, R_lower h hb⟩
def bot {α : Type} (sz : Nat) (E : List Nat) : Kd α where
 sz := sz
 E := E
 K := fun _ _ _ => False
 M := fun _ _ _ _ _ => False
 K_len := fun h => h.elim
 K_one := fun h => h.elim
 K_below := fun _ h => h
 K_of_M := fun h => h
 M_mono := fun _ h => h
 M_bound := fun h => h
 M_move := fun _ h => h
 M_lower := fun _ h => h
def upto {α : Type} (F : Kd α → Kd α) (sz : Nat) (E : List Nat) : Nat → Kd α
 | 0 => bot sz E
 | n + 1 => F (upto F sz E n)
theorem R_appended {α : Type} {d : Kd α} {e base : Nat} {ok okp : Nat → Prop} {W w1 : World} {v v1 : Value} {xs : List α} {p : α} {inner cs : List Value} (h0 : ∀ k, v.ownBlock = some k → ok k) (hr : Reps (d.M W base (fun k => ok k ∧ some k ≠ v.ownBlock)) d.sz xs inner) (hp : d.M W base okp p cs) (hokp : ∀ k, okp k → ok k ∧ some k ≠ v.ownBlock) (hfresh : ∀ k, W.heap.size ≤ k → ok k)
  (hown : w1.ownsRow base e d.sz v1 (xs.length + 1) (inner ++ cs)) (hg : W.grownBy w1 v.ownBlock) (hat : v1.ownBlock = v.ownBlock ∨ ∃ b, v1.ownBlock = some b ∧ W.heap.size ≤ b) : d.R e w1 base ok v1 (xs ++ [p]) := by
 have hne : ∀ k, some k ≠ v.ownBlock → k < W.heap.size → some k ≠ v1.ownBlock := by
  intro k hk hlt
  rcases hat with hat | ⟨b, hb, hle⟩
  ·
   rw [hat]; exact hk
  ·
   rw [hb]
   intro he
   injection he with he
   omega
 have step : ∀ {q : α} {c : List Value} {o : Nat → Prop}, d.M W base o q c → (∀ k, o k → ok k ∧ some k ≠ v.ownBlock) → d.M w1 base (fun k => ok k ∧ some k ≠ v1.ownBlock) q c := by
  intro q c o hq ho
  have h1 := d.M_move (w1 := w1) (fun k hk => hg.block k hk.2.2.1 (ho k hk.1).2) (d.M_bound hq)
  exact d.M_mono (fun k hk => ⟨(ho k hk.1).1, hne k (ho k hk.1).2 hk.2.2.1⟩) h1
 refine ⟨fun k hk => ?_, inner ++ cs, by rw [List.length_append, List.length_singleton]; exact hown, ?_⟩
 ·
  rcases hat with hat | ⟨b, hb, hle⟩
  ·
   exact h0 k (hat ▸ hk)
  ·
   rw [hb] at hk
   injection hk with hk
   exact hfresh k (by omega)
 ·
  exact (hr.imp_ (fun _ _ hq => step hq (fun _ hk => hk))).snoc (step hp hokp) (d.K_len (d.K_of_M hp))
section
variable {P : Program} {ops : Array Oper} {rest : List Oper} {o : Oper} {a : Act} {Q : Exit → Act → World → Prop} {α : Type}
theorem R_append (d : Kd α) {w0 W : World} (base : Nat) (hgd : o.guard = none) (s x : Operand) (t e : TypeId) (z : Value) (bytes : Nat)
  (ho : o.op = .call { callee := .builtin .append, args := #[s, x], argTypes := #[t, t] })
  (ht : P.underlying t = some (.slice e)) (hinfo : (P.info? e).map (fun i => (i.zero, i.size, i.bytes)) = some (some z, d.sz, bytes)) (hz : z.cells.size = d.sz) (hs0 : 0 < d.sz) (hb0 : 0 < bytes)
  (v : Value) (xs : List α) (p : α) (cs : List Value) (ok okp : Nat → Prop) (hs : a.eval s = v) (hx : a.eval x = .slice (some ⟨W.heap.size, 0, none⟩) 1 1) (hp : d.M W base okp p cs) (hokp : ∀ k, okp k → ok k ∧ some k ≠ v.ownBlock) (hfresh : ∀ k, W.heap.size ≤ k → ok k)
  (HO : d.R e W base ok v xs) (HB : Below base w0 W) (hbase : base ≤ W.heap.size) (hl : (xs.length + 1) * bytes ≤ 140737488355328)
  (h : ∀ v1 w1, d.R e w1 base ok v1 (xs ++ [p]) → Below base w0 w1 → W.grownBy w1 v.ownBlock → (v1.ownBlock = v.ownBlock ∨ ∃ b, v1.ownBlock = some b ∧ W.heap.size ≤ b) → wpList P ops Q rest (a.put o.dst v1) w1) :
  wpList P ops Q (o :: rest) a (W.alloc (.cells cs.toArray e)) := by
 obtain ⟨h0, inner, hown, hr⟩ := HO
 refine print_append_cells base hgd s x t e z d.sz bytes ho ht hinfo hz hs0 hb0 v xs.length inner cs hs hx (d.K_len (d.K_of_M hp)) (d.K_one (d.K_of_M hp)) hown HB hbase hl ?_
 intro v1 w1 hown1 hb1 hg1 hat1
 exact h v1 w1 (R_appended h0 hr hp hokp hfresh hown1 hg1 hat1) hb1 hg1 hat1
end
theorem reads_of_C {α : Type} {enc : α → Value} {d : α} {h1 : ∀ x, (enc x).oneCell' = true} {w : World} {A : Option Addr} {n : Nat} {xs : List α} (h : (scalar enc h1).C w A n xs) : ReadsOf enc d w A n xs := by
 refine ⟨h.1, h.2.1, fun hn => ?_⟩
 obtain ⟨ad, e, hc⟩ := h.2.2 hn
 refine ⟨ad, e, fun j hj => ?_⟩
 have hl : j < xs.length := by have := h.1; omega
 obtain ⟨c, _, hK, hcell⟩ := hc j _ (List.getElem?_eq_getElem hl)
 have hK' : c = [enc xs[j]] := hK
 subst hK'
 have := hcell 0 _ rfl
 simpa [scalar, List.getD_eq_getElem?_getD, List.getElem?_eq_getElem hl] using this
end Kd
namespace Kd
section
variable {α β : Type} {d : Kd α} {d' : Kd β} {e e' : Nat} {w w1 W : World} {base b b' : Nat} {ok ok' okv oku : Nat → Prop} {v u : Value} {xs : List α} {ys : List β}
theorem R_reads' {A : Option Addr} {n c : Nat} (h : d.R e w base ok (.slice A n c) xs) : n = xs.length ∧ n ≤ c ∧ d.C w A xs.length xs := by
 obtain ⟨A', c', he, hl, hr⟩ := R_reads h
 injection he with h1 h2 h3
 subst h1
 exact ⟨h2, by omega, hr⟩
theorem R_lt (h : d.R e w base ok v xs) : ∀ k, v.ownBlock = some k → k < w.heap.size := by
 obtain ⟨inner, ho⟩ := R_own h
 exact own_lt ho
theorem R_base (h : d.R e w base ok v xs) : ∀ k, v.ownBlock = some k → base ≤ k := by
 obtain ⟨inner, ho⟩ := R_own h
 exact own_base ho
end
section
variable {w W : World} {A : Option Addr} {n : Nat}
theorem at_int {k : IntKind} {xs : List Int} (h : (Kd.int k).C w A n xs) (i : Int) (h0 : 0 ≤ i) (h1 : i < n) : ∃ ad, A = some ad ∧ w.cell? (ad.add i.toNat) = some (.int k (rd xs i)) :=
 ReadsOf.at_ (reads_of_C (enc := Value.int k) (d := (0 : Int)) (h1 := fun _ => rfl) h) i h0 h1
variable {α : Type} {enc : α → Value} {h1 : ∀ x, (enc x).oneCell' = true} {e base g cap : Nat} {ok : Nat → Prop} {xs : List α}
end
end Kd
def QRow (w : World) (base : Nat) (e : TypeId) (size : Nat) (v : Value) (n : Nat) (xs : List Value) : Prop :=
 xs.length = n * size ∧
 ((n = 0 ∧ ∃ A, v = .slice A 0 0 ∧ ∀ a, A = some a → base ≤ a.block ∧ ∃ cur, w.heap[a.block]? = some (.cells cur e (0, 0))) ∨
  ∃ g off cap cur, v = .slice (some ⟨g, off * size, none⟩) n cap ∧ base ≤ g ∧ w.heap[g]? = some (.cells cur e (0, 0)) ∧ n ≤ cap ∧ off + cap ≤ maxLen ∧ cur.size = (off + cap) * size ∧ (cur.toList.drop (off * size)).take (n * size) = xs)
namespace Kd
def Q {α : Type} (d : Kd α) (e : Nat) (w : World) (base : Nat) (ok : Nat → Prop) (v : Value) (xs : List α) : Prop :=
 (∀ k, v.ownBlock = some k → ok k) ∧ ∃ inner, QRow w base e d.sz v xs.length inner ∧ Reps (d.M w base (fun k => ok k ∧ some k ≠ v.ownBlock)) d.sz xs inner
end Kd
theorem zad {w W w2 : World} (h : Below w.heap.size w W) (k : Below W.heap.size W w2) : Below w.heap.size w w2 := below_then h h.size k
theorem ReadsInt.nil (W : World) (k : IntKind) : ReadsInt W k none ([] : List Int).length [] := ⟨rfl, by simp, fun h => absurd h (Nat.lt_irrefl 0)⟩
theorem ReadsInt.drewN {W : World} {k : IntKind} {A : Option Addr} {n : Nat} {xs : List Int} (h : ReadsInt W k A n xs) (m : Nat) : ReadsInt (W.drewN m) k A n xs := h
theorem keep_cell {w W : World} {g : Nat} (h : KeepBut w W g none) {a : Addr} {v : Value} (hc : w.cell? a = some v) (hne : a.block ≠ g) : W.cell? a = some v := by
 have := h.2 a.block (World.block_lt_of_cell? w a hc) hne (by simp)
 simpa [World.cell?, this] using hc
theorem add_block (a : Addr) (i : Nat) : (a.add i).block = a.block := by unfold Addr.add; split <;> rfl
theorem ReadsOf.nil {α : Type} (enc : α → Value) (d : α) (W : World) : ReadsOf enc d W none ([] : List α).length [] := ⟨rfl, by simp, fun h => absurd h (Nat.lt_irrefl 0)⟩
theorem ReadsOf.drewN {α : Type} {enc : α → Value} {d : α} {W : World} {A : Option Addr} {n : Nat} {xs : List α} (h : ReadsOf enc d W A n xs) (m : Nat) : ReadsOf enc d (W.drewN m) A n xs := h
theorem ReadsInt.keep {w W : World} {k : IntKind} {A : Option Addr} {n g : Nat} {xs : List Int} (h : ReadsInt w k A n xs) (hk : KeepBut w W g none) (hf : ∀ ad, A = some ad → 0 < n → ad.block ≠ g) : ReadsInt W k A n xs :=
 ⟨h.1, h.2.1, fun hn => by
  obtain ⟨ad, e, hc⟩ := h.2.2 hn
  exact ⟨ad, e, fun j hj => keep_cell hk (hc j hj) (by rw [add_block]; exact hf ad e hn)⟩⟩
theorem ReadsOf.keep {α : Type} {enc : α → Value} {d : α} {w W : World} {A : Option Addr} {n g : Nat} {xs : List α} (h : ReadsOf enc d w A n xs) (hk : KeepBut w W g none) (hf : ∀ ad, A = some ad → 0 < n → ad.block ≠ g) : ReadsOf enc d W A n xs :=
 ⟨h.1, h.2.1, fun hn => by
  obtain ⟨ad, e, hc⟩ := h.2.2 hn
  exact ⟨ad, e, fun j hj => keep_cell hk (hc j hj) (by rw [add_block]; exact hf ad e hn)⟩⟩
theorem blk_put {w : World} {g : Nat} {t : TypeId} {cs cs' : Array Value} (h : w.heap[g]? = some (.cells cs t (0, 0))) (i : Nat) (u : Value) (e : cs.setIfInBounds i u = cs') : (w.setCell ⟨g, i, none⟩ u).heap[g]? = some (.cells cs' t (0, 0)) := e ▸ blk_set h i u
end Go.Proofs.YtlmjdchcgfpngaaW.PrintWords
end
section
namespace Go.Proofs.YtlmjdchcgfpngaaW.PrintLast
section
variable {P : Program} {ops : Array Oper} {Q : Exit → Act → World → Prop} {md : Region.Mode} {S : World → Prop} {ds : List Nat}
def ListedClosed (md : Region.Mode) (ops : Array Oper) (listed : Array Bool) : Prop :=
 ∀ j oj, ops[j]? = some oj → listed.getD j false = true → ∀ e ∈ oj.after, Region.binds md e = true → listed.getD e.on false = true
theorem ListedClosed.set {listed : Array Bool} {i : Nat} (h : ListedClosed md ops listed) (hi : i ∈ Region.ready md ops listed) : ListedClosed md ops (listed.setIfInBounds i true) := by
 obtain ⟨_, oi, hoi, hall⟩ := mem_ready.1 hi
 intro j oj hj hl e he hb
 by_cases hij : i = j
 ·
  subst hij
  have : oj = oi := Option.some.inj (hj.symm.trans hoi)
  subst this
  exact getD_set_true (hall e he hb)
 ·
  rw [getD_set_ne false hij] at hl
  exact getD_set_true (h j oj hj hl e he hb)
def wpAnyLast (P : Program) (md : Region.Mode) (ops : Array Oper) (Q : Exit → Act → World → Prop) (S : World → Prop) (ds : List Nat) : Nat → Array Bool → Act → World → Prop
 | 0, listed, a, w => Region.ready md ops listed = [] ∧ Q .normal a w
 | fuel + 1, listed, a, w =>
  (Region.ready md ops listed = [] → Q .normal a w) ∧
  ∀ i ∈ Region.ready md ops listed, wpOp P ops Q i (fun a' w' => (i ∉ ds → S w → S w') ∧ wpAnyLast P md ops Q S ds fuel (listed.setIfInBounds i true) a' w') a w
end
section
variable {P : Program} {ops : Array Oper} {Q : Exit → Act → World → Prop} {md : Region.Mode} {S : World → Prop} {ds : List Nat}
def AllReadyL (P : Program) (md : Region.Mode) (ops : Array Oper) (Q : Exit → Act → World → Prop) (S : World → Prop) (ds : List Nat) (fuel : Nat) (listed : Array Bool) (a : Act) (w : World) (rs : List Nat) : Prop :=
 ∀ i ∈ rs, wpOp P ops Q i (fun a' w' => (i ∉ ds → S w → S w') ∧ wpAnyLast P md ops Q S ds fuel (listed.setIfInBounds i true) a' w') a w
theorem AllReadyL.nil {fuel : Nat} {listed : Array Bool} {a : Act} {w : World} : AllReadyL P md ops Q S ds fuel listed a w [] := fun _ h => by cases h
theorem AllReadyL.cons {fuel : Nat} {listed : Array Bool} {a : Act} {w : World} {i : Nat} {o : Oper} {rs : List Nat} (ho : ops[i]? = some o) (hd : i ∉ ds)
  (h : ∀ K' : Act → World → Prop, Shut (∀ a w, S w → (S w → wpAnyLast P md ops Q S ds fuel (listed.setIfInBounds i true) a w) → K' a w) → if Region.wanted o (yielded ops a.tmps) = true then Oper.wp P o a w K' Q else K' (a.put o.dst undef) w)
  (hs : AllReadyL P md ops Q S ds fuel listed a w rs) : AllReadyL P md ops Q S ds fuel listed a w (i :: rs) := fun j hj => by
 rcases List.mem_cons.1 hj with rfl | hj
 ·
  exact wpOp_step ho (fun K' hK => h K' (fun a w hS hW => hK a w ⟨fun _ _ => hS, hW hS⟩))
 ·
  exact hs j hj
end
end Go.Proofs.YtlmjdchcgfpngaaW.PrintLast
namespace Go.Proofs.YtlmjdchcgfpngaaW.PrintWords
open Go.RowKit
namespace Kd
def tag {α : Type} (f : Nat → Nat) (d : Kd α) : Kd (α × Nat) where
 sz := d.sz
 E := d.E
 K := fun w x cs => d.K w x.1 cs
 M := fun w base ok x cs => d.M w base (fun k => ok k ∧ f k = x.2) x.1 cs
 K_len := fun h => d.K_len h
 K_one := fun h => d.K_one h
 K_below := fun hb h => d.K_below hb h
 K_of_M := fun h => d.K_of_M h
 M_mono := fun hok h => d.M_mono (fun k hk => ⟨hok k hk.1, hk.2⟩) h
 M_bound := fun h => d.M_mono (fun _ hk => ⟨⟨hk.1.1, hk.2⟩, hk.1.2⟩) (d.M_bound h)
 M_move := fun hm h => d.M_move (fun k hk => hm k hk.1) h
 M_lower := fun hb h => d.M_lower hb h
def raw (sz : Nat) : Kd (List Value) where
 sz := sz
 E := []
 K := fun _ x cs => cs = x ∧ cs.length = sz ∧ ∀ u ∈ cs, u.oneCell' = true
 M := fun _ _ _ x cs => cs = x ∧ cs.length = sz ∧ ∀ u ∈ cs, u.oneCell' = true
 K_len := fun h => h.2.1
 K_one := fun h => h.2.2
 K_below := fun _ h => h
 K_of_M := fun h => h
 M_mono := fun _ h => h
 M_bound := fun h => h
 M_move := fun _ h => h
 M_lower := fun _ h => h
def S {α : Type} (d : Kd α) (e : Nat) (w : World) (base : Nat) (ok : Nat → Prop) (v : Value) (xs : List α) : Prop := ∃ f, (tag f d).R e w base ok v xs.zipIdx
def gap {α : Type} (f : Nat → Nat) (d : Kd α) (i : Nat) (c : List Value) : Kd (α × Nat) where
 sz := d.sz
 E := d.E
 K := fun w x cs => (x.2 = i → cs = c ∧ cs.length = d.sz ∧ ∀ u ∈ cs, u.oneCell' = true) ∧ (x.2 ≠ i → d.K w x.1 cs)
 M := fun w base ok x cs => (x.2 = i → cs = c ∧ cs.length = d.sz ∧ ∀ u ∈ cs, u.oneCell' = true) ∧ (x.2 ≠ i → d.M w base (fun k => ok k ∧ f k = x.2) x.1 cs)
 K_len := fun {w x cs} h => by
  by_cases hx : x.2 = i
  ·
   exact (h.1 hx).2.1
  ·
   exact d.K_len (h.2 hx)
 K_one := fun {w x cs} h => by
  by_cases hx : x.2 = i
  ·
   exact (h.1 hx).2.2
  ·
   exact d.K_one (h.2 hx)
 K_below := fun hb h => ⟨h.1, fun hx => d.K_below hb (h.2 hx)⟩
 K_of_M := fun h => ⟨h.1, fun hx => d.K_of_M (h.2 hx)⟩
 M_mono := fun hok h => ⟨h.1, fun hx => d.M_mono (fun k hk => ⟨hok k hk.1, hk.2⟩) (h.2 hx)⟩
 M_bound := fun h => ⟨h.1, fun hx => d.M_mono (fun _ hk => ⟨⟨hk.1.1, hk.2⟩, hk.1.2⟩) (d.M_bound (h.2 hx))⟩
 M_move := fun hm h => ⟨h.1, fun hx => d.M_move (fun k hk => hm k hk.1) (h.2 hx)⟩
 M_lower := fun hb h => ⟨h.1, fun hx => d.M_lower hb (h.2 hx)⟩
def H {α : Type} (d : Kd α) (e : Nat) (w : World) (base : Nat) (ok : Nat → Prop) (v : Value) (xs : List α) (i : Int) (oki : Nat → Prop) (c : List Value) : Prop :=
 (∀ k, oki k → ok k) ∧ ∃ f, (gap f d i.toNat c).R e w base (fun k => ok k ∧ ¬ oki k) v xs.zipIdx
end Kd
end Go.Proofs.YtlmjdchcgfpngaaW.PrintWords
namespace Go.Proofs.YtlmjdchcgfpngaaW.PrintWords
open Go.RowKit
namespace Kd
structure Heap {α : Type} (d : Kd α) : Prop where
 K : ∀ {w w1 : World} {x : α} {cs : List Value}, (∀ k, k < w.heap.size → w1.heap[k]? = w.heap[k]?) → d.K w x cs → d.K w1 x cs
theorem cell_heap {w w1 : World} (hb : ∀ k, k < w.heap.size → w1.heap[k]? = w.heap[k]?) {a : Addr} {v : Value} (h : w.cell? a = some v) : w1.cell? a = some v := by
 have := hb a.block (World.block_lt_of_cell? w a h)
 simpa [World.cell?, this] using h
theorem Heap.C {α : Type} {d : Kd α} (hd : Heap d) {w w1 : World} {A : Option Addr} {n : Nat} {xs : List α} (hb : ∀ k, k < w.heap.size → w1.heap[k]? = w.heap[k]?) (h : d.C w A n xs) : d.C w1 A n xs :=
 ⟨h.1, h.2.1, fun hn => by
  obtain ⟨ad, e, hc⟩ := h.2.2 hn
  refine ⟨ad, e, fun j p hj => ?_⟩
  obtain ⟨c, hs, hr, hcell⟩ := hc j p hj
  exact ⟨c, hs, hd.K hb hr, fun i u hu => cell_heap hb (hcell i u hu)⟩⟩
end Kd
end Go.Proofs.YtlmjdchcgfpngaaW.PrintWords
namespace Go.Proofs.YtlmjdchcgfpngaaW.PrintWords
open Go.RowKit
def Kept (w W : World) (S : Nat → Prop) : Prop := w.heap.size ≤ W.heap.size ∧ ∀ i, i < w.heap.size → ¬ S i → W.heap[i]? = w.heap[i]?
section
variable {w W W2 : World} {S S2 S' : Nat → Prop}
theorem Kept.refl (w : World) (S : Nat → Prop) : Kept w w S := ⟨Nat.le_refl _, fun _ _ _ => rfl⟩
theorem Kept.of_below (h : Below w.heap.size w W) (S : Nat → Prop) : Kept w W S := ⟨h.size, fun i hi _ => h.block i hi⟩
theorem Kept.mono (h : Kept w W S) (hs : ∀ k, S k → S' k) : Kept w W S' := ⟨h.1, fun i hi hn => h.2 i hi (fun hk => hn (hs i hk))⟩
theorem Kept.then_ (h : Kept w W S) (k : Kept W W2 S2) (hs : ∀ k, S2 k → S k ∨ w.heap.size ≤ k) : Kept w W2 S :=
 ⟨Nat.le_trans h.1 k.1, fun i hi hn => (k.2 i (Nat.lt_of_lt_of_le hi h.1) (fun h2 => (hs i h2).elim hn (fun h3 => by omega))).trans (h.2 i hi hn)⟩
theorem Kept.below (h : Kept w W S) (hb : Below W.heap.size W W2) : Kept w W2 S := h.then_ (Kept.of_below hb (fun _ => False)) (fun _ hk => hk.elim)
theorem Kept.alloc (h : Kept w W S) (o : Obj) : Kept w (W.alloc o) S := h.below (zac (Below.refl _ _) o)
theorem Kept.drew (h : Kept w W S) : Kept w W.drew S := h
theorem Kept.drewN (h : Kept w W S) (m : Nat) : Kept w (W.drewN m) S := h
theorem Kept.setCell (h : Kept w W S) {p : Addr} (hp : S p.block ∨ w.heap.size ≤ p.block) (u : Value) : Kept w (W.setCell p u) S :=
 h.then_ (S2 := fun k => k = p.block) ⟨by simp [World.setCell], fun i _ hn => Below.heap_setCell W p u i hn⟩ (fun k hk => by rw [hk]; exact hp)
theorem Kept.keep {g : Nat} (h : KeepBut w W g none) (k : Kept W W2 S2) (hs : ∀ k, S2 k → w.heap.size ≤ k) : KeepBut w W2 g none :=
 ⟨Nat.le_trans h.1 k.1, fun i hi hg hr => (k.2 i (Nat.lt_of_lt_of_le hi h.1) (fun h2 => by have := hs i h2; omega)).trans (h.2 i hi hg hr)⟩
end
end Go.Proofs.YtlmjdchcgfpngaaW.PrintWords
namespace Go.Proofs.YtlmjdchcgfpngaaW.PrintWords
open Go.RowKit
def Foot (P : World → Prop) (W : World) (ok : Nat → Prop) : Prop := ∀ W' : World, (∀ k, ok k → k < W.heap.size → W'.heap[k]? = W.heap[k]?) → P W'
theorem heap_lt {W W1 : World} {k : Nat} (h : W1.heap[k]? = W.heap[k]?) (hlt : k < W.heap.size) : k < W1.heap.size := by
 rw [Array.getElem?_eq_getElem hlt] at h
 exact (Array.getElem?_eq_some_iff.1 h).1
namespace Foot
variable {P Q : World → Prop} {W W1 : World} {ok ok' : Nat → Prop}
theorem now (h : Foot P W ok) : P W := h W (fun _ _ _ => rfl)
theorem mono (h : Foot P W ok) (hok : ∀ k, ok k → ok' k) : Foot P W ok' := fun W' hW => h W' (fun k hk hlt => hW k (hok k hk) hlt)
theorem step (h : Foot P W ok) (hm : ∀ k, ok k → k < W.heap.size → W1.heap[k]? = W.heap[k]?) : Foot P W1 ok := fun W' hW => h W' (fun k hk hlt => (hW k hk (heap_lt (hm k hk hlt) hlt)).trans (hm k hk hlt))
theorem imp (h : Foot P W ok) (hi : ∀ W', P W' → Q W') : Foot Q W ok := fun W' hW => hi W' (h W' hW)
end Foot
namespace Kd
def F {α : Type} (d : Kd α) (W : World) (ok : Nat → Prop) (A : Option Addr) (n : Nat) (xs : List α) : Prop := Foot (fun W => d.C W A n xs) W ok
def FK {α : Type} (d : Kd α) (W : World) (ok : Nat → Prop) (x : α) (c : List Value) : Prop := Foot (fun W => d.K W x c) W ok
section
variable {α β : Type} {d : Kd α} {e base n n' cc g N : Nat} {ok ok' okp S : Nat → Prop} {w w0 w1 W W1 : World} {A A' : Option Addr} {u v v1 : Value} {xs : List α} {xs' : List β} {d' : Kd β} {x : α} {c : List Value}
theorem F_now (h : F d W ok A n xs) : d.C W A n xs := Foot.now h
theorem R_F (h : d.R e W base ok (.slice A n cc) xs) : F d W ok A n xs := fun W' hW => by
 have h2 := R_reads' (R_step h hW)
 rw [h2.1]
 exact h2.2.2
end
end Kd
end Go.Proofs.YtlmjdchcgfpngaaW.PrintWords
namespace Go.Proofs.YtlmjdchcgfpngaaW.PrintWords
open Go.RowKit
namespace Kd
section
variable {α : Type} {d : Kd α} {e base n cc g : Nat} {ok ok' okp S : Nat → Prop} {w w1 W W1 : World} {A : Option Addr} {u v v1 : Value} {xs : List α} {x : α} {c : List Value}
def N {α : Type} (d : Kd α) (e : Nat) (w : World) (base : Nat) (ok : Nat → Prop) (v : Value) (xs : List α) : Prop :=
 (∀ k, v.ownBlock = some k → ok k) ∧ ∃ rows : List (List Value), rows.length = xs.length ∧ (raw d.sz).R e w base (fun k => some k = v.ownBlock) v rows ∧ ∀ (j : Nat) (x : α) (c : List Value), xs[j]? = some x → rows[j]? = some c → FK d w (fun k => ok k ∧ some k ≠ v.ownBlock) x c
end
end Kd
end Go.Proofs.YtlmjdchcgfpngaaW.PrintWords
namespace Go.Proofs.YtlmjdchcgfpngaaW.PrintWords
theorem Reps.one {α : Type} {R : α → List Value → Prop} {ps : List α} {cs : List Value} {p : α} {v : Value} (hp : R p [v]) (h : Reps R 1 ps cs) : Reps R 1 (p :: ps) (v :: cs) := by
 refine ⟨by simp [h.1], fun j q hq => ?_⟩
 cases j with
 | zero =>
  simp only [List.getElem?_cons_zero, Option.some.injEq] at hq
  subst hq
  simpa using hp
 | succ j =>
  simp only [List.getElem?_cons_succ] at hq
  have h1 := h.2 j q hq
  simpa [Nat.mul_one] using h1
theorem Reps.front {α : Type} {R : α → List Value → Prop} {size : Nat} {ps : List α} {cs c all : List Value} {p : α} (hp : R p c) (hc : c.length = size) (h : Reps R size ps cs) (ha : c ++ cs = all) : Reps R size (p :: ps) all := by
 subst ha
 refine ⟨by rw [List.length_append, hc, h.1, List.length_cons, Nat.succ_mul, Nat.add_comm], fun j q hq => ?_⟩
 cases j with
 | zero =>
  simp only [List.getElem?_cons_zero, Option.some.injEq] at hq
  subst hq
  rw [Nat.zero_mul, List.drop_zero, List.take_append_of_le_length (by omega), List.take_of_length_le (by omega)]
  exact hp
 | succ j =>
  simp only [List.getElem?_cons_succ] at hq
  have h1 := h.2 j q hq
  rw [Nat.succ_mul, List.drop_append, List.drop_of_length_le (by rw [hc]; exact Nat.le_add_left _ _), List.nil_append, hc, Nat.add_sub_cancel]
  exact h1
theorem Reps.c2 {α : Type} {R : α → List Value → Prop} {ps : List α} {cs : List Value} {p : α} {va vb : Value} (hp : R p [va, vb]) (h : Reps R 2 ps cs) : Reps R 2 (p :: ps) (va :: vb :: cs) := Reps.front hp rfl h rfl
theorem Reps.c3 {α : Type} {R : α → List Value → Prop} {ps : List α} {cs : List Value} {p : α} {va vb vc : Value} (hp : R p [va, vb, vc]) (h : Reps R 3 ps cs) : Reps R 3 (p :: ps) (va :: vb :: vc :: cs) := Reps.front hp rfl h rfl
theorem Reps.c4 {α : Type} {R : α → List Value → Prop} {ps : List α} {cs : List Value} {p : α} {va vb vc vd : Value} (hp : R p [va, vb, vc, vd]) (h : Reps R 4 ps cs) : Reps R 4 (p :: ps) (va :: vb :: vc :: vd :: cs) := Reps.front hp rfl h rfl
theorem Reps.c5 {α : Type} {R : α → List Value → Prop} {ps : List α} {cs : List Value} {p : α} {va vb vc vd ve : Value} (hp : R p [va, vb, vc, vd, ve]) (h : Reps R 5 ps cs) : Reps R 5 (p :: ps) (va :: vb :: vc :: vd :: ve :: cs) := Reps.front hp rfl h rfl
theorem Reps.c6 {α : Type} {R : α → List Value → Prop} {ps : List α} {cs : List Value} {p : α} {va vb vc vd ve vf : Value} (hp : R p [va, vb, vc, vd, ve, vf]) (h : Reps R 6 ps cs) : Reps R 6 (p :: ps) (va :: vb :: vc :: vd :: ve :: vf :: cs) := Reps.front hp rfl h rfl
theorem Reps.c7 {α : Type} {R : α → List Value → Prop} {ps : List α} {cs : List Value} {p : α} {va vb vc vd ve vf vg : Value} (hp : R p [va, vb, vc, vd, ve, vf, vg]) (h : Reps R 7 ps cs) : Reps R 7 (p :: ps) (va :: vb :: vc :: vd :: ve :: vf :: vg :: cs) := Reps.front hp rfl h rfl
end Go.Proofs.YtlmjdchcgfpngaaW.PrintWords
namespace Go.Proofs.YtlmjdchcgfpngaaW.PrintMore
open Go.RowKit Go.Proofs.YtlmjdchcgfpngaaW.PrintWords
theorem max2_int (k k' : IntKind) (x y : Int) : Builtin.max2 (.int k x) (.int k' y) = pure (.int k (if x < y then y else x)) := by simp only [Builtin.max2, gt_iff_lt]
theorem min2_int (k k' : IntKind) (x y : Int) : Builtin.min2 (.int k x) (.int k' y) = pure (.int k (if y < x then y else x)) := by simp only [Builtin.min2]
theorem max_two (ats : Array TypeId) (ty : TypeId) (a b : Value) : Builtin.max_ ats ty #[a, b] = (Builtin.max2 a b >>= fun s => pure s) := by simp only [Builtin.max_, List.foldlM_cons, List.foldlM_nil]
theorem min_two (ats : Array TypeId) (ty : TypeId) (a b : Value) : Builtin.min_ ats ty #[a, b] = (Builtin.min2 a b >>= fun s => pure s) := by simp only [Builtin.min_, List.foldlM_cons, List.foldlM_nil]
theorem max_three (ats : Array TypeId) (ty : TypeId) (a b c : Value) : Builtin.max_ ats ty #[a, b, c] = (Builtin.max2 a b >>= fun s => Builtin.max2 s c >>= fun s => pure s) := by simp only [Builtin.max_, List.foldlM_cons, List.foldlM_nil]
theorem min_three (ats : Array TypeId) (ty : TypeId) (a b c : Value) : Builtin.min_ ats ty #[a, b, c] = (Builtin.min2 a b >>= fun s => Builtin.min2 s c >>= fun s => pure s) := by simp only [Builtin.min_, List.foldlM_cons, List.foldlM_nil]
theorem max_four (ats : Array TypeId) (ty : TypeId) (a b c d : Value) : Builtin.max_ ats ty #[a, b, c, d] = (Builtin.max2 a b >>= fun s => Builtin.max2 s c >>= fun s => Builtin.max2 s d >>= fun s => pure s) := by simp only [Builtin.max_, List.foldlM_cons, List.foldlM_nil]
theorem min_four (ats : Array TypeId) (ty : TypeId) (a b c d : Value) : Builtin.min_ ats ty #[a, b, c, d] = (Builtin.min2 a b >>= fun s => Builtin.min2 s c >>= fun s => Builtin.min2 s d >>= fun s => pure s) := by simp only [Builtin.min_, List.foldlM_cons, List.foldlM_nil]
end Go.Proofs.YtlmjdchcgfpngaaW.PrintMore
namespace Go.Proofs.YtlmjdchcgfpngaaW.PrintWords
open Go.RowKit
section
variable {P : Program} {ops : Array Oper} {rest : List Oper} {o : Oper} {a : Act} {Q : Exit → Act → World → Prop} {W : World}
theorem gate_builtin {b : Builtin} {xs : Array Operand} {ts : Array TypeId} (_ho : o.op = .call { callee := .builtin b, args := xs, argTypes := ts }) (h : wpList P ops Q (o :: rest) a W) : wpList P ops Q (o :: rest) a W := h
end
end Go.Proofs.YtlmjdchcgfpngaaW.PrintWords
namespace Go.Proofs.YtlmjdchcgfpngaaW.PrintWords
open Go.RowKit
namespace Kd
def V {α : Type} (d : Kd α) (_e : Nat) (W : World) (_base : Nat) (ok : Nat → Prop) (v : Value) (xs : List α) : Prop := ∃ A c, v = .slice A xs.length c ∧ xs.length ≤ c ∧ F d W ok A xs.length xs
section
variable {α β : Type} {d : Kd α} {e base base' n m c g N' lo hi : Nat} {ok ok' S : Nat → Prop} {w W w1 : World} {A : Option Addr} {ad : Addr} {u v v1 : Value} {xs : List α}
theorem V_at (h : V d e W base ok (.slice A n c) xs) : n = xs.length ∧ n ≤ c ∧ F d W ok A xs.length xs := by
 obtain ⟨A', c', hv, hl, hf⟩ := h
 injection hv with ha hn hc
 subst ha; subst hc
 exact ⟨hn, by rw [hn]; exact hl, hf⟩
theorem V_reads' (h : V d e W base ok (.slice A n c) xs) : n = xs.length ∧ n ≤ c ∧ d.C W A xs.length xs := ⟨(V_at h).1, (V_at h).2.1, F_now (V_at h).2.2⟩
theorem R_V (h : d.R e W base ok v xs) : V d e W base' ok v xs := by
 obtain ⟨A, c, rfl⟩ := R_slice h
 exact ⟨A, c, rfl, (R_reads' h).2.1, R_F h⟩
end
end Kd
end Go.Proofs.YtlmjdchcgfpngaaW.PrintWords
namespace Go.Proofs.YtlmjdchcgfpngaaW.PrintMore
open Go.RowKit Go.Proofs.YtlmjdchcgfpngaaW.PrintWords
theorem zA {p : Prop} (h : p) : Aside0 p := Aside0.mk h
theorem zF {p : Prop} (h : p := by first | rfl | (simp; done) | (simp [*]; done)) : p := h
end Go.Proofs.YtlmjdchcgfpngaaW.PrintMore

end
section
namespace Go.Proofs.Ytlmjdchcgfpngaa.P
open Go.RowKit Go.Proofs.YtlmjdchcgfpngaaW.PrintWords
def GlobX (w : World) : Prop := True
theorem GlobX.below {w w1 : World} (h : GlobX w) (hb : Below w.heap.size w w1) : GlobX w1 := trivial
def Glob (w : World) : Prop := Lib.TabIs Try.prog w "internal/strconv.uint64pow10" .u64 Lib.pow10Tab ∧ GlobX w
theorem Glob.below {w w1 : World} (h : Glob w) (hb : Below w.heap.size w w1) : Glob w1 := by
 refine ⟨?_, GlobX.below h.2 hb⟩
 have h := h.1
 unfold Lib.TabIs at *
 cases hg : (Try.prog).globalNamed "internal/strconv.uint64pow10" with
 | none => simp [World.var?, hg] at h
 | some g =>
  refine var?_below hb hg ?_ h
  simp only [World.var?, hg, Option.bind_some] at h
  rcases Nat.lt_or_ge g w.heap.size with h1 | h1
  ·
   exact h1
  ·
   rw [Array.getElem?_eq_none h1] at h
   cases h
end Go.Proofs.Ytlmjdchcgfpngaa.P
end
section
namespace Go.Proofs.Ytlmjdchcgfpngaa.P
open Go.RowKit Go.Proofs.YtlmjdchcgfpngaaW.PrintWords Go.Proofs.YtlmjdchcgfpngaaW.PrintLast Go.Proofs.YtlmjdchcgfpngaaW.PrintMore
attribute [local go_sem] max2_int min2_int max_two min_two max_three min_three max_four min_four
structure S84 where
 f0 : Int
 f1 : Int
 f2 : Int
 f3 : Int
 f4 : Int
def zab.l0 : Nat → List Int → Int → Int → Int → Option (Int)
 | 0, _, _, _, _ => none
 | k + 1, x0, x1, x7, x8 => if x8 < x7 then (if 0 ≤ x8 then (if x8 < (x0.length : Int) then (if x1 = (rd x0 x8) then (some x8) else (zab.l0 k x0 x1 x7 (wrap64 (x8 + 1)))) else (none)) else (none)) else (some (-1))
def zab.f (k : Nat) (l0 : List Int) (a1 : Int) : Option (Int) := zab.l0 k l0 a1 (l0.length : Int) 0
theorem zab.calls (k : Nat) (A0 : Option Addr) (c0 : Nat) (l0 : List Int) (a1 : Int) (r : Int) (w : World) (hr0 : Kd.C (Kd.int .i64) w A0 l0.length l0) (hc0 : l0.length ≤ c0) (h : zab.f k l0 a1 = some r) :
  Calls Try.prog 62 #[.slice A0 l0.length c0, .int .i64 a1] w fun e w' => e = .returned (.int .i64 r) ∧ Drawn0 w w' := by
 have HR0 := zA hr0
 have HC0 := zA hc0
 clear hr0 hc0
 have H : (zab.l0 k l0 a1 (l0.length : Int) 0) = some r := h
 clear h
 have H' := zA H
 clear H
 go_enter Try.func62, Try.ntmps62
 go_wp2
 go_loopg [8] k (fun kq v8 w' => ∃ (x8_1 : Int), v8 = .int .i64 x8_1 ∧ Aside0 (zab.l0 kq l0 a1 (l0.length : Int) x8_1 = some r) ∧ Aside0 (kq ≤ k) ∧ Drawn0 w w')
 case atStart => exact ⟨(0), (zF), H', ⟨Nat.le_refl _⟩, by repeat (first | exact Drawn0.refl _ | apply Drawn0.step)⟩
 case round =>
  clear H'
  try clear p2
  obtain ⟨x8_1, rfl, HA, HK1, ⟨m1, rfl⟩⟩ := hrel
  cases gk with
  | zero => exact absurd HA.out (by simp [zab.l0])
  | succ k1 =>
   have H := HA.out
   clear HA
   simp only [zab.l0] at H
   by_cases c3 : x8_1 < (l0.length : Int)
   ·
    rw [if_pos c3] at H
    have c3b0 : decide (x8_1 < (l0.length : Int)) = true := decide_eq_true c3
    clear c3
    by_cases c4 : 0 ≤ x8_1
    ·
     rw [if_pos c4] at H
     have c4b0 : decide (0 ≤ x8_1) = true := decide_eq_true c4
     clear c4
     by_cases c5 : x8_1 < (l0.length : Int)
     ·
      rw [if_pos c5] at H
      have c5b0 : decide (x8_1 < (l0.length : Int)) = true := decide_eq_true c5
      clear c5
      by_cases c6 : a1 = (rd l0 x8_1)
      ·
       rw [if_pos c6] at H
       have c6b0 : (a1 == (rd l0 x8_1)) = true := beq_iff_eq.mpr c6
       have c6b1 : (a1 != (rd l0 x8_1)) = false := bne_eq_false_iff_eq.mpr c6
       clear c6
       obtain rfl := Option.some.inj H
       have p101 : 0 ≤ (x8_1 : Int) := of_decide_eq_true (by first | (with_reducible assumption) | assumption)
       have q101 : x8_1 < (l0.length : Int) := of_decide_eq_true (by first | (with_reducible assumption) | assumption)
       obtain ⟨ad101, e101, hx101_0⟩ := Kd.at_int HR0.out x8_1 p101 q101
       cases e101
       replace p101 := eq_true p101
       replace q101 := eq_true q101
       go_wp2
       go_ret
       exact ⟨zF, by repeat (first | exact Drawn0.refl _ | apply Drawn0.step)⟩
      ·
       rw [if_neg c6] at H
       have c6b0 : (a1 == (rd l0 x8_1)) = false := beq_eq_false_iff_ne.mpr c6
       have c6b1 : (a1 != (rd l0 x8_1)) = true := bne_iff_ne.mpr c6
       have H' := zA H
       clear H
       have p101 : 0 ≤ (x8_1 : Int) := of_decide_eq_true (by first | (with_reducible assumption) | assumption)
       have q101 : x8_1 < (l0.length : Int) := of_decide_eq_true (by first | (with_reducible assumption) | assumption)
       obtain ⟨ad101, e101, hx101_0⟩ := Kd.at_int HR0.out x8_1 p101 q101
       cases e101
       replace p101 := eq_true p101
       replace q101 := eq_true q101
       go_wp2
       go_roundg k1
       case measure => have := HK1.out; omega
       case rel => exact ⟨(wrap64 (x8_1 + 1)), (zF), H', ⟨by have := HK1.out; omega⟩, by repeat (first | exact Drawn0.refl _ | apply Drawn0.step)⟩
     ·
      rw [if_neg c5] at H
      exact absurd H (by simp)
    ·
     rw [if_neg c4] at H
     exact absurd H (by simp)
   ·
    rw [if_neg c3] at H
    have c3b0 : decide (x8_1 < (l0.length : Int)) = false := decide_eq_false c3
    clear c3
    obtain rfl := Option.some.inj H
    go_wp2
    go_ret
    exact ⟨zF, by repeat (first | exact Drawn0.refl _ | apply Drawn0.step)⟩
def Ev {α : Type} (F : Nat → Option α) (r : α) : Prop := ∃ K, ∀ k, K ≤ k → F k = some r
theorem Ev.const {α : Type} (r : α) : Ev (fun _ => some r) r := ⟨0, fun _ _ => rfl⟩
theorem Ev.congr {α : Type} {F G : Nat → Option α} {r : α} (h : ∀ k, F k = G k) (hg : Ev G r) : Ev F r := by
 obtain ⟨K, hK⟩ := hg
 exact ⟨K, fun k hk => (h k).trans (hK k hk)⟩
theorem Ev.step {α : Type} {F G : Nat → Option α} {r : α} (h : ∀ k, F (k + 1) = G k) (hg : Ev G r) : Ev F r := by
 obtain ⟨K, hK⟩ := hg
 refine ⟨K + 1, fun k hk => ?_⟩
 obtain ⟨m, rfl⟩ : ∃ m, k = m + 1 := ⟨k - 1, by omega⟩
 exact (h m).trans (hK m (by omega))
theorem Ev.get {α : Type} {F : Nat → Option α} {r : α} (h : Ev F r) : ∃ k, F k = some r := by
 obtain ⟨K, hK⟩ := h
 exact ⟨K, hK K (Nat.le_refl _)⟩
theorem w64s {x : Int} (h0 : -9223372036854775808 ≤ x) (h1 : x < 9223372036854775808) : wrap64 x = x := by unfold wrap64; omega
def val (B : Nat) : List Int → Nat
 | [] => 0
 | x :: xs => x.toNat + B * val B xs
def Dig (B : Nat) (l : List Int) : Prop := ∀ x ∈ l, 0 ≤ x ∧ x < (B : Int)
theorem Dig.cons {B : Nat} {x : Int} {l : List Int} (h : Dig B (x :: l)) : (0 ≤ x ∧ x < (B : Int)) ∧ Dig B l := ⟨h x (by simp), fun y hy => h y (by simp [hy])⟩
theorem Dig.mk {B : Nat} {x : Int} {l : List Int} (h0 : 0 ≤ x) (h1 : x < (B : Int)) (h : Dig B l) : Dig B (x :: l) := by
 intro y hy
 rcases List.mem_cons.1 hy with rfl | hy
 ·
  exact ⟨h0, h1⟩
 ·
  exact h y hy
theorem Dig.nil (B : Nat) : Dig B [] := by intro x hx; cases hx
theorem Dig.app {B : Nat} {a b : List Int} (ha : Dig B a) (hb : Dig B b) : Dig B (a ++ b) := by
 intro x hx
 rcases List.mem_append.1 hx with h | h
 ·
  exact ha x h
 ·
  exact hb x h
def V (B : Nat) (l : List Int) (i : Nat) : Nat := val B (l.drop i)
theorem Dig.get {B : Nat} (hB : 0 < B) {l : List Int} (h : Dig B l) (i : Nat) : 0 ≤ l.getD i 0 ∧ l.getD i 0 < (B : Int) := by
 by_cases hi : i < l.length
 ·
  rw [List.getD_eq_getElem?_getD, List.getElem?_eq_getElem hi]
  exact h _ (List.getElem_mem hi)
 ·
  rw [List.getD_eq_getElem?_getD, List.getElem?_eq_none (by omega)]
  simp
  omega
theorem rd_nat (l : List Int) (i : Nat) : rd l (i : Int) = l.getD i 0 := by
 unfold rd
 simp
theorem wsub1 (i : Nat) (h : i < 4611686018427387904) (h0 : 0 < i) : wrap64 ((i : Int) - 1) = ((i - 1 : Nat) : Int) := by rw [w64s (by omega) (by omega)]; omega
def TabAt (w : World) (b s : Nat) (l : List Int) (last : Int) : Prop :=
 b ≠ s ∧ w.heap[b]? = some (.cells #[.slice (some ⟨s, 0, none⟩) l.length l.length, .int .i64 last] 94 (0, 0)) ∧ w.heap[s]? = some (.cells (l.map (Value.int .i64)).toArray 3 (0, 0)) ∧ l.length ≤ 64
theorem made_map (m : Nat) : madeCells #[.int .i64 0] m = ((List.replicate m (0 : Int)).map (Value.int .i64)).toArray := by
 apply Array.ext
 ·
  simp [size_madeCells]
 ·
  intro i h1 h2
  simp [madeCells, Nat.mod_one]
theorem table_New_ok (m : Nat) (h1 : 1 ≤ m) (h2 : m ≤ 64) (w : World) :
  Calls Try.prog 22 #[.int .i64 (m : Int)] w fun e w' => ∃ b s, e = .returned (.tuple #[.pointer (some ⟨b, 0, none⟩), .int .i64 0]) ∧ w.heap.size ≤ b ∧ w.heap.size ≤ s ∧ TabAt w' b s (List.replicate m 0) 0 ∧ Below w.heap.size w w' := by
 have d1 : decide ((m : Int) < 1) = false := decide_eq_false (by omega)
 have d2 : decide ((m : Int) > 64) = false := decide_eq_false (by omega)
 have hmk := print_make (P := Try.prog) 38 3 .i64 8 Try.underlying38 (by kernel_rfl) (by decide) m (by omega)
 go_enter Try.func22, Try.ntmps22
 go_wp2_with fail
 go_ret2
 refine ⟨w.heap.size + 1, w.heap.size, by simp, by omega, Nat.le_refl _, ⟨by omega, ?_, ?_, by simpa using h2⟩, zac (zac (Below.refl _ _) _) _⟩
 ·
  have := zai (w.alloc (.cells (madeCells #[.int .i64 0] m) 3)) (.cells #[.slice (some ⟨w.heap.size, 0, none⟩) m m, .int .i64 0] 94)
  rw [show (w.alloc (.cells (madeCells #[.int .i64 0] m) 3)).heap.size = w.heap.size + 1 by simp] at this
  rw [List.length_replicate]
  exact this
 ·
  have := blk_alloc (zai w (.cells (madeCells #[.int .i64 0] m) 3)) (.cells #[.slice (some ⟨w.heap.size, 0, none⟩) m m, .int .i64 0] 94)
  rw [made_map m] at this
  rw [made_map m]
  exact this
theorem TabAt.mem {w : World} {b s : Nat} {l : List Int} {last : Int} (h : TabAt w b s l last) : Kd.C (Kd.int .i64) w (some ⟨s, 0, none⟩) l.length l := by
 refine ⟨rfl, by have := h.2.2.2; omega, fun _ => ⟨_, rfl, fun j p hj => ⟨[.int .i64 p], rfl, rfl, fun i u hu => ?_⟩⟩⟩
 match i, hu with
 | 0, hu =>
  have e : (Addr.add ⟨s, 0, none⟩ (j * (Kd.int .i64).sz + 0)) = ⟨s, j, none⟩ := by
   show (Addr.add ⟨s, 0, none⟩ (j * 1 + 0)) = _
   rw [Nat.mul_one, Nat.add_zero, add_plain]
  rw [e, za h.2.2.1 j]
  simp [hj]
  simpa using hu
theorem TabAt.below {w w' : World} {b s n : Nat} {l : List Int} {last : Int} (h : TabAt w b s l last) (hb : Below n w w') (h1 : b < n) (h2 : s < n) : TabAt w' b s l last :=
 ⟨h.1, (hb.block b h1).trans h.2.1, (hb.block s h2).trans h.2.2.1, h.2.2.2⟩
theorem TabAt.lt {w : World} {b s : Nat} {l : List Int} {last : Int} (h : TabAt w b s l last) : b < w.heap.size ∧ s < w.heap.size := ⟨zah h.2.1, zah h.2.2.1⟩
theorem TabAt.keep {w w' : World} {b s : Nat} {l : List Int} {last : Int} (h : TabAt w b s l last) (hb : Below w.heap.size w w') : TabAt w' b s l last := h.below hb h.lt.1 h.lt.2
theorem TabAt.set {w : World} {b s : Nat} {l : List Int} {last : Int} (h : TabAt w b s l last) (i : Nat) (x : Int) : TabAt (w.setCell ⟨s, i, none⟩ (.int .i64 x)) b s (l.set i x) last := by
 refine ⟨h.1, ?_, ?_, by rw [List.length_set]; exact h.2.2.2⟩
 ·
  rw [Below.heap_setCell _ _ _ _ h.1, h.2.1, List.length_set]
 ·
  rw [blk_set h.2.2.1]
  simp [List.map_set]
theorem TabAt.push {w : World} {b s : Nat} {l : List Int} {last : Int} (h : TabAt w b s l last) (x : Int) : TabAt (w.setCell ⟨b, 1, none⟩ (.int .i64 x)) b s l x := by
 refine ⟨h.1, ?_, ?_, h.2.2.2⟩
 ·
  rw [blk_set h.2.1]
  rfl
 ·
  rw [Below.heap_setCell _ _ _ _ (fun e => h.1 e.symm), h.2.2.1]
theorem TabAt.facts {w : World} {b s : Nat} {l : List Int} {last : Int} (h : TabAt w b s l last) :
  w.cell? ⟨b, 0, none⟩ = some (.slice (some ⟨s, 0, none⟩) l.length l.length) ∧ w.cell? ⟨b, 1, none⟩ = some (.int .i64 last) ∧ w.frozen? ⟨b, 1, none⟩ = false ∧ ∀ i : Nat, w.frozen? ⟨s, i, none⟩ = false :=
 ⟨(za h.2.1 0).trans rfl, (za h.2.1 1).trans rfl, zaa h.2.1 1, fun i => zaa h.2.2.1 i⟩
theorem TabAt.drew {w : World} {b s : Nat} {l : List Int} {last : Int} (h : TabAt w b s l last) : TabAt w.drew b s l last := h
theorem TabAt.slot {w : World} {b s : Nat} {l : List Int} {last : Int} (h : TabAt w b s l last) {i : Nat} (hi : i < l.length) : w.cell? ⟨s, i, none⟩ = some (.int .i64 (l.getD i 0)) := by
 rw [za h.2.2.1 i]
 simp [hi]
theorem table_Add_full {w : World} {b s : Nat} {l : List Int} {last : Int} (k : Nat) (r : Int) (h : TabAt w b s l last) (hx : zab.f k l 0 = some r) (hr : r < 0 ∨ 0 ≤ r ∧ last = 2147483648) :
  Calls Try.prog 50 #[.pointer (some ⟨b, 0, none⟩)] w fun e w' => e = .returned (.tuple #[.int .i64 0, .int .i64 0, .int .i64 6]) ∧ Drawn0 w w' := by
 have H := Aside0.mk h
 have HX := Aside0.mk hx
 obtain ⟨f0, f1, f2, f3⟩ := h.facts
 clear h hx f3
 go_enter Try.func50, Try.ntmps50
 go_wp2_with fail
 go_at_call 62
 refine (zab.calls k _ _ l 0 _ _ H.out.mem (Nat.le_refl _) HX.out).mono ?_
 rintro e w1 ⟨rfl, hd⟩
 have D1 := Aside0.mk hd
 have H1 := Aside0.mk (H.out.keep hd.below)
 obtain ⟨g0, g1, g2, g3⟩ := H1.out.facts
 clear hd f0 f1 f2 g3
 rcases hr with hr | ⟨hr, rfl⟩
 ·
  have d1 : decide (r < 0) = true := decide_eq_true hr
  go_wp2_with fail
  go_ret3
  exact ⟨rfl, D1.out⟩
 ·
  have d1 : decide (r < 0) = false := decide_eq_false (by omega)
  go_wp2_with fail
  go_ret3
  exact ⟨rfl, D1.out⟩
theorem Ev.pos_ {α : Type} {c : Prop} [Decidable c] {F G : Nat → Option α} {r : α} (hc : c) (h : Ev F r) : Ev (fun k => if c then F k else G k) r := Ev.congr (fun k => if_pos hc) h
theorem Ev.neg_ {α : Type} {c : Prop} [Decidable c] {F G : Nat → Option α} {r : α} (hc : ¬ c) (h : Ev G r) : Ev (fun k => if c then F k else G k) r := Ev.congr (fun k => if_neg hc) h
theorem index_step {l : List Int} {a r : Int} {j : Nat} (hl : l.length ≤ 1000) (hj : j < l.length) (hn : l.getD j 0 ≠ a) (h : Ev (fun k => zab.l0 k l a (l.length : Int) ((j + 1 : Nat) : Int)) r) : Ev (fun k => zab.l0 k l a (l.length : Int) (j : Int)) r := by
 refine Ev.step (fun _ => zab.l0.eq_2 ..) (Ev.pos_ (by omega) (Ev.pos_ (by omega) (Ev.pos_ (by omega) (Ev.neg_ ?_ ?_))))
 ·
  rw [rd_nat]
  exact fun e => hn e.symm
 ·
  rw [w64s (by omega) (by omega)]
  exact h
theorem index_first {l : List Int} {a : Int} {i : Nat} (hl : l.length ≤ 1000) (hi : i < l.length) (h : l.getD i 0 = a) (hb : ∀ j, j < i → l.getD j 0 ≠ a) : ∃ k, zab.f k l a = some (i : Int) := by
 have go : ∀ d j, j + d = i → Ev (fun k => zab.l0 k l a (l.length : Int) (j : Int)) (i : Int) := by
  intro d
  induction d with
  | zero =>
   intro j hj
   obtain rfl : j = i := by omega
   refine Ev.step (fun _ => zab.l0.eq_2 ..) (Ev.pos_ (by omega) (Ev.pos_ (by omega) (Ev.pos_ (by omega) (Ev.pos_ ?_ (Ev.const _)))))
   rw [rd_nat]
   exact h.symm
  | succ d ih =>
   intro j hj
   exact index_step hl (by omega) (hb j (by omega)) (ih (j + 1) (by omega))
 exact Ev.get (go i 0 (by omega))
theorem index_none {l : List Int} {a : Int} (hl : l.length ≤ 1000) (hb : ∀ j, j < l.length → l.getD j 0 ≠ a) : ∃ k, zab.f k l a = some (-1) := by
 have go : ∀ d j, j + d = l.length → Ev (fun k => zab.l0 k l a (l.length : Int) (j : Int)) (-1) := by
  intro d
  induction d with
  | zero =>
   intro j hj
   exact Ev.step (fun _ => zab.l0.eq_2 ..) (Ev.neg_ (by omega) (Ev.const _))
  | succ d ih =>
   intro j hj
   exact index_step hl (by omega) (hb j (by omega)) (ih (j + 1) (by omega))
 exact Ev.get (go l.length 0 (by omega))
theorem index_any {l : List Int} (a : Int) (hl : l.length ≤ 1000) : (∃ i k, i < l.length ∧ l.getD i 0 = a ∧ zab.f k l a = some ((i : Nat) : Int)) ∨ ∃ k, zab.f k l a = some (-1) ∧ ∀ j, j < l.length → l.getD j 0 ≠ a := by
 have go : ∀ d j, j + d = l.length → (∀ q, q < j → l.getD q 0 ≠ a) → (∃ i, i < l.length ∧ l.getD i 0 = a ∧ ∀ q, q < i → l.getD q 0 ≠ a) ∨ ∀ q, q < l.length → l.getD q 0 ≠ a := by
  intro d
  induction d with
  | zero =>
   intro j hj hb
   exact .inr fun q hq => hb q (by omega)
  | succ d ih =>
   intro j hj hb
   by_cases h : l.getD j 0 = a
   ·
    exact .inl ⟨j, by omega, h, hb⟩
   ·
    refine ih (j + 1) (by omega) fun q hq => ?_
    by_cases e : q = j
    ·
     rw [e]
     exact h
    ·
     exact hb q (by omega)
 rcases go l.length 0 (by omega) (fun q hq => absurd hq (by omega)) with ⟨i, hi, h, hb⟩ | hn
 ·
  obtain ⟨k, hk⟩ := index_first hl hi h hb
  exact .inl ⟨i, k, hi, h, hk⟩
 ·
  obtain ⟨k, hk⟩ := index_none hl hn
  exact .inr ⟨k, hk, hn⟩
theorem filter_set : ∀ (l : List Int) (i : Nat) (x : Int), i < l.length → l.getD i 0 = 0 → x ≠ 0 → ((l.set i x).filter fun y => !(y == 0)).Perm (x :: l.filter fun y => !(y == 0))
 | [], i, x, h, _, _ => absurd h (by simp)
 | a :: l, 0, x, h, h0, hx => by
  simp only [List.getD_cons_zero] at h0
  subst h0
  rw [List.set_cons_zero, List.filter_cons, if_pos (by simpa using hx), List.filter_cons, if_neg (by simp)]
 | a :: l, i + 1, x, h, h0, hx => by
  rw [List.getD_cons_succ] at h0
  have ih := filter_set l i x (by simpa using h) h0 hx
  rw [List.set_cons_succ, List.filter_cons, List.filter_cons]
  split
  ·
   exact (List.Perm.cons a ih).trans (List.Perm.swap x a _)
  ·
   exact ih
def TabF (w : World) (b s room : Nat) (last : Int) (ids : List Int) : Prop :=
 ∃ l, TabAt w b s l last ∧ l.length = room ∧ (l.filter fun y => !(y == 0)).Perm ids
theorem TabF.lt {w : World} {b s room : Nat} {last : Int} {ids : List Int} (h : TabF w b s room last ids) : b < w.heap.size ∧ s < w.heap.size := by
 obtain ⟨l, h, _⟩ := h
 exact h.lt
theorem TabF.ne {w : World} {b s room : Nat} {last : Int} {ids : List Int} (h : TabF w b s room last ids) : b ≠ s := by
 obtain ⟨l, h, _⟩ := h
 exact h.1
theorem TabF.blocks {w w' : World} {b s room : Nat} {last : Int} {ids : List Int} (h : TabF w b s room last ids) (h1 : w'.heap[b]? = w.heap[b]?) (h2 : w'.heap[s]? = w.heap[s]?) : TabF w' b s room last ids := by
 obtain ⟨l, ⟨g1, g2, g3, g4⟩, hl, hp⟩ := h
 exact ⟨l, ⟨g1, h1.trans g2, h2.trans g3, g4⟩, hl, hp⟩
theorem tabF_New (m : Nat) (h1 : 1 ≤ m) (h2 : m ≤ 64) (w : World) :
  Calls Try.prog 22 #[.int .i64 (m : Int)] w fun e w' => ∃ b s, e = .returned (.tuple #[.pointer (some ⟨b, 0, none⟩), .int .i64 0]) ∧ w.heap.size ≤ b ∧ w.heap.size ≤ s ∧ TabF w' b s m 0 [] ∧ Below w.heap.size w w' := by
 refine (table_New_ok m h1 h2 w).mono ?_
 rintro e w' ⟨b, s, rfl, hb, hs, ht, hw⟩
 refine ⟨b, s, rfl, hb, hs, ⟨_, ht, by simp, ?_⟩, hw⟩
 rw [List.filter_eq_nil_iff.2 (fun x hx => by rw [List.eq_of_mem_replicate hx]; simp)]
theorem tabF_full {w : World} {b s room : Nat} {last : Int} {ids : List Int} (h : TabF w b s room last ids) (hl : ids.length = room) :
  Calls Try.prog 50 #[.pointer (some ⟨b, 0, none⟩)] w fun e w' => e = .returned (.tuple #[.int .i64 0, .int .i64 0, .int .i64 6]) ∧ Drawn0 w w' := by
 obtain ⟨l, ht, hlen, hp⟩ := h
 have h64 := ht.2.2.2
 rcases index_any (l := l) 0 (by omega) with ⟨i, k, hi, hx, hk⟩ | ⟨k, hk, hn⟩
 ·
  exfalso
  have h1 := hp.length_eq
  have h2 := (filter_set l i 1 hi hx (by omega)).length_eq
  have h3 := List.length_filter_le (fun y : Int => !(y == 0)) (l.set i 1)
  rw [List.length_set] at h3
  rw [List.length_cons] at h2
  omega
 ·
  exact table_Add_full k _ ht hk (.inl (by omega))
noncomputable def mkR {α : Type} (mk : α → Value) (v : Value) : Option (DataW α × List MemPlace) :=
 open Classical in if h : ∃ a, mk a = v then some (.held h.choose, []) else none
theorem mkR_mk {α : Type} {mk : α → Value} (hi : ∀ a b, mk a = mk b → a = b) (a : α) : mkR mk (mk a) = some (.held a, []) := by
 have h : ∃ b, mk b = mk a := ⟨a, rfl⟩
 unfold mkR
 rw [dif_pos h, hi _ _ h.choose_spec]
theorem mkR_inv {α : Type} {mk : α → Value} {v : Value} {y : DataW α × List MemPlace} (h : mkR mk v = some y) : ∃ a, v = mk a ∧ y = (.held a, []) := by
 unfold mkR at h
 split at h
 ·
  rename_i hx
  cases h
  exact ⟨_, hx.choose_spec.symm, rfl⟩
 ·
  cases h
def HoldsM {α : Type} (D : DataW α) (g : Int → Option α) : Prop :=
 ∀ k, (g k = none → Maps.has D (.int .i64 k) = false) ∧ ∀ a, g k = some a → ∀ z, D.atKey (.int .i64 k) z = .held a
theorem HoldsM.has {α : Type} {D : DataW α} {g : Int → Option α} (h : HoldsM D g) (k : Int) : Maps.has D (.int .i64 k) = (g k).isSome := by
 cases hg : g k with
 | none => exact (h k).1 hg
 | some a => exact Maps.has_true_of_atKey ((h k).2 a hg)
def MapAt {α : Type} (P : Program) (kt : TypeId) (mk : α → Value) (w : World) (b n : Nat) (g : Int → Option α) : Prop :=
 ∃ D : DataW α, w.ownsMap P kt (mkR mk) b n D ∧ HoldsM D g
section
variable {α : Type} {P : Program} {kt : TypeId} {mk : α → Value} {w : World} {b n : Nat} {g : Int → Option α}
theorem MapAt.lt (h : MapAt P kt mk w b n g) : b < w.heap.size := by
 obtain ⟨D, h, _⟩ := h
 exact h.lt
theorem MapAt.kept {w' : World} {row : Option Nat} (h : MapAt P kt mk w b n g) (hg : w.grownBy w' row) (hne : some b ≠ row) : MapAt P kt mk w' b n g := by
 obtain ⟨D, h, hd⟩ := h
 exact ⟨D, h.kept hg hne, hd⟩
theorem MapAt.below {w' : World} {m : Nat} (h : MapAt P kt mk w b n g) (hb : Below m w w') (hm : b < m) : MapAt P kt mk w' b n g := by
 obtain ⟨D, ⟨es, clock, h1, h2⟩, hd⟩ := h
 exact ⟨D, ⟨es, clock, (hb.block b hm).trans h1, h2⟩, hd⟩
theorem MapAt.keep {w' : World} (h : MapAt P kt mk w b n g) (hb : Below w.heap.size w w') : MapAt P kt mk w' b n g := h.below hb h.lt
theorem MapAt.mono {n' : Nat} (h : MapAt P kt mk w b n g) (hn : n ≤ n') : MapAt P kt mk w b n' g := by
 obtain ⟨D, h, hd⟩ := h
 exact ⟨D, h.mono hn, hd⟩
theorem MapAt.set {a : Addr} (h : MapAt P kt mk w b n g) (ha : b ≠ a.block) (u : Value) : MapAt P kt mk (w.setCell a u) b n g := by
 obtain ⟨D, h, hd⟩ := h
 exact ⟨D, h.setCell ha u, hd⟩
theorem MapAt.ext {g' : Int → Option α} (h : MapAt P kt mk w b n g) (e : ∀ k, g' k = g k) : MapAt P kt mk w b n g' := by
 rw [show g' = g from funext e]
 exact h
theorem MapAt.made (P : Program) (kt : TypeId) (mk : α → Value) (w : World) : MapAt P kt mk (w.alloc (.map #[] 0)) w.heap.size 0 (fun _ => none) :=
 ⟨_, World.ownsMap_made w P kt (mkR mk), fun k => ⟨fun _ => rfl, fun a h => by cases h⟩⟩
theorem mapTurned_below {w' : World} (h : w.mapTurned w' b) {m : Nat} (hm : m ≤ b) : Below m w w' := by
 have hg := h.grown
 obtain ⟨es, clock, es', clock', hb, rfl⟩ := h
 have := zah hb
 exact (Below.refl m w).grown hg (by omega) (fun k e => by cases e; exact hm)
theorem MapAt.look2 {t e : TypeId} {z : Value} {k : Int} (h : MapAt P kt mk w b n g) (hk : P.underlying kt = some (.int .i64)) (ht : P.underlying t = some (.map kt e)) (hz : (zeroValue e).run P w = .ok z w) (wf : (Lit.int .i64 k).wf = true) :
  (∀ a, g k = some a → (Instr.lookup t (.map (some b)) (.int .i64 k) true).run P w = .ok (.tuple #[mk a, .bool true]) w) ∧ (g k = none → (Instr.lookup t (.map (some b)) (.int .i64 k) true).run P w = .ok (.tuple #[z, .bool false]) w) := by
 obtain ⟨D, ⟨es, clock, hb, F, _, rfl⟩, hd⟩ := h
 rcases Maps.fit_look true (Maps.int_keyed hk) ht hz hb F (Maps.keyOf_int_mk hk wf) with ⟨hrun, _, hat⟩ | ⟨e0, y, _, _, hrun, hRv, hat, _⟩
 ·
  refine ⟨fun a ha => ?_, fun _ => hrun⟩
  have h1 := hd.has k
  rw [Maps.has_false_of_atKey hat, ha] at h1
  cases h1
 ·
  refine ⟨fun a ha => ?_, fun hn => ?_⟩
  ·
   obtain ⟨a', e1, e2⟩ := mkR_inv hRv
   have h2 := (hd k).2 a ha .nil
   rw [hat .nil, e2] at h2
   cases h2
   rw [e1] at hrun
   exact hrun
  ·
   have h1 := hd.has k
   rw [Maps.has_true_of_atKey hat, hn] at h1
   cases h1
theorem HoldsM.put {D : DataW α} (h : HoldsM D g) (hD : Maps.IsMap D) (k : Int) (a : α) : HoldsM (D.put (.int .i64 k) (.held a)) (fun j => if j = k then some a else g j) := by
 intro j
 by_cases e : j = k
 ·
  subst e
  refine ⟨fun hn => ?_, fun a' ha z => ?_⟩
  ·
   dsimp only at hn
   rw [if_pos rfl] at hn
   cases hn
  ·
   dsimp only at ha
   rw [if_pos rfl] at ha
   cases ha
   exact Maps.atKey_put_same hD (show WideAt.IsKeyLit (.int .i64 j) from trivial) _ _
 ·
  have hne : (Lit.int .i64 j) ≠ .int .i64 k := fun e1 => e (by cases e1; rfl)
  refine ⟨fun hn => ?_, fun a' ha z => ?_⟩
  ·
   dsimp only at hn
   rw [if_neg e] at hn
   rw [Maps.has_put_other hne]
   exact (h j).1 hn
  ·
   dsimp only at ha
   rw [if_neg e] at ha
   rw [Maps.atKey_put_other hne]
   exact (h j).2 a' ha z
theorem HoldsM.del {D : DataW α} (h : HoldsM D g) (k : Int) : HoldsM (D.del (.int .i64 k)) (fun j => if j = k then none else g j) := by
 intro j
 by_cases e : j = k
 ·
  subst e
  refine ⟨fun _ => Maps.has_del_same, fun a' ha z => ?_⟩
  dsimp only at ha
  rw [if_pos rfl] at ha
  cases ha
 ·
  have hne : (Lit.int .i64 j) ≠ .int .i64 k := fun e1 => e (by cases e1; rfl)
  refine ⟨fun hn => ?_, fun a' ha z => ?_⟩
  ·
   dsimp only at hn
   rw [if_neg e] at hn
   rw [Maps.has_del_other hne]
   exact (h j).1 hn
  ·
   dsimp only at ha
   rw [if_neg e] at ha
   rw [Maps.atKey_del_other hne]
   exact (h j).2 a' ha z
theorem MapAt.store {t e : TypeId} (h : MapAt P kt mk w b n g) (hi : ∀ a b, mk a = mk b → a = b) (hk : P.underlying kt = some (.int .i64)) (ht : P.underlying t = some (.map kt e)) (hn : n < maxLen) {k : Int} (wf : (Lit.int .i64 k).wf = true) (a : α) :
  ∃ w', (Instr.mapUpdate t (.map (some b)) (.int .i64 k) (mk a)).run P w = .ok () w' ∧ MapAt P kt mk w' b (n + 1) (fun j => if j = k then some a else g j) ∧ w.mapTurned w' b := by
 obtain ⟨D, h, hd⟩ := h
 obtain ⟨w', hrun, ho, ht'⟩ := h.store (Maps.int_keyed hk) ht hn (Maps.keyOf_int_mk hk wf) (mkR_mk hi a)
 exact ⟨w', hrun, ⟨_, ho, hd.put h.isMap k a⟩, ht'⟩
theorem MapAt.drop {t e : TypeId} (h : MapAt P kt mk w b n g) (hk : P.underlying kt = some (.int .i64)) (ht : P.underlying t = some (.map kt e)) {k : Int} (wf : (Lit.int .i64 k).wf = true) (ty : TypeId) :
  ∃ w', (Builtin.delete_ #[t, kt] ty #[.map (some b), .int .i64 k]).run P w = .ok (.tuple #[]) w' ∧ MapAt P kt mk w' b n (fun j => if j = k then none else g j) ∧ w.mapTurned w' b := by
 obtain ⟨D, h, hd⟩ := h
 obtain ⟨w', hrun, ho, ht'⟩ := h.drop (Maps.int_keyed hk) ht (Maps.keyOf_int_mk hk wf) ty
 exact ⟨w', hrun, ⟨_, ho, hd.del k⟩, ht'⟩
theorem MapAt.len {t e : TypeId} (h : MapAt P kt mk w b n g) (ht : P.underlying t = some (.map kt e)) (hk : P.underlying kt = some (.int .i64)) : ∃ m : Nat, m ≤ n ∧ (m = 0 ↔ ∀ k, g k = none) ∧ ∀ ty, (Builtin.len_ #[t] ty #[.map (some b)]).run P w = .ok (.int .i64 m) w := by
 obtain ⟨D, h, hd⟩ := h
 refine ⟨Maps.size D, h.size_le, ⟨fun e0 k => ?_, fun hn => ?_⟩, fun ty => h.len ht ty⟩
 ·
  obtain ⟨es, rfl⟩ := h.isMap
  have h1 := hd.has k
  rw [Maps.size_eq] at e0
  rw [List.length_eq_zero_iff.1 e0] at h1
  cases hg : g k with
  | none => rfl
  | some a =>
   rw [hg] at h1
   cases h1
 ·
  obtain ⟨es, e1, _, hp⟩ := h.entries (Maps.int_keyed hk)
  subst e1
  cases es with
  | nil => rfl
  | cons p r =>
   obtain ⟨es', clock, hb, F, hs, hD⟩ := h
   have h1 : p ∈ (es'.toList.map (WideElems.rg P kt (mkR mk))).foldr DataW.insert [] := by
    have : DataW.map (p :: r) = DataW.map ((es'.toList.map (WideElems.rg P kt (mkR mk))).foldr DataW.insert []) := hD
    injection this with this
    rw [← this]
    exact List.mem_cons_self
   obtain ⟨x, hx, rfl⟩ := List.mem_map.1 (mem_sorted.1 h1)
   obtain ⟨y, hy⟩ := F.reads x hx
   obtain ⟨k, _, e2, _⟩ := Maps.keyOf_int_inv hk (WideElems.rd_key hy)
   have h2 := hd.has k
   rw [hn k, Maps.has_eq, WideElems.rg_of hy] at h2
   rw [← e2] at h2
   simp [WideAt.sameKey_self (show WideAt.IsKeyLit y.1 by rw [e2]; trivial)] at h2
end
def RangeAt {α : Type} (P : Program) (kt : TypeId) (mk : α → Value) (w : World) (b r n : Nat) (g : Int → Option α) (left : Int → Bool) (cnt : Nat) : Prop :=
 ∃ (D : DataW α) (l : Lit → Bool), w.ranges P kt (mkR mk) b r n D l cnt ∧ HoldsM D g ∧ ∀ k, l (.int .i64 k) = left k
section
variable {α : Type} {P : Program} {kt : TypeId} {mk : α → Value} {w : World} {b r n cnt : Nat} {g : Int → Option α} {left : Int → Bool}
theorem RangeAt.owns (h : RangeAt P kt mk w b r n g left cnt) : MapAt P kt mk w b n g := by
 obtain ⟨D, l, h, hd, _⟩ := h
 exact ⟨D, h.owns, hd⟩
theorem RangeAt.lt (h : RangeAt P kt mk w b r n g left cnt) : r < w.heap.size := by
 obtain ⟨D, l, h, hd, _⟩ := h
 exact h.lt
theorem RangeAt.ne (h : RangeAt P kt mk w b r n g left cnt) : r ≠ b := by
 obtain ⟨D, l, h, hd, _⟩ := h
 exact h.ne
theorem RangeAt.below {w' : World} {m : Nat} (h : RangeAt P kt mk w b r n g left cnt) (hb : Below m w w') (h1 : b < m) (h2 : r < m) : RangeAt P kt mk w' b r n g left cnt := by
 obtain ⟨D, l, ⟨es, clock, since, seen, c0, e1, F, hs, hD, e2, rest⟩, hd⟩ := h
 exact ⟨D, l, ⟨es, clock, since, seen, c0, (hb.block b h1).trans e1, F, hs, hD, (hb.block r h2).trans e2, rest⟩, hd⟩
theorem RangeAt.keep {w' : World} (h : RangeAt P kt mk w b r n g left cnt) (hb : Below w.heap.size w w') : RangeAt P kt mk w' b r n g left cnt := h.below hb h.owns.lt h.lt
theorem RangeAt.set {a : Addr} (h : RangeAt P kt mk w b r n g left cnt) (h1 : b ≠ a.block) (h2 : r ≠ a.block) (u : Value) : RangeAt P kt mk (w.setCell a u) b r n g left cnt := by
 obtain ⟨D, l, ⟨es, clock, since, seen, c0, e1, F, hs, hD, e2, rest⟩, hd⟩ := h
 exact ⟨D, l, ⟨es, clock, since, seen, c0, by rw [Below.heap_setCell _ _ _ _ h1]; exact e1, F, hs, hD, by rw [Below.heap_setCell _ _ _ _ h2]; exact e2, rest⟩, hd⟩
theorem MapAt.range {t e : TypeId} (h : MapAt P kt mk w b n g) (hk : P.underlying kt = some (.int .i64)) (ht : P.underlying t = some (.map kt e)) :
  ∃ w' cnt, (Instr.range t (.map (some b))).run P w = .ok (.pointer (some ⟨w.heap.size, 0, none⟩)) w' ∧ RangeAt P kt mk w' b w.heap.size n g (fun k => (g k).isSome) cnt ∧ Below w.heap.size w w' ∧ cnt ≤ n := by
 obtain ⟨D, h, hd⟩ := h
 obtain ⟨w', hrun, hr, hg, _⟩ := h.range (Maps.int_keyed hk) ht
 exact ⟨w', _, hrun, ⟨D, _, hr, hd, fun k => hd.has k⟩, (Below.refl _ _).grown hg (Nat.le_refl _) (fun k e => by cases e), h.size_le⟩
theorem RangeAt.next (h : RangeAt P kt mk w b r n g left cnt) (hk : P.underlying kt = some (.int .i64)) (ty : TypeId) :
  (cnt = 0 ∧ (∀ k, left k = false) ∧ (Instr.next (.pointer (some ⟨r, 0, none⟩)) false ty).run P w = .ok (.tuple #[.bool false]) w) ∨
  ∃ k a w' cnt', (Lit.int .i64 k).wf = true ∧ left k = true ∧ g k = some a ∧ (Instr.next (.pointer (some ⟨r, 0, none⟩)) false ty).run P w = .ok (.tuple #[.bool true, .int .i64 k, mk a]) w' ∧
   RangeAt P kt mk w' b r n g (fun j => left j && !(j == k)) cnt' ∧ cnt' < cnt ∧ (∀ m, m ≤ r → Below m w w') ∧ (Instr.entry (.pointer (some ⟨r, 0, none⟩))).run P w' = .ok (.tuple #[.int .i64 k, mk a]) w' ∧ w.grownBy w' (some r) := by
 obtain ⟨D, l, h, hd, hl⟩ := h
 have hrl := h.lt
 rcases h.next (Maps.int_keyed hk) ty with ⟨h0, h1, hrun⟩ | ⟨key, v, kl, y, w', cnt', hkey, hlk, hv, hat, hrun, hrg, hlt, hgr, hsz, hen⟩
 ·
  exact .inl ⟨h0, fun k => by rw [← hl k]; exact h1 _, hrun⟩
 ·
  obtain ⟨k, rfl, rfl, wf⟩ := Maps.keyOf_int_inv hk hkey
  obtain ⟨a, rfl, rfl⟩ := mkR_inv hv
  refine .inr ⟨k, a, w', cnt', wf, by rw [← hl k]; exact hlk, ?_, hrun, ⟨D, _, hrg, hd, fun j => ?_⟩, hlt, fun m hm => (Below.refl m w).grown hgr (by omega) (fun k e => by cases e; exact hm), hen, hgr⟩
  ·
   cases hg : g k with
   | none =>
    have h1 := (hd k).1 hg
    rw [Maps.has_true_of_atKey hat] at h1
    cases h1
   | some a' =>
    have h1 := (hd k).2 a' hg .nil
    rw [hat .nil] at h1
    injection h1 with h1
    rw [h1]
  ·
   show (l (.int .i64 j) && !(Lit.int .i64 j).sameKey (.int .i64 k)) = _
   rw [hl j]
   have : (Lit.int .i64 j).sameKey (.int .i64 k) = (j == k) := by
    by_cases e : j = k
    ·
     subst e
     rw [WideAt.sameKey_self (show WideAt.IsKeyLit (.int .i64 j) from trivial)]
     simp
    ·
     rw [Maps.sameKey_ne (fun e1 => e (by cases e1; rfl))]
     simp [e]
   rw [this]
theorem RangeAt.store {t e : TypeId} (h : RangeAt P kt mk w b r n g left cnt) (hi : ∀ a b, mk a = mk b → a = b) (hk : P.underlying kt = some (.int .i64)) (ht : P.underlying t = some (.map kt e)) {k : Int} (wf : (Lit.int .i64 k).wf = true) (a : α) (hin : (g k).isSome = true) :
  ∃ w', (Instr.mapUpdate t (.map (some b)) (.int .i64 k) (mk a)).run P w = .ok () w' ∧ RangeAt P kt mk w' b r n (fun j => if j = k then some a else g j) left cnt ∧ w.mapTurned w' b := by
 have hne := h.ne
 obtain ⟨D, l, ⟨es, clock, since, seen, c0, hb, F, hs, rfl, hr, hold, hc, hl1, hl2, hsc, hsk⟩, hd, hl⟩ := h
 have K := Maps.int_keyed (P := P) (k := kt) (q := .i64) hk
 have hkey := Maps.keyOf_int_mk (P := P) (k := kt) (q := .i64) hk wf
 have hv := mkR_mk hi a
 rcases K.find w hkey es.toList F.keys with ⟨h1, h2⟩ | ⟨j, e0, h1, h2, h3⟩
 ·
  exfalso
  have h4 := hd.has k
  rw [hin] at h4
  obtain ⟨p, hp, hpk⟩ := List.any_eq_true.1 h4
  obtain ⟨x, hx, rfl⟩ := List.mem_map.1 (mem_sorted.1 hp)
  obtain ⟨y, hy⟩ := F.reads x hx
  rw [WideElems.rg_of hy] at hpk
  exact h2 x hx (K.inj (WideElems.rd_key hy) ((WideAt.sameKey_eq hpk) ▸ hkey))
 ·
  have hj : es[j]? = some e0 := by simpa using h2
  have hkeyf : ∀ e', es[j]? = some e' → ({ e' with key := .int .i64 k, val := mk a } : MapEntry).key = e'.key := fun e' he' => by rw [hj] at he'; cases he'; exact h3.symm
  have hlist : (es.modify j (fun e' => { e' with key := .int .i64 k, val := mk a })).toList = es.toList.set j { e0 with key := .int .i64 k, val := mk a } := by rw [Array.toList_modify, ChangeMaps.modify_eq_set _ _ _ _ h2]
  have hmem0 : e0 ∈ es.toList := List.mem_of_getElem? h2
  obtain ⟨y0, hy0⟩ := F.reads e0 hmem0
  have who : ∀ x ∈ es.toList.set j { e0 with key := .int .i64 k, val := mk a }, x = { e0 with key := .int .i64 k, val := mk a } ∨ (x ∈ es.toList ∧ x.key ≠ .int .i64 k) := by
   intro x hx
   obtain ⟨i, hi, ex⟩ := List.getElem_of_mem hx
   rw [List.getElem_set] at ex
   split at ex
   ·
    exact Or.inl ex.symm
   ·
    rename_i hne
    have hi' : i < es.toList.length := by simpa using hi
    refine Or.inr ⟨ex ▸ List.getElem_mem hi', ?_⟩
    rw [← h3]
    exact WideElems.other_key F h2 (by rw [List.getElem?_eq_getElem hi', ex]) (fun e1 => hne e1.symm)
  have hy1 := WideElems.rd_mk (born := e0.born) hkey hv
  have e00 : (WideElems.rg P kt (mkR mk) e0).1 = .int .i64 k := by
   rw [WideElems.rg_of hy0]
   have h5 := WideElems.rd_key hy0
   rw [h3, hkey] at h5
   exact (Option.some.inj h5).symm
  have keyEq : ∀ x ∈ es.toList.set j { e0 with key := .int .i64 k, val := mk a }, ∃ x0 ∈ es.toList, x0.born = x.born ∧ (WideElems.rg P kt (mkR mk) x).1 = (WideElems.rg P kt (mkR mk) x0).1 := by
   intro x hx
   rcases who x hx with rfl | ⟨hx', _⟩
   ·
    exact ⟨e0, hmem0, rfl, by rw [e00, WideElems.rg_of hy1]⟩
   ·
    exact ⟨x, hx', rfl, rfl⟩
  have keyEq2 : ∀ x0 ∈ es.toList, ∃ x ∈ es.toList.set j { e0 with key := .int .i64 k, val := mk a }, x.born = x0.born ∧ (WideElems.rg P kt (mkR mk) x).1 = (WideElems.rg P kt (mkR mk) x0).1 := by
   intro x0 hx0
   obtain ⟨i, hi, ex⟩ := List.getElem_of_mem hx0
   by_cases e1 : i = j
   ·
    subst e1
    have : x0 = e0 := by
     rw [List.getElem?_eq_getElem hi, ex] at h2
     exact Option.some.inj h2
    subst this
    exact ⟨{ x0 with key := .int .i64 k, val := mk a }, List.mem_set hi _, rfl, by rw [e00, WideElems.rg_of hy1]⟩
   ·
    refine ⟨x0, ?_, rfl, rfl⟩
    have : (es.toList.set j { e0 with key := .int .i64 k, val := mk a })[i]'(by simpa using hi) = x0 := by
     rw [List.getElem_set_ne (fun e2 => e1 e2.symm)]
     exact ex
    rw [← this]
    exact List.getElem_mem _
  have hF' : WideElems.Fit P kt (mkR mk) (es.modify j (fun e' => { e' with key := .int .i64 k, val := mk a })) clock := by
   refine ⟨by simpa using F.size, MapKept.stamped_modify F.stamped _ _ (fun _ _ => rfl) (fun e' _ he' => hkeyf e' he'), fun x hx => ?_⟩
   rw [hlist] at hx
   rcases who x hx with rfl | ⟨hx', hne⟩
   ·
    exact ⟨_, hy1⟩
   ·
    exact F.reads x hx'
  have hput : ((es.modify j (fun e' => { e' with key := .int .i64 k, val := mk a })).toList.map (WideElems.rg P kt (mkR mk))).foldr DataW.insert [] = ChangeMaps.putKey (.int .i64 k) (.held a) ((es.toList.map (WideElems.rg P kt (mkR mk))).foldr DataW.insert []) := by
   refine Maps.sorted_put K.one ⟨_, hkey⟩ (Maps.fit_keys F) (Maps.fit_apart K F) ?_
   rw [Maps.filter_one K F hkey h2 h3, hlist, List.map_set, WideElems.rg_of hy1]
   exact ChangeMaps.set_perm _ _ (by simpa using (List.getElem?_eq_some_iff.1 h2).1) _
  refine ⟨ChangeMaps.setBlock w b (.map (es.modify j (fun e' => { e' with key := .int .i64 k, val := mk a })) clock), ?_, ⟨_, l, ⟨_, clock, since, seen, c0, ChangeMaps.heap_setBlock_same hb _, hF', by simpa using hs, rfl, (ChangeMaps.heap_setBlock_other hb _ hne).trans hr, fun x hx => ?_, ?_, fun x hx => ?_, fun kl hkl => ?_, hsc, hsk⟩, ?_, hl⟩, ⟨es, clock, _, clock, hb, rfl⟩⟩
  ·
   simp [Instr.mapUpdate, run_underlying ht, MapKept.run_getObj_map hb, K.check w false hkey, h1, hj, h3, K.stays w hkey, MapKept.run_setObj_map _ hb, Result.andThen, ChangeMaps.setBlock]
  ·
   rw [hlist] at hx
   obtain ⟨x0, hx0, e1, _⟩ := keyEq x hx
   rw [← e1]
   exact hold x0 hx0
  ·
   rw [← hc]
   have e1 : ∀ a : Array MapEntry, (leftOf a seen).size = (a.toList.map (fun e => e.born)).countP (fun b => !seen.contains b) := fun a => by
    unfold leftOf
    rw [List.countP_map, ← Array.length_toList, Array.toList_filter, List.countP_eq_length_filter]
    rfl
   rw [e1, e1, hlist, List.map_set]
   congr 1
   have : (es.toList.map (fun e => e.born))[j]? = some e0.born := by rw [List.getElem?_map, h2]; rfl
   obtain ⟨hj2, hj3⟩ := List.getElem?_eq_some_iff.1 this
   show List.set _ j e0.born = _
   rw [← hj3]
   exact List.set_getElem_self hj2
  ·
   rw [hlist] at hx
   obtain ⟨x0, hx0, e1, e2⟩ := keyEq x hx
   rw [e2, hl1 x0 hx0, e1]
  ·
   obtain ⟨x0, hx0, e1⟩ := hl2 kl hkl
   obtain ⟨x, hx, _, e2⟩ := keyEq2 x0 hx0
   exact ⟨x, by rw [hlist]; exact hx, e2.trans e1⟩
  ·
   rw [hput]
   have := hd.put ⟨_, rfl⟩ k a
   rw [DataW.put_eq] at this
   exact this
end
def Ch (pr : Int → Option Int) : List Int → Int → Prop
 | [], id => id < 0
 | x :: c, id => x = id ∧ 0 ≤ id ∧ ∃ p, pr id = some p ∧ Ch pr c p
theorem Ch.uniq {pr : Int → Option Int} : ∀ {c c' : List Int} {id : Int}, Ch pr c id → Ch pr c' id → c = c'
 | [], [], _, _, _ => rfl
 | [], x :: c', id, h, h' => by
  obtain ⟨_, h2, _⟩ := h'
  have h1 : id < 0 := h
  omega
 | x :: c, [], id, h, h' => by
  obtain ⟨_, h2, _⟩ := h
  have h1 : id < 0 := h'
  omega
 | x :: c, y :: c', id, h, h' => by
  obtain ⟨rfl, _, p, hp, h1⟩ := h
  obtain ⟨rfl, _, p', hp', h2⟩ := h'
  rw [hp] at hp'
  cases hp'
  rw [Ch.uniq h1 h2]
theorem Ch.congr {pr pr' : Int → Option Int} : ∀ {c : List Int} {id : Int}, Ch pr c id → (∀ x ∈ c, pr' x = pr x) → Ch pr' c id
 | [], _, h, _ => h
 | x :: c, id, h, he => by
  obtain ⟨rfl, h0, p, hp, h1⟩ := h
  exact ⟨rfl, h0, p, (he x List.mem_cons_self).trans hp, Ch.congr h1 fun y hy => he y (List.mem_cons_of_mem _ hy)⟩
theorem Ch.mem {pr : Int → Option Int} : ∀ {c : List Int} {id x : Int}, Ch pr c id → x ∈ c → 0 ≤ x ∧ ∃ c1 c2, c = c1 ++ x :: c2 ∧ Ch pr (x :: c2) x
 | [], _, _, _, h => by cases h
 | y :: c, id, x, h, hx => by
  have h' := h
  obtain ⟨rfl, h0, p, hp, h1⟩ := h
  rcases List.mem_cons.1 hx with rfl | hx
  ·
   exact ⟨h0, [], c, rfl, h'⟩
  ·
   obtain ⟨g0, c1, c2, e, g1⟩ := Ch.mem h1 hx
   exact ⟨g0, y :: c1, c2, by rw [e]; rfl, g1⟩
theorem Ch.has {pr : Int → Option Int} {c : List Int} {id x : Int} (h : Ch pr c id) (hx : x ∈ c) : ∃ p, pr x = some p := by
 obtain ⟨_, _, _, _, _, _, p, hp, _⟩ := h.mem hx
 exact ⟨p, hp⟩
theorem Ch.nodup {pr : Int → Option Int} : ∀ {c : List Int} {id : Int}, Ch pr c id → c.Nodup
 | [], _, _ => List.nodup_nil
 | x :: c, id, h => by
  have h' := h
  obtain ⟨rfl, h0, p, hp, h1⟩ := h
  refine List.nodup_cons.2 ⟨fun hx => ?_, Ch.nodup h1⟩
  obtain ⟨_, c1, c2, e, h2⟩ := h1.mem hx
  have e2 := Ch.uniq h' h2
  have := congrArg List.length e2
  rw [e] at this
  simp at this
  omega
theorem Ch.head {pr : Int → Option Int} {c : List Int} {id : Int} (h : Ch pr c id) (h0 : 0 ≤ id) : ∃ c', c = id :: c' := by
 cases c with
 | nil => exact absurd h0 (by have : id < 0 := h; omega)
 | cons x c => exact ⟨c, by rw [h.1]⟩
theorem Ch.split {pr : Int → Option Int} {c : List Int} {id x : Int} (h : Ch pr c id) (hx : x ∈ c) {d : List Int} (hd : Ch pr d x) : ∃ c1, c = c1 ++ d ∧ x ∉ c1 := by
 obtain ⟨_, c1, c2, e, h2⟩ := h.mem hx
 obtain rfl := Ch.uniq hd h2
 refine ⟨c1, e, fun hc => ?_⟩
 have := h.nodup
 rw [e, List.nodup_append] at this
 exact this.2.2 x hc x List.mem_cons_self rfl
def fnd (L : List S84) (id : Int) : Option S84 := L.find? (fun g => g.f0 == id)
def Asc (L : List S84) : Prop := L.Pairwise (fun a b => a.f0 < b.f0)
def prt (L : List S84) (id : Int) : Option Int := (fnd L id).map (·.f1)
theorem zae {L : List S84} {id : Int} {g : S84} (h : fnd L id = some g) : g ∈ L ∧ g.f0 = id := by
 refine ⟨List.mem_of_find?_eq_some h, ?_⟩
 have := List.find?_some h
 simpa using this
theorem fnd_none {L : List S84} {id : Int} (h : fnd L id = none) : ∀ g ∈ L, g.f0 ≠ id := by
 intro g hg e
 have := List.find?_eq_none.1 h g hg
 simp [e] at this
theorem Asc.inj {L : List S84} (h : Asc L) {x y : S84} (hx : x ∈ L) (hy : y ∈ L) (e : x.f0 = y.f0) : x = y := by
 induction L with
 | nil => cases hx
 | cons a L ih =>
  obtain ⟨h1, h2⟩ := List.pairwise_cons.1 h
  rcases List.mem_cons.1 hx with rfl | hx'
  ·
   rcases List.mem_cons.1 hy with rfl | hy'
   ·
    rfl
   ·
    have := h1 y (by assumption)
    omega
  ·
   rcases List.mem_cons.1 hy with rfl | hy
   ·
    have := h1 x (by assumption)
    omega
   ·
    exact ih h2 (by assumption) (by assumption)
theorem fnd_mem {L : List S84} (h : Asc L) {g : S84} (hg : g ∈ L) : fnd L g.f0 = some g := by
 cases hf : fnd L g.f0 with
 | none => exact absurd rfl (fnd_none hf g hg)
 | some y =>
  obtain ⟨h1, h2⟩ := zae hf
  rw [h.inj h1 hg h2]
theorem prt_some {L : List S84} {id p : Int} (h : prt L id = some p) : ∃ g ∈ L, g.f0 = id ∧ g.f1 = p := by
 unfold prt at h
 cases hf : fnd L id with
 | none => rw [hf] at h; cases h
 | some g =>
  rw [hf] at h
  cases h
  obtain ⟨h1, h2⟩ := zae hf
  exact ⟨g, h1, h2, rfl⟩
theorem prt_mem {L : List S84} (h : Asc L) {g : S84} (hg : g ∈ L) : prt L g.f0 = some g.f1 := by
 unfold prt
 rw [fnd_mem h hg]
 rfl
noncomputable def way (L : List S84) (id : Int) : List Int :=
 open Classical in if h : ∃ c, Ch (prt L) c id then h.choose else []
theorem zaf {L : List S84} {id : Int} {c : List Int} (h : Ch (prt L) c id) : way L id = c := by
 have h1 : ∃ c, Ch (prt L) c id := ⟨c, h⟩
 unfold way
 rw [dif_pos h1]
 exact Ch.uniq h1.choose_spec h
noncomputable def act (L : List S84) (id : Int) : Int := (L.map fun g => if id ∈ way L g.f0 then g.f4 else 0).sum
def kid (L : List S84) (id : Int) : Int := ((L.filter fun g => g.f1 == id).length : Nat)
def GoodG (last : Int) (L : List S84) (g : S84) : Prop :=
 1 ≤ g.f0 ∧ g.f0 ≤ last ∧ (g.f1 = -1 ∨ 1 ≤ g.f1) ∧ (∃ c, Ch (prt L) c g.f0 ∧ c.length ≤ 8) ∧ (1 ≤ g.f2 ∧ g.f2 ≤ 10000) ∧ 0 ≤ g.f4 ∧ g.f4 ≤ g.f3 ∧ kid L g.f0 + g.f3 ≤ 32
def GoodF (room : Nat) (last : Int) (L : List S84) : Prop :=
 room ≤ 64 ∧ L.length ≤ room ∧ 0 ≤ last ∧ last < 100000 ∧ Asc L ∧ ∀ g ∈ L, GoodG last L g
theorem kid_nonneg (L : List S84) (id : Int) : 0 ≤ kid L id := Int.natCast_nonneg _
theorem kid_le (L : List S84) (id : Int) : kid L id ≤ L.length := by
 unfold kid
 have := List.length_filter_le (fun g : S84 => g.f1 == id) L
 omega
theorem GoodF.way {room : Nat} {last : Int} {L : List S84} (h : GoodF room last L) {g : S84} (hg : g ∈ L) : Ch (prt L) (way L g.f0) g.f0 ∧ (way L g.f0).length ≤ 8 := by
 obtain ⟨_, _, _, ⟨c, hc, hl⟩, _⟩ := h.2.2.2.2.2 g hg
 rw [zaf hc]
 exact ⟨hc, hl⟩
theorem act_bounds {room : Nat} {last : Int} {L : List S84} (h : GoodF room last L) (id : Int) : 0 ≤ act L id ∧ act L id ≤ 2048 := by
 have key : ∀ M : List S84, (∀ g ∈ M, g ∈ L) → 0 ≤ (M.map fun g => if id ∈ P.way L g.f0 then g.f4 else 0).sum ∧ (M.map fun g => if id ∈ P.way L g.f0 then g.f4 else 0).sum ≤ 32 * (M.length : Int) := by
  intro M
  induction M with
  | nil => intro _; simp
  | cons g M ih =>
   intro hM
   obtain ⟨h1, h2⟩ := ih fun x hx => hM x (List.mem_cons_of_mem _ hx)
   obtain ⟨_, _, _, _, _, g4, g5, g6⟩ := h.2.2.2.2.2 g (hM g List.mem_cons_self)
   have := kid_nonneg L g.f0
   rw [List.map_cons, List.sum_cons, List.length_cons]
   split <;> constructor <;> push_cast <;> omega
 have := key L fun _ h => h
 have h1 := h.1
 have h2 := h.2.1
 unfold act
 omega
def kp : Kd Nat := Kd.scalar (fun k => Value.pointer (some ⟨k, 0, none⟩)) (fun _ => rfl)
def ptrO : Option Nat → Value
 | none => .pointer none
 | some b => .pointer (some ⟨b, 0, none⟩)
def PathAt (w : World) : List Nat → Prop
 | [] => True
 | b :: r => (∃ x0 x2 x3 x4 x5 x6, w.heap[b]? = some (.cells #[x0, ptrO r.head?, x2, x3, x4, x5, x6] 71 (0, 0))) ∧ PathAt w r
theorem PathAt.blocks {w w' : World} : ∀ {bs : List Nat}, PathAt w bs → (∀ b ∈ bs, w'.heap[b]? = w.heap[b]?) → PathAt w' bs
 | [], _, _ => trivial
 | b :: r, ⟨⟨x0, x2, x3, x4, x5, x6, h⟩, hr⟩, he => ⟨⟨x0, x2, x3, x4, x5, x6, (he b List.mem_cons_self).trans h⟩, hr.blocks fun c hc => he c (List.mem_cons_of_mem _ hc)⟩
theorem PathAt.lt {w : World} : ∀ {bs : List Nat}, PathAt w bs → ∀ b ∈ bs, b < w.heap.size
 | [], _, _, h => by cases h
 | b :: r, ⟨⟨_, _, _, _, _, _, h⟩, hr⟩, c, hc => by
  rcases List.mem_cons.1 hc with rfl | hc
  ·
   exact zah h
  ·
   exact hr.lt c hc
theorem PathAt.keep {w w' : World} {bs : List Nat} (h : PathAt w bs) (hb : Below w.heap.size w w') : PathAt w' bs := h.blocks fun b hm => hb.block b (h.lt b hm)
theorem info64 : (Try.prog.info? 64).map (fun i => (i.zero, i.size, i.bytes)) = some (some (.pointer none), 1, 8) := by kernel_rfl
theorem PathAt.tail {w : World} : ∀ {a r : List Nat}, PathAt w (a ++ r) → PathAt w r
 | [], _, h => h
 | _ :: a, _, h => PathAt.tail (a := a) h.2
theorem path_ok {w : World} {bs : List Nat} (h : PathAt w bs) (hl : bs.length ≤ 1000) :
  Calls Try.prog 25 #[ptrO bs.head?] w fun e w' => ∃ v, e = .returned v ∧ kp.R 64 w' w.heap.size (fun k => w.heap.size ≤ k) v bs ∧ Below w.heap.size w w' := by
 have H := Aside0.mk h
 clear h
 go_enter Try.func25, Try.ntmps25
 go_wp2_with fail
 go_loopg [0, 3] bs.length (fun gk v0 v3 w' => ∃ (a r : List Nat), bs = a ++ r ∧ r.length = gk ∧ v0 = ptrO r.head? ∧ Aside0 (kp.R 64 w' w.heap.size (fun k => w.heap.size ≤ k) v3 a) ∧ Aside0 (Below w.heap.size w w'))
 case atStart => exact ⟨[], bs, rfl, rfl, rfl, ⟨Kd.R_nil _ _ _ _ _⟩, ⟨Below.refl _ _⟩⟩
 case round =>
  obtain ⟨a, r, hbs, hr, rfl, HO, HW⟩ := hrel
  have HBS := Aside0.mk hbs
  have hal : a.length + r.length = bs.length := by rw [hbs, List.length_append]
  clear hbs
  cases r with
  | nil =>
   dsimp only [List.head?, ptrO]
   go_wp2_with fail
   go_ret
   exact ⟨_, rfl, by rw [HBS.out, List.append_nil]; exact HO.out, HW.out⟩
  | cons b r =>
   rw [List.length_cons] at hr hal
   obtain ⟨⟨x0, x2, x3, x4, x5, x6, hb⟩, _⟩ : PathAt wr (b :: r) := PathAt.tail (a := a) (by rw [← HBS.out]; exact H.out.keep HW.out)
   dsimp only [List.head?, ptrO]
   have hall : (a.length + 1) * 8 ≤ 140737488355328 := by omega
   have HALL := Aside0.mk hall
   have HB := Aside0.mk hb
   have hw := HW.out.size
   obtain ⟨g1, rfl⟩ : ∃ g1, gk = g1 + 1 := ⟨r.length, hr.symm⟩
   have hbne := Kd.R_lt HO.out
   have hbl := zah hb
   have hbb : b < w.heap.size := H.out.lt b (by rw [HBS.out]; simp)
   clear hb hall
   go_wp2_with (first | ((with_reducible refine gate_builtin (b := .append) (xs := #[.tmp 10, .tmp 12]) rfl ?_); at_builtin; refine Kd.R_append kp (w0 := w) w.heap.size rfl (.tmp 10) (.tmp 12) 67 64 (.pointer none) 8 rfl Try.underlying67 info64 rfl (by decide) (by omega) u3 a b [.pointer (some ⟨b, 0, none⟩)] (fun k_ => w.heap.size ≤ k_) (fun _ => False) rfl (by first | rfl | simp [Act.eval]) rfl (fun _ hk => hk.elim) (fun k_ hk => Nat.le_trans hw hk) HO.out HW.out hw HALL.out ?_; intro v9 w9 ho9 hb9 hg9 hat9; have HO9 := Aside0.mk ho9; have HB9 := Aside0.mk hb9; have he9 := (hg9.block _ hbl (fun e => Nat.not_le_of_lt hbb (Kd.R_base HO.out _ e.symm))).trans HB.out; have y0 : w9.cell? ⟨b, 1, none⟩ = some (ptrO r.head?) := (za he9 1).trans rfl; clear ho9 hb9 hg9 hat9 he9))
   go_roundg g1
   case measure => exact Nat.lt_succ_self _
   case rel => exact ⟨a ++ [b], r, by rw [HBS.out]; simp, by omega, by simp, HO9, HB9⟩
theorem kp_at {w : World} {A : Option Addr} {n : Nat} {xs : List Nat} (h : kp.C w A n xs) (i : Nat) (h1 : i < n) : ∃ ad, A = some ad ∧ w.cell? (ad.add i) = some (.pointer (some ⟨xs.getD i 0, 0, none⟩)) := by
 obtain ⟨ad, e, h2⟩ := ReadsOf.at_ (Kd.reads_of_C (enc := fun k : Nat => Value.pointer (some ⟨k, 0, none⟩)) (d := (0 : Nat)) (h1 := fun _ => rfl) h) (i : Int) (by omega) (by omega)
 refine ⟨ad, e, ?_⟩
 simpa [Int.toNat_natCast, rdOf] using h2
theorem kp_V {w : World} {base : Nat} {ok : Nat → Prop} {v : Value} {xs : List Nat} (h : kp.R 64 w base ok v xs) : ∃ A c, v = .slice A xs.length c ∧ xs.length ≤ c ∧ kp.C w A xs.length xs := by
 have hv := Kd.R_V (base' := 0) h
 obtain ⟨A, c, rfl⟩ := Kd.R_slice h
 obtain ⟨_, h1, h2⟩ := Kd.V_reads' hv
 exact ⟨A, c, rfl, h1, h2⟩
theorem root_ok {w : World} {bs : List Nat} {b : Nat} (h : PathAt w bs) (hl : bs.length ≤ 1000) (hb : bs.getLast? = some b) :
  Calls Try.prog 27 #[ptrO bs.head?] w fun e w' => e = .returned (.pointer (some ⟨b, 0, none⟩)) ∧ Below w.heap.size w w' := by
 have H := Aside0.mk h
 have hne : 0 < bs.length := by
  cases bs with
  | nil => cases hb
  | cons _ _ => simp
 have hlast : bs.getD (bs.length - 1) 0 = b := by
  rw [List.getLast?_eq_getElem?] at hb
  rw [List.getD_eq_getElem?_getD, hb]
  rfl
 have HLT := Aside0.mk hlast
 clear h hb hlast
 go_enter Try.func27, Try.ntmps27
 go_wp2_with fail
 go_at_call 25
 refine (path_ok H.out hl).mono ?_
 rintro e w1 ⟨v, rfl, hr, hb1⟩
 obtain ⟨A, c, rfl, hc, hC⟩ := kp_V hr
 obtain ⟨ad, rfl, hx⟩ := kp_at hC (bs.length - 1) (by omega)
 rw [HLT.out] at hx
 have HB := Aside0.mk hb1
 have wl : wrap64 ((bs.length : Int) - 1) = ((bs.length - 1 : Nat) : Int) := wsub1 _ (by omega) hne
 have i1 : (0 : Int) ≤ ((bs.length - 1 : Nat) : Int) ∧ ((bs.length - 1 : Nat) : Int) < (bs.length : Int) := by omega
 clear hr hC hb1
 go_wp2_with fail
 go_ret
 exact ⟨rfl, HB.out⟩
def ixP (b : Nat) : List Nat → Nat → Int
 | [], _ => -1
 | x :: xs, i => if b = x then (i : Int) else ixP b xs (i + 1)
theorem ixP_mem (b : Nat) : ∀ (l : List Nat) (i : Nat), 0 ≤ ixP b l i ↔ b ∈ l
 | [], i => by simp [ixP]
 | x :: xs, i => by
  unfold ixP
  by_cases h : b = x
  ·
   rw [if_pos h]
   simp [h]
  ·
   rw [if_neg h, ixP_mem b xs (i + 1)]
   simp [h]
def Live (w : World) (b : Nat) : Prop := ∃ ca, w.heap[b]? = some (.cells ca 71 (0, 0))
theorem Live.keep {w w' : World} {b : Nat} (h : Live w b) (hb : Below w.heap.size w w') : Live w' b := by
 obtain ⟨ca, h⟩ := h
 exact ⟨ca, (hb.block b (zah h)).trans h⟩
theorem nodeInfo : ∃ j, Try.prog.info? 71 = some j ∧ j.size ≠ 0 := by
 cases h : Try.prog.info? 71 with
 | none =>
  have : (Try.prog.info? 71).isSome = true := by kernel_rfl
  rw [h] at this
  cases this
 | some j =>
  refine ⟨j, rfl, ?_⟩
  have h2 : (Try.prog.info? 71).map (·.size) = some 7 := by kernel_rfl
  rw [h] at h2
  have h3 : j.size = 7 := Option.some.inj h2
  rw [h3]
  decide
theorem ptr_equal {w : World} {a b : Nat} (ha : Live w a) (hb : Live w b) : (Op.equal 64 (.pointer (some ⟨a, 0, none⟩)) (.pointer (some ⟨b, 0, none⟩))).run Try.prog w = .ok (decide (a = b)) w := by
 obtain ⟨j, hte, hsz⟩ := nodeInfo
 obtain ⟨ca, ha⟩ := ha
 obtain ⟨cb, hb⟩ := hb
 by_cases h : a = b
 ·
  subst h
  have h1 : ∀ d : Nat, (Op.equalIn (d + 1) 64 (.pointer (some ⟨a, 0, none⟩)) (.pointer (some ⟨a, 0, none⟩))).run Try.prog w = .ok true w := fun d => by
   simp [Op.equalIn, run_underlying Try.underlying64, sizeOf, typeInfo, hte, run_sameAddr_same]
  simp [Op.equal, Op.maxDepth, h1 9999]
 ·
  have h1 : ∀ d : Nat, (Op.equalIn (d + 1) 64 (.pointer (some ⟨a, 0, none⟩)) (.pointer (some ⟨b, 0, none⟩))).run Try.prog w = .ok false w := fun d => by
   simp [Op.equalIn, run_underlying Try.underlying64, sizeOf, typeInfo, hte, hsz, run_sameAddr_other w (a := ⟨a, 0, none⟩) (b := ⟨b, 0, none⟩) (fun e => h (by injection e)) ha hb]
  simp [Op.equal, Op.maxDepth, h1 9999, h]
theorem ptr_eql {w : World} {a b : Nat} (ha : Live w a) (hb : Live w b) : (binOp .eql 64 (.pointer (some ⟨a, 0, none⟩)) (.pointer (some ⟨b, 0, none⟩))).run Try.prog w = .ok (.bool (decide (a = b))) w := by
 simp only [binOp]
 simp [ptr_equal ha hb]
theorem ptr_neq {w : World} {a b : Nat} (ha : Live w a) (hb : Live w b) : (binOp .neq 64 (.pointer (some ⟨a, 0, none⟩)) (.pointer (some ⟨b, 0, none⟩))).run Try.prog w = .ok (.bool (!decide (a = b))) w := by
 simp only [binOp]
 simp [ptr_equal ha hb]
theorem indexP_ok {w : World} {A : Option Addr} {c : Nat} {xs : List Nat} (b : Nat) (h : kp.C w A xs.length xs) (hl : xs.length ≤ 1000) (hb : Live w b) (hx : ∀ x ∈ xs, Live w x) :
  Calls Try.prog 63 #[.slice A xs.length c, .pointer (some ⟨b, 0, none⟩)] w fun e w' => e = .returned (.int .i64 (ixP b xs 0)) ∧ w' = w := by
 have H := Aside0.mk h
 have HLB := Aside0.mk hb
 have HLX := Aside0.mk hx
 clear h hb hx
 go_enter Try.func63, Try.ntmps63
 go_wp2_with fail
 go_loopg [8] xs.length (fun gk v8 w' => ∃ i : Nat, v8 = .int .i64 (i : Int) ∧ i + gk = xs.length ∧ ixP b (xs.drop i) i = ixP b xs 0 ∧ w' = w)
 case atStart => exact ⟨0, rfl, by omega, by rw [List.drop_zero], rfl⟩
 case round =>
  obtain ⟨i, rfl, hi, hz, rfl⟩ := hrel
  cases gk with
  | zero =>
   rw [List.drop_of_length_le (by omega)] at hz
   have d1 : decide ((i : Int) < (xs.length : Int)) = false := decide_eq_false (by omega)
   go_wp2_with fail
   go_ret
   exact ⟨by rw [← hz]; rfl, rfl⟩
  | succ g1 =>
   have d1 : decide ((i : Int) < (xs.length : Int)) = true := decide_eq_true (by omega)
   have d3 : 0 ≤ (i : Int) ∧ (i : Int) < (xs.length : Int) := by omega
   have hil : i < xs.length := by omega
   obtain ⟨ad, rfl, hx⟩ := kp_at H.out i hil
   rw [List.getD_eq_getElem?_getD, List.getElem?_eq_getElem hil, Option.getD_some] at hx
   rw [List.drop_eq_getElem_cons hil] at hz
   have HZ := Aside0.mk hz
   clear hz
   have heq := ptr_eql HLB.out (HLX.out _ (List.getElem_mem hil))
   by_cases h0 : b = xs[i]
   ·
    have hz := HZ.out
    rw [ixP, if_pos h0] at hz
    have HZ2 := Aside0.mk hz
    rw [decide_eq_true h0] at heq
    generalize xs[i] = y at hx heq
    clear hz h0
    go_wp2_with fail
    go_ret
    exact ⟨by first | rfl | (rw [HZ2.out]; rfl), rfl⟩
   ·
    have hz := HZ.out
    rw [ixP, if_neg h0] at hz
    have HZ2 := Aside0.mk hz
    rw [decide_eq_false h0] at heq
    generalize xs[i] = y at hx heq
    clear hz h0
    go_wp2_with fail
    have hgi : i + 1 + g1 = xs.length := by omega
    go_roundg g1
    case measure => exact Nat.lt_succ_self _
    case rel => exact ⟨i + 1, by go_num, hgi, HZ2.out, rfl⟩
theorem PathAt.live {w : World} : ∀ {bs : List Nat}, PathAt w bs → ∀ b ∈ bs, Live w b
 | [], _, _, h => by cases h
 | b :: r, ⟨⟨_, _, _, _, _, _, h⟩, hr⟩, c, hc => by
  rcases List.mem_cons.1 hc with rfl | hc
  ·
   exact ⟨_, h⟩
  ·
   exact hr.live c hc
theorem containsP_ok {w : World} {A : Option Addr} {c : Nat} {xs : List Nat} (b : Nat) (h : kp.C w A xs.length xs) (hl : xs.length ≤ 1000) (hb : Live w b) (hx : ∀ x ∈ xs, Live w x) :
  Calls Try.prog 51 #[.slice A xs.length c, .pointer (some ⟨b, 0, none⟩)] w fun e w' => e = .returned (.bool (decide (b ∈ xs))) ∧ w' = w := by
 have H := Aside0.mk h
 have HLB := Aside0.mk hb
 have HLX := Aside0.mk hx
 have HM := Aside0.mk (ixP_mem b xs 0)
 clear h hb hx
 go_enter Try.func51, Try.ntmps51
 go_wp2_with fail
 go_at_call 63
 refine (indexP_ok b H.out hl HLB.out HLX.out).mono ?_
 generalize ixP b xs 0 = r at HM
 rintro e w1 ⟨rfl, rfl⟩
 go_wp2_with fail
 go_ret
 refine ⟨?_, rfl⟩
 by_cases h : b ∈ xs
 ·
  have h1 := HM.out.2 h
  simp [h, h1]
 ·
  have h1 : ¬ 0 ≤ r := fun h2 => h (HM.out.1 h2)
  simp [h]
  omega
theorem below_ok {w : World} {bs : List Nat} {t : Nat} (h : PathAt w bs) (hl : bs.length ≤ 1000) (ht : Live w t) :
  Calls Try.prog 28 #[ptrO bs.head?, .pointer (some ⟨t, 0, none⟩)] w fun e w' => e = .returned (.bool (decide (t ∈ bs))) ∧ Below w.heap.size w w' := by
 have H := Aside0.mk h
 have HT := Aside0.mk ht
 clear h ht
 go_enter Try.func28, Try.ntmps28
 go_wp2_with fail
 go_at_call 25
 refine (path_ok H.out hl).mono ?_
 rintro e w1 ⟨v, rfl, hr, hb1⟩
 obtain ⟨A, c, rfl, hc, hC⟩ := kp_V hr
 have HB := Aside0.mk hb1
 have HC := Aside0.mk hC
 clear hr hC hb1
 go_wp2_with fail
 go_at_call 51
 refine (containsP_ok t HC.out hl (HT.out.keep HB.out) (fun x hx => (H.out.live x hx).keep HB.out)).mono ?_
 rintro e w2 ⟨rfl, rfl⟩
 go_wp2_with fail
 go_ret
 exact ⟨rfl, HB.out⟩
def Wr (S : Nat → Prop) (w w' : World) : Prop := Below 0 w w' ∧ ∀ i, i < w.heap.size → ¬ S i → w'.heap[i]? = w.heap[i]?
theorem Wr.of_below {S : Nat → Prop} {w w' : World} (h : Below w.heap.size w w') : Wr S w w' := ⟨h.mono (Nat.zero_le _), fun i hi _ => h.block i hi⟩
theorem Wr.refl (S : Nat → Prop) (w : World) : Wr S w w := Wr.of_below (Below.refl _ _)
theorem Wr.size {S : Nat → Prop} {w w' : World} (h : Wr S w w') : w.heap.size ≤ w'.heap.size := h.1.size
theorem Wr.mono {S S' : Nat → Prop} {w w' : World} (h : Wr S w w') (hs : ∀ k, S k → S' k) : Wr S' w w' := ⟨h.1, fun i hi hn => h.2 i hi fun hk => hn (hs i hk)⟩
theorem Wr.trans {S S2 : Nat → Prop} {w w1 w2 : World} (h : Wr S w w1) (h2 : Wr S2 w1 w2) (hs : ∀ k, S2 k → S k ∨ w.heap.size ≤ k) : Wr S w w2 :=
 ⟨h.1.trans h2.1, fun i hi hn => (h2.2 i (Nat.lt_of_lt_of_le hi h.size) fun hk => (hs i hk).elim hn (fun h => by omega)).trans (h.2 i hi hn)⟩
theorem Wr.step {S : Nat → Prop} {w w1 w2 : World} (h : Wr S w w1) (hb : Below w1.heap.size w1 w2) : Wr S w w2 := h.trans (Wr.of_below (S := fun _ => False) hb) fun _ hk => hk.elim
theorem Wr.set {S : Nat → Prop} {w w1 : World} (h : Wr S w w1) {p : Addr} (hp : S p.block ∨ w.heap.size ≤ p.block) (u : Value) : Wr S w (w1.setCell p u) :=
 ⟨h.1.setCell (Nat.zero_le _) u, fun i hi hn => by
  rw [Below.heap_setCell _ _ _ _ (fun e => by subst e; exact hp.elim hn fun h => by omega)]
  exact h.2 i hi hn⟩
theorem Wr.drew {S : Nat → Prop} {w w1 : World} (h : Wr S w w1) : Wr S w w1.drew := ⟨h.1.drew, h.2⟩
theorem Wr.turned {S : Nat → Prop} {w w1 w2 : World} {m : Nat} (h : Wr S w w1) (ht : w1.mapTurned w2 m) (hm : S m ∨ w.heap.size ≤ m) : Wr S w w2 :=
 ⟨h.1.trans (mapTurned_below ht (Nat.zero_le _)), fun i hi hn => by
  obtain ⟨es, clock, es', clock', hb, rfl⟩ := ht
  rw [ChangeMaps.heap_setBlock_other hb _ (fun e => by subst e; exact hm.elim hn fun h => by omega)]
  exact h.2 i hi hn⟩
theorem Wr.below {S : Nat → Prop} {w w' : World} (h : Wr S w w') {n : Nat} (hn : n ≤ w.heap.size) (hs : ∀ k, S k → n ≤ k) : Below n w w' :=
 ⟨h.1.os, h.1.tape, h.1.output, h.1.size, fun k hk => h.2 k (by omega) fun hx => by have := hs k hx; omega⟩
theorem fan_ok {w : World} {b : Nat} {x0 x1 x2 x4 x5 : Value} {m g : Int} (h : w.heap[b]? = some (.cells #[x0, x1, x2, .int .i64 m, x4, x5, .int .i64 g] 71 (0, 0))) (hs : 0 ≤ m ∧ m < 100000 ∧ 0 ≤ g ∧ g < 100000) :
  Calls Try.prog 26 #[.pointer (some ⟨b, 0, none⟩)] w fun e w' => e = .returned (.int .i64 (g + m)) ∧ Below w.heap.size w w' := by
 have c3 : w.cell? ⟨b, 3, none⟩ = some (.int .i64 m) := (za h 3).trans rfl
 have c6 : w.cell? ⟨b, 6, none⟩ = some (.int .i64 g) := (za h 6).trans rfl
 have wl : wrap64 (g + m) = g + m := w64s (by omega) (by omega)
 clear h
 go_enter Try.func26, Try.ntmps26
 go_wp2_with fail
 go_quiet (fail)
 go_wp2
 go_ret
 exact ⟨by simp [wl], pw_below_drewN (Below.refl _ _) _⟩
def Upd (more : Int) (w w' : World) (b : Nat) : Prop := ∀ x0 x1 x2 x3 x4 a x6, w.heap[b]? = some (.cells #[x0, x1, x2, x3, x4, .int .i64 a, x6] 71 (0, 0)) → w'.heap[b]? = some (.cells #[x0, x1, x2, x3, x4, .int .i64 (a + more), x6] 71 (0, 0))
theorem count_ok {w : World} {bs : List Nat} {more : Int} (h : PathAt w bs) (hl : bs.length ≤ 1000) (hn : bs.Nodup)
  (ha : ∀ b ∈ bs, ∃ x0 x1 x2 x3 x4 a x6, w.heap[b]? = some (.cells #[x0, x1, x2, x3, x4, .int .i64 a, x6] 71 (0, 0)) ∧ -1000000 < a + more ∧ a + more < 1000000) :
  Calls Try.prog 30 #[ptrO bs.head?, .int .i64 more] w fun e w' => e = .returned (.tuple #[]) ∧ (∀ b ∈ bs, Upd more w w' b) ∧ Wr (fun k => k ∈ bs) w w' := by
 have H := Aside0.mk h
 have HA := Aside0.mk ha
 have HN := Aside0.mk hn
 clear h ha hn
 go_enter Try.func30, Try.ntmps30
 go_wp2_with fail
 go_at_call 25
 refine (path_ok H.out hl).mono ?_
 rintro e w1 ⟨v, rfl, hr, hb1⟩
 obtain ⟨A, c, rfl, hc, hC⟩ := kp_V hr
 have HR := Aside0.mk hr
 have HB := Aside0.mk hb1
 clear hr hC hb1
 go_wp2_with fail
 go_loopg [9] bs.length (fun gk v9 w' => ∃ i : Nat, v9 = .int .i64 (i : Int) ∧ i + gk = bs.length ∧ Aside0 (kp.R 64 w' w.heap.size (fun k => w.heap.size ≤ k) (.slice A bs.length c) bs) ∧ Aside0 (∀ b ∈ bs.take i, Upd more w w' b) ∧ Aside0 (∀ b ∈ bs.drop i, w'.heap[b]? = w.heap[b]?) ∧ Aside0 (Wr (fun k => k ∈ bs) w w'))
 case atStart => exact ⟨0, by go_num, by omega, HR, ⟨fun b hb => by simp at hb⟩, ⟨fun b hb => HB.out.block b (H.out.lt b (List.mem_of_mem_drop hb))⟩, ⟨Wr.of_below HB.out⟩⟩
 case round =>
  obtain ⟨i, rfl, hi, HR1, HU, HD, HW⟩ := hrel
  cases gk with
  | zero =>
   have d1 : decide ((i : Int) < (bs.length : Int)) = false := decide_eq_false (by omega)
   go_wp2_with fail
   refine bodyPost_end (results_none (by kernel_rfl) _ _ _) rfl ?_
   refine ⟨rfl, ?_, HW.out⟩
   have := HU.out
   rw [List.take_of_length_le (by omega)] at this
   exact this
  | succ g1 =>
   have d1 : decide ((i : Int) < (bs.length : Int)) = true := decide_eq_true (by omega)
   have d3 : 0 ≤ (i : Int) ∧ (i : Int) < (bs.length : Int) := by omega
   have hil : i < bs.length := by omega
   obtain ⟨_, _, e1, _, hC⟩ := kp_V HR1.out
   cases e1
   obtain ⟨ad, rfl, hx⟩ := kp_at hC i hil
   rw [List.getD_eq_getElem?_getD, List.getElem?_eq_getElem hil, Option.getD_some] at hx
   have hmem : bs[i] ∈ bs := List.getElem_mem hil
   have hdr := HD.out
   rw [List.drop_eq_getElem_cons hil] at hdr
   obtain ⟨x0, x1, x2, x3, x4, a, x6, hw0, hlo, hhi⟩ := HA.out _ hmem
   have hwr := (hdr _ List.mem_cons_self).trans hw0
   have hnt : bs[i] ∉ bs.take i ∧ bs[i] ∉ bs.drop (i + 1) := by
    have h1 := HN.out
    have h2 : bs = bs.take i ++ bs[i] :: bs.drop (i + 1) := by rw [← List.drop_eq_getElem_cons hil, List.take_append_drop]
    rw [h2, List.nodup_append] at h1
    exact ⟨fun hm => h1.2.2 _ hm _ List.mem_cons_self rfl, (List.nodup_cons.1 h1.2.1).1⟩
   have htk : bs.take (i + 1) = bs.take i ++ [bs[i]] := List.take_succ_eq_append_getElem hil
   have hblt : bs[i] < w.heap.size := H.out.lt _ hmem
   generalize bs[i] = b at hx hdr hw0 hwr hnt htk hblt hmem
   have c5 : wr.cell? ⟨b, 5, none⟩ = some (.int .i64 a) := (za hwr 5).trans rfl
   have f5 := zaa hwr 5
   have wl : wrap64 (a + more) = a + more := w64s (by omega) (by omega)
   have hput : (wr.setCell ⟨b, 5, none⟩ (.int .i64 (a + more))).heap[b]? = some (.cells #[x0, x1, x2, x3, x4, .int .i64 (a + more), x6] 71 (0, 0)) := blk_put hwr 5 _ rfl
   have HR2 := Aside0.mk (Kd.R_far (p := ⟨b, 5, none⟩) HR1.out (fun k hk => by show k ≠ b; omega) (.int .i64 (a + more)))
   have HW2 : Aside0 (Wr (fun k => k ∈ bs) w (wr.setCell ⟨b, 5, none⟩ (.int .i64 (a + more)))) := ⟨HW.out.set (.inl hmem) _⟩
   have HU2 : Aside0 (∀ q ∈ bs.take (i + 1), Upd more w (wr.setCell ⟨b, 5, none⟩ (.int .i64 (a + more))) q) := ⟨fun q hq => by
    rw [htk] at hq
    rcases List.mem_append.1 hq with hq | hq
    ·
     intro y0 y1 y2 y3 y4 y y6 hy
     rw [Below.heap_setCell _ _ _ _ (fun e => by cases e; exact hnt.1 hq)]
     exact HU.out q hq _ _ _ _ _ _ _ hy
    ·
     obtain rfl := List.mem_singleton.1 hq
     intro y0 y1 y2 y3 y4 y y6 hy
     rw [hw0] at hy
     cases hy
     exact hput⟩
   have HD2 : Aside0 (∀ q ∈ bs.drop (i + 1), (wr.setCell ⟨b, 5, none⟩ (.int .i64 (a + more))).heap[q]? = w.heap[q]?) := ⟨fun q hq => by
    rw [Below.heap_setCell _ _ _ _ (fun e => by cases e; exact hnt.2 hq)]
    exact hdr q (List.mem_cons_of_mem _ hq)⟩
   clear hC hmem hdr hw0 hwr hnt htk hput
   go_wp2_with fail
   have hgi : i + 1 + g1 = bs.length := by omega
   have wi : wrap64 ((i : Int) + 1) = (i : Int) + 1 := w64s (by omega) (by omega)
   go_roundg g1
   case measure => exact Nat.lt_succ_self _
   case rel => exact ⟨i + 1, by go_num, hgi, HR2, HU2, HD2, HW2⟩
def Only (b s : Nat) (w w' : World) : Prop := w.heap.size ≤ w'.heap.size ∧ ∀ i, i < w.heap.size → i ≠ b → i ≠ s → w'.heap[i]? = w.heap[i]?
theorem Only.of_below {b s : Nat} {w w' : World} (h : Below w.heap.size w w') : Only b s w w' := ⟨h.size, fun i hi _ _ => h.block i hi⟩
theorem Only.set1 {b s : Nat} {w w' : World} (h : Only b s w w') (i : Nat) (v : Value) : Only b s w (w'.setCell ⟨b, i, none⟩ v) :=
 ⟨by rw [World.size_setCell]; exact h.1, fun j hj h1 h2 => by rw [Below.heap_setCell _ _ _ _ h1]; exact h.2 j hj h1 h2⟩
theorem Only.set2 {b s : Nat} {w w' : World} (h : Only b s w w') (i : Nat) (v : Value) : Only b s w (w'.setCell ⟨s, i, none⟩ v) :=
 ⟨by rw [World.size_setCell]; exact h.1, fun j hj h1 h2 => by rw [Below.heap_setCell _ _ _ _ h2]; exact h.2 j hj h1 h2⟩
theorem MapAt.only {α : Type} {P : Program} {kt : TypeId} {mk : α → Value} {w w' : World} {b s c n : Nat} {g : Int → Option α} (h : MapAt P kt mk w c n g) (ho : Only b s w w') (h1 : c ≠ b) (h2 : c ≠ s) : MapAt P kt mk w' c n g := by
 have hl := h.lt
 obtain ⟨D, ⟨es, clock, h3, h4⟩, hd⟩ := h
 exact ⟨D, ⟨es, clock, (ho.2 c hl h1 h2).trans h3, h4⟩, hd⟩
theorem table_Add_only {w : World} {b s : Nat} {l : List Int} {last : Int} (k i : Nat) (h : TabAt w b s l last) (hi : i < l.length) (hx : zab.f k l 0 = some (i : Int)) (h0 : 0 ≤ last) (h1 : last < 2147483648) :
  Calls Try.prog 50 #[.pointer (some ⟨b, 0, none⟩)] w fun e w' => e = .returned (.tuple #[.int .i64 (last + 1), .int .i64 (i : Int), .int .i64 0]) ∧ TabAt w' b s (l.set i (last + 1)) (last + 1) ∧ (∀ n, n ≤ b → n ≤ s → Below n w w') ∧ Only b s w w' := by
 have H := Aside0.mk h
 have HX := Aside0.mk hx
 obtain ⟨f0, f1, f2, f3⟩ := h.facts
 have d1 : decide ((i : Int) < 0) = false := decide_eq_false (by omega)
 have d2 : (last == 2147483648) = false := by simpa using (show last ≠ 2147483648 by omega)
 clear h hx f3
 go_enter Try.func50, Try.ntmps50
 go_wp2_with fail
 go_at_call 62
 refine (zab.calls k _ _ l 0 _ _ H.out.mem (Nat.le_refl _) HX.out).mono ?_
 rintro e w1 ⟨rfl, hd⟩
 have B1 := Aside0.mk hd.below
 have H1 := Aside0.mk (H.out.keep B1.out)
 obtain ⟨g0, g1, g2, g3⟩ := H1.out.facts
 clear hd f0 f1 f2 g3
 go_wp2_with fail
 have H2 := Aside0.mk (H1.out.push (last + 1))
 have B2 : Aside0 (∀ n, n ≤ b → n ≤ s → Below n w (w1.setCell ⟨b, 1, none⟩ (.int .i64 (last + 1)))) := ⟨fun n hb hs => (B1.out.mono (by have := H.out.lt; omega)).setCell hb _⟩
 have O2 : Aside0 (Only b s w (w1.setCell ⟨b, 1, none⟩ (.int .i64 (last + 1)))) := ⟨(Only.of_below B1.out).set1 _ _⟩
 generalize w1.setCell ⟨b, 1, none⟩ (.int .i64 (last + 1)) = W2 at H2 B2 O2 ⊢
 clear g0 g1 g2
 obtain ⟨g0, g1, g2, g3⟩ := H2.out.facts
 have g4 := g3 i
 clear g3
 have g5 := H2.out.slot hi
 go_region
 have H3 := Aside0.mk (H2.out.set i (last + 1)).drew
 have B3 : Aside0 (∀ n, n ≤ b → n ≤ s → Below n w (W2.setCell ⟨s, i, none⟩ (.int .i64 (last + 1))).drew) := ⟨fun n hb hs => ((B2.out n hb hs).setCell hs _).drew⟩
 have O3 : Aside0 (Only b s w (W2.setCell ⟨s, i, none⟩ (.int .i64 (last + 1))).drew) := ⟨O2.out.set2 _ _⟩
 generalize (W2.setCell ⟨s, i, none⟩ (.int .i64 (last + 1))).drew = W3 at H3 B3 O3 ⊢
 clear g0 g1 g2 g4 g5
 obtain ⟨g0, g1, g2, g3⟩ := H3.out.facts
 clear g3
 go_wp2
 go_ret3
 exact ⟨by simp, H3.out, B3.out, O3.out⟩
theorem Wr.of_only {b s : Nat} {w w' : World} (h1 : ∀ n, n ≤ b → n ≤ s → Below n w w') (h2 : Only b s w w') : Wr (fun k => k = b ∨ k = s) w w' :=
 ⟨h1 0 (Nat.zero_le _) (Nat.zero_le _), fun i hi hn => h2.2 i hi (fun e => hn (.inl e)) fun e => hn (.inr e)⟩
theorem tabF_AddW {w : World} {b s room : Nat} {last : Int} {ids : List Int} (h : TabF w b s room last ids) (hl : ids.length < room) (h0 : 0 ≤ last ∧ last < 2147483648) :
  Calls Try.prog 50 #[.pointer (some ⟨b, 0, none⟩)] w fun e w' => ∃ i : Nat, e = .returned (.tuple #[.int .i64 (last + 1), .int .i64 (i : Int), .int .i64 0]) ∧ TabF w' b s room (last + 1) (ids ++ [last + 1]) ∧ Wr (fun k => k = b ∨ k = s) w w' := by
 obtain ⟨l, ht, hlen, hp⟩ := h
 have h64 := ht.2.2.2
 rcases index_any (l := l) 0 (by omega) with ⟨i, k, hi, hx, hk⟩ | ⟨k, hk, hn⟩
 ·
  refine (table_Add_only k i ht hi hk h0.1 h0.2).mono ?_
  rintro e w' ⟨rfl, ht', hb, ho⟩
  refine ⟨i, rfl, ⟨_, ht', by rw [List.length_set]; exact hlen, ?_⟩, Wr.of_only hb ho⟩
  exact (filter_set l i _ hi hx (by omega)).trans ((List.Perm.cons _ hp).trans (List.perm_append_singleton _ _).symm)
 ·
  exfalso
  have := hp.length_eq
  rw [List.filter_eq_self.2 (fun x hx => by
   obtain ⟨j, hj, e⟩ := List.getElem_of_mem hx
   have := hn j hj
   rw [List.getD_eq_getElem?_getD, List.getElem?_eq_getElem hj] at this
   simpa [← e] using this)] at this
  omega
def setG (L : List S84) (id : Int) (h : S84 → S84) : List S84 := L.map fun g => if g.f0 = id then h g else g
theorem setG_len (L : List S84) (id : Int) (h : S84 → S84) : (setG L id h).length = L.length := List.length_map _
theorem setG_f0 {id : Int} {h : S84 → S84} (h0 : ∀ g, (h g).f0 = g.f0) (g : S84) : (if g.f0 = id then h g else g).f0 = g.f0 := by
 split
 ·
  exact h0 g
 ·
  rfl
theorem setG_ids {L : List S84} {id : Int} {h : S84 → S84} (h0 : ∀ g, (h g).f0 = g.f0) : (setG L id h).map (·.f0) = L.map (·.f0) := by
 unfold setG
 rw [List.map_map]
 exact List.map_congr_left fun g _ => setG_f0 h0 g
theorem Asc.setG {L : List S84} {id : Int} {h : S84 → S84} (h0 : ∀ g, (h g).f0 = g.f0) (hA : Asc L) : Asc (setG L id h) := by
 unfold Asc P.setG
 rw [List.pairwise_map]
 exact hA.imp fun {a b} hab => by rw [setG_f0 h0, setG_f0 h0]; exact hab
theorem fnd_setG {id : Int} {h : S84 → S84} (h0 : ∀ g, (h g).f0 = g.f0) : ∀ (L : List S84) (x : Int), fnd (setG L id h) x = (fnd L x).map fun g => if g.f0 = id then h g else g
 | [], _ => rfl
 | a :: L, x => by
  have ih := fnd_setG (id := id) h0 L x
  unfold fnd setG at ih ⊢
  rw [List.map_cons, List.find?_cons, List.find?_cons, setG_f0 h0]
  split
  ·
   rfl
  ·
   exact ih
theorem prt_setG {L : List S84} {id : Int} {h : S84 → S84} (h0 : ∀ g, (h g).f0 = g.f0) (h1 : ∀ g, (h g).f1 = g.f1) : prt (setG L id h) = prt L := by
 funext x
 unfold prt
 rw [fnd_setG h0, Option.map_map]
 cases fnd L x with
 | none => rfl
 | some g =>
  simp only [Option.map_some, Function.comp]
  split
  ·
   rw [h1]
  ·
   rfl
theorem kid_setG {L : List S84} {id : Int} {h : S84 → S84} (h1 : ∀ g, (h g).f1 = g.f1) (x : Int) : kid (setG L id h) x = kid L x := by
 unfold kid setG
 rw [List.filter_map, List.length_map]
 congr 2
 refine List.filter_congr fun g _ => ?_
 simp only [Function.comp]
 split
 ·
  rw [h1]
 ·
  rfl
theorem sum_setG {h : S84 → S84} (F : S84 → Int) : ∀ {L : List S84} {g : S84}, Asc L → g ∈ L → ((setG L g.f0 h).map F).sum = (L.map F).sum + (F (h g) - F g)
 | [], _, _, hg => by cases hg
 | a :: L, g, hA, hg => by
  obtain ⟨h1, h2⟩ := List.pairwise_cons.1 hA
  unfold setG
  rw [List.map_cons, List.map_cons, List.sum_cons, List.map_cons, List.sum_cons]
  rcases List.mem_cons.1 hg with rfl | hg
  ·
   rw [if_pos rfl]
   have : (L.map fun y => if y.f0 = g.f0 then h y else y) = L := by
    rw [List.map_congr_left (g := id)]
    ·
     simp
    ·
     intro y hy
     have := h1 y hy
     rw [if_neg (by omega)]
     rfl
   rw [this]
   omega
  ·
   have := h1 g hg
   rw [if_neg (by omega)]
   have ih := sum_setG (h := h) F h2 hg
   unfold setG at ih
   rw [ih]
   omega
theorem mem_setG {L : List S84} {id : Int} {h : S84 → S84} {y : S84} (hy : y ∈ setG L id h) : ∃ g ∈ L, y = if g.f0 = id then h g else g := by
 obtain ⟨g, hg, e⟩ := List.mem_map.1 hy
 exact ⟨g, hg, e.symm⟩
theorem GoodF.setG {room : Nat} {last : Int} {L : List S84} {g : S84} {h : S84 → S84} (hG : GoodF room last L) (hg : g ∈ L) (h0 : ∀ g, (h g).f0 = g.f0) (h1 : ∀ g, (h g).f1 = g.f1)
  (h2 : 1 ≤ (h g).f2 ∧ (h g).f2 ≤ 10000) (h3 : 0 ≤ (h g).f4) (h4 : (h g).f4 ≤ (h g).f3) (h5 : kid L g.f0 + (h g).f3 ≤ 32) : GoodF room last (P.setG L g.f0 h) := by
 obtain ⟨e1, e2, e3, e4, e5, e6⟩ := hG
 refine ⟨e1, by rw [setG_len]; exact e2, e3, e4, e5.setG h0, fun y hy => ?_⟩
 obtain ⟨z, hz, rfl⟩ := mem_setG hy
 have hp := prt_setG (L := L) (id := g.f0) h0 h1
 have hz' := e6 z hz
 unfold GoodG at hz' ⊢
 rw [setG_f0 h0, hp, kid_setG h1]
 by_cases e : z.f0 = g.f0
 ·
  obtain rfl := e5.inj hz hg e
  rw [if_pos rfl, h1]
  exact ⟨hz'.1, hz'.2.1, hz'.2.2.1, hz'.2.2.2.1, h2, h3, h4, h5⟩
 ·
  rw [if_neg e]
  exact hz'
theorem fnd_app {L : List S84} {a : S84} (hn : fnd L a.f0 = none) (x : Int) : fnd (L ++ [a]) x = if x = a.f0 then some a else fnd L x := by
 unfold fnd at hn ⊢
 rw [List.find?_append]
 by_cases e : x = a.f0
 ·
  rw [if_pos e, e, hn]
  simp
 ·
  rw [if_neg e]
  have : (a.f0 == x) = false := beq_eq_false_iff_ne.mpr fun h => e h.symm
  simp [this]
theorem Ch.app {L : List S84} {a : S84} (hn : fnd L a.f0 = none) {c : List Int} {id : Int} (h : Ch (prt L) c id) : Ch (prt (L ++ [a])) c id := by
 refine h.congr fun x hx => ?_
 obtain ⟨p, hp⟩ := h.has hx
 unfold prt
 rw [fnd_app hn, if_neg]
 rintro rfl
 unfold prt at hp
 rw [hn] at hp
 cases hp
theorem way_mem {L : List S84} {c : List Int} {id x : Int} (h : Ch (prt L) c id) (hx : x ∈ c) : ∃ g ∈ L, g.f0 = x := by
 obtain ⟨p, hp⟩ := h.has hx
 obtain ⟨g, hg, e, _⟩ := prt_some hp
 exact ⟨g, hg, e⟩
theorem fnd_fresh {room : Nat} {last : Int} {L : List S84} (hG : GoodF room last L) {x : Int} (hx : last < x) : fnd L x = none := by
 cases h : fnd L x with
 | none => rfl
 | some g =>
  obtain ⟨h1, h2⟩ := zae h
  have := (hG.2.2.2.2.2 g h1).2.1
  omega
theorem par_in {room : Nat} {last : Int} {L : List S84} (hG : GoodF room last L) {g : S84} (hg : g ∈ L) (h : 0 ≤ g.f1) : ∃ p ∈ L, p.f0 = g.f1 := by
 obtain ⟨_, _, _, ⟨c, hc, _⟩, _⟩ := hG.2.2.2.2.2 g hg
 have h0 := (hG.2.2.2.2.2 g hg).1
 obtain ⟨c', rfl⟩ := hc.head (by omega)
 obtain ⟨_, _, p, hp, h1⟩ := hc
 rw [prt_mem hG.2.2.2.2.1 hg] at hp
 cases hp
 obtain ⟨c2, rfl⟩ := h1.head h
 exact way_mem h1 List.mem_cons_self
theorem act_app {room : Nat} {last : Int} {L : List S84} (hG : GoodF room last L) {a : S84} (hn : fnd L a.f0 = none) (h4 : a.f4 = 0) (x : Int) : act (L ++ [a]) x = act L x := by
 unfold act
 rw [List.map_append, List.sum_append]
 have h1 : (L.map fun g => if x ∈ way (L ++ [a]) g.f0 then g.f4 else 0) = L.map fun g => if x ∈ way L g.f0 then g.f4 else 0 := by
  refine List.map_congr_left fun g hg => ?_
  obtain ⟨hc, _⟩ := hG.way hg
  rw [zaf (Ch.app hn hc)]
 rw [h1]
 simp [h4]
theorem kid_app (L : List S84) (a : S84) (x : Int) : kid (L ++ [a]) x = kid L x + if a.f1 = x then 1 else 0 := by
 unfold kid
 rw [List.filter_append, List.length_append]
 by_cases e : a.f1 = x
 ·
  simp [e]
 ·
  simp [e]
theorem kid_zero {L : List S84} {x : Int} (h : ∀ g ∈ L, g.f1 ≠ x) : kid L x = 0 := by
 unfold kid
 rw [List.filter_eq_nil_iff.2 fun g hg => by simpa using h g hg]
 rfl
theorem act_fresh {room : Nat} {last : Int} {L : List S84} (hG : GoodF room last L) {x : Int} (hx : last < x) : act L x = 0 := by
 unfold act
 have : (L.map fun g => if x ∈ way L g.f0 then g.f4 else 0) = L.map fun _ => 0 := by
  refine List.map_congr_left fun g hg => ?_
  rw [if_neg]
  intro hm
  obtain ⟨y, hy, e⟩ := way_mem (hG.way hg).1 hm
  have := (hG.2.2.2.2.2 y hy).2.1
  omega
 rw [this]
 clear this hG
 induction L with
 | nil => rfl
 | cons a L ih => rw [List.map_cons, List.sum_cons, ih]; rfl
theorem kid_fresh {room : Nat} {last : Int} {L : List S84} (hG : GoodF room last L) {x : Int} (hx : last < x) : kid L x = 0 := by
 refine kid_zero fun g hg e => ?_
 have h1 := hG.2.2.1
 obtain ⟨p, hp, e2⟩ := par_in hG hg (by omega)
 have := (hG.2.2.2.2.2 p hp).2.1
 omega
theorem Ch.new {L : List S84} {a : S84} (hn : fnd L a.f0 = none) (h0 : 0 ≤ a.f0) {c : List Int} (hc : Ch (prt L) c a.f1) : Ch (prt (L ++ [a])) (a.f0 :: c) a.f0 := by
 refine ⟨rfl, h0, a.f1, ?_, Ch.app hn hc⟩
 unfold prt
 rw [fnd_app hn, if_pos rfl]
 rfl
theorem GoodF.app {room : Nat} {last : Int} {L : List S84} {p wt : Int} (hG : GoodF room last L) (hl : L.length < room) (h9 : last < 99999) (hw : 1 ≤ wt ∧ wt ≤ 10000)
  (hp : p = -1 ∨ ∃ g ∈ L, g.f0 = p ∧ (P.way L p).length < 8 ∧ kid L p + g.f3 < 32) : GoodF room (last + 1) (L ++ [⟨last + 1, p, wt, 0, 0⟩]) := by
 have hn : fnd L (last + 1) = none := fnd_fresh hG (by omega)
 have hG' := hG
 obtain ⟨e1, e2, e3, e4, e5, e6⟩ := hG
 refine ⟨e1, by rw [List.length_append, List.length_singleton]; omega, by omega, by omega, ?_, fun y hy => ?_⟩
 ·
  refine List.pairwise_append.2 ⟨e5, List.pairwise_singleton _ _, fun x hx y hy => ?_⟩
  obtain rfl := List.mem_singleton.1 hy
  have := (e6 x hx).2.1
  dsimp only
  omega
 ·
  rcases List.mem_append.1 hy with hy | hy
  ·
   obtain ⟨g1, g2, g3, ⟨c, hc, hcl⟩, g5, g6, g7, g8⟩ := e6 y hy
   refine ⟨g1, by omega, g3, ⟨c, hc.app hn, hcl⟩, g5, g6, g7, ?_⟩
   rw [kid_app]
   dsimp only
   split
   ·
    rename_i e
    rcases hp with rfl | ⟨g, hg, e2, _, h2⟩
    ·
     omega
    ·
     obtain rfl := e5.inj hg hy (e2.trans e)
     rw [← e] at *
     omega
   ·
    omega
  ·
   obtain rfl := List.mem_singleton.1 hy
   have hk : kid (L ++ [⟨last + 1, p, wt, 0, 0⟩]) (last + 1) = 0 := by
    rw [kid_app, kid_fresh hG' (by omega)]
    dsimp only
    rw [if_neg]
    ·
     rfl
    ·
     rcases hp with rfl | ⟨g, hg, e, _⟩
     ·
      omega
     ·
      have := (e6 g hg).2.1
      omega
   refine ⟨by dsimp only; omega, Int.le_refl _, ?_, ?_, hw, Int.le_refl _, Int.le_refl _, by dsimp only; rw [hk]; decide⟩
   ·
    rcases hp with rfl | ⟨g, hg, rfl, _⟩
    ·
     exact .inl rfl
    ·
     exact .inr (e6 g hg).1
   ·
    rcases hp with rfl | ⟨g, hg, rfl, h1, _⟩
    ·
     exact ⟨[last + 1], Ch.new (a := ⟨last + 1, -1, wt, 0, 0⟩) hn (by dsimp only; omega) (c := []) (show (-1 : Int) < 0 by omega), by simp⟩
    ·
     exact ⟨(last + 1) ::  P.way L g.f0, Ch.new (a := ⟨last + 1, g.f0, wt, 0, 0⟩) hn (by dsimp only; omega) (hG'.way hg).1, by rw [List.length_cons]; omega⟩
theorem Ch.mid {pr : Int → Option Int} : ∀ {c : List Int} {id x : Int}, Ch pr c id → x ∈ c → x ≠ id → ∃ y ∈ c, pr y = some x
 | [], _, _, _, h, _ => by cases h
 | y :: c, id, x, h, hx, hne => by
  obtain ⟨rfl, h0, p, hp, h1⟩ := h
  rcases List.mem_cons.1 hx with rfl | hx
  ·
   exact absurd rfl hne
  ·
   by_cases e : x = p
   ·
    exact ⟨y, List.mem_cons_self, by rw [e]; exact hp⟩
   ·
    obtain ⟨z, hz, h2⟩ := Ch.mid h1 hx e
    exact ⟨z, List.mem_cons_of_mem _ hz, h2⟩
theorem kid_pos {L : List S84} {g : S84} (hg : g ∈ L) : 0 < kid L g.f1 := by
 unfold kid
 have : 0 < (L.filter fun y => y.f1 == g.f1).length := List.length_pos_of_mem (List.mem_filter.2 ⟨hg, by simp⟩)
 omega
def delG (L : List S84) (id : Int) : List S84 := L.filter fun y => !(y.f0 == id)
theorem fnd_del : ∀ (L : List S84) (id x : Int), fnd (delG L id) x = if x = id then none else fnd L x
 | [], _, x => by simp [fnd, delG]
 | a :: L, id, x => by
  have ih := fnd_del L id x
  unfold fnd delG at ih ⊢
  rw [List.filter_cons]
  by_cases e : a.f0 = id
  ·
   rw [if_neg (by simp [e]), ih]
   split
   ·
    rfl
   ·
    rename_i h
    rw [List.find?_cons]
    have : (a.f0 == x) = false := beq_eq_false_iff_ne.mpr (by omega)
    rw [this]
  ·
   rw [if_pos (by simp [e]), List.find?_cons, List.find?_cons, ih]
   by_cases e2 : a.f0 = x
   ·
    have : (a.f0 == x) = true := beq_iff_eq.mpr e2
    rw [this]
    dsimp only
    rw [if_neg (by omega)]
   ·
    have : (a.f0 == x) = false := beq_eq_false_iff_ne.mpr e2
    rw [this]
theorem way_leaf {room : Nat} {last : Int} {L : List S84} (hG : GoodF room last L) {id : Int} (hk : kid L id = 0) {y : S84} (hy : y ∈ L) (hne : y.f0 ≠ id) : id ∉ way L y.f0 := by
 intro hm
 obtain ⟨z, hz, h1⟩ := (hG.way hy).1.mid hm fun e => hne e.symm
 obtain ⟨q, hq, _, e⟩ := prt_some h1
 have := kid_pos hq
 rw [e] at this
 omega
theorem Ch.del {L : List S84} {id : Int} {c : List Int} {x : Int} (h : Ch (prt L) c x) (hn : id ∉ c) : Ch (prt (delG L id)) c x := by
 refine h.congr fun y hy => ?_
 unfold prt
 rw [fnd_del, if_neg fun (e : y = id) => hn (e ▸ hy)]
theorem mem_del {L : List S84} {id : Int} {y : S84} : y ∈ delG L id ↔ y ∈ L ∧ y.f0 ≠ id := by
 unfold delG
 rw [List.mem_filter]
 simp
theorem kid_del {L : List S84} (hA : Asc L) {g : S84} (hg : g ∈ L) (x : Int) : kid (delG L g.f0) x = kid L x - if g.f1 = x then 1 else 0 := by
 induction L with
 | nil => cases hg
 | cons a L ih =>
  obtain ⟨h1, h2⟩ := List.pairwise_cons.1 hA
  rcases List.mem_cons.1 hg with rfl | hg
  ·
   have hd : delG (g :: L) g.f0 = L := by
    unfold delG
    rw [List.filter_cons, if_neg (by simp)]
    refine List.filter_eq_self.2 fun y hy => ?_
    have := h1 y hy
    simp
    omega
   rw [hd]
   unfold kid
   rw [List.filter_cons]
   by_cases e : g.f1 = x
   ·
    rw [if_pos e, if_pos (by simp [e]), List.length_cons]
    omega
   ·
    rw [if_neg e, if_neg (by simp [e])]
    omega
  ·
   have := h1 g hg
   have ih := ih h2 hg
   unfold kid delG at ih ⊢
   rw [List.filter_cons, if_pos (by simp; omega), List.filter_cons, List.filter_cons]
   split
   ·
    rw [List.length_cons, List.length_cons]
    omega
   ·
    exact ih
theorem GoodF.del {room : Nat} {last : Int} {L : List S84} (hG : GoodF room last L) {g : S84} (hg : g ∈ L) (hk : kid L g.f0 = 0) : GoodF room last (delG L g.f0) := by
 have hG' := hG
 obtain ⟨e1, e2, e3, e4, e5, e6⟩ := hG
 refine ⟨e1, Nat.le_trans (List.length_filter_le _ _) e2, e3, e4, e5.filter _, fun y hy => ?_⟩
 obtain ⟨hy1, hy2⟩ := mem_del.1 hy
 obtain ⟨g1, g2, g3, ⟨c, hc, hcl⟩, g5, g6, g7, g8⟩ := e6 y hy1
 refine ⟨g1, g2, g3, ⟨c, hc.del ?_, hcl⟩, g5, g6, g7, ?_⟩
 ·
  rw [← zaf hc]
  exact way_leaf hG' hk hy1 hy2
 ·
  rw [kid_del e5 hg]
  split <;> omega
def movG (L : List S84) (id p : Int) : List S84 := setG L id fun g => { g with f1 := p }
theorem prt_mov {L : List S84} {id p x : Int} (h : x ≠ id) : prt (movG L id p) x = prt L x := by
 unfold prt movG
 rw [fnd_setG (h := fun g => { g with f1 := p }) fun _ => rfl, Option.map_map]
 cases hf : fnd L x with
 | none => rfl
 | some g =>
  simp only [Option.map_some, Function.comp]
  rw [if_neg]
  rw [(zae hf).2]
  exact h
theorem prt_mov_self {L : List S84} {id p : Int} {g : S84} (h : fnd L id = some g) : prt (movG L id p) id = some p := by
 unfold prt movG
 rw [fnd_setG (h := fun g => { g with f1 := p }) fun _ => rfl, h]
 simp only [Option.map_some]
 rw [if_pos (zae h).2]
theorem Ch.mov_far {L : List S84} {id p : Int} {c : List Int} {x : Int} (h : Ch (prt L) c x) (hn : id ∉ c) : Ch (prt (movG L id p)) c x :=
 h.congr fun y hy => prt_mov fun e => hn (e ▸ hy)
theorem Ch.prepend {pr pr' : Int → Option Int} : ∀ {c1 d : List Int} {x y : Int} {d' : List Int}, Ch pr (c1 ++ y :: d) x → (∀ z ∈ c1, pr' z = pr z) → Ch pr' (y :: d') y → Ch pr' (c1 ++ y :: d') x
 | [], d, x, y, d', h, _, h' => by
  obtain ⟨rfl, _⟩ := h
  exact h'
 | z :: c1, d, x, y, d', h, he, h' => by
  obtain ⟨rfl, h0, p, hp, h1⟩ := h
  exact ⟨rfl, h0, p, (he z List.mem_cons_self).trans hp, Ch.prepend h1 (fun z hz => he z (List.mem_cons_of_mem _ hz)) h'⟩
theorem way_mov {room : Nat} {last : Int} {L : List S84} (hG : GoodF room last L) {g q y : S84} (hg : g ∈ L) (hq : q ∈ L) (hy : y ∈ L) (h0 : 0 ≤ g.f1) (hnl : g.f0 ∉ way L q.f0) :
  (g.f0 ∉ way L y.f0 ∧ Ch (prt (movG L g.f0 q.f0)) (way L y.f0) y.f0) ∨
  ∃ c1, way L y.f0 = c1 ++ g.f0 :: way L g.f1 ∧ Ch (prt (movG L g.f0 q.f0)) (c1 ++ g.f0 :: way L q.f0) y.f0 ∧
   ∀ x, (x ∈ c1 ∨ x = g.f0) → x ∉ way L g.f1 ∧ x ∉ way L q.f0 := by
 obtain ⟨hcy, _⟩ := hG.way hy
 obtain ⟨hcg, _⟩ := hG.way hg
 obtain ⟨hcq, _⟩ := hG.way hq
 have hgp := (hG.2.2.2.2.2 g hg).1
 by_cases hm : g.f0 ∈ way L y.f0
 ·
  refine .inr ?_
  obtain ⟨c2, hc2⟩ := hcg.head (by omega)
  have hcp : Ch (prt L) c2 g.f1 := by
   rw [hc2] at hcg
   obtain ⟨_, _, p, hp, h1⟩ := hcg
   rw [prt_mem hG.2.2.2.2.1 hg] at hp
   cases hp
   exact h1
  obtain ⟨c1, e1, hn1⟩ := hcy.split hm hcg
  rw [hc2] at e1
  have ew : way L g.f1 = c2 := zaf hcp
  refine ⟨c1, by rw [ew]; exact e1, ?_, fun x hx => ?_⟩
  ·
   rw [e1] at hcy
   refine hcy.prepend (fun z hz => prt_mov fun e => hn1 (e ▸ hz)) ?_
   exact ⟨rfl, by omega, q.f0, prt_mov_self (fnd_mem hG.2.2.2.2.1 hg), hcq.mov_far hnl⟩
  ·
   have hnd := hcy.nodup
   rw [e1, List.nodup_append] at hnd
   have hnd2 := List.nodup_cons.1 hnd.2.1
   rw [ew]
   constructor
   ·
    rcases hx with hx | rfl
    ·
     exact fun h => hnd.2.2 x hx x (List.mem_cons_of_mem _ h) rfl
    ·
     exact hnd2.1
   ·
    rcases hx with hx | rfl
    ·
     intro h
     obtain ⟨_, d1, d2, e3, hd⟩ := hcy.mem (x := x) (by rw [e1]; exact List.mem_append_left _ hx)
     obtain ⟨_, d3, d4, e4, hd'⟩ := hcq.mem h
     obtain rfl : d4 = d2 := by
      have := Ch.uniq hd hd'
      injection this with _ h
      exact h.symm
     have hg2 : g.f0 ∈ x :: d4 := by
      have hsp := hcy.split (x := x) (d := x :: d4) (by rw [e1]; exact List.mem_append_left _ hx) hd
      obtain ⟨c3, e5, hn3⟩ := hsp
      rw [e1] at e5
      rcases List.append_eq_append_iff.1 e5 with ⟨m, e6, e7⟩ | ⟨m, e6, e7⟩
      ·
       exact absurd (by rw [e6]; exact List.mem_append_left _ hx) hn3
      ·
       rw [e7]
       simp
     exact hnl (by rw [e4]; exact List.mem_append_right _ hg2)
    ·
     exact hnl
 ·
  exact .inl ⟨hm, hcy.mov_far hm⟩
theorem sum_add3 (F F' : S84 → Int) (A : S84 → Int) : ∀ {L : List S84}, (∀ y ∈ L, F' y = F y + A y) → (L.map F').sum = (L.map F).sum + (L.map A).sum
 | [], _ => rfl
 | a :: L, h => by
  rw [List.map_cons, List.map_cons, List.map_cons, List.sum_cons, List.sum_cons, List.sum_cons, h a List.mem_cons_self, sum_add3 F F' A fun y hy => h y (List.mem_cons_of_mem _ hy)]
  omega
theorem sum_mul (F : S84 → Int) (k : Int) : ∀ L : List S84, (L.map fun y => F y * k).sum = (L.map F).sum * k
 | [] => by simp
 | a :: L => by rw [List.map_cons, List.map_cons, List.sum_cons, List.sum_cons, sum_mul F k L, Int.add_mul]
theorem mov_f4 {L : List S84} {id p : Int} (F : Int → Int → Int) : ((movG L id p).map fun y => F y.f0 y.f4) = L.map fun y => F y.f0 y.f4 := by
 unfold movG setG
 rw [List.map_map]
 refine List.map_congr_left fun y _ => ?_
 simp only [Function.comp]
 split <;> rfl
theorem act_mov {room : Nat} {last : Int} {L : List S84} (hG : GoodF room last L) {g q : S84} (hg : g ∈ L) (hq : q ∈ L) (h0 : 0 ≤ g.f1) (hnl : g.f0 ∉ way L q.f0) (x : Int) :
  act (movG L g.f0 q.f0) x = act L x + (if x ∈ way L q.f0 then act L g.f0 else 0) - if x ∈ way L g.f1 then act L g.f0 else 0 := by
 have hk : ∀ k : Int, k = (if x ∈ way L q.f0 then (1 : Int) else 0) - (if x ∈ way L g.f1 then 1 else 0) → act (movG L g.f0 q.f0) x = act L x + act L g.f0 * k := by
  intro k hk
  unfold act
  rw [mov_f4 (fun a b => if x ∈ way (movG L g.f0 q.f0) a then b else 0)]
  rw [sum_add3 (fun y => if x ∈ way L y.f0 then y.f4 else 0) _ (fun y => (if g.f0 ∈ way L y.f0 then y.f4 else 0) * k), sum_mul (fun y => if g.f0 ∈ way L y.f0 then y.f4 else 0)]
  intro y hy
  rcases way_mov hG hg hq hy h0 hnl with ⟨h1, h2⟩ | ⟨c1, h1, h2, h3⟩
  ·
   rw [zaf h2, if_neg h1, Int.zero_mul, Int.add_zero]
  ·
   rw [zaf h2, h1, hk]
   have hin : g.f0 ∈ c1 ++ g.f0 :: way L g.f1 := by simp
   rw [if_pos hin]
   simp only [List.mem_append, List.mem_cons]
   by_cases hx : x ∈ c1 ∨ x = g.f0
   ·
    obtain ⟨n1, n2⟩ := h3 x hx
    rw [if_neg n1, if_neg n2, if_pos (hx.elim .inl fun h => .inr (.inl h)), if_pos (hx.elim .inl fun h => .inr (.inl h))]
    omega
   ·
    have e1 : (x ∈ c1 ∨ x = g.f0 ∨ x ∈ way L q.f0) ↔ x ∈ way L q.f0 := ⟨fun h => h.elim (fun h => absurd (.inl h) hx) fun h => h.elim (fun h => absurd (.inr h) hx) fun h => h, fun h => .inr (.inr h)⟩
    have e2 : (x ∈ c1 ∨ x = g.f0 ∨ x ∈ way L g.f1) ↔ x ∈ way L g.f1 := ⟨fun h => h.elim (fun h => absurd (.inl h) hx) fun h => h.elim (fun h => absurd (.inr h) hx) fun h => h, fun h => .inr (.inr h)⟩
    simp only [e1, e2]
    split <;> split <;> omega
 rw [hk _ rfl]
 split <;> split <;> omega
theorem kid_mov {L : List S84} (hA : Asc L) {g : S84} (hg : g ∈ L) (p x : Int) : kid (movG L g.f0 p) x = kid L x + (if p = x then 1 else 0) - if g.f1 = x then 1 else 0 := by
 have key : ∀ M : List S84, ((M.filter fun y => y.f1 == x).length : Int) = (M.map fun y => if y.f1 = x then (1 : Int) else 0).sum := by
  intro M
  induction M with
  | nil => rfl
  | cons a M ih =>
   rw [List.filter_cons, List.map_cons, List.sum_cons, ← ih]
   by_cases e : a.f1 = x
   ·
    rw [if_pos (by simp [e]), if_pos e, List.length_cons]
    omega
   ·
    rw [if_neg (by simp [e]), if_neg e]
    omega
 unfold kid
 rw [key, key]
 unfold movG
 rw [sum_setG (fun y => if y.f1 = x then (1 : Int) else 0) hA hg]
 dsimp only
 omega
theorem GoodF.mov {room : Nat} {last : Int} {L : List S84} (hG : GoodF room last L) {g q : S84} (hg : g ∈ L) (hq : q ∈ L) (h0 : 0 ≤ g.f1) (hnl : g.f0 ∉ P.way L q.f0)
  (hd : ∀ y ∈ L, g.f0 ∈ P.way L y.f0 → ((P.way L y.f0).length : Int) - (P.way L g.f0).length + (P.way L q.f0).length + 1 ≤ 8) (hf : g.f1 ≠ q.f0 → kid L q.f0 + q.f3 < 32) : GoodF room last (movG L g.f0 q.f0) := by
 have hG' := hG
 obtain ⟨e1, e2, e3, e4, e5, e6⟩ := hG
 refine ⟨e1, by unfold movG; rw [setG_len]; exact e2, e3, e4, e5.setG fun _ => rfl, fun z hz => ?_⟩
 obtain ⟨y, hy, hzy⟩ := mem_setG hz
 have hz0 : z.f0 = y.f0 ∧ z.f2 = y.f2 ∧ z.f3 = y.f3 ∧ z.f4 = y.f4 ∧ (z.f1 = y.f1 ∨ z.f1 = q.f0) := by
  rw [hzy]
  split
  ·
   exact ⟨rfl, rfl, rfl, rfl, .inr rfl⟩
  ·
   exact ⟨rfl, rfl, rfl, rfl, .inl rfl⟩
 obtain ⟨z0, z2, z3, z4, z1⟩ := hz0
 obtain ⟨g1, g2, g3, _, g5, g6, g7, g8⟩ := e6 y hy
 unfold GoodG
 rw [z0, z2, z3, z4]
 refine ⟨g1, g2, ?_, ?_, g5, g6, g7, ?_⟩
 ·
  rcases z1 with z1 | z1
  ·
   rw [z1]
   exact g3
  ·
   rw [z1]
   exact .inr (e6 q hq).1
 ·
  rcases way_mov hG' hg hq hy h0 hnl with ⟨_, h2⟩ | ⟨c1, h1, h2, _⟩
  ·
   exact ⟨_, h2, (hG'.way hy).2⟩
  ·
   refine ⟨_, h2, ?_⟩
   have h3 := hd y hy (by rw [h1]; simp)
   have hcg := (hG'.way hg).1
   obtain ⟨c2, hc2⟩ := hcg.head (by have := (e6 g hg).1; omega)
   have ew : P.way L g.f1 = c2 := by
    rw [hc2] at hcg
    obtain ⟨_, _, p, hp, h1⟩ := hcg
    rw [prt_mem e5 hg] at hp
    cases hp
    exact zaf h1
   rw [h1, hc2, ew] at h3
   simp only [List.length_append, List.length_cons] at h3 ⊢
   omega
 ·
  rw [kid_mov e5 hg]
  by_cases e : q.f0 = y.f0
  ·
   obtain rfl := e5.inj hq hy e
   rw [if_pos rfl]
   by_cases e2 : g.f1 = q.f0
   ·
    rw [if_pos e2]
    omega
   ·
    have := hf e2
    rw [if_neg e2]
    omega
  ·
   rw [if_neg e]
   split <;> omega
end Go.Proofs.Ytlmjdchcgfpngaa.P
end
