-- Written by a program of this session (wip/tools/shake.py) out of its own texts and of the kit's printed ones; not trusted: Lean checks it.
import Derived.Below
import Derived.Deep.Draws
import Derived.Deep.AppendLies
import Derived.Maps.AppendAt
import Derived.OwnWalk
import Derived.Laws.BytesArg
import Derived.Laws.MakeOwn
import Derived.Laws.OwnMore
import Derived.Deep.OwnRows
import Derived.Tactics
import Derived.Lib.ConvBytes
import Derived.Laws.Slices
import Derived.WalkKit
import Derived.KernelRfl
import Derived.RowKit3
import Derived.Deep.LoopGhost
import Derived.Deep.QuietTactic
import Derived.BigQuiet
import Derived.WideLaws
import Derived.Deep.DeepCutAuto
import Derived.Deep.CutBlock
import Derived.Deep.RegionHeld3
import Derived.Laws.Rows
import Derived.Lib.AppendStr
import Derived.ArgAppend
import Derived.Laws.IdiomCopy
import Derived.RowKit
import Derived.OrdersHeld
import Derived.Laws.BitsLemmas
import Derived.Laws.StructEq
import Derived.Test.YtbakdobjidjncaaProg
import Derived.Lib.LaidTab
import Derived.Lib.ItoaNum
import Derived.WalkSmall
import Derived.Shelf.Strconv.Itoa0
import Derived.Shelf.Sort.Plain
import Derived.Shelf.Slices.Turned
import Derived.Ground.Names2Prog
import Derived.Shelf.Slices.Clone
import Derived.Ground.SlgmProg
import Derived.Shelf.SortM.SortNone
import GoSem.Extern.MathBitsCarry
import Derived.Laws.Externs
import Derived.Lib.Repeat
import Derived.Lib.AppendIntMem
import Derived.Lib.ItoaWalk
import Derived.RangeFuncBox
import Derived.RangeFuncLeaves
import Derived.Shelf.Abstract
import Derived.OwnWalkIn
import Derived.TacticsInMore
import Derived.LoopNIn
import Derived.LoopIn
import Derived.RangeFuncCalls
import Derived.Lib.SliceRun
import Derived.Shelf.RegionOpen
import Derived.Lib.Strings
import Derived.Lib.OthersKept
import Derived.Lib.OwnBridge
import Derived.Maps.RangeWalk
import Derived.SizedLaws
import Derived.ChangeSlices
import Derived.ProofKit
import Derived.OpenShut
import Derived.ShutString
import Derived.ChangeOld
import Derived.Carry
import Derived.Handed
set_option maxHeartbeats 8000000
set_option maxRecDepth 100000
set_option linter.unusedVariables false
set_option linter.unusedSimpArgs false
section
namespace Go.Proofs.YtbakdobjidjncaaW.PrintWords
open Go.RowKit
structure Aside0 (p : Prop) : Prop where mk :: (out : p)
structure Drawn0 (w w' : World) : Prop where mk :: (out : ∃ n, w' = w.drewN n)
theorem Drawn0.refl (w : World) : Drawn0 w w := ⟨⟨0, rfl⟩⟩
theorem Drawn0.step {w w' : World} (h : Drawn0 w w') (n : Nat) : Drawn0 w (w'.drewN n) := by
 obtain ⟨m, rfl⟩ := h
 exact ⟨⟨m + n, World.drewN_drewN ..⟩⟩
theorem Drawn0.grown {w w' : World} (h : Drawn0 w w') : Grown w w' := by
 obtain ⟨n, rfl⟩ := h
 induction n with
 | zero => exact Grown.refl _
 | succ n ih => rw [← World.drew_drewN]; exact Grown.drew ih
theorem Drawn0.below {w w' : World} (h : Drawn0 w w') : Below w.heap.size w w' := by
 obtain ⟨n, rfl⟩ := h
 induction n with
 | zero => exact Below.refl _ _
 | succ n ih => rw [← World.drew_drewN]; exact ih.drew
theorem zaf {w W : World} (h : Below w.heap.size w W) (o : Obj) : Below w.heap.size w (W.alloc o) := h.alloc h.size o
theorem pw_below_drewN {B : Nat} {w W : World} (h : Below B w W) (n : Nat) : Below B w (W.drewN n) := ⟨h.os, h.tape, h.output, h.size, h.block⟩
theorem below_then {B : Nat} {w w1 w2 : World} (h : Below B w w1) (hB : B ≤ w1.heap.size) (k : Below w1.heap.size w1 w2) : Below B w w2 :=
 h.trans ⟨k.os, k.tape, k.output, k.size, fun i hi => k.block i (Nat.lt_of_lt_of_le hi hB)⟩
theorem grown_of_below {w w1 : World} (h : Below w.heap.size w w1) (row : Option Nat) : w.grownBy w1 row := ⟨h.os, h.tape, h.output, h.size, fun i hi _ => h.block i hi⟩
theorem pw_cell_below {w w1 : World} (h : Below w.heap.size w w1) {a : Addr} {v : Value} (hc : w.cell? a = some v) : w1.cell? a = some v := (h.cell (World.block_lt_of_cell? w a hc)).trans hc
theorem add_plain (g j : Nat) : (⟨g, 0, none⟩ : Addr).add j = ⟨g, j, none⟩ := by unfold Addr.add; split <;> simp_all
def ReadsInt (w : World) (k : IntKind) (A : Option Addr) (n : Nat) (xs : List Int) : Prop :=
 xs.length = n ∧ n ≤ 9223372036854775807 ∧ (0 < n → ∃ ad, A = some ad ∧ ∀ j, j < n → w.cell? (ad.add j) = some (.int k (xs.getD j 0)))
theorem ReadsInt.below {w w1 : World} {k : IntKind} {A : Option Addr} {n : Nat} {xs : List Int} (h : ReadsInt w k A n xs) (hb : Below w.heap.size w w1) : ReadsInt w1 k A n xs :=
 ⟨h.1, h.2.1, fun hn => by
  obtain ⟨ad, e, hc⟩ := h.2.2 hn
  exact ⟨ad, e, fun j hj => pw_cell_below hb (hc j hj)⟩⟩
theorem own_nil (W : World) (base : Nat) (e : TypeId) (size : Nat) : W.ownsRow base e size (.slice none 0 0) 0 [] := ⟨by simp, .inl ⟨rfl, rfl⟩⟩
theorem own_base {w : World} {base : Nat} {e : TypeId} {size n : Nat} {v : Value} {xs : List Value} (h : w.ownsRow base e size v n xs) (k : Nat) (hk : v.ownBlock = some k) : base ≤ k := by
 rcases h.2 with ⟨rfl, _⟩ | ⟨g, cap, cur, rfl, hb, _⟩
 ·
  simp [Value.ownBlock] at hk
 ·
  have : g = k := by simpa [Value.ownBlock] using hk
  omega
theorem own_lt {w : World} {base : Nat} {e : TypeId} {size n : Nat} {v : Value} {xs : List Value} (h : w.ownsRow base e size v n xs) (k : Nat) (hk : v.ownBlock = some k) : k < w.heap.size := by
 rcases h.2 with ⟨rfl, _⟩ | ⟨g, cap, cur, rfl, hb, hh, _⟩
 ·
  simp [Value.ownBlock] at hk
 ·
  have : g = k := by simpa [Value.ownBlock] using hk
  subst this
  exact (Array.getElem?_eq_some_iff.1 hh).1
theorem pw_own_below {w w1 : World} {base : Nat} {e : TypeId} {size n : Nat} {v : Value} {xs : List Value} (h : w.ownsRow base e size v n xs) (hb : Below w.heap.size w w1) : w1.ownsRow base e size v n xs :=
 h.kept (grown_of_below hb none) (by cases v.ownBlock <;> simp)
theorem own_other {w w1 : World} {base : Nat} {e : TypeId} {size n : Nat} {v : Value} {xs : List Value} (h : w.ownsRow base e size v n xs) {row : Option Nat} (hg : w.grownBy w1 row) (hne : v.ownBlock = none ∨ v.ownBlock ≠ row) : w1.ownsRow base e size v n xs := h.kept hg hne
section
variable {P : Program}
theorem print_make (t e : TypeId) (k : IntKind) (bytes : Nat) (ht : P.underlying t = some (.slice e)) (hinfo : (P.info? e).map (fun i => (i.zero, i.size, i.bytes)) = some (some (.int k 0), 1, bytes)) (hb0 : 0 < bytes)
  (m : Nat) (hn : m * bytes ≤ 281474976710656) :
  ∀ W : World, (Instr.makeSlice t (.int .i64 (m : Int)) (.int .i64 (m : Int))).run P W = .ok (.slice (some ⟨W.heap.size, 0, none⟩) m m) (W.alloc (.cells (madeCells #[.int k 0] m) e)) := by
 intro W
 have hm : m ≤ 281474976710656 := Nat.le_trans (Nat.le_mul_of_pos_right _ hb0) hn
 exact run_make_row' t e (.int k 0) bytes ht hinfo rfl .i64 .i64 m (by rw [Nat.mul_comm]; exact hn) (by omega) W
end
def bytesOf (s : ByteArray) : List Int := s.data.toList.map fun b => (b.toNat : Int)
def LeO {α : Type} (a b : Option α) : Prop := ∀ r, a = some r → b = some r
theorem LeO.refl {α : Type} (a : Option α) : LeO a a := fun _ h => h
theorem LeO.none {α : Type} (b : Option α) : LeO Option.none b := fun _ h => by cases h
theorem LeO.trans {α : Type} {a b c : Option α} (h : LeO a b) (k : LeO b c) : LeO a c := fun r hr => k r (h r hr)
theorem LeO.bind {α β : Type} {a a' : Option α} {f f' : α → Option β} (h : LeO a a') (k : ∀ x, LeO (f x) (f' x)) : LeO (a.bind f) (a'.bind f') := by
 intro r hr
 obtain ⟨x, hx, hf⟩ := Option.bind_eq_some_iff.1 hr
 exact Option.bind_eq_some_iff.2 ⟨x, h x hx, k x r hf⟩
theorem LeO.map {α β : Type} {a a' : Option α} (f : α → β) (h : LeO a a') : LeO (a.map f) (a'.map f) := by
 intro r hr
 obtain ⟨x, hx, hf⟩ := Option.map_eq_some_iff.1 hr
 exact Option.map_eq_some_iff.2 ⟨x, h x hx, hf⟩
def Reps {α : Type} (R : α → List Value → Prop) (size : Nat) (ps : List α) (cs : List Value) : Prop :=
 cs.length = ps.length * size ∧ ∀ j p, ps[j]? = some p → R p ((cs.drop (j * size)).take size)
theorem Reps.none {α : Type} (R : α → List Value → Prop) (size : Nat) : Reps R size [] [] := ⟨by simp, fun j p h => by simp at h⟩
theorem Reps.snoc {α : Type} {R : α → List Value → Prop} {size : Nat} {ps : List α} {cs c : List Value} {p : α} (h : Reps R size ps cs) (hp : R p c) (hc : c.length = size) : Reps R size (ps ++ [p]) (cs ++ c) := by
 refine ⟨by rw [List.length_append, h.1, hc, List.length_append, List.length_singleton, Nat.add_mul, Nat.one_mul], fun j q hq => ?_⟩
 rcases Nat.lt_or_ge j ps.length with hj | hj
 ·
  rw [List.getElem?_append_left hj] at hq
  have h1 : j * size + size ≤ cs.length := by rw [h.1, ← Nat.succ_mul]; exact Nat.mul_le_mul_right _ hj
  have h2 := h.2 j q hq
  rw [List.drop_append_of_le_length (by omega), List.take_append_of_le_length (by rw [List.length_drop]; omega)]
  exact h2
 ·
  have hj' : j = ps.length := by
   have := (List.getElem?_eq_some_iff.1 hq).1
   rw [List.length_append, List.length_singleton] at this
   omega
  subst hj'
  have hq' : p = q := by simpa using hq
  subst hq'
  rw [← h.1, List.drop_left, ← hc, List.take_length]
  exact hp
theorem Reps.imp_ {α : Type} {R R' : α → List Value → Prop} {size : Nat} {ps : List α} {cs : List Value} (h : Reps R size ps cs) (hR : ∀ p c, R p c → R' p c) : Reps R' size ps cs := ⟨h.1, fun j p hj => hR _ _ (h.2 j p hj)⟩
def ReadsRow {α : Type} (R : α → List Value → Prop) (size : Nat) (w : World) (A : Option Addr) (n : Nat) (ps : List α) : Prop :=
 ps.length = n ∧ n ≤ 9223372036854775807 ∧ (0 < n → ∃ ad, A = some ad ∧ ∀ j p, ps[j]? = some p → ∃ c, c.length = size ∧ R p c ∧ ∀ i u, c[i]? = some u → w.cell? (ad.add (j * size + i)) = some u)
theorem ReadsRow.imp_ {α : Type} {R R' : α → List Value → Prop} {size : Nat} {w w1 : World} {A : Option Addr} {n : Nat} {ps : List α} (h : ReadsRow R size w A n ps) (hb : Below w.heap.size w w1) (hR : ∀ p c, R p c → R' p c) : ReadsRow R' size w1 A n ps :=
 ⟨h.1, h.2.1, fun hn => by
  obtain ⟨ad, e, hc⟩ := h.2.2 hn
  refine ⟨ad, e, fun j p hj => ?_⟩
  obtain ⟨c, hs, hr, hcell⟩ := hc j p hj
  exact ⟨c, hs, hR _ _ hr, fun i u hu => pw_cell_below hb (hcell i u hu)⟩⟩
theorem own_reads_row {α : Type} {R : α → List Value → Prop} {w : World} {base n size : Nat} {e : TypeId} {v : Value} {ps : List α} {cs : List Value} (h : w.ownsRow base e size v n cs) (hR : Reps R size ps cs) (hn : ps.length = n) :
  ∃ A c, v = .slice A n c ∧ ReadsRow R size w A n ps := by
 rcases Nat.eq_zero_or_pos n with h0 | h0
 ·
  rcases h.2 with ⟨rfl, rfl⟩ | ⟨g, cap, cur, rfl, _⟩
  ·
   exact ⟨none, 0, rfl, hn, by omega, fun hp => absurd hp (by omega)⟩
  ·
   exact ⟨_, cap, rfl, hn, by omega, fun hp => absurd hp (by omega)⟩
 ·
  obtain ⟨g, cap, rfl, _, _⟩ := h.form h0
  have hm : n ≤ 9223372036854775807 := by
   rcases h.2 with ⟨_, h1⟩ | ⟨g', cap', cur, he, _, _, h1, h2, _⟩
   ·
    omega
   ·
    simp only [maxLen] at h2
    omega
  refine ⟨_, cap, rfl, hn, hm, fun _ => ⟨_, rfl, fun j p hj => ⟨(cs.drop (j * size)).take size, ?_, hR.2 j p hj, fun i u hu => ?_⟩⟩⟩
  ·
   have hjl := (List.getElem?_eq_some_iff.1 hj).1
   have h1 : j * size + size ≤ cs.length := by rw [hR.1, ← Nat.succ_mul]; exact Nat.mul_le_mul_right _ hjl
   rw [List.length_take, List.length_drop]
   omega
  ·
   refine h.cells (g := g) rfl _ u ?_
   rw [List.getElem?_take] at hu
   split at hu
   ·
    rw [List.getElem?_drop] at hu
    exact hu
   ·
    cases hu
section
variable {P : Program} {ops : Array Oper} {rest : List Oper} {o : Oper} {a : Act} {Q : Exit → Act → World → Prop}
theorem print_append_cells {w0 W : World} (base : Nat) (hgd : o.guard = none) (s x : Operand) (t e : TypeId) (z : Value) (size bytes : Nat)
  (ho : o.op = .call { callee := .builtin .append, args := #[s, x], argTypes := #[t, t] })
  (ht : P.underlying t = some (.slice e)) (hinfo : (P.info? e).map (fun i => (i.zero, i.size, i.bytes)) = some (some z, size, bytes)) (hz : z.cells.size = size) (hs0 : 0 < size) (hb0 : 0 < bytes)
  (v : Value) (n : Nat) (xs ys : List Value) (hs : a.eval s = v) (hx : a.eval x = .slice (some ⟨W.heap.size, 0, none⟩) 1 1) (hys : ys.length = size) (h1 : ∀ u ∈ ys, u.oneCell' = true)
  (HO : W.ownsRow base e size v n xs) (HB : Below base w0 W) (hbase : base ≤ W.heap.size) (hl : (n + 1) * bytes ≤ 140737488355328)
  (h : ∀ v1 w1, w1.ownsRow base e size v1 (n + 1) (xs ++ ys) → Below base w0 w1 → W.grownBy w1 v.ownBlock → (v1.ownBlock = v.ownBlock ∨ ∃ b, v1.ownBlock = some b ∧ W.heap.size ≤ b) → wpList P ops Q rest (a.put o.dst v1) w1) :
  wpList P ops Q (o :: rest) a (W.alloc (.cells ys.toArray e)) := by
 obtain ⟨i0, hi, hzz⟩ := Option.map_eq_some_iff.1 hinfo
 simp only [Prod.mk.injEq] at hzz
 obtain ⟨hz0, hz1, hz2⟩ := hzz
 have hlen : n + 1 ≤ 140737488355328 := Nat.le_trans (Nat.le_mul_of_pos_right _ hb0) hl
 refine wpList_append_own_at (W.alloc (.cells ys.toArray e)) hgd s x t ho base e i0 z size bytes ht hi hz0 hz1 hz2 hz hs0 v n xs hs (HO.alloc _) ⟨W.heap.size, 0, none⟩ 1 1 ys hx (by rw [hys]; simp)
  (by simpa using World.news_of_block (cs := ys.toArray) (t := e) (fr := (0, 0)) (heap_alloc_new W (.cells ys.toArray e))) h1 (by simp only [maxLen]; omega) hl (by simp; omega) ?_
 intro v1 w1 hown hg _ hat
 refine h v1 w1 hown ((HB.alloc hbase _).grown hg (by simp; omega) (own_base HO)) (World.grownBy.trans (World.grownBy_alloc W _ _) hg) ?_
 rcases hat with hat | hat
 ·
  exact .inl hat
 ·
  exact .inr ⟨_, hat, by simp⟩
end
theorem own_ne {w : World} {base : Nat} {e t : TypeId} {size n g : Nat} {v : Value} {xs : List Value} {cs : Array Value} (h : w.ownsRow base e size v n xs) (hg : w.heap[g]? = some (.cells cs t (0, 0))) (hne : e ≠ t) : some g ≠ v.ownBlock := by
 rcases h.2 with ⟨rfl, _⟩ | ⟨g', cap, cur, rfl, _, hh, _⟩
 ·
  simp [Value.ownBlock]
 ·
  intro he
  have : g = g' := by simpa [Value.ownBlock] using he
  subst this
  rw [hg] at hh
  injection hh with hh
  injection hh with _ ht
  exact hne ht.symm
theorem blk_set {w : World} {g : Nat} {t : TypeId} {cs : Array Value} (h : w.heap[g]? = some (.cells cs t (0, 0))) (i : Nat) (u : Value) : (w.setCell ⟨g, i, none⟩ u).heap[g]? = some (.cells (cs.setIfInBounds i u) t (0, 0)) := by
 simp [World.setCell, Array.getElem?_modify, h]
theorem blk_far {w : World} {g : Nat} {t : TypeId} {cs : Array Value} (h : w.heap[g]? = some (.cells cs t (0, 0))) {p : Addr} (hp : g ≠ p.block) (u : Value) : (w.setCell p u).heap[g]? = some (.cells cs t (0, 0)) := (Below.heap_setCell w p u g hp).trans h
theorem zak {w : World} {g : Nat} {o : Obj} (h : w.heap[g]? = some o) : g < w.heap.size := (Array.getElem?_eq_some_iff.1 h).1
theorem za {w : World} {g : Nat} {t : TypeId} {cs : Array Value} (h : w.heap[g]? = some (.cells cs t (0, 0))) (i : Nat) : w.cell? ⟨g, i, none⟩ = cs[i]? := cell_of_row w g i cs t (0, 0) h
theorem zaa {w : World} {g : Nat} {t : TypeId} {cs : Array Value} (h : w.heap[g]? = some (.cells cs t (0, 0))) (i : Nat) : w.frozen? ⟨g, i, none⟩ = false := by simp [World.frozen?, h]
def KeepBut (w w' : World) (g : Nat) (row : Option Nat) : Prop := w.heap.size ≤ w'.heap.size ∧ ∀ i, i < w.heap.size → i ≠ g → some i ≠ row → w'.heap[i]? = w.heap[i]?
theorem KeepBut.refl (w : World) (g : Nat) (row : Option Nat) : KeepBut w w g row := ⟨Nat.le_refl _, fun _ _ _ _ => rfl⟩
theorem KeepBut.of_below {w w1 : World} (h : Below w.heap.size w w1) (g : Nat) (row : Option Nat) : KeepBut w w1 g row := ⟨h.size, fun i hi _ _ => h.block i hi⟩
theorem KeepBut.trans {w w1 w2 : World} {g : Nat} {row row1 : Option Nat} (h : KeepBut w w1 g row) (k : KeepBut w1 w2 g row1) (hr : row1 = row ∨ ∃ b, row1 = some b ∧ w.heap.size ≤ b) : KeepBut w w2 g row :=
 ⟨Nat.le_trans h.1 k.1, fun i hi hg hn => by
  refine (k.2 i (Nat.lt_of_lt_of_le hi h.1) hg ?_).trans (h.2 i hi hg hn)
  rcases hr with rfl | ⟨b, rfl, hb⟩
  ·
   exact hn
  ·
   intro e
   injection e with e
   omega⟩
theorem KeepBut.blk {w w1 : World} {g g' : Nat} {row : Option Nat} {o : Obj} (h : KeepBut w w1 g row) (hb : w.heap[g']? = some o) (hg : g' ≠ g) (hr : some g' ≠ row) : w1.heap[g']? = some o := (h.2 g' (zak hb) hg hr).trans hb
theorem KeepBut.own {w w1 : World} {g : Nat} {row : Option Nat} {base : Nat} {e : TypeId} {size n : Nat} {v : Value} {xs : List Value} (h : KeepBut w w1 g row) (ho : w.ownsRow base e size v n xs) (hg : v.ownBlock ≠ some g) (hr : v.ownBlock = none ∨ v.ownBlock ≠ row) : w1.ownsRow base e size v n xs := by
 obtain ⟨h1, h2⟩ := ho
 refine ⟨h1, ?_⟩
 rcases h2 with h2 | ⟨b, cap, cur, rfl, hb, hh, r⟩
 ·
  exact .inl h2
 ·
  refine .inr ⟨b, cap, cur, rfl, hb, h.blk hh ?_ ?_, r⟩
  ·
   intro e
   exact hg (by rw [← e]; rfl)
  ·
   rcases hr with hr | hr
   ·
    simp [Value.ownBlock] at hr
   ·
    exact hr
def Ev {α : Type} (g : Nat → Option α) (r : α) : Prop := ∃ K, ∀ k, K ≤ k → g k = some r
theorem Ev.bind {α β : Type} {g : Nat → Option α} {f : Nat → α → Option β} {a : α} {r : β} (h : Ev g a) (k : Ev (fun n => f n a) r) : Ev (fun n => (g n).bind (f n)) r := by
 obtain ⟨K, h⟩ := h
 obtain ⟨K', k⟩ := k
 refine ⟨max K K', fun n hn => ?_⟩
 have h1 := h n (by omega)
 have h2 := k n (by omega)
 simp only [h1, Option.bind_some]
 exact h2
theorem Ev.step {α : Type} {g f : Nat → Option α} {r : α} (h : ∀ k, g (k + 1) = f k) (k : Ev f r) : Ev g r := by
 obtain ⟨K, k⟩ := k
 refine ⟨K + 1, fun n hn => ?_⟩
 obtain ⟨m, rfl⟩ : ∃ m, n = m + 1 := ⟨n - 1, by omega⟩
 rw [h]
 exact k m (by omega)
theorem Ev.congr {α : Type} {g f : Nat → Option α} {r : α} (h : ∀ k, g k = f k) (k : Ev f r) : Ev g r := by
 obtain ⟨K, k⟩ := k
 exact ⟨K, fun n hn => (h n).trans (k n hn)⟩
theorem own_weaken {w : World} {base base' : Nat} {e : TypeId} {size n : Nat} {v : Value} {xs : List Value} (h : w.ownsRow base e size v n xs) (hb : base' ≤ base) : w.ownsRow base' e size v n xs := by
 obtain ⟨h1, h2⟩ := h
 refine ⟨h1, ?_⟩
 rcases h2 with h2 | ⟨g, cap, cur, rfl, hg, r⟩
 ·
  exact .inl h2
 ·
  exact .inr ⟨g, cap, cur, rfl, Nat.le_trans hb hg, r⟩
section
variable {α : Type} {enc : α → Value} {d : α}
def encs (enc : α → Value) (xs : List α) : List Value := xs.map enc
theorem encs_length (xs : List α) : (encs enc xs).length = xs.length := by simp [encs]
def ReadsOf (enc : α → Value) (d : α) (w : World) (A : Option Addr) (n : Nat) (xs : List α) : Prop :=
 xs.length = n ∧ n ≤ 9223372036854775807 ∧ (0 < n → ∃ ad, A = some ad ∧ ∀ j, j < n → w.cell? (ad.add j) = some (enc (xs.getD j d)))
theorem ReadsOf.below {w w1 : World} {A : Option Addr} {n : Nat} {xs : List α} (h : ReadsOf enc d w A n xs) (hb : Below w.heap.size w w1) : ReadsOf enc d w1 A n xs :=
 ⟨h.1, h.2.1, fun hn => by
  obtain ⟨ad, e, hc⟩ := h.2.2 hn
  exact ⟨ad, e, fun j hj => pw_cell_below hb (hc j hj)⟩⟩
end
theorem zab {w : World} {g : Nat} {o : Obj} (h : w.heap[g]? = some o) (o' : Obj) : (w.alloc o').heap[g]? = some o := (Below.heap_alloc w o' g (zak h)).trans h
theorem zah {w : World} {g : Nat} {o : Obj} (h : w.heap[g]? = some o) : w.drew.heap[g]? = some o := h
theorem zae {w : World} {g : Nat} {o : Obj} (h : w.heap[g]? = some o) (n : Nat) : (w.drewN n).heap[g]? = some o := h
theorem zam {w w1 : World} {g : Nat} {o : Obj} (h : w.heap[g]? = some o) (hb : Below w.heap.size w w1) : w1.heap[g]? = some o := (hb.block g (zak h)).trans h
theorem blk_new (w : World) (o : Obj) : (w.alloc o).heap[w.heap.size]? = some o := heap_alloc_new w o
section
variable {P : Program}
theorem results_ct {fn : Func} {p u : Tmp} {ty : TypeId} (h : fn.results = #[.cell p ty, .tmp u]) (tmps : Array Value) (w : World) (g : Nat) (t : TypeId) (cs : Array Value) (fr : Nat × Nat) (d : TypeDesc)
  (hp : tmps.getD p undef = .pointer (some ⟨g, 0, none⟩)) (hg : w.heap[g]? = some (.cells cs t fr))
  (hu : P.underlying ty = some d) (hd : (match d with | .struct _ | .array _ _ => true | _ => false) = true) (hi : (P.info? ty).map (·.size) = some cs.size) :
  (results fn tmps).run P w = .ok (.tuple #[.agg cs, tmps.getD u undef]) w := by
 have hp' : tmps[p]?.getD undef = .pointer (some ⟨g, 0, none⟩) := by simpa using hp
 simp [results, h, hp', asAddr, run_loadVar_row w g t ty cs fr d hg hu hd hi]
end
theorem own_le {w : World} {base n m c size : Nat} {e : TypeId} {A : Option Addr} {xs : List Value} (h : w.ownsRow base e size (.slice A m c) n xs) : m ≤ c := by
 rcases h.2 with ⟨he, _⟩ | ⟨g, cap, cur, he, _, _, hnc, _⟩
 ·
  injection he with _ h2 h3
  omega
 ·
  injection he with _ h2 h3
  omega
def OwnRow {α : Type} (R : α → List Value → Prop) (e : TypeId) (size : Nat) (w : World) (base : Nat) (v : Value) (ps : List α) : Prop :=
 ∃ inner, w.ownsRow base e size v ps.length inner ∧ Reps R size ps inner
section
variable {α : Type} {R R' : α → List Value → Prop} {e : TypeId} {size : Nat} {w w1 : World} {base : Nat} {v : Value} {ps : List α}
theorem OwnRow.none_ (R : α → List Value → Prop) (e : TypeId) (size : Nat) (w : World) (base : Nat) : OwnRow R e size w base (.slice none 0 0) [] := ⟨[], own_nil _ _ _ _, Reps.none _ _⟩
theorem OwnRow.imp_ (h : OwnRow R e size w base v ps) (hR : ∀ p c, R p c → R' p c) : OwnRow R' e size w base v ps := by
 obtain ⟨inner, ho, hr⟩ := h
 exact ⟨inner, ho, hr.imp_ hR⟩
theorem OwnRow.below (h : OwnRow R e size w base v ps) (hb : Below w.heap.size w w1) : OwnRow R e size w1 base v ps := by
 obtain ⟨inner, ho, hr⟩ := h
 exact ⟨inner, pw_own_below ho hb, hr⟩
theorem OwnRow.other (h : OwnRow R e size w base v ps) {row : Option Nat} (hg : w.grownBy w1 row) (hne : v.ownBlock = none ∨ v.ownBlock ≠ row) : OwnRow R e size w1 base v ps := by
 obtain ⟨inner, ho, hr⟩ := h
 exact ⟨inner, own_other ho hg hne, hr⟩
theorem OwnRow.keep (h : OwnRow R e size w base v ps) {g : Nat} {t : TypeId} {cells : Array Value} (hb : w.heap[g]? = some (.cells cells t (0, 0))) (ht : e ≠ t) (hk : KeepBut w w1 g none) : OwnRow R e size w1 base v ps := by
 obtain ⟨inner, ho, hr⟩ := h
 exact ⟨inner, hk.own ho (Ne.symm (own_ne ho hb ht)) (by cases v.ownBlock <;> simp), hr⟩
theorem OwnRow.reads (h : OwnRow R e size w base v ps) : ∃ A c, v = .slice A ps.length c ∧ ps.length ≤ c ∧ ReadsRow R size w A ps.length ps := by
 obtain ⟨inner, ho, hr⟩ := h
 obtain ⟨A, c, rfl, hrow⟩ := own_reads_row ho hr rfl
 exact ⟨A, c, rfl, own_le ho, hrow⟩
end
section
variable {P : Program} {ops : Array Oper} {rest : List Oper} {o : Oper} {a : Act} {Q : Exit → Act → World → Prop} {α : Type} {R : α → List Value → Prop}
theorem OwnRow.append {w0 W : World} (base : Nat) (hgd : o.guard = none) (s x : Operand) (t e : TypeId) (z : Value) (size bytes : Nat)
  (ho : o.op = .call { callee := .builtin .append, args := #[s, x], argTypes := #[t, t] })
  (ht : P.underlying t = some (.slice e)) (hinfo : (P.info? e).map (fun i => (i.zero, i.size, i.bytes)) = some (some z, size, bytes)) (hz : z.cells.size = size) (hs0 : 0 < size) (hb0 : 0 < bytes)
  (v : Value) (ps : List α) (p : α) (cs : List Value) (hs : a.eval s = v) (hx : a.eval x = .slice (some ⟨W.heap.size, 0, none⟩) 1 1) (hp : R p cs) (hcs : cs.length = size) (h1 : ∀ u ∈ cs, u.oneCell' = true)
  (HO : OwnRow R e size W base v ps) (HB : Below base w0 W) (hbase : base ≤ W.heap.size) (hl : (ps.length + 1) * bytes ≤ 140737488355328)
  (h : ∀ v1 w1, OwnRow R e size w1 base v1 (ps ++ [p]) → Below base w0 w1 → W.grownBy w1 v.ownBlock → (v1.ownBlock = v.ownBlock ∨ ∃ b, v1.ownBlock = some b ∧ W.heap.size ≤ b) → wpList P ops Q rest (a.put o.dst v1) w1) :
  wpList P ops Q (o :: rest) a (W.alloc (.cells cs.toArray e)) := by
 obtain ⟨inner, hown, hr⟩ := HO
 refine print_append_cells base hgd s x t e z size bytes ho ht hinfo hz hs0 hb0 v ps.length inner cs hs hx hcs h1 hown HB hbase hl ?_
 intro v1 w1 hown1 hb1 hg1 hat1
 exact h v1 w1 ⟨inner ++ cs, by rw [List.length_append, List.length_singleton]; exact hown1, hr.snoc hp hcs⟩ hb1 hg1 hat1
end
section
variable {α : Type} {P : Program}
theorem ReadsOf.len_ {enc : α → Value} {d : α} {w : World} {A : Option Addr} {n : Nat} {xs : List α} (h : ReadsOf enc d w A n xs) : ReadsOf enc d w A xs.length xs := by rw [h.1]; exact h
end
structure Kd (α : Type) where
 sz : Nat
 E : List Nat
 K : World → α → List Value → Prop
 M : World → Nat → (Nat → Prop) → α → List Value → Prop
 K_len : ∀ {w x cs}, K w x cs → cs.length = sz
 K_one : ∀ {w x cs}, K w x cs → ∀ u ∈ cs, u.oneCell' = true
 K_below : ∀ {w w1 : World} {x cs}, Below w.heap.size w w1 → K w x cs → K w1 x cs
 K_of_M : ∀ {w base ok x cs}, M w base ok x cs → K w x cs
 M_mono : ∀ {w base ok ok' x cs}, (∀ k, ok k → ok' k) → M w base ok x cs → M w base ok' x cs
 M_bound : ∀ {w : World} {base ok x cs}, M w base ok x cs → M w base (fun k => ok k ∧ base ≤ k ∧ k < w.heap.size ∧ ∃ q, q ∈ E ∧ ∃ cells, w.heap[k]? = some (.cells cells q (0, 0))) x cs
 M_move : ∀ {w w1 : World} {base ok x cs}, (∀ k, ok k → w1.heap[k]? = w.heap[k]?) → M w base ok x cs → M w1 base ok x cs
 M_lower : ∀ {w base base' ok x cs}, base' ≤ base → M w base ok x cs → M w base' ok x cs
theorem own_move {w w1 : World} {base : Nat} {e : TypeId} {size n : Nat} {v : Value} {xs : List Value} (h : w.ownsRow base e size v n xs) (hm : ∀ k, v.ownBlock = some k → w1.heap[k]? = w.heap[k]?) : w1.ownsRow base e size v n xs := by
 obtain ⟨h1, h2⟩ := h
 refine ⟨h1, ?_⟩
 rcases h2 with h2 | ⟨g, cap, cur, rfl, hg, hh, r⟩
 ·
  exact .inl h2
 ·
  exact .inr ⟨g, cap, cur, rfl, hg, (hm g (by simp [Value.ownBlock])).trans hh, r⟩
theorem own_typed {w : World} {base : Nat} {e : TypeId} {size n : Nat} {v : Value} {xs : List Value} (h : w.ownsRow base e size v n xs) (k : Nat) (hk : v.ownBlock = some k) : ∃ cells, w.heap[k]? = some (.cells cells e (0, 0)) := by
 rcases h.2 with ⟨rfl, _⟩ | ⟨g, cap, cur, rfl, hg, hh, r⟩
 ·
  simp [Value.ownBlock] at hk
 ·
  have : g = k := by simpa [Value.ownBlock] using hk
  subst this
  exact ⟨cur, hh⟩
namespace Kd
def C {α : Type} (d : Kd α) (w : World) (A : Option Addr) (n : Nat) (xs : List α) : Prop := ReadsRow (d.K w) d.sz w A n xs
def R {α : Type} (d : Kd α) (e : Nat) (w : World) (base : Nat) (ok : Nat → Prop) (v : Value) (xs : List α) : Prop :=
 (∀ k, v.ownBlock = some k → ok k) ∧ OwnRow (d.M w base (fun k => ok k ∧ some k ≠ v.ownBlock)) e d.sz w base v xs
section
variable {α : Type} {d : Kd α} {e : Nat} {w w1 : World} {base : Nat} {ok ok' : Nat → Prop} {v : Value} {xs : List α}
theorem C_below {A : Option Addr} {n : Nat} (h : d.C w A n xs) (hb : Below w.heap.size w w1) : d.C w1 A n xs := ReadsRow.imp_ h hb (fun _ _ hp => d.K_below hb hp)
theorem R_nil (d : Kd α) (e : Nat) (w : World) (base : Nat) (ok : Nat → Prop) : d.R e w base ok (.slice none 0 0) [] := ⟨fun k hk => by simp [Value.ownBlock] at hk, OwnRow.none_ _ _ _ _ _⟩
theorem R_mono (h : d.R e w base ok v xs) (hok : ∀ k, ok k → ok' k) : d.R e w base ok' v xs := ⟨fun k hk => hok k (h.1 k hk), h.2.imp_ (fun _ _ hp => d.M_mono (fun k hk => ⟨hok k hk.1, hk.2⟩) hp)⟩
theorem R_bound (h : d.R e w base ok v xs) : d.R e w base (fun k => ok k ∧ base ≤ k ∧ k < w.heap.size ∧ ∃ q, q ∈ e :: d.E ∧ ∃ cells, w.heap[k]? = some (.cells cells q (0, 0))) v xs := by
 obtain ⟨h0, inner, ho, hr⟩ := h
 refine ⟨fun k hk => ?_, inner, ho, hr.imp_ (fun _ _ hp => d.M_mono (fun k hk => ?_) (d.M_bound hp))⟩
 ·
  obtain ⟨cells, hc⟩ := own_typed ho k hk
  exact ⟨h0 k hk, own_base ho k hk, own_lt ho k hk, e, List.mem_cons_self, cells, hc⟩
 ·
  obtain ⟨⟨h1, h2⟩, h3, h4, q, hq, hc⟩ := hk
  exact ⟨⟨h1, h3, h4, q, List.mem_cons_of_mem _ hq, hc⟩, h2⟩
theorem R_move (h : d.R e w base ok v xs) (hm : ∀ k, ok k → w1.heap[k]? = w.heap[k]?) : d.R e w1 base ok v xs := by
 obtain ⟨h0, inner, ho, hr⟩ := h
 exact ⟨h0, inner, own_move ho (fun k hk => hm k (h0 k hk)), hr.imp_ (fun _ _ hp => d.M_move (fun k hk => hm k hk.1) hp)⟩
theorem R_lower {base' : Nat} (h : d.R e w base ok v xs) (hb : base' ≤ base) : d.R e w base' ok v xs := by
 obtain ⟨h0, inner, ho, hr⟩ := h
 exact ⟨h0, inner, own_weaken ho hb, hr.imp_ (fun _ _ hp => d.M_lower hb hp)⟩
theorem R_step (h : d.R e w base ok v xs) (hm : ∀ k, ok k → k < w.heap.size → w1.heap[k]? = w.heap[k]?) : d.R e w1 base ok v xs :=
 R_mono (R_move (R_bound h) (fun k hk => hm k hk.1 hk.2.2.1)) (fun _ hk => hk.1)
theorem R_below (h : d.R e w base ok v xs) (hb : Below w.heap.size w w1) : d.R e w1 base ok v xs := R_step h (fun k _ hk => hb.block k hk)
theorem R_grown (h : d.R e w base ok v xs) {row : Option Nat} (hg : w.grownBy w1 row) (hok : ∀ k, ok k → some k ≠ row) : d.R e w1 base ok v xs := R_step h (fun k ho hk => hg.block k hk (hok k ho))
theorem R_far (h : d.R e w base ok v xs) {p : Addr} (hok : ∀ k, ok k → k ≠ p.block) (u : Value) : d.R e (w.setCell p u) base ok v xs := R_step h (fun k ho _ => Below.heap_setCell w p u k (hok k ho))
theorem R_reads (h : d.R e w base ok v xs) : ∃ A c, v = .slice A xs.length c ∧ xs.length ≤ c ∧ d.C w A xs.length xs := by
 obtain ⟨A, c, he, hl, hr⟩ := OwnRow.reads h.2
 exact ⟨A, c, he, hl, hr.imp_ (Below.refl _ _) (fun _ _ hp => d.K_of_M hp)⟩
theorem R_own (h : d.R e w base ok v xs) : ∃ inner, w.ownsRow base e d.sz v xs.length inner := by
 obtain ⟨_, inner, ho, _⟩ := h
 exact ⟨inner, ho⟩
end
def scalar {α : Type} (enc : α → Value) (h1 : ∀ x, (enc x).oneCell' = true) : Kd α where
 sz := 1
 E := []
 K := fun _ x cs => cs = [enc x]
 M := fun _ _ _ x cs => cs = [enc x]
 K_len := fun h => by rw [h]; rfl
 K_one := fun h u hu => by
  rw [h] at hu
  rw [List.mem_singleton.1 hu]
  exact h1 _
 K_below := fun _ h => h
 K_of_M := fun h => h
 M_mono := fun _ h => h
 M_bound := fun h => h
 M_move := fun _ h => h
 M_lower := fun _ h => h
def int (k : IntKind) : Kd Int := scalar (Value.int k) (fun _ => rfl)
def bool : Kd Bool := scalar Value.bool (fun _ => rfl)
def slice {α : Type} (e : Nat) (d : Kd α) : Kd (List α) where
 sz := 1
 E := e :: d.E
 K := fun w xs cs => ∃ A c, cs = [.slice A xs.length c] ∧ xs.length ≤ c ∧ d.C w A xs.length xs
 M := fun w base ok xs cs => ∃ v, cs = [v] ∧ d.R e w base ok v xs
 K_len := by
  rintro w x cs ⟨A, c, rfl, _⟩
  rfl
 K_one := by
  rintro w x cs ⟨A, c, rfl, _⟩ u hu
  rw [List.mem_singleton.1 hu]
  rfl
 K_below := by
  rintro w w1 x cs hb ⟨A, c, rfl, hl, hr⟩
  exact ⟨A, c, rfl, hl, C_below hr hb⟩
 K_of_M := by
  rintro w base ok x cs ⟨v, rfl, h⟩
  obtain ⟨A, c, rfl, hl, hr⟩ := R_reads h
  exact ⟨A, c, rfl, hl, hr⟩
 M_mono := by
  rintro w base ok ok' x cs hok ⟨v, rfl, h⟩
  exact ⟨v, rfl, R_mono h hok⟩
 M_bound := by
  rintro w base ok x cs ⟨v, rfl, h⟩
  exact ⟨v, rfl, R_bound h⟩
 M_move := by
  rintro w w1 base ok x cs hm ⟨v, rfl, h⟩
  exact ⟨v, rfl, R_move h hm⟩
 M_lower := by
  rintro w base base' ok x cs hb ⟨v, rfl, h⟩
  exact ⟨v, rfl, R_lower h hb⟩
def bot {α : Type} (sz : Nat) (E : List Nat) : Kd α where
 sz := sz
 E := E
 K := fun _ _ _ => False
 M := fun _ _ _ _ _ => False
 K_len := fun h => h.elim
 K_one := fun h => h.elim
 K_below := fun _ h => h
 K_of_M := fun h => h
 M_mono := fun _ h => h
 M_bound := fun h => h
 M_move := fun _ h => h
 M_lower := fun _ h => h
def upto {α : Type} (F : Kd α → Kd α) (sz : Nat) (E : List Nat) : Nat → Kd α
 | 0 => bot sz E
 | n + 1 => F (upto F sz E n)
theorem R_appended {α : Type} {d : Kd α} {e base : Nat} {ok okp : Nat → Prop} {W w1 : World} {v v1 : Value} {xs : List α} {p : α} {inner cs : List Value} (h0 : ∀ k, v.ownBlock = some k → ok k) (hr : Reps (d.M W base (fun k => ok k ∧ some k ≠ v.ownBlock)) d.sz xs inner) (hp : d.M W base okp p cs) (hokp : ∀ k, okp k → ok k ∧ some k ≠ v.ownBlock) (hfresh : ∀ k, W.heap.size ≤ k → ok k)
  (hown : w1.ownsRow base e d.sz v1 (xs.length + 1) (inner ++ cs)) (hg : W.grownBy w1 v.ownBlock) (hat : v1.ownBlock = v.ownBlock ∨ ∃ b, v1.ownBlock = some b ∧ W.heap.size ≤ b) : d.R e w1 base ok v1 (xs ++ [p]) := by
 have hne : ∀ k, some k ≠ v.ownBlock → k < W.heap.size → some k ≠ v1.ownBlock := by
  intro k hk hlt
  rcases hat with hat | ⟨b, hb, hle⟩
  ·
   rw [hat]; exact hk
  ·
   rw [hb]
   intro he
   injection he with he
   omega
 have step : ∀ {q : α} {c : List Value} {o : Nat → Prop}, d.M W base o q c → (∀ k, o k → ok k ∧ some k ≠ v.ownBlock) → d.M w1 base (fun k => ok k ∧ some k ≠ v1.ownBlock) q c := by
  intro q c o hq ho
  have h1 := d.M_move (w1 := w1) (fun k hk => hg.block k hk.2.2.1 (ho k hk.1).2) (d.M_bound hq)
  exact d.M_mono (fun k hk => ⟨(ho k hk.1).1, hne k (ho k hk.1).2 hk.2.2.1⟩) h1
 refine ⟨fun k hk => ?_, inner ++ cs, by rw [List.length_append, List.length_singleton]; exact hown, ?_⟩
 ·
  rcases hat with hat | ⟨b, hb, hle⟩
  ·
   exact h0 k (hat ▸ hk)
  ·
   rw [hb] at hk
   injection hk with hk
   exact hfresh k (by omega)
 ·
  exact (hr.imp_ (fun _ _ hq => step hq (fun _ hk => hk))).snoc (step hp hokp) (d.K_len (d.K_of_M hp))
section
variable {P : Program} {ops : Array Oper} {rest : List Oper} {o : Oper} {a : Act} {Q : Exit → Act → World → Prop} {α : Type}
theorem R_append (d : Kd α) {w0 W : World} (base : Nat) (hgd : o.guard = none) (s x : Operand) (t e : TypeId) (z : Value) (bytes : Nat)
  (ho : o.op = .call { callee := .builtin .append, args := #[s, x], argTypes := #[t, t] })
  (ht : P.underlying t = some (.slice e)) (hinfo : (P.info? e).map (fun i => (i.zero, i.size, i.bytes)) = some (some z, d.sz, bytes)) (hz : z.cells.size = d.sz) (hs0 : 0 < d.sz) (hb0 : 0 < bytes)
  (v : Value) (xs : List α) (p : α) (cs : List Value) (ok okp : Nat → Prop) (hs : a.eval s = v) (hx : a.eval x = .slice (some ⟨W.heap.size, 0, none⟩) 1 1) (hp : d.M W base okp p cs) (hokp : ∀ k, okp k → ok k ∧ some k ≠ v.ownBlock) (hfresh : ∀ k, W.heap.size ≤ k → ok k)
  (HO : d.R e W base ok v xs) (HB : Below base w0 W) (hbase : base ≤ W.heap.size) (hl : (xs.length + 1) * bytes ≤ 140737488355328)
  (h : ∀ v1 w1, d.R e w1 base ok v1 (xs ++ [p]) → Below base w0 w1 → W.grownBy w1 v.ownBlock → (v1.ownBlock = v.ownBlock ∨ ∃ b, v1.ownBlock = some b ∧ W.heap.size ≤ b) → wpList P ops Q rest (a.put o.dst v1) w1) :
  wpList P ops Q (o :: rest) a (W.alloc (.cells cs.toArray e)) := by
 obtain ⟨h0, inner, hown, hr⟩ := HO
 refine print_append_cells base hgd s x t e z d.sz bytes ho ht hinfo hz hs0 hb0 v xs.length inner cs hs hx (d.K_len (d.K_of_M hp)) (d.K_one (d.K_of_M hp)) hown HB hbase hl ?_
 intro v1 w1 hown1 hb1 hg1 hat1
 exact h v1 w1 (R_appended h0 hr hp hokp hfresh hown1 hg1 hat1) hb1 hg1 hat1
end
theorem own_of_R {α : Type} {enc : α → Value} {h1 : ∀ x, (enc x).oneCell' = true} {e : Nat} {w : World} {base : Nat} {ok : Nat → Prop} {v : Value} {xs : List α} (h : (scalar enc h1).R e w base ok v xs) : w.ownsRow base e 1 v xs.length (encs enc xs) := by
 obtain ⟨_, inner, ho, hr⟩ := h
 have : inner = encs enc xs := by
  apply List.ext_getElem?
  intro j
  rcases Nat.lt_or_ge j xs.length with hj | hj
  ·
   have h2 := hr.2 j _ (List.getElem?_eq_getElem hj)
   have hl : j < inner.length := by have := hr.1; simp [scalar] at this; omega
   have h3 : (inner.drop (j * 1)).take 1 = [enc xs[j]] := h2
   rw [Nat.mul_one, List.drop_eq_getElem_cons hl] at h3
   have h4 : inner[j] = enc xs[j] := by
    have h5 := congrArg List.head? h3
    rw [List.take_succ_cons] at h5
    exact Option.some.inj h5
   rw [List.getElem?_eq_getElem hl, h4]
   simp [encs, List.getElem?_eq_getElem hj]
  ·
   have h3 : inner.length = xs.length := by have := hr.1; simp [scalar] at this; omega
   rw [List.getElem?_eq_none (by omega), List.getElem?_eq_none (by rw [encs_length]; omega)]
 rw [← this]
 exact ho
end Kd
namespace Kd
section
variable {P : Program} {ops : Array Oper} {rest : List Oper} {o : Oper} {a : Act} {Q : Exit → Act → World → Prop}
theorem event_run {W w1 : World} {v : Value} (hgd : o.guard = none) (hrun : (execOp a.eval o).run P W = .ok (.value v) w1) (h : wpList P ops Q rest (a.put o.dst v) w1) : wpList P ops Q (o :: rest) a W := by
 refine wpList_plain hgd fun K hK => ?_
 unfold Oper.wp
 rw [hrun]
 exact hK _ _ h
variable {α : Type}
end
end Kd
def QRow (w : World) (base : Nat) (e : TypeId) (size : Nat) (v : Value) (n : Nat) (xs : List Value) : Prop :=
 xs.length = n * size ∧
 ((n = 0 ∧ ∃ A, v = .slice A 0 0 ∧ ∀ a, A = some a → base ≤ a.block ∧ ∃ cur, w.heap[a.block]? = some (.cells cur e (0, 0))) ∨
  ∃ g off cap cur, v = .slice (some ⟨g, off * size, none⟩) n cap ∧ base ≤ g ∧ w.heap[g]? = some (.cells cur e (0, 0)) ∧ n ≤ cap ∧ off + cap ≤ maxLen ∧ cur.size = (off + cap) * size ∧ (cur.toList.drop (off * size)).take (n * size) = xs)
namespace Kd
def Q {α : Type} (d : Kd α) (e : Nat) (w : World) (base : Nat) (ok : Nat → Prop) (v : Value) (xs : List α) : Prop :=
 (∀ k, v.ownBlock = some k → ok k) ∧ ∃ inner, QRow w base e d.sz v xs.length inner ∧ Reps (d.M w base (fun k => ok k ∧ some k ≠ v.ownBlock)) d.sz xs inner
end Kd
theorem zai {w W : World} (h : Below w.heap.size w W) : w.heap.size ≤ W.heap.size := h.size
theorem zac {w W w2 : World} (h : Below w.heap.size w W) (k : Below W.heap.size W w2) : Below w.heap.size w w2 := below_then h h.size k
theorem ReadsInt.nil (W : World) (k : IntKind) : ReadsInt W k none ([] : List Int).length [] := ⟨rfl, by simp, fun h => absurd h (Nat.lt_irrefl 0)⟩
theorem ReadsInt.drewN {W : World} {k : IntKind} {A : Option Addr} {n : Nat} {xs : List Int} (h : ReadsInt W k A n xs) (m : Nat) : ReadsInt (W.drewN m) k A n xs := h
theorem below_set {w W : World} {g j : Nat} {v : Value} (h : Below w.heap.size w W) (hg : w.heap.size ≤ g) : Below w.heap.size w (W.setCell ⟨g, j, none⟩ v) := h.setCell hg _
theorem keep_cell {w W : World} {g : Nat} (h : KeepBut w W g none) {a : Addr} {v : Value} (hc : w.cell? a = some v) (hne : a.block ≠ g) : W.cell? a = some v := by
 have := h.2 a.block (World.block_lt_of_cell? w a hc) hne (by simp)
 simpa [World.cell?, this] using hc
theorem add_block (a : Addr) (i : Nat) : (a.add i).block = a.block := by unfold Addr.add; split <;> rfl
theorem ReadsOf.nil {α : Type} (enc : α → Value) (d : α) (W : World) : ReadsOf enc d W none ([] : List α).length [] := ⟨rfl, by simp, fun h => absurd h (Nat.lt_irrefl 0)⟩
theorem ReadsOf.drewN {α : Type} {enc : α → Value} {d : α} {W : World} {A : Option Addr} {n : Nat} {xs : List α} (h : ReadsOf enc d W A n xs) (m : Nat) : ReadsOf enc d (W.drewN m) A n xs := h
theorem ReadsInt.keep {w W : World} {k : IntKind} {A : Option Addr} {n g : Nat} {xs : List Int} (h : ReadsInt w k A n xs) (hk : KeepBut w W g none) (hf : ∀ ad, A = some ad → 0 < n → ad.block ≠ g) : ReadsInt W k A n xs :=
 ⟨h.1, h.2.1, fun hn => by
  obtain ⟨ad, e, hc⟩ := h.2.2 hn
  exact ⟨ad, e, fun j hj => keep_cell hk (hc j hj) (by rw [add_block]; exact hf ad e hn)⟩⟩
theorem ReadsOf.keep {α : Type} {enc : α → Value} {d : α} {w W : World} {A : Option Addr} {n g : Nat} {xs : List α} (h : ReadsOf enc d w A n xs) (hk : KeepBut w W g none) (hf : ∀ ad, A = some ad → 0 < n → ad.block ≠ g) : ReadsOf enc d W A n xs :=
 ⟨h.1, h.2.1, fun hn => by
  obtain ⟨ad, e, hc⟩ := h.2.2 hn
  exact ⟨ad, e, fun j hj => keep_cell hk (hc j hj) (by rw [add_block]; exact hf ad e hn)⟩⟩
theorem zal {w : World} {g : Nat} {t : TypeId} {cs cs' : Array Value} (h : w.heap[g]? = some (.cells cs t (0, 0))) (i : Nat) (u : Value) (e : cs.setIfInBounds i u = cs') : (w.setCell ⟨g, i, none⟩ u).heap[g]? = some (.cells cs' t (0, 0)) := e ▸ blk_set h i u
theorem below_drew1 {base : Nat} {w W : World} (h : Below base w W) : Below base w W.drew := h.drew
section
variable {P : Program} {ops : Array Oper} {rest : List Oper} {o : Oper} {a : Act} {Q : Exit → Act → World → Prop}
theorem zaq {W : World} (hgd : o.guard = none) {N : Tmp} (_hd : o.dst = some N) {cs : Array Value} {t : TypeId}
  (hrun : (execOp a.eval o).run P W = .ok (.value (.pointer (some ⟨W.heap.size, 0, none⟩))) (W.alloc (.cells cs t (0, 0))))
  (h : ∀ g, g = W.heap.size → ∀ w1, w1.heap[g]? = some (.cells cs t (0, 0)) → Below W.heap.size W w1 → wpList P ops Q rest (a.put o.dst (.pointer (some ⟨g, 0, none⟩))) w1) : wpList P ops Q (o :: rest) a W :=
 Kd.event_run hgd hrun (h _ rfl _ (blk_new W _) (zaf (Below.refl _ _) _))
end
section
variable {P : Program} {ops : Array Oper} {rest : List Oper} {o : Oper} {a : Act} {Q : Exit → Act → World → Prop} {W : World}
theorem zat {N : Tmp} (_hN : o.dst = some N) (h : wpList P ops Q (o :: rest) a W) : wpList P ops Q (o :: rest) a W := h
end
end Go.Proofs.YtbakdobjidjncaaW.PrintWords
end
section
namespace Go.Proofs.YtbakdobjidjncaaW.PrintLast
section
variable {P : Program} {ops : Array Oper} {Q : Exit → Act → World → Prop} {md : Region.Mode} {S : World → Prop} {ds : List Nat}
def ListedClosed (md : Region.Mode) (ops : Array Oper) (listed : Array Bool) : Prop :=
 ∀ j oj, ops[j]? = some oj → listed.getD j false = true → ∀ e ∈ oj.after, Region.binds md e = true → listed.getD e.on false = true
theorem ListedClosed.set {listed : Array Bool} {i : Nat} (h : ListedClosed md ops listed) (hi : i ∈ Region.ready md ops listed) : ListedClosed md ops (listed.setIfInBounds i true) := by
 obtain ⟨_, oi, hoi, hall⟩ := mem_ready.1 hi
 intro j oj hj hl e he hb
 by_cases hij : i = j
 ·
  subst hij
  have : oj = oi := Option.some.inj (hj.symm.trans hoi)
  subst this
  exact getD_set_true (hall e he hb)
 ·
  rw [getD_set_ne false hij] at hl
  exact getD_set_true (h j oj hj hl e he hb)
def wpAnyLast (P : Program) (md : Region.Mode) (ops : Array Oper) (Q : Exit → Act → World → Prop) (S : World → Prop) (ds : List Nat) : Nat → Array Bool → Act → World → Prop
 | 0, listed, a, w => Region.ready md ops listed = [] ∧ Q .normal a w
 | fuel + 1, listed, a, w =>
  (Region.ready md ops listed = [] → Q .normal a w) ∧
  ∀ i ∈ Region.ready md ops listed, wpOp P ops Q i (fun a' w' => (i ∉ ds → S w → S w') ∧ wpAnyLast P md ops Q S ds fuel (listed.setIfInBounds i true) a' w') a w
end
section
variable {P : Program} {ops : Array Oper} {Q : Exit → Act → World → Prop} {md : Region.Mode} {S : World → Prop} {ds : List Nat}
def AllReadyL (P : Program) (md : Region.Mode) (ops : Array Oper) (Q : Exit → Act → World → Prop) (S : World → Prop) (ds : List Nat) (fuel : Nat) (listed : Array Bool) (a : Act) (w : World) (rs : List Nat) : Prop :=
 ∀ i ∈ rs, wpOp P ops Q i (fun a' w' => (i ∉ ds → S w → S w') ∧ wpAnyLast P md ops Q S ds fuel (listed.setIfInBounds i true) a' w') a w
theorem AllReadyL.nil {fuel : Nat} {listed : Array Bool} {a : Act} {w : World} : AllReadyL P md ops Q S ds fuel listed a w [] := fun _ h => by cases h
theorem AllReadyL.cons {fuel : Nat} {listed : Array Bool} {a : Act} {w : World} {i : Nat} {o : Oper} {rs : List Nat} (ho : ops[i]? = some o) (hd : i ∉ ds)
  (h : ∀ K' : Act → World → Prop, Shut (∀ a w, S w → (S w → wpAnyLast P md ops Q S ds fuel (listed.setIfInBounds i true) a w) → K' a w) → if Region.wanted o (yielded ops a.tmps) = true then Oper.wp P o a w K' Q else K' (a.put o.dst undef) w)
  (hs : AllReadyL P md ops Q S ds fuel listed a w rs) : AllReadyL P md ops Q S ds fuel listed a w (i :: rs) := fun j hj => by
 rcases List.mem_cons.1 hj with rfl | hj
 ·
  exact wpOp_step ho (fun K' hK => h K' (fun a w hS hW => hK a w ⟨fun _ _ => hS, hW hS⟩))
 ·
  exact hs j hj
theorem enters_ {f : FuncId} {fn : Func} (hf : P.funcs[f]? = some fn) (hname : (fn.name == "runtime.NumGoroutine") = false) (hb : fn.body.isSome = true) (args : Array Value) (w : World) : (callFunc f args).run P w = .ok (.enter f args) w := by
 have h1 : fn.name ≠ "runtime.NumGoroutine" := by simpa using hname
 obtain ⟨c, hc⟩ := Option.isSome_iff_exists.1 hb
 simp [callFunc, hf, h1, hc]
theorem goesL_ {rest : List Oper} {oi : Oper} {a : Act} {w : World} (N : Option Tmp) (hd : oi.dst = N) (hg : oi.guard = none) {f : FuncId} {fn : Func} {as_ : Array Operand} {ts : Array TypeId} (hf : P.funcs[f]? = some fn) (hname : (fn.name == "runtime.NumGoroutine") = false) (hb : fn.body.isSome = true) (args : Array Value)
  (hop : oi.op = .call { callee := .value (.func f), args := as_, argTypes := ts }) (hargs : as_.map a.eval = args)
  (h : Calls P f args w fun e w' => ∃ v, e = .returned v ∧ wpList P ops Q rest (a.put N v) w') : wpList P ops Q (oi :: rest) a w := by
 refine wpList_plain hg fun K hK => ?_
 have he := enters_ hf hname hb args w
 have hrun : (execOp a.eval oi).run P w = .ok (.enter f args) w := by
  unfold execOp
  simp [hop, resolve, Deferred.ofValue, invoke, Act.eval, hargs, he]
 unfold Oper.wp
 rw [hrun, Oper.upon_enter]
 refine h.mono fun e w'' hh => ?_
 obtain ⟨v, rfl, hk⟩ := hh
 subst hd
 exact hK _ _ hk
end
end Go.Proofs.YtbakdobjidjncaaW.PrintLast
namespace Go.Proofs.YtbakdobjidjncaaW.PrintWords
open Go.RowKit
namespace Kd
def tag {α : Type} (f : Nat → Nat) (d : Kd α) : Kd (α × Nat) where
 sz := d.sz
 E := d.E
 K := fun w x cs => d.K w x.1 cs
 M := fun w base ok x cs => d.M w base (fun k => ok k ∧ f k = x.2) x.1 cs
 K_len := fun h => d.K_len h
 K_one := fun h => d.K_one h
 K_below := fun hb h => d.K_below hb h
 K_of_M := fun h => d.K_of_M h
 M_mono := fun hok h => d.M_mono (fun k hk => ⟨hok k hk.1, hk.2⟩) h
 M_bound := fun h => d.M_mono (fun _ hk => ⟨⟨hk.1.1, hk.2⟩, hk.1.2⟩) (d.M_bound h)
 M_move := fun hm h => d.M_move (fun k hk => hm k hk.1) h
 M_lower := fun hb h => d.M_lower hb h
def raw (sz : Nat) : Kd (List Value) where
 sz := sz
 E := []
 K := fun _ x cs => cs = x ∧ cs.length = sz ∧ ∀ u ∈ cs, u.oneCell' = true
 M := fun _ _ _ x cs => cs = x ∧ cs.length = sz ∧ ∀ u ∈ cs, u.oneCell' = true
 K_len := fun h => h.2.1
 K_one := fun h => h.2.2
 K_below := fun _ h => h
 K_of_M := fun h => h
 M_mono := fun _ h => h
 M_bound := fun h => h
 M_move := fun _ h => h
 M_lower := fun _ h => h
def S {α : Type} (d : Kd α) (e : Nat) (w : World) (base : Nat) (ok : Nat → Prop) (v : Value) (xs : List α) : Prop := ∃ f, (tag f d).R e w base ok v xs.zipIdx
def gap {α : Type} (f : Nat → Nat) (d : Kd α) (i : Nat) (c : List Value) : Kd (α × Nat) where
 sz := d.sz
 E := d.E
 K := fun w x cs => (x.2 = i → cs = c ∧ cs.length = d.sz ∧ ∀ u ∈ cs, u.oneCell' = true) ∧ (x.2 ≠ i → d.K w x.1 cs)
 M := fun w base ok x cs => (x.2 = i → cs = c ∧ cs.length = d.sz ∧ ∀ u ∈ cs, u.oneCell' = true) ∧ (x.2 ≠ i → d.M w base (fun k => ok k ∧ f k = x.2) x.1 cs)
 K_len := fun {w x cs} h => by
  by_cases hx : x.2 = i
  ·
   exact (h.1 hx).2.1
  ·
   exact d.K_len (h.2 hx)
 K_one := fun {w x cs} h => by
  by_cases hx : x.2 = i
  ·
   exact (h.1 hx).2.2
  ·
   exact d.K_one (h.2 hx)
 K_below := fun hb h => ⟨h.1, fun hx => d.K_below hb (h.2 hx)⟩
 K_of_M := fun h => ⟨h.1, fun hx => d.K_of_M (h.2 hx)⟩
 M_mono := fun hok h => ⟨h.1, fun hx => d.M_mono (fun k hk => ⟨hok k hk.1, hk.2⟩) (h.2 hx)⟩
 M_bound := fun h => ⟨h.1, fun hx => d.M_mono (fun _ hk => ⟨⟨hk.1.1, hk.2⟩, hk.1.2⟩) (d.M_bound (h.2 hx))⟩
 M_move := fun hm h => ⟨h.1, fun hx => d.M_move (fun k hk => hm k hk.1) (h.2 hx)⟩
 M_lower := fun hb h => ⟨h.1, fun hx => d.M_lower hb (h.2 hx)⟩
def H {α : Type} (d : Kd α) (e : Nat) (w : World) (base : Nat) (ok : Nat → Prop) (v : Value) (xs : List α) (i : Int) (oki : Nat → Prop) (c : List Value) : Prop :=
 (∀ k, oki k → ok k) ∧ ∃ f, (gap f d i.toNat c).R e w base (fun k => ok k ∧ ¬ oki k) v xs.zipIdx
end Kd
end Go.Proofs.YtbakdobjidjncaaW.PrintWords
namespace Go.Proofs.YtbakdobjidjncaaW.PrintWords
open Go.RowKit
namespace Kd
structure Heap {α : Type} (d : Kd α) : Prop where
 K : ∀ {w w1 : World} {x : α} {cs : List Value}, (∀ k, k < w.heap.size → w1.heap[k]? = w.heap[k]?) → d.K w x cs → d.K w1 x cs
theorem cell_heap {w w1 : World} (hb : ∀ k, k < w.heap.size → w1.heap[k]? = w.heap[k]?) {a : Addr} {v : Value} (h : w.cell? a = some v) : w1.cell? a = some v := by
 have := hb a.block (World.block_lt_of_cell? w a h)
 simpa [World.cell?, this] using h
theorem Heap.C {α : Type} {d : Kd α} (hd : Heap d) {w w1 : World} {A : Option Addr} {n : Nat} {xs : List α} (hb : ∀ k, k < w.heap.size → w1.heap[k]? = w.heap[k]?) (h : d.C w A n xs) : d.C w1 A n xs :=
 ⟨h.1, h.2.1, fun hn => by
  obtain ⟨ad, e, hc⟩ := h.2.2 hn
  refine ⟨ad, e, fun j p hj => ?_⟩
  obtain ⟨c, hs, hr, hcell⟩ := hc j p hj
  exact ⟨c, hs, hd.K hb hr, fun i u hu => cell_heap hb (hcell i u hu)⟩⟩
end Kd
end Go.Proofs.YtbakdobjidjncaaW.PrintWords
namespace Go.Proofs.YtbakdobjidjncaaW.PrintWords
open Go.RowKit
def Kept (w W : World) (S : Nat → Prop) : Prop := w.heap.size ≤ W.heap.size ∧ ∀ i, i < w.heap.size → ¬ S i → W.heap[i]? = w.heap[i]?
section
variable {w W W2 : World} {S S2 S' : Nat → Prop}
theorem Kept.refl (w : World) (S : Nat → Prop) : Kept w w S := ⟨Nat.le_refl _, fun _ _ _ => rfl⟩
theorem Kept.of_below (h : Below w.heap.size w W) (S : Nat → Prop) : Kept w W S := ⟨h.size, fun i hi _ => h.block i hi⟩
theorem Kept.mono (h : Kept w W S) (hs : ∀ k, S k → S' k) : Kept w W S' := ⟨h.1, fun i hi hn => h.2 i hi (fun hk => hn (hs i hk))⟩
theorem Kept.then_ (h : Kept w W S) (k : Kept W W2 S2) (hs : ∀ k, S2 k → S k ∨ w.heap.size ≤ k) : Kept w W2 S :=
 ⟨Nat.le_trans h.1 k.1, fun i hi hn => (k.2 i (Nat.lt_of_lt_of_le hi h.1) (fun h2 => (hs i h2).elim hn (fun h3 => by omega))).trans (h.2 i hi hn)⟩
theorem Kept.below (h : Kept w W S) (hb : Below W.heap.size W W2) : Kept w W2 S := h.then_ (Kept.of_below hb (fun _ => False)) (fun _ hk => hk.elim)
theorem Kept.alloc (h : Kept w W S) (o : Obj) : Kept w (W.alloc o) S := h.below (zaf (Below.refl _ _) o)
theorem Kept.drew (h : Kept w W S) : Kept w W.drew S := h
theorem Kept.drewN (h : Kept w W S) (m : Nat) : Kept w (W.drewN m) S := h
theorem Kept.setCell (h : Kept w W S) {p : Addr} (hp : S p.block ∨ w.heap.size ≤ p.block) (u : Value) : Kept w (W.setCell p u) S :=
 h.then_ (S2 := fun k => k = p.block) ⟨by simp [World.setCell], fun i _ hn => Below.heap_setCell W p u i hn⟩ (fun k hk => by rw [hk]; exact hp)
theorem Kept.keep {g : Nat} (h : KeepBut w W g none) (k : Kept W W2 S2) (hs : ∀ k, S2 k → w.heap.size ≤ k) : KeepBut w W2 g none :=
 ⟨Nat.le_trans h.1 k.1, fun i hi hg hr => (k.2 i (Nat.lt_of_lt_of_le hi h.1) (fun h2 => by have := hs i h2; omega)).trans (h.2 i hi hg hr)⟩
end
end Go.Proofs.YtbakdobjidjncaaW.PrintWords
namespace Go.Proofs.YtbakdobjidjncaaW.PrintWords
open Go.RowKit
def Foot (P : World → Prop) (W : World) (ok : Nat → Prop) : Prop := ∀ W' : World, (∀ k, ok k → k < W.heap.size → W'.heap[k]? = W.heap[k]?) → P W'
theorem heap_lt {W W1 : World} {k : Nat} (h : W1.heap[k]? = W.heap[k]?) (hlt : k < W.heap.size) : k < W1.heap.size := by
 rw [Array.getElem?_eq_getElem hlt] at h
 exact (Array.getElem?_eq_some_iff.1 h).1
namespace Foot
variable {P Q : World → Prop} {W W1 : World} {ok ok' : Nat → Prop}
theorem mono (h : Foot P W ok) (hok : ∀ k, ok k → ok' k) : Foot P W ok' := fun W' hW => h W' (fun k hk hlt => hW k (hok k hk) hlt)
theorem bound (h : Foot P W ok) : Foot P W (fun k => ok k ∧ k < W.heap.size) := fun W' hW => h W' (fun k hk hlt => hW k ⟨hk, hlt⟩ hlt)
theorem step (h : Foot P W ok) (hm : ∀ k, ok k → k < W.heap.size → W1.heap[k]? = W.heap[k]?) : Foot P W1 ok := fun W' hW => h W' (fun k hk hlt => (hW k hk (heap_lt (hm k hk hlt) hlt)).trans (hm k hk hlt))
theorem imp (h : Foot P W ok) (hi : ∀ W', P W' → Q W') : Foot Q W ok := fun W' hW => hi W' (h W' hW)
end Foot
namespace Kd
def F {α : Type} (d : Kd α) (W : World) (ok : Nat → Prop) (A : Option Addr) (n : Nat) (xs : List α) : Prop := Foot (fun W => d.C W A n xs) W ok
def FK {α : Type} (d : Kd α) (W : World) (ok : Nat → Prop) (x : α) (c : List Value) : Prop := Foot (fun W => d.K W x c) W ok
end Kd
end Go.Proofs.YtbakdobjidjncaaW.PrintWords
namespace Go.Proofs.YtbakdobjidjncaaW.PrintWords
open Go.RowKit
namespace Kd
section
variable {α : Type} {d : Kd α} {e base n cc g : Nat} {ok ok' okp S : Nat → Prop} {w w1 W W1 : World} {A : Option Addr} {u v v1 : Value} {xs : List α} {x : α} {c : List Value}
def N {α : Type} (d : Kd α) (e : Nat) (w : World) (base : Nat) (ok : Nat → Prop) (v : Value) (xs : List α) : Prop :=
 (∀ k, v.ownBlock = some k → ok k) ∧ ∃ rows : List (List Value), rows.length = xs.length ∧ (raw d.sz).R e w base (fun k => some k = v.ownBlock) v rows ∧ ∀ (j : Nat) (x : α) (c : List Value), xs[j]? = some x → rows[j]? = some c → FK d w (fun k => ok k ∧ some k ≠ v.ownBlock) x c
end
end Kd
end Go.Proofs.YtbakdobjidjncaaW.PrintWords
namespace Go.Proofs.YtbakdobjidjncaaW.PrintWords
theorem Reps.one {α : Type} {R : α → List Value → Prop} {ps : List α} {cs : List Value} {p : α} {v : Value} (hp : R p [v]) (h : Reps R 1 ps cs) : Reps R 1 (p :: ps) (v :: cs) := by
 refine ⟨by simp [h.1], fun j q hq => ?_⟩
 cases j with
 | zero =>
  simp only [List.getElem?_cons_zero, Option.some.injEq] at hq
  subst hq
  simpa using hp
 | succ j =>
  simp only [List.getElem?_cons_succ] at hq
  have h1 := h.2 j q hq
  simpa [Nat.mul_one] using h1
theorem Reps.front {α : Type} {R : α → List Value → Prop} {size : Nat} {ps : List α} {cs c all : List Value} {p : α} (hp : R p c) (hc : c.length = size) (h : Reps R size ps cs) (ha : c ++ cs = all) : Reps R size (p :: ps) all := by
 subst ha
 refine ⟨by rw [List.length_append, hc, h.1, List.length_cons, Nat.succ_mul, Nat.add_comm], fun j q hq => ?_⟩
 cases j with
 | zero =>
  simp only [List.getElem?_cons_zero, Option.some.injEq] at hq
  subst hq
  rw [Nat.zero_mul, List.drop_zero, List.take_append_of_le_length (by omega), List.take_of_length_le (by omega)]
  exact hp
 | succ j =>
  simp only [List.getElem?_cons_succ] at hq
  have h1 := h.2 j q hq
  rw [Nat.succ_mul, List.drop_append, List.drop_of_length_le (by rw [hc]; exact Nat.le_add_left _ _), List.nil_append, hc, Nat.add_sub_cancel]
  exact h1
theorem Reps.c2 {α : Type} {R : α → List Value → Prop} {ps : List α} {cs : List Value} {p : α} {va vb : Value} (hp : R p [va, vb]) (h : Reps R 2 ps cs) : Reps R 2 (p :: ps) (va :: vb :: cs) := Reps.front hp rfl h rfl
theorem Reps.c3 {α : Type} {R : α → List Value → Prop} {ps : List α} {cs : List Value} {p : α} {va vb vc : Value} (hp : R p [va, vb, vc]) (h : Reps R 3 ps cs) : Reps R 3 (p :: ps) (va :: vb :: vc :: cs) := Reps.front hp rfl h rfl
theorem Reps.c4 {α : Type} {R : α → List Value → Prop} {ps : List α} {cs : List Value} {p : α} {va vb vc vd : Value} (hp : R p [va, vb, vc, vd]) (h : Reps R 4 ps cs) : Reps R 4 (p :: ps) (va :: vb :: vc :: vd :: cs) := Reps.front hp rfl h rfl
theorem Reps.c5 {α : Type} {R : α → List Value → Prop} {ps : List α} {cs : List Value} {p : α} {va vb vc vd ve : Value} (hp : R p [va, vb, vc, vd, ve]) (h : Reps R 5 ps cs) : Reps R 5 (p :: ps) (va :: vb :: vc :: vd :: ve :: cs) := Reps.front hp rfl h rfl
theorem Reps.c6 {α : Type} {R : α → List Value → Prop} {ps : List α} {cs : List Value} {p : α} {va vb vc vd ve vf : Value} (hp : R p [va, vb, vc, vd, ve, vf]) (h : Reps R 6 ps cs) : Reps R 6 (p :: ps) (va :: vb :: vc :: vd :: ve :: vf :: cs) := Reps.front hp rfl h rfl
theorem Reps.c7 {α : Type} {R : α → List Value → Prop} {ps : List α} {cs : List Value} {p : α} {va vb vc vd ve vf vg : Value} (hp : R p [va, vb, vc, vd, ve, vf, vg]) (h : Reps R 7 ps cs) : Reps R 7 (p :: ps) (va :: vb :: vc :: vd :: ve :: vf :: vg :: cs) := Reps.front hp rfl h rfl
theorem Reps.c8 {α : Type} {R : α → List Value → Prop} {ps : List α} {cs : List Value} {p : α} {va vb vc vd ve vf vg vh : Value} (hp : R p [va, vb, vc, vd, ve, vf, vg, vh]) (h : Reps R 8 ps cs) : Reps R 8 (p :: ps) (va :: vb :: vc :: vd :: ve :: vf :: vg :: vh :: cs) := Reps.front hp rfl h rfl
end Go.Proofs.YtbakdobjidjncaaW.PrintWords
namespace Go.Proofs.YtbakdobjidjncaaW.PrintWords
open Go.RowKit
theorem Kd.R_flat {α : Type} {d : Kd α} {e base : Nat} {ok ok' : Nat → Prop} {w : World} {v : Value} {xs : List α} (hd : ∀ {ok1 ok2 : Nat → Prop} {x : α} {cs : List Value}, d.M w base ok1 x cs → d.M w base ok2 x cs) (h : d.R e w base ok v xs) (hok : ∀ k, v.ownBlock = some k → ok k → ok' k) : d.R e w base ok' v xs := by
 obtain ⟨h0, inner, hown, hr⟩ := h
 exact ⟨fun k hk => hok k hk (h0 k hk), inner, hown, hr.imp_ (fun _ _ hm => hd hm)⟩
end Go.Proofs.YtbakdobjidjncaaW.PrintWords
namespace Go.Proofs.YtbakdobjidjncaaW.PrintMore
open Go.RowKit Go.Proofs.YtbakdobjidjncaaW.PrintWords
theorem max2_int (k k' : IntKind) (x y : Int) : Builtin.max2 (.int k x) (.int k' y) = pure (.int k (if x < y then y else x)) := by simp only [Builtin.max2, gt_iff_lt]
theorem min2_int (k k' : IntKind) (x y : Int) : Builtin.min2 (.int k x) (.int k' y) = pure (.int k (if y < x then y else x)) := by simp only [Builtin.min2]
theorem max_two (ats : Array TypeId) (ty : TypeId) (a b : Value) : Builtin.max_ ats ty #[a, b] = (Builtin.max2 a b >>= fun s => pure s) := by simp only [Builtin.max_, List.foldlM_cons, List.foldlM_nil]
theorem min_two (ats : Array TypeId) (ty : TypeId) (a b : Value) : Builtin.min_ ats ty #[a, b] = (Builtin.min2 a b >>= fun s => pure s) := by simp only [Builtin.min_, List.foldlM_cons, List.foldlM_nil]
theorem max_three (ats : Array TypeId) (ty : TypeId) (a b c : Value) : Builtin.max_ ats ty #[a, b, c] = (Builtin.max2 a b >>= fun s => Builtin.max2 s c >>= fun s => pure s) := by simp only [Builtin.max_, List.foldlM_cons, List.foldlM_nil]
theorem min_three (ats : Array TypeId) (ty : TypeId) (a b c : Value) : Builtin.min_ ats ty #[a, b, c] = (Builtin.min2 a b >>= fun s => Builtin.min2 s c >>= fun s => pure s) := by simp only [Builtin.min_, List.foldlM_cons, List.foldlM_nil]
theorem max_four (ats : Array TypeId) (ty : TypeId) (a b c d : Value) : Builtin.max_ ats ty #[a, b, c, d] = (Builtin.max2 a b >>= fun s => Builtin.max2 s c >>= fun s => Builtin.max2 s d >>= fun s => pure s) := by simp only [Builtin.max_, List.foldlM_cons, List.foldlM_nil]
theorem min_four (ats : Array TypeId) (ty : TypeId) (a b c d : Value) : Builtin.min_ ats ty #[a, b, c, d] = (Builtin.min2 a b >>= fun s => Builtin.min2 s c >>= fun s => Builtin.min2 s d >>= fun s => pure s) := by simp only [Builtin.min_, List.foldlM_cons, List.foldlM_nil]
end Go.Proofs.YtbakdobjidjncaaW.PrintMore
namespace Go.Proofs.YtbakdobjidjncaaW.PrintWords
open Go.RowKit
section
variable {P : Program} {ops : Array Oper} {rest : List Oper} {o : Oper} {a : Act} {Q : Exit → Act → World → Prop} {W : World}
theorem gate_callee {f : FuncId} {as_ : Array Operand} {ts : Array TypeId} (_ho : o.op = .call { callee := .value (.func f), args := as_, argTypes := ts }) (h : wpList P ops Q (o :: rest) a W) : wpList P ops Q (o :: rest) a W := h
theorem gate_builtin {b : Builtin} {xs : Array Operand} {ts : Array TypeId} (_ho : o.op = .call { callee := .builtin b, args := xs, argTypes := ts }) (h : wpList P ops Q (o :: rest) a W) : wpList P ops Q (o :: rest) a W := h
end
def mn (a b : Int) : Int := if b < a then b else a
end Go.Proofs.YtbakdobjidjncaaW.PrintWords
namespace Go.Proofs.YtbakdobjidjncaaW.PrintMore
open Go.RowKit Go.Proofs.YtbakdobjidjncaaW.PrintWords
theorem zB {w W W' : World} (h : Aside0 (Below w.heap.size w W)) (q : Below w.heap.size w W → Below w.heap.size w W' := by intro h; repeat (first | (with_reducible first | exact h | apply zaf | apply pw_below_drewN | apply below_drew1 | refine below_set ?_ (Aside0.out (by assumption))) | exact h)) : Below w.heap.size w W' := q h.out
theorem zK {p q : Prop} (h : Aside0 p) (f : p → q := by intro h; (with_reducible repeat (first | refine zae ?_ _ | refine zah ?_ | refine zab ?_ _)); exact h) : q := f h.out
theorem zA {p : Prop} (h : p) : Aside0 p := Aside0.mk h
theorem zO {α β : Type _} {o : Option α} {f : α → Option β} {b : β} (h : o.bind f = some b) : ∃ a, o = some a ∧ f a = some b := Option.bind_eq_some_iff.mp h
theorem zF {p : Prop} (h : p := by first | rfl | (simp; done) | (simp [*]; done)) : p := h
theorem zW {p : Prop} (h : p := by first | rfl | (simp [zar, zan] <;> rfl) | (simp [*, zar, zan] <;> rfl)) : p := h
end Go.Proofs.YtbakdobjidjncaaW.PrintMore

end
section
namespace Go.Proofs.Ytbakdobjidjncaa.P
open Go.RowKit Go.Proofs.YtbakdobjidjncaaW.PrintWords
def GlobX (w : World) : Prop := True
theorem GlobX.below {w w1 : World} (h : GlobX w) (hb : Below w.heap.size w w1) : GlobX w1 := trivial
def Glob (w : World) : Prop := Lib.TabIs Try.prog w "internal/strconv.uint64pow10" .u64 Lib.pow10Tab ∧ GlobX w
theorem Glob.below {w w1 : World} (h : Glob w) (hb : Below w.heap.size w w1) : Glob w1 := by
 refine ⟨?_, GlobX.below h.2 hb⟩
 have h := h.1
 unfold Lib.TabIs at *
 cases hg : (Try.prog).globalNamed "internal/strconv.uint64pow10" with
 | none => simp [World.var?, hg] at h
 | some g =>
  refine var?_below hb hg ?_ h
  simp only [World.var?, hg, Option.bind_some] at h
  rcases Nat.lt_or_ge g w.heap.size with h1 | h1
  ·
   exact h1
  ·
   rw [Array.getElem?_eq_none h1] at h
   cases h
end Go.Proofs.Ytbakdobjidjncaa.P
end
section
namespace Go.Proofs
open Go.Shelf
def Try.lays189_ren : Go.Shelf.Ren := ⟨fun | 189 => 45 | 125 => 58 | 257 => 57 | 128 => 73 | 129 => 74 | 294 => 64 | 295 => 65 | 296 => 66 | 297 => 67 | 298 => 68 | 299 => 69 | 216 => 70 | 300 => 71 | 301 => 72 | 328 => 77 | 329 => 78 | 330 => 79 | 331 => 80 | 332 => 81 | 215 => 82 | 343 => 84 | n => n, fun | 28 => 26 | 3 => 3 | 46 => 101 | 0 => 0 | 51 => 119 | 53 => 121 | 4 => 4 | 183 => 111 | 182 => 110 | 131 => 116 | 5 => 5 | 9 => 9 | 218 => 122 | 222 => 126 | 228 => 129 | 229 => 130 | n => n, fun | n => n⟩
theorem Try.lays189 : Go.Proofs.Lays.n189 Try.prog Try.lays189_ren := {
 mixed := by kernel_rfl
 f125 := Try.func58.trans (congrArg some (by kernel_rfl))
 f128 := Try.func73.trans (congrArg some (by kernel_rfl))
 f129 := Try.func74.trans (congrArg some (by kernel_rfl))
 f189 := Try.func45.trans (congrArg some (by kernel_rfl))
 f215 := Try.func82.trans (congrArg some (by kernel_rfl))
 f216 := Try.func70.trans (congrArg some (by kernel_rfl))
 f257 := Try.func57.trans (congrArg some (by kernel_rfl))
 f294 := Try.func64.trans (congrArg some (by kernel_rfl))
 f295 := Try.func65.trans (congrArg some (by kernel_rfl))
 f296 := Try.func66.trans (congrArg some (by kernel_rfl))
 f297 := Try.func67.trans (congrArg some (by kernel_rfl))
 f298 := Try.func68.trans (congrArg some (by kernel_rfl))
 f299 := Try.func69.trans (congrArg some (by kernel_rfl))
 f300 := Try.func71.trans (congrArg some (by kernel_rfl))
 f301 := Try.func72.trans (congrArg some (by kernel_rfl))
 f328 := Try.func77.trans (congrArg some (by kernel_rfl))
 f329 := Try.func78.trans (congrArg some (by kernel_rfl))
 f330 := Try.func79.trans (congrArg some (by kernel_rfl))
 f331 := Try.func80.trans (congrArg some (by kernel_rfl))
 f332 := Try.func81.trans (congrArg some (by kernel_rfl))
 f343 := Try.func84.trans (congrArg some (by kernel_rfl))
 t0 := Try.underlying0
 a0 := Try.isAgg0
 z0 := Try.sizeOf0
 v0 := Try.zeroValue0
 t3 := Try.underlying3
 a3 := Try.isAgg3
 z3 := Try.sizeOf3
 v3 := Try.zeroValue3
 t4 := Try.underlying4
 a4 := Try.isAgg4
 z4 := Try.sizeOf4
 v4 := Try.zeroValue4
 t5 := Try.underlying5
 a5 := Try.isAgg5
 z5 := Try.sizeOf5
 v5 := Try.zeroValue5
 t9 := Try.underlying9
 a9 := Try.isAgg9
 z9 := Try.sizeOf9
 v9 := Try.zeroValue9
 t28 := Try.underlying26
 a28 := Try.isAgg26
 z28 := Try.sizeOf26
 v28 := Try.zeroValue26
 t46 := Try.underlying101
 a46 := Try.isAgg101
 z46 := Try.sizeOf101
 v46 := Try.zeroValue101
 t51 := Try.underlying119
 a51 := Try.isAgg119
 z51 := Try.sizeOf119
 v51 := Try.zeroValue119
 t53 := Try.underlying121
 a53 := Try.isAgg121
 z53 := Try.sizeOf121
 v53 := Try.zeroValue121
 t131 := Try.underlying116
 a131 := Try.isAgg116
 z131 := Try.sizeOf116
 v131 := Try.zeroValue116
 t182 := Try.underlying110
 a182 := Try.isAgg110
 z182 := Try.sizeOf110
 v182 := Try.zeroValue110
 t183 := Try.underlying111
 a183 := Try.isAgg111
 z183 := Try.sizeOf111
 v183 := Try.zeroValue111
 t218 := Try.underlying122
 a218 := Try.isAgg122
 z218 := Try.sizeOf122
 v218 := Try.zeroValue122
 t222 := Try.underlying126
 a222 := Try.isAgg126
 z222 := Try.sizeOf126
 v222 := Try.zeroValue126
 t228 := Try.underlying129
 a228 := Try.isAgg129
 z228 := Try.sizeOf129
 v228 := Try.zeroValue129
 t229 := Try.underlying130
 a229 := Try.isAgg130
 z229 := Try.sizeOf130
 v229 := Try.zeroValue130 }
open Go.Sort Go.RowKit in
theorem Try.slices_Sort_int (blk off cap : Nat) (zs : List Int) (w : World) (hH : Holds (Value.int .i64) w blk off zs.toArray) (hblk : blk < w.heap.size) (hsz : zs.length < 4611686018427387904) :
  Calls Try.prog 45 #[.slice (some ⟨blk, off, none⟩) zs.length cap] w fun e w' =>
   e = .returned (.tuple #[]) ∧ ∃ n os, w' = grow (putRow (Value.int .i64) (Sort.ahead w n) blk off (zs.mergeSort fun x y => decide (x ≤ y)).toArray) os := Any.slices_Sort_int Try.lays189 blk off cap zs w hH hblk hsz
def Try.laysSlM5_f45_ren : Go.Shelf.Ren := ⟨fun | 5 => 45 | 8 => 58 | 7 => 57 | 19 => 73 | 20 => 74 | 10 => 64 | 11 => 65 | 12 => 66 | 13 => 67 | 14 => 68 | 15 => 69 | 16 => 70 | 17 => 71 | 18 => 72 | 30 => 77 | 31 => 78 | 32 => 79 | 33 => 80 | 34 => 81 | 35 => 82 | 40 => 84 | n => n, fun | 23 => 26 | 25 => 3 | 3 => 3 | 32 => 101 | 22 => 26 | 0 => 0 | 44 => 119 | 46 => 121 | 4 => 4 | 36 => 111 | 35 => 110 | 41 => 116 | 5 => 5 | 9 => 9 | 53 => 122 | 57 => 126 | 63 => 129 | 64 => 130 | n => n, fun | n => n⟩
theorem Try.laysSlM5_f45 : Go.Proofs.SlLaysM.n5 Try.prog Try.laysSlM5_f45_ren := {
 mixed := by kernel_rfl
 f5 := ⟨Try.f45.name, by decide, Try.func45.trans (congrArg some (by kernel_rfl))⟩
 f7 := ⟨Try.f57.name, by decide, Try.func57.trans (congrArg some (by kernel_rfl))⟩
 f8 := Try.func58.trans (congrArg some (by kernel_rfl))
 f10 := ⟨Try.f64.name, by decide, Try.func64.trans (congrArg some (by kernel_rfl))⟩
 f11 := ⟨Try.f65.name, by decide, Try.func65.trans (congrArg some (by kernel_rfl))⟩
 f12 := ⟨Try.f66.name, by decide, Try.func66.trans (congrArg some (by kernel_rfl))⟩
 f13 := ⟨Try.f67.name, by decide, Try.func67.trans (congrArg some (by kernel_rfl))⟩
 f14 := ⟨Try.f68.name, by decide, Try.func68.trans (congrArg some (by kernel_rfl))⟩
 f15 := ⟨Try.f69.name, by decide, Try.func69.trans (congrArg some (by kernel_rfl))⟩
 f16 := ⟨Try.f70.name, by decide, Try.func70.trans (congrArg some (by kernel_rfl))⟩
 f17 := ⟨Try.f71.name, by decide, Try.func71.trans (congrArg some (by kernel_rfl))⟩
 f18 := ⟨Try.f72.name, by decide, Try.func72.trans (congrArg some (by kernel_rfl))⟩
 f19 := Try.func73.trans (congrArg some (by kernel_rfl))
 f20 := Try.func74.trans (congrArg some (by kernel_rfl))
 f30 := ⟨Try.f77.name, by decide, Try.func77.trans (congrArg some (by kernel_rfl))⟩
 f31 := Try.func78.trans (congrArg some (by kernel_rfl))
 f32 := Try.func79.trans (congrArg some (by kernel_rfl))
 f33 := ⟨Try.f80.name, by decide, Try.func80.trans (congrArg some (by kernel_rfl))⟩
 f34 := ⟨Try.f81.name, by decide, Try.func81.trans (congrArg some (by kernel_rfl))⟩
 f35 := ⟨Try.f82.name, by decide, Try.func82.trans (congrArg some (by kernel_rfl))⟩
 f40 := ⟨Try.f84.name, by decide, Try.func84.trans (congrArg some (by kernel_rfl))⟩
 t0 := Try.underlying0
 a0 := Try.isAgg0
 z0 := Try.sizeOf0
 v0 := Try.zeroValue0
 t3 := Try.underlying3
 a3 := Try.isAgg3
 z3 := Try.sizeOf3
 v3 := Try.zeroValue3
 t4 := Try.underlying4
 a4 := Try.isAgg4
 z4 := Try.sizeOf4
 v4 := Try.zeroValue4
 t5 := Try.underlying5
 a5 := Try.isAgg5
 z5 := Try.sizeOf5
 v5 := Try.zeroValue5
 t9 := Try.underlying9
 a9 := Try.isAgg9
 z9 := Try.sizeOf9
 v9 := Try.zeroValue9
 t22 := Try.underlying26
 a22 := Try.isAgg26
 z22 := Try.sizeOf26
 v22 := Try.zeroValue26
 t23 := Try.underlying26
 a23 := Try.isAgg26
 z23 := Try.sizeOf26
 v23 := Try.zeroValue26
 t25 := Try.underlying3
 a25 := Try.isAgg3
 z25 := Try.sizeOf3
 v25 := Try.zeroValue3
 t32 := Try.underlying101
 a32 := Try.isAgg101
 z32 := Try.sizeOf101
 v32 := Try.zeroValue101
 t35 := Try.underlying110
 a35 := Try.isAgg110
 z35 := Try.sizeOf110
 v35 := Try.zeroValue110
 t36 := Try.underlying111
 a36 := Try.isAgg111
 z36 := Try.sizeOf111
 v36 := Try.zeroValue111
 t41 := Try.underlying116
 a41 := Try.isAgg116
 z41 := Try.sizeOf116
 v41 := Try.zeroValue116
 t44 := Try.underlying119
 a44 := Try.isAgg119
 z44 := Try.sizeOf119
 v44 := Try.zeroValue119
 t46 := Try.underlying121
 a46 := Try.isAgg121
 z46 := Try.sizeOf121
 v46 := Try.zeroValue121
 t53 := Try.underlying122
 a53 := Try.isAgg122
 z53 := Try.sizeOf122
 v53 := Try.zeroValue122
 t57 := Try.underlying126
 a57 := Try.isAgg126
 z57 := Try.sizeOf126
 v57 := Try.zeroValue126
 t63 := Try.underlying129
 a63 := Try.isAgg129
 z63 := Try.sizeOf129
 v63 := Try.zeroValue129
 t64 := Try.underlying130
 a64 := Try.isAgg130
 z64 := Try.sizeOf130
 v64 := Try.zeroValue130 }
open Go.RowKit Go.Sort in
theorem Try.slices_Sort_int_none (p : Option Addr) (cap : Nat) (w : World) :
  Calls Try.prog 45 #[.slice p 0 cap] w fun e w' => e = .returned (.tuple #[]) ∧ w' = w := AnyM.slices_Sort_int_none Try.laysSlM5_f45 p cap w
end Go.Proofs
end
section
namespace Go.Proofs.Ytbakdobjidjncaa.P
open Go.RowKit Go.Proofs.YtbakdobjidjncaaW.PrintWords Go.Proofs.YtbakdobjidjncaaW.PrintLast Go.Proofs.YtbakdobjidjncaaW.PrintMore
attribute [local go_sem] max2_int min2_int max_two min_two max_three min_three max_four min_four
def errW : Option Int → Value
 | none => .nilIface
 | some c => .iface 0 (.int .i64 c)
theorem zar : errW none = .nilIface := rfl
theorem zan (c : Int) : errW (some c) = .iface 0 (.int .i64 c) := rfl
theorem info3 : (Try.prog.info? 3).map (fun i => (i.zero, i.size, i.bytes)) = some (some (.int .i64 0), 1, 8) := by kernel_rfl
structure S86 where
 f0 : Int
 f1 : Int
 f2 : Int
 f3 : Int
def round_right.f (a0 : Int) : Option (Bool) := if a0 ≥ 1 then (some (decide (a0 ≤ 1000))) else (some false)
theorem round_right.calls (a0 : Int) (r : Bool) (w : World) (h : round_right.f a0 = some r) :
  Calls Try.prog 40 #[.int .i64 a0] w fun e w' => e = .returned (.bool r) ∧ Drawn0 w w' := by
 have H : (if a0 ≥ 1 then (some (decide (a0 ≤ 1000))) else (some false)) = some r := h
 clear h
 by_cases c2 : a0 ≥ 1
 ·
  rw [if_pos c2] at H
  have c2b0 : decide (1 ≤ a0) = true := decide_eq_true c2
  clear c2
  obtain rfl := Option.some.inj H
  go_enter Try.func40, Try.ntmps40
  go_wp2
  go_ret
  exact ⟨zF, by repeat (first | exact Drawn0.refl _ | apply Drawn0.step)⟩
 ·
  rw [if_neg c2] at H
  have c2b0 : decide (1 ≤ a0) = false := decide_eq_false c2
  clear c2
  obtain rfl := Option.some.inj H
  go_enter Try.func40, Try.ntmps40
  go_wp2
  go_ret
  exact ⟨zF, by repeat (first | exact Drawn0.refl _ | apply Drawn0.step)⟩
def zad.f (a0_0 : Int) (a0_1 : Int) (a0_2 : Int) : Option (Bool) := some (decide (a0_1 > 0))
theorem zad.calls (a0_0 : Int) (a0_1 : Int) (a0_2 : Int) (r : Bool) (w : World) (h : zad.f a0_0 a0_1 a0_2 = some r) :
  Calls Try.prog 42 #[.agg #[.int .i64 a0_0, .int .i64 a0_1, .int .i64 a0_2]] w fun e w' => e = .returned (.bool r) ∧ Below w.heap.size w w' := by
 have hu48 := Try.underlying48
 have HB := zA (Below.refl w.heap.size w)
 have H : (some (decide (a0_1 > 0))) = some r := h
 clear h
 obtain rfl := Option.some.inj H
 go_enter Try.func42, Try.ntmps42
 go_wp2_with (first | ((with_reducible refine zat (N := 1) rfl ?_); refine zaq ?hg (N := 1) ?hd (cs := #[.int .i64 a0_0, .int .i64 a0_1, .int .i64 a0_2]) (t := 48) ?hr ?_; (case hd => rfl); (case hg => rfl); (case hr => first | (go_simp; done) | (go_simp; rfl)); intro gb101 hg w2 hbox hb; have n0_ := zA (zac (zB HB) hb); have n1_ := zA (hbox); have n2_ := zA ((by rw [hg]; exact (zai (zB HB)) : w.heap.size ≤ gb101)); have n3_ := zA ((by rw [hg]; exact (zai (zB HB)) : w.heap.size ≤ gb101)); clear HB; have HB := n0_; have BK101 := n1_; have GW101 := n2_; have GE101 := n3_; clear n0_ n1_ n2_ n3_ hb hbox hg; have hcz3_0 : w2.cell? ⟨gb101, 0, none⟩ = some (.int .i64 a0_0) := (za BK101.out 0).trans rfl; have hcz3_1 : w2.cell? ⟨gb101, 1, none⟩ = some (.int .i64 a0_1) := (za BK101.out 1).trans rfl; have hcz3_2 : w2.cell? ⟨gb101, 2, none⟩ = some (.int .i64 a0_2) := (za BK101.out 2).trans rfl; have hfz3_0 := zaa BK101.out 0; have hfz3_1 := zaa BK101.out 1; have hfz3_2 := zaa BK101.out 2))
 go_ret
 exact ⟨zW, zB HB⟩
def zaj.f (a0_0 : Int) (a0_1 : Int) (a0_2 : Int) : Option (Int × Int × Int) := some (wrap64 (a0_0 + 1), a0_2, a0_2)
theorem zaj.calls (a0_0 : Int) (a0_1 : Int) (a0_2 : Int) (r1 : Int) (r2 : Int) (r3 : Int) (w : World) (h : zaj.f a0_0 a0_1 a0_2 = some (r1, r2, r3)) :
  Calls Try.prog 43 #[.agg #[.int .i64 a0_0, .int .i64 a0_1, .int .i64 a0_2]] w fun e w' => e = .returned (.agg #[.int .i64 r1, .int .i64 r2, .int .i64 r3]) ∧ Below w.heap.size w w' := by
 have hu48 := Try.underlying48
 have HB := zA (Below.refl w.heap.size w)
 have H : (some (wrap64 (a0_0 + 1), a0_2, a0_2)) = some (r1, r2, r3) := h
 clear h
 simp only [Option.some.injEq, Prod.mk.injEq] at H
 obtain ⟨rfl, rfl, rfl⟩ := H
 go_enter Try.func43, Try.ntmps43
 go_wp2_with (first | ((with_reducible refine zat (N := 1) rfl ?_); refine zaq ?hg (N := 1) ?hd (cs := #[.int .i64 a0_0, .int .i64 a0_1, .int .i64 a0_2]) (t := 48) ?hr ?_; (case hd => rfl); (case hg => rfl); (case hr => first | (go_simp; done) | (go_simp; rfl)); intro gb102 hg w2 hbox hb; have n0_ := zA (zac (zB HB) hb); have n1_ := zA (hbox); have n2_ := zA ((by rw [hg]; exact (zai (zB HB)) : w.heap.size ≤ gb102)); have n3_ := zA ((by rw [hg]; exact (zai (zB HB)) : w.heap.size ≤ gb102)); clear HB; have HB := n0_; have BK102 := n1_; have GW102 := n2_; have GE102 := n3_; clear n0_ n1_ n2_ n3_ hb hbox hg) | ((with_reducible refine zat (N := 2) rfl ?_); refine zaq ?hg (N := 2) ?hd (cs := #[.int .i64 0, .int .i64 0, .int .i64 0]) (t := 48) ?hr ?_; (case hd => rfl); (case hg => rfl); (case hr => first | (go_simp; done) | (go_simp; rfl)); intro gb103 hg w3 hbox hb; have n0_ := zA (zam (g := gb102) (o := .cells #[.int .i64 a0_0, .int .i64 a0_1, .int .i64 a0_2] 48 (0, 0)) (zK BK102) hb); have n1_ := zA (zac (zB HB) hb); have n2_ := zA (hbox); have n3_ := zA ((by rw [hg]; exact (zai (zB HB)) : w.heap.size ≤ gb103)); have n4_ := zA ((by rw [hg]; exact (zai (zB HB)) : w.heap.size ≤ gb103)); have n5_ := zA ((by rw [hg]; exact Nat.ne_of_lt (zak (g := gb102) (o := .cells #[.int .i64 a0_0, .int .i64 a0_1, .int .i64 a0_2] 48 (0, 0)) (zK BK102)) : gb102 ≠ gb103)); have n6_ := zA ((by rw [hg]; exact Nat.ne_of_gt (zak (g := gb102) (o := .cells #[.int .i64 a0_0, .int .i64 a0_1, .int .i64 a0_2] 48 (0, 0)) (zK BK102)) : gb103 ≠ gb102)); clear BK102 HB; have BK102 := n0_; have HB := n1_; have BK103 := n2_; have GW103 := n3_; have GE103 := n4_; have NB102_103 := n5_; have NB103_102 := n6_; clear n0_ n1_ n2_ n3_ n4_ n5_ n6_ hb hbox hg; have hnb4 := NB102_103.out; have hnc4 := NB103_102.out; have hcz5_0 : w3.cell? ⟨gb102, 0, none⟩ = some (.int .i64 a0_0) := (za BK102.out 0).trans rfl; have hcz5_1 : w3.cell? ⟨gb102, 1, none⟩ = some (.int .i64 a0_1) := (za BK102.out 1).trans rfl; have hcz5_2 : w3.cell? ⟨gb102, 2, none⟩ = some (.int .i64 a0_2) := (za BK102.out 2).trans rfl; have hfz5_0 := zaa BK102.out 0; have hfz5_1 := zaa BK102.out 1; have hfz5_2 := zaa BK102.out 2; have hcz6_0 : w3.cell? ⟨gb103, 0, none⟩ = some (.int .i64 0) := (za BK103.out 0).trans rfl; have hcz6_1 : w3.cell? ⟨gb103, 1, none⟩ = some (.int .i64 0) := (za BK103.out 1).trans rfl; have hcz6_2 : w3.cell? ⟨gb103, 2, none⟩ = some (.int .i64 0) := (za BK103.out 2).trans rfl; have hfz6_0 := zaa BK103.out 0; have hfz6_1 := zaa BK103.out 1; have hfz6_2 := zaa BK103.out 2))
 refine bodyPost_ret (results_cell_row rfl _ _ gb103 48 #[.int .i64 (wrap64 (a0_0 + 1)), .int .i64 a0_2, .int .i64 a0_2] (0, 0) _ rfl (by (with_reducible repeat (first | refine zae ?_ _ | refine zah ?_ | refine zab ?_ _)); refine zal (cs := #[.int .i64 (wrap64 (a0_0 + 1)), .int .i64 a0_2, .int .i64 0]) ?_ 2 _ rfl; (with_reducible repeat (first | refine zae ?_ _ | refine zah ?_ | refine zab ?_ _)); refine zal (cs := #[.int .i64 (wrap64 (a0_0 + 1)), .int .i64 0, .int .i64 0]) ?_ 1 _ rfl; (with_reducible repeat (first | refine zae ?_ _ | refine zah ?_ | refine zab ?_ _)); refine zal (cs := #[.int .i64 0, .int .i64 0, .int .i64 0]) ?_ 0 _ rfl; (with_reducible repeat (first | refine zae ?_ _ | refine zah ?_ | refine zab ?_ _)); exact BK103.out) Try.underlying48 rfl (by kernel_rfl)) rfl ?_
 exact ⟨zW, zB HB⟩
def zas.f (a0_0 : Int) (a0_1 : Int) (a0_2 : Int) (a1 : Int) : Option (Int × Int × Int) := if a0_0 < a1 then (some (a1, a0_2, a0_2)) else ((zad.f a0_0 (mn a0_1 a0_2) a0_2).bind fun t106 => (if t106 = true then (some (a0_0, mn a0_1 a0_2, a0_2)) else (if a0_0 = a1 then ((zaj.f a0_0 (mn a0_1 a0_2) a0_2).bind fun bt107 => (some (bt107.1, bt107.2.1, bt107.2.2))) else (some (a0_0, mn a0_1 a0_2, a0_2)))))
theorem zas.calls (a0_0 : Int) (a0_1 : Int) (a0_2 : Int) (a1 : Int) (r1 : Int) (r2 : Int) (r3 : Int) (w : World) (h : zas.f a0_0 a0_1 a0_2 a1 = some (r1, r2, r3)) :
  Calls Try.prog 41 #[.agg #[.int .i64 a0_0, .int .i64 a0_1, .int .i64 a0_2], .int .i64 a1] w fun e w' => e = .returned (.agg #[.int .i64 r1, .int .i64 r2, .int .i64 r3]) ∧ Below w.heap.size w w' := by
 have hu48 := Try.underlying48
 have HB := zA (Below.refl w.heap.size w)
 have H : (if a0_0 < a1 then (some (a1, a0_2, a0_2)) else ((zad.f a0_0 (mn a0_1 a0_2) a0_2).bind fun t106 => (if t106 = true then (some (a0_0, mn a0_1 a0_2, a0_2)) else (if a0_0 = a1 then ((zaj.f a0_0 (mn a0_1 a0_2) a0_2).bind fun bt107 => (some (bt107.1, bt107.2.1, bt107.2.2))) else (some (a0_0, mn a0_1 a0_2, a0_2)))))) = some (r1, r2, r3) := h
 clear h
 by_cases c3 : a0_0 < a1
 ·
  rw [if_pos c3] at H
  have c3b0 : decide (a0_0 < a1) = true := decide_eq_true c3
  clear c3
  simp only [Option.some.injEq, Prod.mk.injEq] at H
  obtain ⟨rfl, rfl, rfl⟩ := H
  go_enter Try.func41, Try.ntmps41
  go_wp2_with (first | ((with_reducible refine zat (N := 2) rfl ?_); refine zaq ?hg (N := 2) ?hd (cs := #[.int .i64 a0_0, .int .i64 a0_1, .int .i64 a0_2]) (t := 48) ?hr ?_; (case hd => rfl); (case hg => rfl); (case hr => first | (go_simp; done) | (go_simp; rfl)); intro gb104 hg w4 hbox hb; have n0_ := zA (zac (zB HB) hb); have n1_ := zA (hbox); have n2_ := zA ((by rw [hg]; exact (zai (zB HB)) : w.heap.size ≤ gb104)); have n3_ := zA ((by rw [hg]; exact (zai (zB HB)) : w.heap.size ≤ gb104)); clear HB; have HB := n0_; have BK104 := n1_; have GW104 := n2_; have GE104 := n3_; clear n0_ n1_ n2_ n3_ hb hbox hg) | ((with_reducible refine zat (N := 4) rfl ?_); refine zaq ?hg (N := 4) ?hd (cs := #[.int .i64 0, .int .i64 0, .int .i64 0]) (t := 48) ?hr ?_; (case hd => rfl); (case hg => rfl); (case hr => first | (go_simp; done) | (go_simp; rfl)); intro gb105 hg w5 hbox hb; have n0_ := zA (zam (g := gb104) (o := .cells #[.int .i64 a0_0, .int .i64 a0_1, .int .i64 a0_2] 48 (0, 0)) (zK BK104) hb); have n1_ := zA (zac (zB HB) hb); have n2_ := zA (hbox); have n3_ := zA ((by rw [hg]; exact (zai (zB HB)) : w.heap.size ≤ gb105)); have n4_ := zA ((by rw [hg]; exact (zai (zB HB)) : w.heap.size ≤ gb105)); have n5_ := zA ((by rw [hg]; exact Nat.ne_of_lt (zak (g := gb104) (o := .cells #[.int .i64 a0_0, .int .i64 a0_1, .int .i64 a0_2] 48 (0, 0)) (zK BK104)) : gb104 ≠ gb105)); have n6_ := zA ((by rw [hg]; exact Nat.ne_of_gt (zak (g := gb104) (o := .cells #[.int .i64 a0_0, .int .i64 a0_1, .int .i64 a0_2] 48 (0, 0)) (zK BK104)) : gb105 ≠ gb104)); clear BK104 HB; have BK104 := n0_; have HB := n1_; have BK105 := n2_; have GW105 := n3_; have GE105 := n4_; have NB104_105 := n5_; have NB105_104 := n6_; clear n0_ n1_ n2_ n3_ n4_ n5_ n6_ hb hbox hg; have hnb6 := NB104_105.out; have hnc6 := NB105_104.out; have hcz7_0 : w5.cell? ⟨gb104, 0, none⟩ = some (.int .i64 a0_0) := (za BK104.out 0).trans rfl; have hcz7_1 : w5.cell? ⟨gb104, 1, none⟩ = some (.int .i64 a0_1) := (za BK104.out 1).trans rfl; have hcz7_2 : w5.cell? ⟨gb104, 2, none⟩ = some (.int .i64 a0_2) := (za BK104.out 2).trans rfl; have hfz7_0 := zaa BK104.out 0; have hfz7_1 := zaa BK104.out 1; have hfz7_2 := zaa BK104.out 2; have hcz8_0 : w5.cell? ⟨gb105, 0, none⟩ = some (.int .i64 0) := (za BK105.out 0).trans rfl; have hcz8_1 : w5.cell? ⟨gb105, 1, none⟩ = some (.int .i64 0) := (za BK105.out 1).trans rfl; have hcz8_2 : w5.cell? ⟨gb105, 2, none⟩ = some (.int .i64 0) := (za BK105.out 2).trans rfl; have hfz8_0 := zaa BK105.out 0; have hfz8_1 := zaa BK105.out 1; have hfz8_2 := zaa BK105.out 2))
  refine bodyPost_ret (results_cell_row rfl _ _ gb105 48 #[.int .i64 a1, .int .i64 a0_2, .int .i64 a0_2] (0, 0) _ rfl (by (with_reducible repeat (first | refine zae ?_ _ | refine zah ?_ | refine zab ?_ _)); refine zal (cs := #[.int .i64 a1, .int .i64 a0_2, .int .i64 0]) ?_ 2 _ rfl; (with_reducible repeat (first | refine zae ?_ _ | refine zah ?_ | refine zab ?_ _)); refine zal (cs := #[.int .i64 a1, .int .i64 0, .int .i64 0]) ?_ 1 _ rfl; (with_reducible repeat (first | refine zae ?_ _ | refine zah ?_ | refine zab ?_ _)); refine zal (cs := #[.int .i64 0, .int .i64 0, .int .i64 0]) ?_ 0 _ rfl; (with_reducible repeat (first | refine zae ?_ _ | refine zah ?_ | refine zab ?_ _)); exact BK105.out) Try.underlying48 rfl (by kernel_rfl)) rfl ?_
  exact ⟨zW, zB HB⟩
 ·
  rw [if_neg c3] at H
  have c3b0 : decide (a0_0 < a1) = false := decide_eq_false c3
  clear c3
  obtain ⟨ji9, hji9⟩ : ∃ j_ : Int, (mn a0_1 a0_2) = j_ := ⟨_, rfl⟩
  replace H : ((zad.f a0_0 (ji9) a0_2).bind fun t106 => (if t106 = true then (some (a0_0, ji9, a0_2)) else (if a0_0 = a1 then ((zaj.f a0_0 (ji9) a0_2).bind fun bt107 => (some (bt107.1, bt107.2.1, bt107.2.2))) else (some (a0_0, ji9, a0_2))))) = some (r1, r2, r3) := by first | (rw [hji9] at H; exact H) | (simp only [hji9] at H ⊢; exact H)
  have hji9_ : (if a0_2 < a0_1 then a0_2 else a0_1) = ji9 := hji9
  (try (have hji9n_ := hji9_; simp only [Int.ofNat_lt] at hji9n_))
  replace H := zO H
  obtain ⟨t106, A100, H⟩ := H
  try dsimp only at H
  have A10 := zA A100
  clear A100
  by_cases c11 : t106 = true
  ·
   subst c11
   rw [if_pos rfl] at H
   simp only [Option.some.injEq, Prod.mk.injEq] at H
   obtain ⟨rfl, rfl, rfl⟩ := H
   go_enter Try.func41, Try.ntmps41
   go_wp2_with (first | ((with_reducible refine zat (N := 2) rfl ?_); refine zaq ?hg (N := 2) ?hd (cs := #[.int .i64 a0_0, .int .i64 a0_1, .int .i64 a0_2]) (t := 48) ?hr ?_; (case hd => rfl); (case hg => rfl); (case hr => first | (go_simp; done) | (go_simp; rfl)); intro gb104 hg w12 hbox hb; have n0_ := zA (zac (zB HB) hb); have n1_ := zA (hbox); have n2_ := zA ((by rw [hg]; exact (zai (zB HB)) : w.heap.size ≤ gb104)); have n3_ := zA ((by rw [hg]; exact (zai (zB HB)) : w.heap.size ≤ gb104)); clear HB; have HB := n0_; have BK104 := n1_; have GW104 := n2_; have GE104 := n3_; clear n0_ n1_ n2_ n3_ hb hbox hg) | ((with_reducible refine zat (N := 4) rfl ?_); refine zaq ?hg (N := 4) ?hd (cs := #[.int .i64 0, .int .i64 0, .int .i64 0]) (t := 48) ?hr ?_; (case hd => rfl); (case hg => rfl); (case hr => first | (go_simp; done) | (go_simp; rfl)); intro gb105 hg w13 hbox hb; have n0_ := zA (zam (g := gb104) (o := .cells #[.int .i64 a0_0, .int .i64 a0_1, .int .i64 a0_2] 48 (0, 0)) (zK BK104) hb); have n1_ := zA (zac (zB HB) hb); have n2_ := zA (hbox); have n3_ := zA ((by rw [hg]; exact (zai (zB HB)) : w.heap.size ≤ gb105)); have n4_ := zA ((by rw [hg]; exact (zai (zB HB)) : w.heap.size ≤ gb105)); have n5_ := zA ((by rw [hg]; exact Nat.ne_of_lt (zak (g := gb104) (o := .cells #[.int .i64 a0_0, .int .i64 a0_1, .int .i64 a0_2] 48 (0, 0)) (zK BK104)) : gb104 ≠ gb105)); have n6_ := zA ((by rw [hg]; exact Nat.ne_of_gt (zak (g := gb104) (o := .cells #[.int .i64 a0_0, .int .i64 a0_1, .int .i64 a0_2] 48 (0, 0)) (zK BK104)) : gb105 ≠ gb104)); clear BK104 HB; have BK104 := n0_; have HB := n1_; have BK105 := n2_; have GW105 := n3_; have GE105 := n4_; have NB104_105 := n5_; have NB105_104 := n6_; clear n0_ n1_ n2_ n3_ n4_ n5_ n6_ hb hbox hg; have hnb14 := NB104_105.out; have hnc14 := NB105_104.out; have hcz15_0 : w13.cell? ⟨gb104, 0, none⟩ = some (.int .i64 a0_0) := (za BK104.out 0).trans rfl; have hcz15_1 : w13.cell? ⟨gb104, 1, none⟩ = some (.int .i64 a0_1) := (za BK104.out 1).trans rfl; have hcz15_2 : w13.cell? ⟨gb104, 2, none⟩ = some (.int .i64 a0_2) := (za BK104.out 2).trans rfl; have hfz15_0 := zaa BK104.out 0; have hfz15_1 := zaa BK104.out 1; have hfz15_2 := zaa BK104.out 2) | ((with_reducible refine gate_callee (f := 42) rfl ?_); refine goesL_ (some 22) rfl rfl Try.func42 (by kernel_rfl) rfl #[.agg #[.int .i64 a0_0, .int .i64 ji9, .int .i64 a0_2]] rfl (by (try simp only [List.map_toArray, List.map_cons, List.map_nil]); first | done | (simp only [hji9]; rfl) | rfl | (simp only [List.length_drop, List.length_take]; rfl) | ((simp [Act.eval, wrap64]) <;> omega) | ((simp [Act.eval, wrap64, IntKind.wrap, IntKind.bits, IntKind.signed]) <;> omega)) ?_; (with_reducible refine (zad.calls a0_0 ji9 a0_2 true _ A10.out).mono ?_); rintro e w16 ⟨rfl, hb⟩; refine ⟨_, rfl, ?_⟩; have n0_ := zA (zam (g := gb104) (o := .cells #[.int .i64 a0_0, .int .i64 ji9, .int .i64 a0_2] 48 (0, 0)) (by (with_reducible repeat (first | refine zae ?_ _ | refine zah ?_ | refine zab ?_ _)); refine zal (cs := #[.int .i64 a0_0, .int .i64 a0_1, .int .i64 a0_2]) ?_ 1 _ rfl; (with_reducible repeat (first | refine zae ?_ _ | refine zah ?_ | refine zab ?_ _)); exact BK104.out) hb); have n1_ := zA (zam (g := gb105) (o := .cells #[.int .i64 0, .int .i64 0, .int .i64 0] 48 (0, 0)) (by (with_reducible repeat (first | refine zae ?_ _ | refine zah ?_ | refine zab ?_ _)); refine blk_far ?_ NB105_104.out _; (with_reducible repeat (first | refine zae ?_ _ | refine zah ?_ | refine zab ?_ _)); exact BK105.out) hb); have n2_ := zA (zac (zB HB) hb); clear BK104 BK105 HB; have BK104 := n0_; have BK105 := n1_; have HB := n2_; clear n0_ n1_ n2_; (try clear hb); (try clear hb2); (try clear hk); (try clear hi); have hcz17_0 : w16.cell? ⟨gb104, 0, none⟩ = some (.int .i64 a0_0) := (za BK104.out 0).trans rfl; have hcz17_1 : w16.cell? ⟨gb104, 1, none⟩ = some (.int .i64 ji9) := (za BK104.out 1).trans rfl; have hcz17_2 : w16.cell? ⟨gb104, 2, none⟩ = some (.int .i64 a0_2) := (za BK104.out 2).trans rfl; have hfz17_0 := zaa BK104.out 0; have hfz17_1 := zaa BK104.out 1; have hfz17_2 := zaa BK104.out 2; have hcz18_0 : w16.cell? ⟨gb105, 0, none⟩ = some (.int .i64 0) := (za BK105.out 0).trans rfl; have hcz18_1 : w16.cell? ⟨gb105, 1, none⟩ = some (.int .i64 0) := (za BK105.out 1).trans rfl; have hcz18_2 : w16.cell? ⟨gb105, 2, none⟩ = some (.int .i64 0) := (za BK105.out 2).trans rfl; have hfz18_0 := zaa BK105.out 0; have hfz18_1 := zaa BK105.out 1; have hfz18_2 := zaa BK105.out 2))
   refine bodyPost_ret (results_cell_row rfl _ _ gb105 48 #[.int .i64 a0_0, .int .i64 ji9, .int .i64 a0_2] (0, 0) _ rfl (by (with_reducible repeat (first | refine zae ?_ _ | refine zah ?_ | refine zab ?_ _)); refine zal (cs := #[.int .i64 a0_0, .int .i64 ji9, .int .i64 0]) ?_ 2 _ rfl; (with_reducible repeat (first | refine zae ?_ _ | refine zah ?_ | refine zab ?_ _)); refine zal (cs := #[.int .i64 a0_0, .int .i64 0, .int .i64 0]) ?_ 1 _ rfl; (with_reducible repeat (first | refine zae ?_ _ | refine zah ?_ | refine zab ?_ _)); refine zal (cs := #[.int .i64 0, .int .i64 0, .int .i64 0]) ?_ 0 _ rfl; (with_reducible repeat (first | refine zae ?_ _ | refine zah ?_ | refine zab ?_ _)); exact BK105.out) Try.underlying48 rfl (by kernel_rfl)) rfl ?_
   exact ⟨by first | rfl | (simp [zar, zan] <;> rfl) | (simp only [← hji9]; first | rfl | (simp [zar, zan] <;> rfl)) | (simp [*, zar, zan] <;> rfl), zB HB⟩
  ·
   replace c11 := Bool.eq_false_iff.mpr c11
   subst c11
   rw [if_neg (show ¬ (false = true) by decide)] at H
   by_cases c19 : a0_0 = a1
   ·
    rw [if_pos c19] at H
    have c19b0 : (a0_0 == a1) = true := beq_iff_eq.mpr c19
    have c19b1 : (a0_0 != a1) = false := bne_eq_false_iff_eq.mpr c19
    clear c19
    replace H := zO H
    obtain ⟨⟨t107, t108, t109⟩, A200, H⟩ := H
    try dsimp only at H
    have A20 := zA A200
    clear A200
    simp only [Option.some.injEq, Prod.mk.injEq] at H
    obtain ⟨rfl, rfl, rfl⟩ := H
    go_enter Try.func41, Try.ntmps41
    go_wp2_with (first | ((with_reducible refine zat (N := 2) rfl ?_); refine zaq ?hg (N := 2) ?hd (cs := #[.int .i64 a0_0, .int .i64 a0_1, .int .i64 a0_2]) (t := 48) ?hr ?_; (case hd => rfl); (case hg => rfl); (case hr => first | (go_simp; done) | (go_simp; rfl)); intro gb104 hg w21 hbox hb; have n0_ := zA (zac (zB HB) hb); have n1_ := zA (hbox); have n2_ := zA ((by rw [hg]; exact (zai (zB HB)) : w.heap.size ≤ gb104)); have n3_ := zA ((by rw [hg]; exact (zai (zB HB)) : w.heap.size ≤ gb104)); clear HB; have HB := n0_; have BK104 := n1_; have GW104 := n2_; have GE104 := n3_; clear n0_ n1_ n2_ n3_ hb hbox hg) | ((with_reducible refine zat (N := 4) rfl ?_); refine zaq ?hg (N := 4) ?hd (cs := #[.int .i64 0, .int .i64 0, .int .i64 0]) (t := 48) ?hr ?_; (case hd => rfl); (case hg => rfl); (case hr => first | (go_simp; done) | (go_simp; rfl)); intro gb105 hg w22 hbox hb; have n0_ := zA (zam (g := gb104) (o := .cells #[.int .i64 a0_0, .int .i64 a0_1, .int .i64 a0_2] 48 (0, 0)) (zK BK104) hb); have n1_ := zA (zac (zB HB) hb); have n2_ := zA (hbox); have n3_ := zA ((by rw [hg]; exact (zai (zB HB)) : w.heap.size ≤ gb105)); have n4_ := zA ((by rw [hg]; exact (zai (zB HB)) : w.heap.size ≤ gb105)); have n5_ := zA ((by rw [hg]; exact Nat.ne_of_lt (zak (g := gb104) (o := .cells #[.int .i64 a0_0, .int .i64 a0_1, .int .i64 a0_2] 48 (0, 0)) (zK BK104)) : gb104 ≠ gb105)); have n6_ := zA ((by rw [hg]; exact Nat.ne_of_gt (zak (g := gb104) (o := .cells #[.int .i64 a0_0, .int .i64 a0_1, .int .i64 a0_2] 48 (0, 0)) (zK BK104)) : gb105 ≠ gb104)); clear BK104 HB; have BK104 := n0_; have HB := n1_; have BK105 := n2_; have GW105 := n3_; have GE105 := n4_; have NB104_105 := n5_; have NB105_104 := n6_; clear n0_ n1_ n2_ n3_ n4_ n5_ n6_ hb hbox hg; have hnb23 := NB104_105.out; have hnc23 := NB105_104.out; have hcz24_0 : w22.cell? ⟨gb104, 0, none⟩ = some (.int .i64 a0_0) := (za BK104.out 0).trans rfl; have hcz24_1 : w22.cell? ⟨gb104, 1, none⟩ = some (.int .i64 a0_1) := (za BK104.out 1).trans rfl; have hcz24_2 : w22.cell? ⟨gb104, 2, none⟩ = some (.int .i64 a0_2) := (za BK104.out 2).trans rfl; have hfz24_0 := zaa BK104.out 0; have hfz24_1 := zaa BK104.out 1; have hfz24_2 := zaa BK104.out 2) | ((with_reducible refine gate_callee (f := 42) rfl ?_); refine goesL_ (some 22) rfl rfl Try.func42 (by kernel_rfl) rfl #[.agg #[.int .i64 a0_0, .int .i64 ji9, .int .i64 a0_2]] rfl (by (try simp only [List.map_toArray, List.map_cons, List.map_nil]); first | done | (simp only [hji9]; rfl) | rfl | (simp only [List.length_drop, List.length_take]; rfl) | ((simp [Act.eval, wrap64]) <;> omega) | ((simp [Act.eval, wrap64, IntKind.wrap, IntKind.bits, IntKind.signed]) <;> omega)) ?_; (with_reducible refine (zad.calls a0_0 ji9 a0_2 false _ A10.out).mono ?_); rintro e w25 ⟨rfl, hb⟩; refine ⟨_, rfl, ?_⟩; have n0_ := zA (zam (g := gb104) (o := .cells #[.int .i64 a0_0, .int .i64 ji9, .int .i64 a0_2] 48 (0, 0)) (by (with_reducible repeat (first | refine zae ?_ _ | refine zah ?_ | refine zab ?_ _)); refine zal (cs := #[.int .i64 a0_0, .int .i64 a0_1, .int .i64 a0_2]) ?_ 1 _ rfl; (with_reducible repeat (first | refine zae ?_ _ | refine zah ?_ | refine zab ?_ _)); exact BK104.out) hb); have n1_ := zA (zam (g := gb105) (o := .cells #[.int .i64 0, .int .i64 0, .int .i64 0] 48 (0, 0)) (by (with_reducible repeat (first | refine zae ?_ _ | refine zah ?_ | refine zab ?_ _)); refine blk_far ?_ NB105_104.out _; (with_reducible repeat (first | refine zae ?_ _ | refine zah ?_ | refine zab ?_ _)); exact BK105.out) hb); have n2_ := zA (zac (zB HB) hb); clear BK104 BK105 HB; have BK104 := n0_; have BK105 := n1_; have HB := n2_; clear n0_ n1_ n2_; (try clear hb); (try clear hb2); (try clear hk); (try clear hi); have hcz26_0 : w25.cell? ⟨gb104, 0, none⟩ = some (.int .i64 a0_0) := (za BK104.out 0).trans rfl; have hcz26_1 : w25.cell? ⟨gb104, 1, none⟩ = some (.int .i64 ji9) := (za BK104.out 1).trans rfl; have hcz26_2 : w25.cell? ⟨gb104, 2, none⟩ = some (.int .i64 a0_2) := (za BK104.out 2).trans rfl; have hfz26_0 := zaa BK104.out 0; have hfz26_1 := zaa BK104.out 1; have hfz26_2 := zaa BK104.out 2) | ((with_reducible refine gate_callee (f := 43) rfl ?_); refine goesL_ (some 31) rfl rfl Try.func43 (by kernel_rfl) rfl #[.agg #[.int .i64 a0_0, .int .i64 ji9, .int .i64 a0_2]] rfl (by (try simp only [List.map_toArray, List.map_cons, List.map_nil]); first | done | (simp only [hji9]; rfl) | rfl | (simp only [List.length_drop, List.length_take]; rfl) | ((simp [Act.eval, wrap64]) <;> omega) | ((simp [Act.eval, wrap64, IntKind.wrap, IntKind.bits, IntKind.signed]) <;> omega)) ?_; (with_reducible refine (zaj.calls a0_0 ji9 a0_2 t107 t108 t109 _ A20.out).mono ?_); rintro e w27 ⟨rfl, hb⟩; refine ⟨_, rfl, ?_⟩; have n0_ := zA (zam (g := gb104) (o := .cells #[.int .i64 a0_0, .int .i64 ji9, .int .i64 a0_2] 48 (0, 0)) (zK BK104) hb); have n1_ := zA (zam (g := gb105) (o := .cells #[.int .i64 0, .int .i64 0, .int .i64 0] 48 (0, 0)) (zK BK105) hb); have n2_ := zA (zac (zB HB) hb); clear BK104 BK105 HB; have BK104 := n0_; have BK105 := n1_; have HB := n2_; clear n0_ n1_ n2_; (try clear hb); (try clear hb2); (try clear hk); (try clear hi); have hcz28_0 : w27.cell? ⟨gb105, 0, none⟩ = some (.int .i64 0) := (za BK105.out 0).trans rfl; have hcz28_1 : w27.cell? ⟨gb105, 1, none⟩ = some (.int .i64 0) := (za BK105.out 1).trans rfl; have hcz28_2 : w27.cell? ⟨gb105, 2, none⟩ = some (.int .i64 0) := (za BK105.out 2).trans rfl; have hfz28_0 := zaa BK105.out 0; have hfz28_1 := zaa BK105.out 1; have hfz28_2 := zaa BK105.out 2))
    refine bodyPost_ret (results_cell_row rfl _ _ gb105 48 #[.int .i64 t107, .int .i64 t108, .int .i64 t109] (0, 0) _ rfl (by (with_reducible repeat (first | refine zae ?_ _ | refine zah ?_ | refine zab ?_ _)); refine zal (cs := #[.int .i64 t107, .int .i64 t108, .int .i64 0]) ?_ 2 _ rfl; (with_reducible repeat (first | refine zae ?_ _ | refine zah ?_ | refine zab ?_ _)); refine zal (cs := #[.int .i64 t107, .int .i64 0, .int .i64 0]) ?_ 1 _ rfl; (with_reducible repeat (first | refine zae ?_ _ | refine zah ?_ | refine zab ?_ _)); refine zal (cs := #[.int .i64 0, .int .i64 0, .int .i64 0]) ?_ 0 _ rfl; (with_reducible repeat (first | refine zae ?_ _ | refine zah ?_ | refine zab ?_ _)); exact BK105.out) Try.underlying48 rfl (by kernel_rfl)) rfl ?_
    exact ⟨by first | rfl | (simp [zar, zan] <;> rfl) | (simp only [← hji9]; first | rfl | (simp [zar, zan] <;> rfl)) | (simp [*, zar, zan] <;> rfl), zB HB⟩
   ·
    rw [if_neg c19] at H
    have c19b0 : (a0_0 == a1) = false := beq_eq_false_iff_ne.mpr c19
    have c19b1 : (a0_0 != a1) = true := bne_iff_ne.mpr c19
    simp only [Option.some.injEq, Prod.mk.injEq] at H
    obtain ⟨rfl, rfl, rfl⟩ := H
    go_enter Try.func41, Try.ntmps41
    go_wp2_with (first | ((with_reducible refine zat (N := 2) rfl ?_); refine zaq ?hg (N := 2) ?hd (cs := #[.int .i64 a0_0, .int .i64 a0_1, .int .i64 a0_2]) (t := 48) ?hr ?_; (case hd => rfl); (case hg => rfl); (case hr => first | (go_simp; done) | (go_simp; rfl)); intro gb104 hg w29 hbox hb; have n0_ := zA (zac (zB HB) hb); have n1_ := zA (hbox); have n2_ := zA ((by rw [hg]; exact (zai (zB HB)) : w.heap.size ≤ gb104)); have n3_ := zA ((by rw [hg]; exact (zai (zB HB)) : w.heap.size ≤ gb104)); clear HB; have HB := n0_; have BK104 := n1_; have GW104 := n2_; have GE104 := n3_; clear n0_ n1_ n2_ n3_ hb hbox hg) | ((with_reducible refine zat (N := 4) rfl ?_); refine zaq ?hg (N := 4) ?hd (cs := #[.int .i64 0, .int .i64 0, .int .i64 0]) (t := 48) ?hr ?_; (case hd => rfl); (case hg => rfl); (case hr => first | (go_simp; done) | (go_simp; rfl)); intro gb105 hg w30 hbox hb; have n0_ := zA (zam (g := gb104) (o := .cells #[.int .i64 a0_0, .int .i64 a0_1, .int .i64 a0_2] 48 (0, 0)) (zK BK104) hb); have n1_ := zA (zac (zB HB) hb); have n2_ := zA (hbox); have n3_ := zA ((by rw [hg]; exact (zai (zB HB)) : w.heap.size ≤ gb105)); have n4_ := zA ((by rw [hg]; exact (zai (zB HB)) : w.heap.size ≤ gb105)); have n5_ := zA ((by rw [hg]; exact Nat.ne_of_lt (zak (g := gb104) (o := .cells #[.int .i64 a0_0, .int .i64 a0_1, .int .i64 a0_2] 48 (0, 0)) (zK BK104)) : gb104 ≠ gb105)); have n6_ := zA ((by rw [hg]; exact Nat.ne_of_gt (zak (g := gb104) (o := .cells #[.int .i64 a0_0, .int .i64 a0_1, .int .i64 a0_2] 48 (0, 0)) (zK BK104)) : gb105 ≠ gb104)); clear BK104 HB; have BK104 := n0_; have HB := n1_; have BK105 := n2_; have GW105 := n3_; have GE105 := n4_; have NB104_105 := n5_; have NB105_104 := n6_; clear n0_ n1_ n2_ n3_ n4_ n5_ n6_ hb hbox hg; have hnb31 := NB104_105.out; have hnc31 := NB105_104.out; have hcz32_0 : w30.cell? ⟨gb104, 0, none⟩ = some (.int .i64 a0_0) := (za BK104.out 0).trans rfl; have hcz32_1 : w30.cell? ⟨gb104, 1, none⟩ = some (.int .i64 a0_1) := (za BK104.out 1).trans rfl; have hcz32_2 : w30.cell? ⟨gb104, 2, none⟩ = some (.int .i64 a0_2) := (za BK104.out 2).trans rfl; have hfz32_0 := zaa BK104.out 0; have hfz32_1 := zaa BK104.out 1; have hfz32_2 := zaa BK104.out 2) | ((with_reducible refine gate_callee (f := 42) rfl ?_); refine goesL_ (some 22) rfl rfl Try.func42 (by kernel_rfl) rfl #[.agg #[.int .i64 a0_0, .int .i64 ji9, .int .i64 a0_2]] rfl (by (try simp only [List.map_toArray, List.map_cons, List.map_nil]); first | done | (simp only [hji9]; rfl) | rfl | (simp only [List.length_drop, List.length_take]; rfl) | ((simp [Act.eval, wrap64]) <;> omega) | ((simp [Act.eval, wrap64, IntKind.wrap, IntKind.bits, IntKind.signed]) <;> omega)) ?_; (with_reducible refine (zad.calls a0_0 ji9 a0_2 false _ A10.out).mono ?_); rintro e w33 ⟨rfl, hb⟩; refine ⟨_, rfl, ?_⟩; have n0_ := zA (zam (g := gb104) (o := .cells #[.int .i64 a0_0, .int .i64 ji9, .int .i64 a0_2] 48 (0, 0)) (by (with_reducible repeat (first | refine zae ?_ _ | refine zah ?_ | refine zab ?_ _)); refine zal (cs := #[.int .i64 a0_0, .int .i64 a0_1, .int .i64 a0_2]) ?_ 1 _ rfl; (with_reducible repeat (first | refine zae ?_ _ | refine zah ?_ | refine zab ?_ _)); exact BK104.out) hb); have n1_ := zA (zam (g := gb105) (o := .cells #[.int .i64 0, .int .i64 0, .int .i64 0] 48 (0, 0)) (by (with_reducible repeat (first | refine zae ?_ _ | refine zah ?_ | refine zab ?_ _)); refine blk_far ?_ NB105_104.out _; (with_reducible repeat (first | refine zae ?_ _ | refine zah ?_ | refine zab ?_ _)); exact BK105.out) hb); have n2_ := zA (zac (zB HB) hb); clear BK104 BK105 HB; have BK104 := n0_; have BK105 := n1_; have HB := n2_; clear n0_ n1_ n2_; (try clear hb); (try clear hb2); (try clear hk); (try clear hi); have hcz34_0 : w33.cell? ⟨gb104, 0, none⟩ = some (.int .i64 a0_0) := (za BK104.out 0).trans rfl; have hcz34_1 : w33.cell? ⟨gb104, 1, none⟩ = some (.int .i64 ji9) := (za BK104.out 1).trans rfl; have hcz34_2 : w33.cell? ⟨gb104, 2, none⟩ = some (.int .i64 a0_2) := (za BK104.out 2).trans rfl; have hfz34_0 := zaa BK104.out 0; have hfz34_1 := zaa BK104.out 1; have hfz34_2 := zaa BK104.out 2; have hcz35_0 : w33.cell? ⟨gb105, 0, none⟩ = some (.int .i64 0) := (za BK105.out 0).trans rfl; have hcz35_1 : w33.cell? ⟨gb105, 1, none⟩ = some (.int .i64 0) := (za BK105.out 1).trans rfl; have hcz35_2 : w33.cell? ⟨gb105, 2, none⟩ = some (.int .i64 0) := (za BK105.out 2).trans rfl; have hfz35_0 := zaa BK105.out 0; have hfz35_1 := zaa BK105.out 1; have hfz35_2 := zaa BK105.out 2))
    refine bodyPost_ret (results_cell_row rfl _ _ gb105 48 #[.int .i64 a0_0, .int .i64 ji9, .int .i64 a0_2] (0, 0) _ rfl (by (with_reducible repeat (first | refine zae ?_ _ | refine zah ?_ | refine zab ?_ _)); refine zal (cs := #[.int .i64 a0_0, .int .i64 ji9, .int .i64 0]) ?_ 2 _ rfl; (with_reducible repeat (first | refine zae ?_ _ | refine zah ?_ | refine zab ?_ _)); refine zal (cs := #[.int .i64 a0_0, .int .i64 0, .int .i64 0]) ?_ 1 _ rfl; (with_reducible repeat (first | refine zae ?_ _ | refine zah ?_ | refine zab ?_ _)); refine zal (cs := #[.int .i64 0, .int .i64 0, .int .i64 0]) ?_ 0 _ rfl; (with_reducible repeat (first | refine zae ?_ _ | refine zah ?_ | refine zab ?_ _)); exact BK105.out) Try.underlying48 rfl (by kernel_rfl)) rfl ?_
    exact ⟨by first | rfl | (simp [zar, zan] <;> rfl) | (simp only [← hji9]; first | rfl | (simp [zar, zan] <;> rfl)) | (simp [*, zar, zan] <;> rfl), zB HB⟩
end Go.Proofs.Ytbakdobjidjncaa.P
end
section
namespace Go.Proofs.Ytbakdobjidjncaa.P
open Go.RowKit Go.Proofs.YtbakdobjidjncaaW.PrintWords Go.Proofs.YtbakdobjidjncaaW.PrintLast Go.Proofs.YtbakdobjidjncaaW.PrintMore
attribute [local go_sem] max2_int min2_int max_two min_two max_three min_three max_four min_four
def Ev {α : Type} (F : Nat → Option α) (r : α) : Prop := ∃ K, ∀ k, K ≤ k → F k = some r
theorem Ev.congr {α : Type} {F G : Nat → Option α} {r : α} (h : ∀ k, F k = G k) (hg : Ev G r) : Ev F r := by
 obtain ⟨K, hK⟩ := hg
 exact ⟨K, fun k hk => (h k).trans (hK k hk)⟩
theorem Ev.step {α : Type} {F G : Nat → Option α} {r : α} (h : ∀ k, F (k + 1) = G k) (hg : Ev G r) : Ev F r := by
 obtain ⟨K, hK⟩ := hg
 refine ⟨K + 1, fun k hk => ?_⟩
 obtain ⟨m, rfl⟩ : ∃ m, k = m + 1 := ⟨k - 1, by omega⟩
 exact (h m).trans (hK m (by omega))
theorem Ev.bind {α β : Type} {F : Nat → Option α} {G : Nat → α → Option β} {x : α} {r : β} (hf : Ev F x) (hg : Ev (fun k => G k x) r) : Ev (fun k => (F k).bind (G k)) r := by
 obtain ⟨K, hK⟩ := hf
 obtain ⟨L, hL⟩ := hg
 refine ⟨K + L, fun k hk => ?_⟩
 show (F k).bind (G k) = some r
 rw [hK k (by omega)]
 exact hL k (by omega)
theorem w64s {x : Int} (h0 : -9223372036854775808 ≤ x) (h1 : x < 9223372036854775808) : wrap64 x = x := by unfold wrap64; omega
def val (B : Nat) : List Int → Nat
 | [] => 0
 | x :: xs => x.toNat + B * val B xs
def Dig (B : Nat) (l : List Int) : Prop := ∀ x ∈ l, 0 ≤ x ∧ x < (B : Int)
theorem Dig.cons {B : Nat} {x : Int} {l : List Int} (h : Dig B (x :: l)) : (0 ≤ x ∧ x < (B : Int)) ∧ Dig B l := ⟨h x (by simp), fun y hy => h y (by simp [hy])⟩
theorem Dig.mk {B : Nat} {x : Int} {l : List Int} (h0 : 0 ≤ x) (h1 : x < (B : Int)) (h : Dig B l) : Dig B (x :: l) := by
 intro y hy
 rcases List.mem_cons.1 hy with rfl | hy
 ·
  exact ⟨h0, h1⟩
 ·
  exact h y hy
theorem Dig.nil (B : Nat) : Dig B [] := by intro x hx; cases hx
def TabAt (w : World) (b s : Nat) (l : List Int) (last : Int) : Prop :=
 b ≠ s ∧ w.heap[b]? = some (.cells #[.slice (some ⟨s, 0, none⟩) l.length l.length, .int .i64 last] 95 (0, 0)) ∧ w.heap[s]? = some (.cells (l.map (Value.int .i64)).toArray 3 (0, 0)) ∧ l.length ≤ 64
theorem made_map (m : Nat) : madeCells #[.int .i64 0] m = ((List.replicate m (0 : Int)).map (Value.int .i64)).toArray := by
 apply Array.ext
 ·
  simp [size_madeCells]
 ·
  intro i h1 h2
  simp [madeCells, Nat.mod_one]
theorem TabAt.below {w w' : World} {b s n : Nat} {l : List Int} {last : Int} (h : TabAt w b s l last) (hb : Below n w w') (h1 : b < n) (h2 : s < n) : TabAt w' b s l last :=
 ⟨h.1, (hb.block b h1).trans h.2.1, (hb.block s h2).trans h.2.2.1, h.2.2.2⟩
theorem TabAt.lt {w : World} {b s : Nat} {l : List Int} {last : Int} (h : TabAt w b s l last) : b < w.heap.size ∧ s < w.heap.size := ⟨zak h.2.1, zak h.2.2.1⟩
theorem TabAt.keep {w w' : World} {b s : Nat} {l : List Int} {last : Int} (h : TabAt w b s l last) (hb : Below w.heap.size w w') : TabAt w' b s l last := h.below hb h.lt.1 h.lt.2
theorem TabAt.set {w : World} {b s : Nat} {l : List Int} {last : Int} (h : TabAt w b s l last) (i : Nat) (x : Int) : TabAt (w.setCell ⟨s, i, none⟩ (.int .i64 x)) b s (l.set i x) last := by
 refine ⟨h.1, ?_, ?_, by rw [List.length_set]; exact h.2.2.2⟩
 ·
  rw [Below.heap_setCell _ _ _ _ h.1, h.2.1, List.length_set]
 ·
  rw [blk_set h.2.2.1]
  simp [List.map_set]
theorem TabAt.facts {w : World} {b s : Nat} {l : List Int} {last : Int} (h : TabAt w b s l last) :
  w.cell? ⟨b, 0, none⟩ = some (.slice (some ⟨s, 0, none⟩) l.length l.length) ∧ w.cell? ⟨b, 1, none⟩ = some (.int .i64 last) ∧ w.frozen? ⟨b, 1, none⟩ = false ∧ ∀ i : Nat, w.frozen? ⟨s, i, none⟩ = false :=
 ⟨(za h.2.1 0).trans rfl, (za h.2.1 1).trans rfl, zaa h.2.1 1, fun i => zaa h.2.2.1 i⟩
theorem TabAt.drew {w : World} {b s : Nat} {l : List Int} {last : Int} (h : TabAt w b s l last) : TabAt w.drew b s l last := h
def RowC (w : World) (g : Nat) (l : List Int) : Prop := g < w.heap.size ∧ ∀ i, i < l.length → w.cell? ⟨g, i, none⟩ = some (.int .i64 (l.getD i 0)) ∧ w.frozen? ⟨g, i, none⟩ = false
def z0 : List Int → Nat → Int
 | [], _ => -1
 | x :: xs, i => if x = 0 then (i : Int) else z0 xs (i + 1)
theorem RowC.set {w : World} {g : Nat} {l : List Int} (h : RowC w g l) (i : Nat) (x : Int) (hi : i < l.length) : RowC (w.setCell ⟨g, i, none⟩ (.int .i64 x)) g (l.set i x) := by
 refine ⟨by simpa using h.1, fun j hj => ?_⟩
 rw [List.length_set] at hj
 obtain ⟨h1, h2⟩ := h.2 j hj
 rw [World.frozen?_setCell]
 refine ⟨?_, h2⟩
 by_cases e : i = j
 ·
  subst e
  rw [World.cell?_setCell_same' _ _ _ (by rw [h1]; rfl)]
  simp [hj]
 ·
  rw [World.cell?_setCell_other _ _ _ _ (fun h => e (by injection h)), h1]
  simp [e]
section
open Go.Sort
theorem below_grew {B : Nat} {w0 w : World} (h : Below B w0 w) (hB : B ≤ w.heap.size) (os : Array Obj) : Below B w0 (grow w os) :=
 ⟨h.os, h.tape, h.output, by rw [size_grow]; have := h.size; omega, fun k hk => by rw [heap_grow_old w os (by omega)]; exact h.block k hk⟩
theorem RowC.holds {w : World} {g : Nat} {l : List Int} (h : RowC w g l) : Holds (Value.int .i64) w g 0 l.toArray := by
 intro j hj
 have hj' : j < l.length := by simpa using hj
 obtain ⟨h1, h2⟩ := h.2 j hj'
 rw [Nat.zero_add]
 refine ⟨?_, h2⟩
 rw [h1]
 simp [hj']
theorem RowC.of_holds {w : World} {g : Nat} {l : List Int} (hg : g < w.heap.size) (h : Holds (Value.int .i64) w g 0 l.toArray) : RowC w g l := by
 refine ⟨hg, fun i hi => ?_⟩
 obtain ⟨h1, h2⟩ := h i (by simpa using hi)
 rw [Nat.zero_add] at h1 h2
 refine ⟨?_, h2⟩
 rw [h1]
 simp [hi]
end
end Go.Proofs.Ytbakdobjidjncaa.P
end
section
namespace Go.Proofs.Ytbakdobjidjncaa.P
open Go.RowKit Go.Proofs.YtbakdobjidjncaaW.PrintWords Go.Proofs.YtbakdobjidjncaaW.PrintLast Go.Proofs.YtbakdobjidjncaaW.PrintMore
attribute [local go_sem] max2_int min2_int max_two min_two max_three min_three max_four min_four
theorem getD_set (l : List Int) (k : Nat) (x : Int) (j : Nat) (hk : k < l.length) : (l.set k x).getD j 0 = if j = k then x else l.getD j 0 := by
 by_cases e : j = k
 ·
  subst e
  rw [if_pos rfl]
  simp [hk]
 ·
  rw [if_neg e]
  simp [show ¬ k = j from fun h => e h.symm]
def Inv (l : List Int) (last : Int) : Prop :=
 0 ≤ last ∧ (∀ j, j < l.length → 0 ≤ l.getD j 0 ∧ l.getD j 0 ≤ last) ∧ ∀ i j, i < l.length → j < l.length → l.getD i 0 ≠ 0 → l.getD i 0 = l.getD j 0 → i = j
theorem Inv.add {l : List Int} {last : Int} (h : Inv l last) {i : Nat} (hi : i < l.length) : Inv (l.set i (last + 1)) (last + 1) := by
 obtain ⟨h0, h1, h2⟩ := h
 refine ⟨by omega, fun j hj => ?_, fun p q hp hq hz he => ?_⟩
 ·
  rw [List.length_set] at hj
  rw [getD_set _ _ _ _ hi]
  have := h1 j hj
  by_cases e : j = i
  ·
   rw [if_pos e]
   omega
  ·
   rw [if_neg e]
   omega
 ·
  rw [List.length_set] at hp hq
  rw [getD_set _ _ _ _ hi] at hz he
  rw [getD_set _ _ _ _ hi] at he
  have b1 := h1 p hp
  have b2 := h1 q hq
  by_cases e : p = i
  ·
   rw [if_pos e] at he
   by_cases e2 : q = i
   ·
    omega
   ·
    rw [if_neg e2] at he
    omega
  ·
   rw [if_neg e] at he hz
   by_cases e2 : q = i
   ·
    rw [if_pos e2] at he
    omega
   ·
    rw [if_neg e2] at he
    exact h2 p q hp hq hz he
theorem Inv.drop {l : List Int} {last : Int} (h : Inv l last) {i : Nat} (hi : i < l.length) : Inv (l.set i 0) last := by
 obtain ⟨h0, h1, h2⟩ := h
 refine ⟨h0, fun j hj => ?_, fun p q hp hq hz he => ?_⟩
 ·
  rw [List.length_set] at hj
  rw [getD_set _ _ _ _ hi]
  have := h1 j hj
  by_cases e : j = i
  ·
   rw [if_pos e]
   omega
  ·
   rw [if_neg e]
   omega
 ·
  rw [List.length_set] at hp hq
  rw [getD_set _ _ _ _ hi] at hz he
  rw [getD_set _ _ _ _ hi] at he
  by_cases e : p = i
  ·
   rw [if_pos e] at hz
   omega
  ·
   rw [if_neg e] at he hz
   by_cases e2 : q = i
   ·
    rw [if_pos e2] at he
    omega
   ·
    rw [if_neg e2] at he
    exact h2 p q hp hq hz he
def cnt (l : List Int) (i : Nat) : Nat := ((l.take i).filter fun x => !(x == 0)).length
noncomputable def mkR {α : Type} (mk : α → Value) (v : Value) : Option (DataW α × List MemPlace) :=
 open Classical in if h : ∃ a, mk a = v then some (.held h.choose, []) else none
theorem mkR_mk {α : Type} {mk : α → Value} (hi : ∀ a b, mk a = mk b → a = b) (a : α) : mkR mk (mk a) = some (.held a, []) := by
 have h : ∃ b, mk b = mk a := ⟨a, rfl⟩
 unfold mkR
 rw [dif_pos h, hi _ _ h.choose_spec]
theorem mkR_inv {α : Type} {mk : α → Value} {v : Value} {y : DataW α × List MemPlace} (h : mkR mk v = some y) : ∃ a, v = mk a ∧ y = (.held a, []) := by
 unfold mkR at h
 split at h
 ·
  rename_i hx
  cases h
  exact ⟨_, hx.choose_spec.symm, rfl⟩
 ·
  cases h
def HoldsM {α : Type} (D : DataW α) (g : Int → Option α) : Prop :=
 ∀ k, (g k = none → Maps.has D (.int .i64 k) = false) ∧ ∀ a, g k = some a → ∀ z, D.atKey (.int .i64 k) z = .held a
theorem HoldsM.has {α : Type} {D : DataW α} {g : Int → Option α} (h : HoldsM D g) (k : Int) : Maps.has D (.int .i64 k) = (g k).isSome := by
 cases hg : g k with
 | none => exact (h k).1 hg
 | some a => exact Maps.has_true_of_atKey ((h k).2 a hg)
def MapAt {α : Type} (P : Program) (kt : TypeId) (mk : α → Value) (w : World) (b n : Nat) (g : Int → Option α) : Prop :=
 ∃ D : DataW α, w.ownsMap P kt (mkR mk) b n D ∧ HoldsM D g
section
variable {α : Type} {P : Program} {kt : TypeId} {mk : α → Value} {w : World} {b n : Nat} {g : Int → Option α}
theorem MapAt.lt (h : MapAt P kt mk w b n g) : b < w.heap.size := by
 obtain ⟨D, h, _⟩ := h
 exact h.lt
theorem MapAt.kept {w' : World} {row : Option Nat} (h : MapAt P kt mk w b n g) (hg : w.grownBy w' row) (hne : some b ≠ row) : MapAt P kt mk w' b n g := by
 obtain ⟨D, h, hd⟩ := h
 exact ⟨D, h.kept hg hne, hd⟩
theorem MapAt.below {w' : World} {m : Nat} (h : MapAt P kt mk w b n g) (hb : Below m w w') (hm : b < m) : MapAt P kt mk w' b n g := by
 obtain ⟨D, ⟨es, clock, h1, h2⟩, hd⟩ := h
 exact ⟨D, ⟨es, clock, (hb.block b hm).trans h1, h2⟩, hd⟩
theorem MapAt.keep {w' : World} (h : MapAt P kt mk w b n g) (hb : Below w.heap.size w w') : MapAt P kt mk w' b n g := h.below hb h.lt
theorem MapAt.mono {n' : Nat} (h : MapAt P kt mk w b n g) (hn : n ≤ n') : MapAt P kt mk w b n' g := by
 obtain ⟨D, h, hd⟩ := h
 exact ⟨D, h.mono hn, hd⟩
theorem MapAt.set {a : Addr} (h : MapAt P kt mk w b n g) (ha : b ≠ a.block) (u : Value) : MapAt P kt mk (w.setCell a u) b n g := by
 obtain ⟨D, h, hd⟩ := h
 exact ⟨D, h.setCell ha u, hd⟩
theorem MapAt.ext {g' : Int → Option α} (h : MapAt P kt mk w b n g) (e : ∀ k, g' k = g k) : MapAt P kt mk w b n g' := by
 rw [show g' = g from funext e]
 exact h
theorem MapAt.made (P : Program) (kt : TypeId) (mk : α → Value) (w : World) : MapAt P kt mk (w.alloc (.map #[] 0)) w.heap.size 0 (fun _ => none) :=
 ⟨_, World.ownsMap_made w P kt (mkR mk), fun k => ⟨fun _ => rfl, fun a h => by cases h⟩⟩
theorem mapTurned_below {w' : World} (h : w.mapTurned w' b) {m : Nat} (hm : m ≤ b) : Below m w w' := by
 have hg := h.grown
 obtain ⟨es, clock, es', clock', hb, rfl⟩ := h
 have := zak hb
 exact (Below.refl m w).grown hg (by omega) (fun k e => by cases e; exact hm)
theorem MapAt.look {t e : TypeId} {z : Value} {k : Int} (h : MapAt P kt mk w b n g) (hk : P.underlying kt = some (.int .i64)) (ht : P.underlying t = some (.map kt e)) (hz : (zeroValue e).run P w = .ok z w) (wf : (Lit.int .i64 k).wf = true) :
  (∀ a, g k = some a → (Instr.lookup t (.map (some b)) (.int .i64 k) false).run P w = .ok (mk a) w) ∧ (g k = none → (Instr.lookup t (.map (some b)) (.int .i64 k) false).run P w = .ok z w) := by
 obtain ⟨D, ⟨es, clock, hb, F, _, rfl⟩, hd⟩ := h
 rcases Maps.fit_look false (Maps.int_keyed hk) ht hz hb F (Maps.keyOf_int_mk hk wf) with ⟨hrun, _, hat⟩ | ⟨e0, y, _, _, hrun, hRv, hat, _⟩
 ·
  refine ⟨fun a ha => ?_, fun _ => hrun⟩
  have h1 := hd.has k
  rw [Maps.has_false_of_atKey hat, ha] at h1
  cases h1
 ·
  refine ⟨fun a ha => ?_, fun hn => ?_⟩
  ·
   obtain ⟨a', e1, e2⟩ := mkR_inv hRv
   have h2 := (hd k).2 a ha .nil
   rw [hat .nil, e2] at h2
   cases h2
   rw [e1] at hrun
   exact hrun
  ·
   have h1 := hd.has k
   rw [Maps.has_true_of_atKey hat, hn] at h1
   cases h1
theorem MapAt.look2 {t e : TypeId} {z : Value} {k : Int} (h : MapAt P kt mk w b n g) (hk : P.underlying kt = some (.int .i64)) (ht : P.underlying t = some (.map kt e)) (hz : (zeroValue e).run P w = .ok z w) (wf : (Lit.int .i64 k).wf = true) :
  (∀ a, g k = some a → (Instr.lookup t (.map (some b)) (.int .i64 k) true).run P w = .ok (.tuple #[mk a, .bool true]) w) ∧ (g k = none → (Instr.lookup t (.map (some b)) (.int .i64 k) true).run P w = .ok (.tuple #[z, .bool false]) w) := by
 obtain ⟨D, ⟨es, clock, hb, F, _, rfl⟩, hd⟩ := h
 rcases Maps.fit_look true (Maps.int_keyed hk) ht hz hb F (Maps.keyOf_int_mk hk wf) with ⟨hrun, _, hat⟩ | ⟨e0, y, _, _, hrun, hRv, hat, _⟩
 ·
  refine ⟨fun a ha => ?_, fun _ => hrun⟩
  have h1 := hd.has k
  rw [Maps.has_false_of_atKey hat, ha] at h1
  cases h1
 ·
  refine ⟨fun a ha => ?_, fun hn => ?_⟩
  ·
   obtain ⟨a', e1, e2⟩ := mkR_inv hRv
   have h2 := (hd k).2 a ha .nil
   rw [hat .nil, e2] at h2
   cases h2
   rw [e1] at hrun
   exact hrun
  ·
   have h1 := hd.has k
   rw [Maps.has_true_of_atKey hat, hn] at h1
   cases h1
theorem HoldsM.put {D : DataW α} (h : HoldsM D g) (hD : Maps.IsMap D) (k : Int) (a : α) : HoldsM (D.put (.int .i64 k) (.held a)) (fun j => if j = k then some a else g j) := by
 intro j
 by_cases e : j = k
 ·
  subst e
  refine ⟨fun hn => ?_, fun a' ha z => ?_⟩
  ·
   dsimp only at hn
   rw [if_pos rfl] at hn
   cases hn
  ·
   dsimp only at ha
   rw [if_pos rfl] at ha
   cases ha
   exact Maps.atKey_put_same hD (show WideAt.IsKeyLit (.int .i64 j) from trivial) _ _
 ·
  have hne : (Lit.int .i64 j) ≠ .int .i64 k := fun e1 => e (by cases e1; rfl)
  refine ⟨fun hn => ?_, fun a' ha z => ?_⟩
  ·
   dsimp only at hn
   rw [if_neg e] at hn
   rw [Maps.has_put_other hne]
   exact (h j).1 hn
  ·
   dsimp only at ha
   rw [if_neg e] at ha
   rw [Maps.atKey_put_other hne]
   exact (h j).2 a' ha z
theorem HoldsM.del {D : DataW α} (h : HoldsM D g) (k : Int) : HoldsM (D.del (.int .i64 k)) (fun j => if j = k then none else g j) := by
 intro j
 by_cases e : j = k
 ·
  subst e
  refine ⟨fun _ => Maps.has_del_same, fun a' ha z => ?_⟩
  dsimp only at ha
  rw [if_pos rfl] at ha
  cases ha
 ·
  have hne : (Lit.int .i64 j) ≠ .int .i64 k := fun e1 => e (by cases e1; rfl)
  refine ⟨fun hn => ?_, fun a' ha z => ?_⟩
  ·
   dsimp only at hn
   rw [if_neg e] at hn
   rw [Maps.has_del_other hne]
   exact (h j).1 hn
  ·
   dsimp only at ha
   rw [if_neg e] at ha
   rw [Maps.atKey_del_other hne]
   exact (h j).2 a' ha z
theorem MapAt.store {t e : TypeId} (h : MapAt P kt mk w b n g) (hi : ∀ a b, mk a = mk b → a = b) (hk : P.underlying kt = some (.int .i64)) (ht : P.underlying t = some (.map kt e)) (hn : n < maxLen) {k : Int} (wf : (Lit.int .i64 k).wf = true) (a : α) :
  ∃ w', (Instr.mapUpdate t (.map (some b)) (.int .i64 k) (mk a)).run P w = .ok () w' ∧ MapAt P kt mk w' b (n + 1) (fun j => if j = k then some a else g j) ∧ w.mapTurned w' b := by
 obtain ⟨D, h, hd⟩ := h
 obtain ⟨w', hrun, ho, ht'⟩ := h.store (Maps.int_keyed hk) ht hn (Maps.keyOf_int_mk hk wf) (mkR_mk hi a)
 exact ⟨w', hrun, ⟨_, ho, hd.put h.isMap k a⟩, ht'⟩
theorem MapAt.drop {t e : TypeId} (h : MapAt P kt mk w b n g) (hk : P.underlying kt = some (.int .i64)) (ht : P.underlying t = some (.map kt e)) {k : Int} (wf : (Lit.int .i64 k).wf = true) (ty : TypeId) :
  ∃ w', (Builtin.delete_ #[t, kt] ty #[.map (some b), .int .i64 k]).run P w = .ok (.tuple #[]) w' ∧ MapAt P kt mk w' b n (fun j => if j = k then none else g j) ∧ w.mapTurned w' b := by
 obtain ⟨D, h, hd⟩ := h
 obtain ⟨w', hrun, ho, ht'⟩ := h.drop (Maps.int_keyed hk) ht (Maps.keyOf_int_mk hk wf) ty
 exact ⟨w', hrun, ⟨_, ho, hd.del k⟩, ht'⟩
theorem MapAt.len {t e : TypeId} (h : MapAt P kt mk w b n g) (ht : P.underlying t = some (.map kt e)) (hk : P.underlying kt = some (.int .i64)) : ∃ m : Nat, m ≤ n ∧ (m = 0 ↔ ∀ k, g k = none) ∧ ∀ ty, (Builtin.len_ #[t] ty #[.map (some b)]).run P w = .ok (.int .i64 m) w := by
 obtain ⟨D, h, hd⟩ := h
 refine ⟨Maps.size D, h.size_le, ⟨fun e0 k => ?_, fun hn => ?_⟩, fun ty => h.len ht ty⟩
 ·
  obtain ⟨es, rfl⟩ := h.isMap
  have h1 := hd.has k
  rw [Maps.size_eq] at e0
  rw [List.length_eq_zero_iff.1 e0] at h1
  cases hg : g k with
  | none => rfl
  | some a =>
   rw [hg] at h1
   cases h1
 ·
  obtain ⟨es, e1, _, hp⟩ := h.entries (Maps.int_keyed hk)
  subst e1
  cases es with
  | nil => rfl
  | cons p r =>
   obtain ⟨es', clock, hb, F, hs, hD⟩ := h
   have h1 : p ∈ (es'.toList.map (WideElems.rg P kt (mkR mk))).foldr DataW.insert [] := by
    have : DataW.map (p :: r) = DataW.map ((es'.toList.map (WideElems.rg P kt (mkR mk))).foldr DataW.insert []) := hD
    injection this with this
    rw [← this]
    exact List.mem_cons_self
   obtain ⟨x, hx, rfl⟩ := List.mem_map.1 (mem_sorted.1 h1)
   obtain ⟨y, hy⟩ := F.reads x hx
   obtain ⟨k, _, e2, _⟩ := Maps.keyOf_int_inv hk (WideElems.rd_key hy)
   have h2 := hd.has k
   rw [hn k, Maps.has_eq, WideElems.rg_of hy] at h2
   rw [← e2] at h2
   simp [WideAt.sameKey_self (show WideAt.IsKeyLit y.1 by rw [e2]; trivial)] at h2
end
def RangeAt {α : Type} (P : Program) (kt : TypeId) (mk : α → Value) (w : World) (b r n : Nat) (g : Int → Option α) (left : Int → Bool) (cnt : Nat) : Prop :=
 ∃ (D : DataW α) (l : Lit → Bool), w.ranges P kt (mkR mk) b r n D l cnt ∧ HoldsM D g ∧ ∀ k, l (.int .i64 k) = left k
section
variable {α : Type} {P : Program} {kt : TypeId} {mk : α → Value} {w : World} {b r n cnt : Nat} {g : Int → Option α} {left : Int → Bool}
theorem RangeAt.owns (h : RangeAt P kt mk w b r n g left cnt) : MapAt P kt mk w b n g := by
 obtain ⟨D, l, h, hd, _⟩ := h
 exact ⟨D, h.owns, hd⟩
theorem RangeAt.lt (h : RangeAt P kt mk w b r n g left cnt) : r < w.heap.size := by
 obtain ⟨D, l, h, hd, _⟩ := h
 exact h.lt
theorem RangeAt.ne (h : RangeAt P kt mk w b r n g left cnt) : r ≠ b := by
 obtain ⟨D, l, h, hd, _⟩ := h
 exact h.ne
theorem RangeAt.below {w' : World} {m : Nat} (h : RangeAt P kt mk w b r n g left cnt) (hb : Below m w w') (h1 : b < m) (h2 : r < m) : RangeAt P kt mk w' b r n g left cnt := by
 obtain ⟨D, l, ⟨es, clock, since, seen, c0, e1, F, hs, hD, e2, rest⟩, hd⟩ := h
 exact ⟨D, l, ⟨es, clock, since, seen, c0, (hb.block b h1).trans e1, F, hs, hD, (hb.block r h2).trans e2, rest⟩, hd⟩
theorem RangeAt.keep {w' : World} (h : RangeAt P kt mk w b r n g left cnt) (hb : Below w.heap.size w w') : RangeAt P kt mk w' b r n g left cnt := h.below hb h.owns.lt h.lt
theorem RangeAt.set {a : Addr} (h : RangeAt P kt mk w b r n g left cnt) (h1 : b ≠ a.block) (h2 : r ≠ a.block) (u : Value) : RangeAt P kt mk (w.setCell a u) b r n g left cnt := by
 obtain ⟨D, l, ⟨es, clock, since, seen, c0, e1, F, hs, hD, e2, rest⟩, hd⟩ := h
 exact ⟨D, l, ⟨es, clock, since, seen, c0, by rw [Below.heap_setCell _ _ _ _ h1]; exact e1, F, hs, hD, by rw [Below.heap_setCell _ _ _ _ h2]; exact e2, rest⟩, hd⟩
theorem MapAt.range {t e : TypeId} (h : MapAt P kt mk w b n g) (hk : P.underlying kt = some (.int .i64)) (ht : P.underlying t = some (.map kt e)) :
  ∃ w' cnt, (Instr.range t (.map (some b))).run P w = .ok (.pointer (some ⟨w.heap.size, 0, none⟩)) w' ∧ RangeAt P kt mk w' b w.heap.size n g (fun k => (g k).isSome) cnt ∧ Below w.heap.size w w' ∧ cnt ≤ n := by
 obtain ⟨D, h, hd⟩ := h
 obtain ⟨w', hrun, hr, hg, _⟩ := h.range (Maps.int_keyed hk) ht
 exact ⟨w', _, hrun, ⟨D, _, hr, hd, fun k => hd.has k⟩, (Below.refl _ _).grown hg (Nat.le_refl _) (fun k e => by cases e), h.size_le⟩
theorem RangeAt.next (h : RangeAt P kt mk w b r n g left cnt) (hk : P.underlying kt = some (.int .i64)) (ty : TypeId) :
  (cnt = 0 ∧ (∀ k, left k = false) ∧ (Instr.next (.pointer (some ⟨r, 0, none⟩)) false ty).run P w = .ok (.tuple #[.bool false]) w) ∨
  ∃ k a w' cnt', (Lit.int .i64 k).wf = true ∧ left k = true ∧ g k = some a ∧ (Instr.next (.pointer (some ⟨r, 0, none⟩)) false ty).run P w = .ok (.tuple #[.bool true, .int .i64 k, mk a]) w' ∧
   RangeAt P kt mk w' b r n g (fun j => left j && !(j == k)) cnt' ∧ cnt' < cnt ∧ (∀ m, m ≤ r → Below m w w') ∧ (Instr.entry (.pointer (some ⟨r, 0, none⟩))).run P w' = .ok (.tuple #[.int .i64 k, mk a]) w' ∧ w.grownBy w' (some r) := by
 obtain ⟨D, l, h, hd, hl⟩ := h
 have hrl := h.lt
 rcases h.next (Maps.int_keyed hk) ty with ⟨h0, h1, hrun⟩ | ⟨key, v, kl, y, w', cnt', hkey, hlk, hv, hat, hrun, hrg, hlt, hgr, hsz, hen⟩
 ·
  exact .inl ⟨h0, fun k => by rw [← hl k]; exact h1 _, hrun⟩
 ·
  obtain ⟨k, rfl, rfl, wf⟩ := Maps.keyOf_int_inv hk hkey
  obtain ⟨a, rfl, rfl⟩ := mkR_inv hv
  refine .inr ⟨k, a, w', cnt', wf, by rw [← hl k]; exact hlk, ?_, hrun, ⟨D, _, hrg, hd, fun j => ?_⟩, hlt, fun m hm => (Below.refl m w).grown hgr (by omega) (fun k e => by cases e; exact hm), hen, hgr⟩
  ·
   cases hg : g k with
   | none =>
    have h1 := (hd k).1 hg
    rw [Maps.has_true_of_atKey hat] at h1
    cases h1
   | some a' =>
    have h1 := (hd k).2 a' hg .nil
    rw [hat .nil] at h1
    injection h1 with h1
    rw [h1]
  ·
   show (l (.int .i64 j) && !(Lit.int .i64 j).sameKey (.int .i64 k)) = _
   rw [hl j]
   have : (Lit.int .i64 j).sameKey (.int .i64 k) = (j == k) := by
    by_cases e : j = k
    ·
     subst e
     rw [WideAt.sameKey_self (show WideAt.IsKeyLit (.int .i64 j) from trivial)]
     simp
    ·
     rw [Maps.sameKey_ne (fun e1 => e (by cases e1; rfl))]
     simp [e]
   rw [this]
theorem RangeAt.store {t e : TypeId} (h : RangeAt P kt mk w b r n g left cnt) (hi : ∀ a b, mk a = mk b → a = b) (hk : P.underlying kt = some (.int .i64)) (ht : P.underlying t = some (.map kt e)) {k : Int} (wf : (Lit.int .i64 k).wf = true) (a : α) (hin : (g k).isSome = true) :
  ∃ w', (Instr.mapUpdate t (.map (some b)) (.int .i64 k) (mk a)).run P w = .ok () w' ∧ RangeAt P kt mk w' b r n (fun j => if j = k then some a else g j) left cnt ∧ w.mapTurned w' b := by
 have hne := h.ne
 obtain ⟨D, l, ⟨es, clock, since, seen, c0, hb, F, hs, rfl, hr, hold, hc, hl1, hl2, hsc, hsk⟩, hd, hl⟩ := h
 have K := Maps.int_keyed (P := P) (k := kt) (q := .i64) hk
 have hkey := Maps.keyOf_int_mk (P := P) (k := kt) (q := .i64) hk wf
 have hv := mkR_mk hi a
 rcases K.find w hkey es.toList F.keys with ⟨h1, h2⟩ | ⟨j, e0, h1, h2, h3⟩
 ·
  exfalso
  have h4 := hd.has k
  rw [hin] at h4
  obtain ⟨p, hp, hpk⟩ := List.any_eq_true.1 h4
  obtain ⟨x, hx, rfl⟩ := List.mem_map.1 (mem_sorted.1 hp)
  obtain ⟨y, hy⟩ := F.reads x hx
  rw [WideElems.rg_of hy] at hpk
  exact h2 x hx (K.inj (WideElems.rd_key hy) ((WideAt.sameKey_eq hpk) ▸ hkey))
 ·
  have hj : es[j]? = some e0 := by simpa using h2
  have hkeyf : ∀ e', es[j]? = some e' → ({ e' with key := .int .i64 k, val := mk a } : MapEntry).key = e'.key := fun e' he' => by rw [hj] at he'; cases he'; exact h3.symm
  have hlist : (es.modify j (fun e' => { e' with key := .int .i64 k, val := mk a })).toList = es.toList.set j { e0 with key := .int .i64 k, val := mk a } := by rw [Array.toList_modify, ChangeMaps.modify_eq_set _ _ _ _ h2]
  have hmem0 : e0 ∈ es.toList := List.mem_of_getElem? h2
  obtain ⟨y0, hy0⟩ := F.reads e0 hmem0
  have who : ∀ x ∈ es.toList.set j { e0 with key := .int .i64 k, val := mk a }, x = { e0 with key := .int .i64 k, val := mk a } ∨ (x ∈ es.toList ∧ x.key ≠ .int .i64 k) := by
   intro x hx
   obtain ⟨i, hi, ex⟩ := List.getElem_of_mem hx
   rw [List.getElem_set] at ex
   split at ex
   ·
    exact Or.inl ex.symm
   ·
    rename_i hne
    have hi' : i < es.toList.length := by simpa using hi
    refine Or.inr ⟨ex ▸ List.getElem_mem hi', ?_⟩
    rw [← h3]
    exact WideElems.other_key F h2 (by rw [List.getElem?_eq_getElem hi', ex]) (fun e1 => hne e1.symm)
  have hy1 := WideElems.rd_mk (born := e0.born) hkey hv
  have e00 : (WideElems.rg P kt (mkR mk) e0).1 = .int .i64 k := by
   rw [WideElems.rg_of hy0]
   have h5 := WideElems.rd_key hy0
   rw [h3, hkey] at h5
   exact (Option.some.inj h5).symm
  have keyEq : ∀ x ∈ es.toList.set j { e0 with key := .int .i64 k, val := mk a }, ∃ x0 ∈ es.toList, x0.born = x.born ∧ (WideElems.rg P kt (mkR mk) x).1 = (WideElems.rg P kt (mkR mk) x0).1 := by
   intro x hx
   rcases who x hx with rfl | ⟨hx', _⟩
   ·
    exact ⟨e0, hmem0, rfl, by rw [e00, WideElems.rg_of hy1]⟩
   ·
    exact ⟨x, hx', rfl, rfl⟩
  have keyEq2 : ∀ x0 ∈ es.toList, ∃ x ∈ es.toList.set j { e0 with key := .int .i64 k, val := mk a }, x.born = x0.born ∧ (WideElems.rg P kt (mkR mk) x).1 = (WideElems.rg P kt (mkR mk) x0).1 := by
   intro x0 hx0
   obtain ⟨i, hi, ex⟩ := List.getElem_of_mem hx0
   by_cases e1 : i = j
   ·
    subst e1
    have : x0 = e0 := by
     rw [List.getElem?_eq_getElem hi, ex] at h2
     exact Option.some.inj h2
    subst this
    exact ⟨{ x0 with key := .int .i64 k, val := mk a }, List.mem_set hi _, rfl, by rw [e00, WideElems.rg_of hy1]⟩
   ·
    refine ⟨x0, ?_, rfl, rfl⟩
    have : (es.toList.set j { e0 with key := .int .i64 k, val := mk a })[i]'(by simpa using hi) = x0 := by
     rw [List.getElem_set_ne (fun e2 => e1 e2.symm)]
     exact ex
    rw [← this]
    exact List.getElem_mem _
  have hF' : WideElems.Fit P kt (mkR mk) (es.modify j (fun e' => { e' with key := .int .i64 k, val := mk a })) clock := by
   refine ⟨by simpa using F.size, MapKept.stamped_modify F.stamped _ _ (fun _ _ => rfl) (fun e' _ he' => hkeyf e' he'), fun x hx => ?_⟩
   rw [hlist] at hx
   rcases who x hx with rfl | ⟨hx', hne⟩
   ·
    exact ⟨_, hy1⟩
   ·
    exact F.reads x hx'
  have hput : ((es.modify j (fun e' => { e' with key := .int .i64 k, val := mk a })).toList.map (WideElems.rg P kt (mkR mk))).foldr DataW.insert [] = ChangeMaps.putKey (.int .i64 k) (.held a) ((es.toList.map (WideElems.rg P kt (mkR mk))).foldr DataW.insert []) := by
   refine Maps.sorted_put K.one ⟨_, hkey⟩ (Maps.fit_keys F) (Maps.fit_apart K F) ?_
   rw [Maps.filter_one K F hkey h2 h3, hlist, List.map_set, WideElems.rg_of hy1]
   exact ChangeMaps.set_perm _ _ (by simpa using (List.getElem?_eq_some_iff.1 h2).1) _
  refine ⟨ChangeMaps.setBlock w b (.map (es.modify j (fun e' => { e' with key := .int .i64 k, val := mk a })) clock), ?_, ⟨_, l, ⟨_, clock, since, seen, c0, ChangeMaps.heap_setBlock_same hb _, hF', by simpa using hs, rfl, (ChangeMaps.heap_setBlock_other hb _ hne).trans hr, fun x hx => ?_, ?_, fun x hx => ?_, fun kl hkl => ?_, hsc, hsk⟩, ?_, hl⟩, ⟨es, clock, _, clock, hb, rfl⟩⟩
  ·
   simp [Instr.mapUpdate, run_underlying ht, MapKept.run_getObj_map hb, K.check w false hkey, h1, hj, h3, K.stays w hkey, MapKept.run_setObj_map _ hb, Result.andThen, ChangeMaps.setBlock]
  ·
   rw [hlist] at hx
   obtain ⟨x0, hx0, e1, _⟩ := keyEq x hx
   rw [← e1]
   exact hold x0 hx0
  ·
   rw [← hc]
   have e1 : ∀ a : Array MapEntry, (leftOf a seen).size = (a.toList.map (fun e => e.born)).countP (fun b => !seen.contains b) := fun a => by
    unfold leftOf
    rw [List.countP_map, ← Array.length_toList, Array.toList_filter, List.countP_eq_length_filter]
    rfl
   rw [e1, e1, hlist, List.map_set]
   congr 1
   have : (es.toList.map (fun e => e.born))[j]? = some e0.born := by rw [List.getElem?_map, h2]; rfl
   obtain ⟨hj2, hj3⟩ := List.getElem?_eq_some_iff.1 this
   show List.set _ j e0.born = _
   rw [← hj3]
   exact List.set_getElem_self hj2
  ·
   rw [hlist] at hx
   obtain ⟨x0, hx0, e1, e2⟩ := keyEq x hx
   rw [e2, hl1 x0 hx0, e1]
  ·
   obtain ⟨x0, hx0, e1⟩ := hl2 kl hkl
   obtain ⟨x, hx, _, e2⟩ := keyEq2 x0 hx0
   exact ⟨x, by rw [hlist]; exact hx, e2.trans e1⟩
  ·
   rw [hput]
   have := hd.put ⟨_, rfl⟩ k a
   rw [DataW.put_eq] at this
   exact this
end
def BytesAt (w : World) (A : Option Addr) (n : Nat) (f : Nat → Nat) : Prop :=
 ∀ i, i < n → ∃ ad, A = some ad ∧ ad.block < w.heap.size ∧ w.cell? (ad.add i) = some (.int .u8 ((f i : Nat) : Int)) ∧ f i < 256
theorem BytesAt.below {w w' : World} {A : Option Addr} {n : Nat} {f : Nat → Nat} (h : BytesAt w A n f) (hb : Below w.heap.size w w') : BytesAt w' A n f := by
 intro i hi
 obtain ⟨ad, e, h1, h2, h3⟩ := h i hi
 exact ⟨ad, e, Nat.lt_of_lt_of_le h1 hb.size, by rw [hb.cell (by rw [add_block]; exact h1), h2], h3⟩
def Only (b s : Nat) (w w' : World) : Prop := w.heap.size ≤ w'.heap.size ∧ ∀ i, i < w.heap.size → i ≠ b → i ≠ s → w'.heap[i]? = w.heap[i]?
theorem Only.of_below {b s : Nat} {w w' : World} (h : Below w.heap.size w w') : Only b s w w' := ⟨h.size, fun i hi _ _ => h.block i hi⟩
theorem Only.set1 {b s : Nat} {w w' : World} (h : Only b s w w') (i : Nat) (v : Value) : Only b s w (w'.setCell ⟨b, i, none⟩ v) :=
 ⟨by rw [World.size_setCell]; exact h.1, fun j hj h1 h2 => by rw [Below.heap_setCell _ _ _ _ h1]; exact h.2 j hj h1 h2⟩
theorem MapAt.only {α : Type} {P : Program} {kt : TypeId} {mk : α → Value} {w w' : World} {b s c n : Nat} {g : Int → Option α} (h : MapAt P kt mk w c n g) (ho : Only b s w w') (h1 : c ≠ b) (h2 : c ≠ s) : MapAt P kt mk w' c n g := by
 have hl := h.lt
 obtain ⟨D, ⟨es, clock, h3, h4⟩, hd⟩ := h
 exact ⟨D, ⟨es, clock, (ho.2 c hl h1 h2).trans h3, h4⟩, hd⟩
abbrev E3 := Int × Int × Int
def mkE (e : E3) : Value := .agg #[.int .i64 e.1, .int .i64 e.2.1, .int .i64 e.2.2]
theorem mkE_inj : ∀ a b : E3, mkE a = mkE b → a = b := by
 rintro ⟨a1, a2, a3⟩ ⟨b1, b2, b3⟩ h
 simp [mkE] at h
 simp [h]
def ent (o : Option E3) : E3 := o.getD (0, 0, 0)
def entCode : Option E3 → Int
 | some _ => 0
 | none => 3
def BookAt (w : World) (b m n : Nat) (low : Int) (g : Int → Option E3) : Prop :=
 b ≠ m ∧ w.heap[b]? = some (.cells #[.int .i64 low, .map (some m)] 78 (0, 0)) ∧ MapAt Try.prog 3 mkE w m n g
theorem BookAt.lt {w : World} {b m n : Nat} {low : Int} {g : Int → Option E3} (h : BookAt w b m n low g) : b < w.heap.size ∧ m < w.heap.size := ⟨zak h.2.1, h.2.2.lt⟩
theorem BookAt.below {w w' : World} {b m n k : Nat} {low : Int} {g : Int → Option E3} (h : BookAt w b m n low g) (hb : Below k w w') (h1 : b < k) (h2 : m < k) : BookAt w' b m n low g :=
 ⟨h.1, (hb.block b h1).trans h.2.1, h.2.2.below hb h2⟩
theorem BookAt.keep {w w' : World} {b m n : Nat} {low : Int} {g : Int → Option E3} (h : BookAt w b m n low g) (hb : Below w.heap.size w w') : BookAt w' b m n low g := h.below hb h.lt.1 h.lt.2
theorem BookAt.mono {w : World} {b m n n' : Nat} {low : Int} {g : Int → Option E3} (h : BookAt w b m n low g) (hn : n ≤ n') : BookAt w b m n' low g := ⟨h.1, h.2.1, h.2.2.mono hn⟩
theorem BookAt.facts {w : World} {b m n : Nat} {low : Int} {g : Int → Option E3} (h : BookAt w b m n low g) :
  w.cell? ⟨b, 0, none⟩ = some (.int .i64 low) ∧ w.cell? ⟨b, 1, none⟩ = some (.map (some m)) ∧ w.frozen? ⟨b, 0, none⟩ = false :=
 ⟨(za h.2.1 0).trans rfl, (za h.2.1 1).trans rfl, zaa h.2.1 0⟩
theorem BookAt.kept {w w' : World} {b m n : Nat} {low : Int} {g : Int → Option E3} {S : Nat → Prop} (h : BookAt w b m n low g) (hk : Kept w w' S) (h1 : ¬ S b) (h2 : ¬ S m) : BookAt w' b m n low g := by
 obtain ⟨e1, e2, D, ⟨es, clock, e3, e4⟩, hd⟩ := h
 have hm : m < w.heap.size := zak e3
 exact ⟨e1, (hk.2 b (zak e2) h1).trans e2, D, ⟨es, clock, (hk.2 m hm h2).trans e3, e4⟩, hd⟩
theorem BookAt.set {w : World} {b m n : Nat} {low : Int} {g : Int → Option E3} (h : BookAt w b m n low g) (x : Int) : BookAt (w.setCell ⟨b, 0, none⟩ (.int .i64 x)) b m n x g := by
 refine ⟨h.1, ?_, h.2.2.set (fun e => h.1 e.symm) _⟩
 rw [blk_set h.2.1]
 rfl
theorem mapTurned_blk {w w' : World} {b i : Nat} (h : w.mapTurned w' b) (hi : i ≠ b) : w'.heap[i]? = w.heap[i]? := by
 obtain ⟨es, clock, es', clock', hb, rfl⟩ := h
 exact ChangeMaps.heap_setBlock_other hb _ hi
theorem mapTurned_size {w w' : World} {b : Nat} (h : w.mapTurned w' b) : w'.heap.size = w.heap.size := by
 obtain ⟨es, clock, es', clock', hb, rfl⟩ := h
 simp [ChangeMaps.setBlock]
theorem BookAt.turned {w w' : World} {b m n n' : Nat} {low : Int} {g g' : Int → Option E3} (h : BookAt w b m n low g) (ht : w.mapTurned w' m) (hm : MapAt Try.prog 3 mkE w' m n' g') : BookAt w' b m n' low g' :=
 ⟨h.1, (mapTurned_blk ht h.1).trans h.2.1, hm⟩
theorem Only.turned {b m : Nat} {w w1 w2 : World} (h : Only b m w w1) (ht : w1.mapTurned w2 m) : Only b m w w2 :=
 ⟨by rw [mapTurned_size ht]; exact h.1, fun i hi h1 h2 => (mapTurned_blk ht h2).trans (h.2 i hi h1 h2)⟩
theorem Only.refl (b m : Nat) (w : World) : Only b m w w := ⟨Nat.le_refl _, fun _ _ _ _ => rfl⟩
theorem Only.step {b m : Nat} {w w1 w2 : World} (h : Only b m w w1) (hb : Below w1.heap.size w1 w2) : Only b m w w2 :=
 ⟨Nat.le_trans h.1 hb.size, fun i hi h1 h2 => (hb.block i (Nat.lt_of_lt_of_le hi h.1)).trans (h.2 i hi h1 h2)⟩
theorem Only.trans {b m : Nat} {w w1 w2 : World} (h : Only b m w w1) (h2 : Only b m w1 w2) : Only b m w w2 :=
 ⟨Nat.le_trans h.1 h2.1, fun i hi e1 e2 => (h2.2 i (Nat.lt_of_lt_of_le hi h.1) e1 e2).trans (h.2 i hi e1 e2)⟩
def Wrote (b m : Nat) (w w' : World) : Prop := Only b m w w' ∧ ∀ k, k ≤ b → k ≤ m → Below k w w'
theorem Wrote.of_below {b m : Nat} {w w' : World} (h : Below w.heap.size w w') (hb : b < w.heap.size) : Wrote b m w w' := ⟨Only.of_below h, fun k h1 _ => h.mono (by omega)⟩
theorem Wrote.step {b m : Nat} {w w1 w2 : World} (h : Wrote b m w w1) (hb : Below w1.heap.size w1 w2) (hl : b < w1.heap.size) : Wrote b m w w2 :=
 ⟨h.1.step hb, fun k h1 h2 => (h.2 k h1 h2).trans (hb.mono (by omega))⟩
theorem Wrote.turned {b m : Nat} {w w1 w2 : World} (h : Wrote b m w w1) (ht : w1.mapTurned w2 m) : Wrote b m w w2 :=
 ⟨h.1.turned ht, fun k h1 h2 => (h.2 k h1 h2).trans (mapTurned_below ht h2)⟩
theorem Wrote.trans {b m : Nat} {w w1 w2 : World} (h : Wrote b m w w1) (h' : Wrote b m w1 w2) : Wrote b m w w2 :=
 ⟨h.1.trans h'.1, fun k h1 h2 => (h.2 k h1 h2).trans (h'.2 k h1 h2)⟩
theorem Wrote.low {b m : Nat} {w w1 : World} (h : Wrote b m w w1) (x : Value) : Wrote b m w (w1.setCell ⟨b, 0, none⟩ x) :=
 ⟨h.1.set1 _ _, fun k h1 h2 => (h.2 k h1 h2).setCell h1 _⟩
theorem Wrote.drew {b m : Nat} {w w1 : World} (h : Wrote b m w w1) : Wrote b m w w1.drew := ⟨h.1, fun k h1 h2 => (h.2 k h1 h2).drew⟩
theorem BookAt.other {w : World} {b m n q i : Nat} {low : Int} {g : Int → Option E3} (h : BookAt w b m n low g) (h1 : b ≠ q) (h2 : m ≠ q) (x : Value) : BookAt (w.setCell ⟨q, i, none⟩ x) b m n low g := by
 refine ⟨h.1, ?_, h.2.2.set h2 _⟩
 rw [Below.heap_setCell _ _ _ _ h1]
 exact h.2.1
theorem Wrote.other {b m q i : Nat} {w w1 : World} (h : Wrote b m w w1) (h1 : b ≤ q) (h2 : w.heap.size ≤ q) (x : Value) : Wrote b m w (w1.setCell ⟨q, i, none⟩ x) :=
 ⟨⟨by rw [World.size_setCell]; exact h.1.1, fun j hj e1 e2 => by rw [Below.heap_setCell _ _ _ _ (show j ≠ q by omega)]; exact h.1.2 j hj e1 e2⟩, fun k h3 h4 => (h.2 k h3 h4).setCell (show k ≤ q by omega) _⟩
theorem book_New_ok (w : World) : Calls Try.prog 14 #[] w fun e w' => ∃ b m, e = .returned (.pointer (some ⟨b, 0, none⟩)) ∧ w.heap.size ≤ b ∧ w.heap.size ≤ m ∧ BookAt w' b m 0 1 (fun _ => none) ∧ Below w.heap.size w w' := by
 have hmm := @run_makeMap Try.prog
 go_enter Try.func14, Try.ntmps14
 go_wp2_with fail
 go_ret
 refine ⟨w.heap.size + 1, w.heap.size, by simp, by omega, Nat.le_refl _, ⟨by omega, ?_, (MapAt.made Try.prog 3 mkE w).keep (zaf (Below.refl _ _) _)⟩, zaf (zaf (Below.refl _ _) _) _⟩
 have := blk_new (w.alloc (.map #[] 0)) (.cells #[.int .i64 1, .map (some w.heap.size)] 78)
 rw [show (w.alloc (.map #[] 0)).heap.size = w.heap.size + 1 by simp] at this
 exact this
theorem book_Low_ok {w : World} {b m n : Nat} {low : Int} {g : Int → Option E3} (h : BookAt w b m n low g) :
  Calls Try.prog 19 #[.pointer (some ⟨b, 0, none⟩)] w fun e w' => e = .returned (.int .i64 low) ∧ Drawn0 w w' := by
 obtain ⟨f0, f1, f2⟩ := h.facts
 have H := Aside0.mk h
 clear h
 go_enter Try.func19, Try.ntmps19
 go_wp2_with fail
 go_ret
 exact ⟨rfl, Drawn0.refl _⟩
theorem run_zeroE (w : World) : (zeroValue 48).run Try.prog w = .ok (mkE (0, 0, 0)) w := by kernel_rfl
theorem book_look2 {w : World} {b m n : Nat} {low : Int} {g : Int → Option E3} (h : BookAt w b m n low g) {k : Int} (wf : (Lit.int .i64 k).wf = true) :
  (Instr.lookup 76 (.map (some m)) (.int .i64 k) true).run Try.prog w = .ok (.tuple #[.agg #[.int .i64 (ent (g k)).1, .int .i64 (ent (g k)).2.1, .int .i64 (ent (g k)).2.2], .bool (g k).isSome]) w := by
 obtain ⟨h1, h2⟩ := h.2.2.look2 (t := 76) (e := 48) (k := k) Try.underlying3 Try.underlying76 (run_zeroE w) wf
 cases hg : g k with
 | none => exact h2 hg
 | some a => exact h1 a hg
theorem book_look1 {w : World} {b m n : Nat} {low : Int} {g : Int → Option E3} (h : BookAt w b m n low g) {k : Int} (wf : (Lit.int .i64 k).wf = true) :
  (Instr.lookup 76 (.map (some m)) (.int .i64 k) false).run Try.prog w = .ok (.agg #[.int .i64 (ent (g k)).1, .int .i64 (ent (g k)).2.1, .int .i64 (ent (g k)).2.2]) w := by
 obtain ⟨h1, h2⟩ := h.2.2.look (t := 76) (e := 48) (k := k) Try.underlying3 Try.underlying76 (run_zeroE w) wf
 cases hg : g k with
 | none => exact h2 hg
 | some a => exact h1 a hg
theorem book_store {w : World} {b m n : Nat} {low : Int} {g : Int → Option E3} (h : BookAt w b m n low g) (hn : n < 1000000) {k : Int} (wf : (Lit.int .i64 k).wf = true) (a1 a2 a3 : Int) :
  ∃ w', (Instr.mapUpdate 76 (.map (some m)) (.int .i64 k) (.agg #[.int .i64 a1, .int .i64 a2, .int .i64 a3])).run Try.prog w = .ok () w' ∧ BookAt w' b m (n + 1) low (fun j => if j = k then some (a1, a2, a3) else g j) ∧ w.mapTurned w' m := by
 have hmx : maxLen = 9223372036854775807 := rfl
 obtain ⟨w', h1, h2, h3⟩ := h.2.2.store (t := 76) (e := 48) mkE_inj Try.underlying3 Try.underlying76 (by omega) (k := k) wf (a1, a2, a3)
 exact ⟨w', h1, h.turned h3 h2, h3⟩
theorem book_Entry_ok {w : World} {b m n : Nat} {low : Int} {g : Int → Option E3} (h : BookAt w b m n low g) {k : Int} (wf : (Lit.int .i64 k).wf = true) :
  Calls Try.prog 24 #[.pointer (some ⟨b, 0, none⟩), .int .i64 k] w fun e w' => e = .returned (.tuple #[.agg #[.int .i64 (ent (g k)).1, .int .i64 (ent (g k)).2.1, .int .i64 (ent (g k)).2.2], .int .i64 (entCode (g k))]) ∧ Below w.heap.size w w' := by
 have hkey : ∀ (W : World), Below w.heap.size w W → (Instr.lookup 76 (.map (some m)) (.int .i64 k) true).run Try.prog W = .ok (.tuple #[.agg #[.int .i64 (ent (g k)).1, .int .i64 (ent (g k)).2.1, .int .i64 (ent (g k)).2.2], .bool (g k).isSome]) W := fun W hW => book_look2 (h.keep hW) wf
 have L1 := hkey _ (zaf (Below.refl _ w) (.cells #[.int .i64 0, .int .i64 0, .int .i64 0] 48))
 obtain ⟨f0, f1, f2⟩ := (h.keep (zaf (Below.refl _ w) (.cells #[.int .i64 0, .int .i64 0, .int .i64 0] 48))).facts
 have H := Aside0.mk h
 clear h hkey
 cases hg : g k with
 | none =>
  rw [hg] at L1
  dsimp only [ent, Option.getD, Option.isSome] at L1
  go_enter Try.func24, Try.ntmps24
  go_wp2_with fail
  refine bodyPost_ret (results_ct rfl _ _ w.heap.size 48 #[.int .i64 0, .int .i64 0, .int .i64 0] (0, 0) _ rfl (zab (blk_new w _) _) Try.underlying48 rfl (by kernel_rfl)) rfl ?_
  exact ⟨rfl, zaf (zaf (Below.refl _ w) _) _⟩
 | some a =>
  rw [hg] at L1
  dsimp only [ent, Option.getD, Option.isSome] at L1
  go_enter Try.func24, Try.ntmps24
  go_wp2_with fail
  refine bodyPost_ret (results_ct rfl _ _ w.heap.size 48 #[.int .i64 a.1, .int .i64 a.2.1, .int .i64 a.2.2] (0, 0) _ rfl (zab (blk_new w _) _) Try.underlying48 rfl (by kernel_rfl)) rfl ?_
  exact ⟨rfl, zaf (zaf (Below.refl _ w) _) _⟩
theorem book_Open_ok {w : World} {b m n : Nat} {low : Int} {g : Int → Option E3} (h : BookAt w b m n low g) {k : Int} (wf : (Lit.int .i64 k).wf = true) :
  Calls Try.prog 17 #[.pointer (some ⟨b, 0, none⟩), .int .i64 k] w fun e w' => e = .returned (.bool (decide ((ent (g k)).2.1 > 0))) ∧ Below w.heap.size w w' := by
 have L1 := book_look1 h wf
 obtain ⟨f0, f1, f2⟩ := h.facts
 have H := Aside0.mk h
 clear h
 go_enter Try.func17, Try.ntmps17
 go_wp2_with fail
 go_at_call 42
 refine (zad.calls _ _ _ _ w rfl).mono ?_
 rintro e w1 ⟨rfl, hb⟩
 have HB := Aside0.mk hb
 clear hb
 go_wp2_with fail
 go_ret
 exact ⟨rfl, HB.out⟩
end Go.Proofs.Ytbakdobjidjncaa.P
end
