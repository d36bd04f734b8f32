-- Written by a program of this session (wip/tools/shake.py) out of its own texts and of the kit's printed ones; not trusted: Lean checks it.
import Derived.Below
import Derived.Deep.Draws
import Derived.Deep.AppendLies
import Derived.Maps.AppendAt
import Derived.OwnWalk
import Derived.Laws.BytesArg
import Derived.Laws.MakeOwn
import Derived.Laws.OwnMore
import Derived.Deep.OwnRows
import Derived.Tactics
import Derived.Lib.ConvBytes
import Derived.Laws.Slices
import Derived.WalkKit
import Derived.KernelRfl
import Derived.RowKit3
import Derived.Deep.LoopGhost
import Derived.Deep.QuietTactic
import Derived.BigQuiet
import Derived.WideLaws
import Derived.Deep.DeepCutAuto
import Derived.Deep.CutBlock
import Derived.Deep.RegionHeld3
import Derived.Laws.Rows
import Derived.Lib.AppendStr
import Derived.ArgAppend
import Derived.Laws.IdiomCopy
import Derived.RowKit
import Derived.OrdersHeld
import Derived.Laws.BitsLemmas
import Derived.Laws.StructEq
import Derived.Test.YtbakdobjidjncaaProg
import Derived.Lib.LaidTab
import Derived.Lib.ItoaNum
import Derived.WalkSmall
import Derived.Shelf.Strconv.Itoa0
import Derived.Shelf.Sort.Plain
import Derived.Shelf.Slices.Turned
import Derived.Ground.Names2Prog
import Derived.Shelf.Slices.Clone
import Derived.Ground.SlgmProg
import Derived.Shelf.SortM.SortNone
import GoSem.Extern.MathBitsCarry
import Derived.Laws.Externs
import Derived.Lib.Repeat
import Derived.Lib.AppendIntMem
import Derived.Lib.ItoaWalk
import Derived.RangeFuncBox
import Derived.RangeFuncLeaves
import Derived.Shelf.Abstract
import Derived.OwnWalkIn
import Derived.TacticsInMore
import Derived.LoopNIn
import Derived.LoopIn
import Derived.RangeFuncCalls
import Derived.Lib.SliceRun
import Derived.Shelf.RegionOpen
import Derived.Lib.Strings
import Derived.Lib.OthersKept
import Derived.Lib.OwnBridge
import Derived.Maps.RangeWalk
import Derived.SizedLaws
import Derived.ChangeSlices
import Derived.ProofKit
import Derived.OpenShut
import Derived.ShutString
import Derived.ChangeOld
import Derived.Carry
import Derived.Handed
set_option maxHeartbeats 8000000
set_option maxRecDepth 100000
set_option linter.unusedVariables false
set_option linter.unusedSimpArgs false
section
namespace Go.Proofs.YtbakdobjidjncaaW.PrintWords
open Go.RowKit
structure Aside0 (p : Prop) : Prop where mk :: (out : p)
structure Drawn0 (w w' : World) : Prop where mk :: (out : ∃ n, w' = w.drewN n)
theorem Drawn0.refl (w : World) : Drawn0 w w := ⟨⟨0, rfl⟩⟩
theorem Drawn0.step {w w' : World} (h : Drawn0 w w') (n : Nat) : Drawn0 w (w'.drewN n) := by
 obtain ⟨m, rfl⟩ := h
 exact ⟨⟨m + n, World.drewN_drewN ..⟩⟩
theorem Drawn0.grown {w w' : World} (h : Drawn0 w w') : Grown w w' := by
 obtain ⟨n, rfl⟩ := h
 induction n with
 | zero => exact Grown.refl _
 | succ n ih => rw [← World.drew_drewN]; exact Grown.drew ih
theorem Drawn0.below {w w' : World} (h : Drawn0 w w') : Below w.heap.size w w' := by
 obtain ⟨n, rfl⟩ := h
 induction n with
 | zero => exact Below.refl _ _
 | succ n ih => rw [← World.drew_drewN]; exact ih.drew
def rd (xs : List Int) (i : Int) : Int := xs.getD i.toNat 0
theorem zab {w W : World} (h : Below w.heap.size w W) (o : Obj) : Below w.heap.size w (W.alloc o) := h.alloc h.size o
theorem below_then {B : Nat} {w w1 w2 : World} (h : Below B w w1) (hB : B ≤ w1.heap.size) (k : Below w1.heap.size w1 w2) : Below B w w2 :=
 h.trans ⟨k.os, k.tape, k.output, k.size, fun i hi => k.block i (Nat.lt_of_lt_of_le hi hB)⟩
theorem grown_of_below {w w1 : World} (h : Below w.heap.size w w1) (row : Option Nat) : w.grownBy w1 row := ⟨h.os, h.tape, h.output, h.size, fun i hi _ => h.block i hi⟩
theorem pw_cell_below {w w1 : World} (h : Below w.heap.size w w1) {a : Addr} {v : Value} (hc : w.cell? a = some v) : w1.cell? a = some v := (h.cell (World.block_lt_of_cell? w a hc)).trans hc
theorem add_plain (g j : Nat) : (⟨g, 0, none⟩ : Addr).add j = ⟨g, j, none⟩ := by unfold Addr.add; split <;> simp_all
def ReadsInt (w : World) (k : IntKind) (A : Option Addr) (n : Nat) (xs : List Int) : Prop :=
 xs.length = n ∧ n ≤ 9223372036854775807 ∧ (0 < n → ∃ ad, A = some ad ∧ ∀ j, j < n → w.cell? (ad.add j) = some (.int k (xs.getD j 0)))
theorem ReadsInt.at_ {w : World} {k : IntKind} {A : Option Addr} {n : Nat} {xs : List Int} (h : ReadsInt w k A n xs) (i : Int) (h0 : 0 ≤ i) (h1 : i < n) : ∃ ad, A = some ad ∧ w.cell? (ad.add i.toNat) = some (.int k (rd xs i)) := by
 obtain ⟨ad, e, hc⟩ := h.2.2 (by omega)
 exact ⟨ad, e, hc _ (by omega)⟩
theorem ReadsInt.below {w w1 : World} {k : IntKind} {A : Option Addr} {n : Nat} {xs : List Int} (h : ReadsInt w k A n xs) (hb : Below w.heap.size w w1) : ReadsInt w1 k A n xs :=
 ⟨h.1, h.2.1, fun hn => by
  obtain ⟨ad, e, hc⟩ := h.2.2 hn
  exact ⟨ad, e, fun j hj => pw_cell_below hb (hc j hj)⟩⟩
theorem own_base {w : World} {base : Nat} {e : TypeId} {size n : Nat} {v : Value} {xs : List Value} (h : w.ownsRow base e size v n xs) (k : Nat) (hk : v.ownBlock = some k) : base ≤ k := by
 rcases h.2 with ⟨rfl, _⟩ | ⟨g, cap, cur, rfl, hb, _⟩
 ·
  simp [Value.ownBlock] at hk
 ·
  have : g = k := by simpa [Value.ownBlock] using hk
  omega
theorem own_lt {w : World} {base : Nat} {e : TypeId} {size n : Nat} {v : Value} {xs : List Value} (h : w.ownsRow base e size v n xs) (k : Nat) (hk : v.ownBlock = some k) : k < w.heap.size := by
 rcases h.2 with ⟨rfl, _⟩ | ⟨g, cap, cur, rfl, hb, hh, _⟩
 ·
  simp [Value.ownBlock] at hk
 ·
  have : g = k := by simpa [Value.ownBlock] using hk
  subst this
  exact (Array.getElem?_eq_some_iff.1 hh).1
theorem pw_own_below {w w1 : World} {base : Nat} {e : TypeId} {size n : Nat} {v : Value} {xs : List Value} (h : w.ownsRow base e size v n xs) (hb : Below w.heap.size w w1) : w1.ownsRow base e size v n xs :=
 h.kept (grown_of_below hb none) (by cases v.ownBlock <;> simp)
section
variable {P : Program}
theorem print_make (t e : TypeId) (k : IntKind) (bytes : Nat) (ht : P.underlying t = some (.slice e)) (hinfo : (P.info? e).map (fun i => (i.zero, i.size, i.bytes)) = some (some (.int k 0), 1, bytes)) (hb0 : 0 < bytes)
  (m : Nat) (hn : m * bytes ≤ 281474976710656) :
  ∀ W : World, (Instr.makeSlice t (.int .i64 (m : Int)) (.int .i64 (m : Int))).run P W = .ok (.slice (some ⟨W.heap.size, 0, none⟩) m m) (W.alloc (.cells (madeCells #[.int k 0] m) e)) := by
 intro W
 have hm : m ≤ 281474976710656 := Nat.le_trans (Nat.le_mul_of_pos_right _ hb0) hn
 exact run_make_row' t e (.int k 0) bytes ht hinfo rfl .i64 .i64 m (by rw [Nat.mul_comm]; exact hn) (by omega) W
end
def bytesOf (s : ByteArray) : List Int := s.data.toList.map fun b => (b.toNat : Int)
def LeO {α : Type} (a b : Option α) : Prop := ∀ r, a = some r → b = some r
theorem LeO.refl {α : Type} (a : Option α) : LeO a a := fun _ h => h
theorem LeO.none {α : Type} (b : Option α) : LeO Option.none b := fun _ h => by cases h
theorem LeO.trans {α : Type} {a b c : Option α} (h : LeO a b) (k : LeO b c) : LeO a c := fun r hr => k r (h r hr)
theorem LeO.map {α β : Type} {a a' : Option α} (f : α → β) (h : LeO a a') : LeO (a.map f) (a'.map f) := by
 intro r hr
 obtain ⟨x, hx, hf⟩ := Option.map_eq_some_iff.1 hr
 exact Option.map_eq_some_iff.2 ⟨x, h x hx, hf⟩
def Reps {α : Type} (R : α → List Value → Prop) (size : Nat) (ps : List α) (cs : List Value) : Prop :=
 cs.length = ps.length * size ∧ ∀ j p, ps[j]? = some p → R p ((cs.drop (j * size)).take size)
theorem Reps.none {α : Type} (R : α → List Value → Prop) (size : Nat) : Reps R size [] [] := ⟨by simp, fun j p h => by simp at h⟩
theorem Reps.imp_ {α : Type} {R R' : α → List Value → Prop} {size : Nat} {ps : List α} {cs : List Value} (h : Reps R size ps cs) (hR : ∀ p c, R p c → R' p c) : Reps R' size ps cs := ⟨h.1, fun j p hj => hR _ _ (h.2 j p hj)⟩
def ReadsRow {α : Type} (R : α → List Value → Prop) (size : Nat) (w : World) (A : Option Addr) (n : Nat) (ps : List α) : Prop :=
 ps.length = n ∧ n ≤ 9223372036854775807 ∧ (0 < n → ∃ ad, A = some ad ∧ ∀ j p, ps[j]? = some p → ∃ c, c.length = size ∧ R p c ∧ ∀ i u, c[i]? = some u → w.cell? (ad.add (j * size + i)) = some u)
theorem ReadsRow.imp_ {α : Type} {R R' : α → List Value → Prop} {size : Nat} {w w1 : World} {A : Option Addr} {n : Nat} {ps : List α} (h : ReadsRow R size w A n ps) (hb : Below w.heap.size w w1) (hR : ∀ p c, R p c → R' p c) : ReadsRow R' size w1 A n ps :=
 ⟨h.1, h.2.1, fun hn => by
  obtain ⟨ad, e, hc⟩ := h.2.2 hn
  refine ⟨ad, e, fun j p hj => ?_⟩
  obtain ⟨c, hs, hr, hcell⟩ := hc j p hj
  exact ⟨c, hs, hR _ _ hr, fun i u hu => pw_cell_below hb (hcell i u hu)⟩⟩
theorem own_reads_row {α : Type} {R : α → List Value → Prop} {w : World} {base n size : Nat} {e : TypeId} {v : Value} {ps : List α} {cs : List Value} (h : w.ownsRow base e size v n cs) (hR : Reps R size ps cs) (hn : ps.length = n) :
  ∃ A c, v = .slice A n c ∧ ReadsRow R size w A n ps := by
 rcases Nat.eq_zero_or_pos n with h0 | h0
 ·
  rcases h.2 with ⟨rfl, rfl⟩ | ⟨g, cap, cur, rfl, _⟩
  ·
   exact ⟨none, 0, rfl, hn, by omega, fun hp => absurd hp (by omega)⟩
  ·
   exact ⟨_, cap, rfl, hn, by omega, fun hp => absurd hp (by omega)⟩
 ·
  obtain ⟨g, cap, rfl, _, _⟩ := h.form h0
  have hm : n ≤ 9223372036854775807 := by
   rcases h.2 with ⟨_, h1⟩ | ⟨g', cap', cur, he, _, _, h1, h2, _⟩
   ·
    omega
   ·
    simp only [maxLen] at h2
    omega
  refine ⟨_, cap, rfl, hn, hm, fun _ => ⟨_, rfl, fun j p hj => ⟨(cs.drop (j * size)).take size, ?_, hR.2 j p hj, fun i u hu => ?_⟩⟩⟩
  ·
   have hjl := (List.getElem?_eq_some_iff.1 hj).1
   have h1 : j * size + size ≤ cs.length := by rw [hR.1, ← Nat.succ_mul]; exact Nat.mul_le_mul_right _ hjl
   rw [List.length_take, List.length_drop]
   omega
  ·
   refine h.cells (g := g) rfl _ u ?_
   rw [List.getElem?_take] at hu
   split at hu
   ·
    rw [List.getElem?_drop] at hu
    exact hu
   ·
    cases hu
theorem own_ne {w : World} {base : Nat} {e t : TypeId} {size n g : Nat} {v : Value} {xs : List Value} {cs : Array Value} (h : w.ownsRow base e size v n xs) (hg : w.heap[g]? = some (.cells cs t (0, 0))) (hne : e ≠ t) : some g ≠ v.ownBlock := by
 rcases h.2 with ⟨rfl, _⟩ | ⟨g', cap, cur, rfl, _, hh, _⟩
 ·
  simp [Value.ownBlock]
 ·
  intro he
  have : g = g' := by simpa [Value.ownBlock] using he
  subst this
  rw [hg] at hh
  injection hh with hh
  injection hh with _ ht
  exact hne ht.symm
theorem blk_set {w : World} {g : Nat} {t : TypeId} {cs : Array Value} (h : w.heap[g]? = some (.cells cs t (0, 0))) (i : Nat) (u : Value) : (w.setCell ⟨g, i, none⟩ u).heap[g]? = some (.cells (cs.setIfInBounds i u) t (0, 0)) := by
 simp [World.setCell, Array.getElem?_modify, h]
theorem blk_lt {w : World} {g : Nat} {o : Obj} (h : w.heap[g]? = some o) : g < w.heap.size := (Array.getElem?_eq_some_iff.1 h).1
theorem blk_cell {w : World} {g : Nat} {t : TypeId} {cs : Array Value} (h : w.heap[g]? = some (.cells cs t (0, 0))) (i : Nat) : w.cell? ⟨g, i, none⟩ = cs[i]? := cell_of_row w g i cs t (0, 0) h
theorem blk_frozen {w : World} {g : Nat} {t : TypeId} {cs : Array Value} (h : w.heap[g]? = some (.cells cs t (0, 0))) (i : Nat) : w.frozen? ⟨g, i, none⟩ = false := by simp [World.frozen?, h]
def KeepBut (w w' : World) (g : Nat) (row : Option Nat) : Prop := w.heap.size ≤ w'.heap.size ∧ ∀ i, i < w.heap.size → i ≠ g → some i ≠ row → w'.heap[i]? = w.heap[i]?
theorem KeepBut.refl (w : World) (g : Nat) (row : Option Nat) : KeepBut w w g row := ⟨Nat.le_refl _, fun _ _ _ _ => rfl⟩
theorem KeepBut.of_below {w w1 : World} (h : Below w.heap.size w w1) (g : Nat) (row : Option Nat) : KeepBut w w1 g row := ⟨h.size, fun i hi _ _ => h.block i hi⟩
theorem KeepBut.trans {w w1 w2 : World} {g : Nat} {row row1 : Option Nat} (h : KeepBut w w1 g row) (k : KeepBut w1 w2 g row1) (hr : row1 = row ∨ ∃ b, row1 = some b ∧ w.heap.size ≤ b) : KeepBut w w2 g row :=
 ⟨Nat.le_trans h.1 k.1, fun i hi hg hn => by
  refine (k.2 i (Nat.lt_of_lt_of_le hi h.1) hg ?_).trans (h.2 i hi hg hn)
  rcases hr with rfl | ⟨b, rfl, hb⟩
  ·
   exact hn
  ·
   intro e
   injection e with e
   omega⟩
theorem KeepBut.blk {w w1 : World} {g g' : Nat} {row : Option Nat} {o : Obj} (h : KeepBut w w1 g row) (hb : w.heap[g']? = some o) (hg : g' ≠ g) (hr : some g' ≠ row) : w1.heap[g']? = some o := (h.2 g' (blk_lt hb) hg hr).trans hb
theorem KeepBut.own {w w1 : World} {g : Nat} {row : Option Nat} {base : Nat} {e : TypeId} {size n : Nat} {v : Value} {xs : List Value} (h : KeepBut w w1 g row) (ho : w.ownsRow base e size v n xs) (hg : v.ownBlock ≠ some g) (hr : v.ownBlock = none ∨ v.ownBlock ≠ row) : w1.ownsRow base e size v n xs := by
 obtain ⟨h1, h2⟩ := ho
 refine ⟨h1, ?_⟩
 rcases h2 with h2 | ⟨b, cap, cur, rfl, hb, hh, r⟩
 ·
  exact .inl h2
 ·
  refine .inr ⟨b, cap, cur, rfl, hb, h.blk hh ?_ ?_, r⟩
  ·
   intro e
   exact hg (by rw [← e]; rfl)
  ·
   rcases hr with hr | hr
   ·
    simp [Value.ownBlock] at hr
   ·
    exact hr
def Ev {α : Type} (g : Nat → Option α) (r : α) : Prop := ∃ K, ∀ k, K ≤ k → g k = some r
theorem Ev.step {α : Type} {g f : Nat → Option α} {r : α} (h : ∀ k, g (k + 1) = f k) (k : Ev f r) : Ev g r := by
 obtain ⟨K, k⟩ := k
 refine ⟨K + 1, fun n hn => ?_⟩
 obtain ⟨m, rfl⟩ : ∃ m, n = m + 1 := ⟨n - 1, by omega⟩
 rw [h]
 exact k m (by omega)
theorem Ev.congr {α : Type} {g f : Nat → Option α} {r : α} (h : ∀ k, g k = f k) (k : Ev f r) : Ev g r := by
 obtain ⟨K, k⟩ := k
 exact ⟨K, fun n hn => (h n).trans (k n hn)⟩
theorem own_weaken {w : World} {base base' : Nat} {e : TypeId} {size n : Nat} {v : Value} {xs : List Value} (h : w.ownsRow base e size v n xs) (hb : base' ≤ base) : w.ownsRow base' e size v n xs := by
 obtain ⟨h1, h2⟩ := h
 refine ⟨h1, ?_⟩
 rcases h2 with h2 | ⟨g, cap, cur, rfl, hg, r⟩
 ·
  exact .inl h2
 ·
  exact .inr ⟨g, cap, cur, rfl, Nat.le_trans hb hg, r⟩
section
variable {α : Type} {enc : α → Value} {d : α}
def rdOf (d : α) (xs : List α) (i : Int) : α := xs.getD i.toNat d
def ReadsOf (enc : α → Value) (d : α) (w : World) (A : Option Addr) (n : Nat) (xs : List α) : Prop :=
 xs.length = n ∧ n ≤ 9223372036854775807 ∧ (0 < n → ∃ ad, A = some ad ∧ ∀ j, j < n → w.cell? (ad.add j) = some (enc (xs.getD j d)))
theorem ReadsOf.at_ {w : World} {A : Option Addr} {n : Nat} {xs : List α} (h : ReadsOf enc d w A n xs) (i : Int) (h0 : 0 ≤ i) (h1 : i < n) : ∃ ad, A = some ad ∧ w.cell? (ad.add i.toNat) = some (enc (rdOf d xs i)) := by
 obtain ⟨ad, e, hc⟩ := h.2.2 (by omega)
 exact ⟨ad, e, hc _ (by omega)⟩
theorem ReadsOf.below {w w1 : World} {A : Option Addr} {n : Nat} {xs : List α} (h : ReadsOf enc d w A n xs) (hb : Below w.heap.size w w1) : ReadsOf enc d w1 A n xs :=
 ⟨h.1, h.2.1, fun hn => by
  obtain ⟨ad, e, hc⟩ := h.2.2 hn
  exact ⟨ad, e, fun j hj => pw_cell_below hb (hc j hj)⟩⟩
end
theorem blk_alloc {w : World} {g : Nat} {o : Obj} (h : w.heap[g]? = some o) (o' : Obj) : (w.alloc o').heap[g]? = some o := (Below.heap_alloc w o' g (blk_lt h)).trans h
theorem blk_new (w : World) (o : Obj) : (w.alloc o).heap[w.heap.size]? = some o := heap_alloc_new w o
theorem own_le {w : World} {base n m c size : Nat} {e : TypeId} {A : Option Addr} {xs : List Value} (h : w.ownsRow base e size (.slice A m c) n xs) : m ≤ c := by
 rcases h.2 with ⟨he, _⟩ | ⟨g, cap, cur, he, _, _, hnc, _⟩
 ·
  injection he with _ h2 h3
  omega
 ·
  injection he with _ h2 h3
  omega
def OwnRow {α : Type} (R : α → List Value → Prop) (e : TypeId) (size : Nat) (w : World) (base : Nat) (v : Value) (ps : List α) : Prop :=
 ∃ inner, w.ownsRow base e size v ps.length inner ∧ Reps R size ps inner
section
variable {α : Type} {R R' : α → List Value → Prop} {e : TypeId} {size : Nat} {w w1 : World} {base : Nat} {v : Value} {ps : List α}
theorem OwnRow.imp_ (h : OwnRow R e size w base v ps) (hR : ∀ p c, R p c → R' p c) : OwnRow R' e size w base v ps := by
 obtain ⟨inner, ho, hr⟩ := h
 exact ⟨inner, ho, hr.imp_ hR⟩
theorem OwnRow.below (h : OwnRow R e size w base v ps) (hb : Below w.heap.size w w1) : OwnRow R e size w1 base v ps := by
 obtain ⟨inner, ho, hr⟩ := h
 exact ⟨inner, pw_own_below ho hb, hr⟩
theorem OwnRow.keep (h : OwnRow R e size w base v ps) {g : Nat} {t : TypeId} {cells : Array Value} (hb : w.heap[g]? = some (.cells cells t (0, 0))) (ht : e ≠ t) (hk : KeepBut w w1 g none) : OwnRow R e size w1 base v ps := by
 obtain ⟨inner, ho, hr⟩ := h
 exact ⟨inner, hk.own ho (Ne.symm (own_ne ho hb ht)) (by cases v.ownBlock <;> simp), hr⟩
theorem OwnRow.reads (h : OwnRow R e size w base v ps) : ∃ A c, v = .slice A ps.length c ∧ ps.length ≤ c ∧ ReadsRow R size w A ps.length ps := by
 obtain ⟨inner, ho, hr⟩ := h
 obtain ⟨A, c, rfl, hrow⟩ := own_reads_row ho hr rfl
 exact ⟨A, c, rfl, own_le ho, hrow⟩
end
section
variable {α : Type} {P : Program}
theorem ReadsOf.len_ {enc : α → Value} {d : α} {w : World} {A : Option Addr} {n : Nat} {xs : List α} (h : ReadsOf enc d w A n xs) : ReadsOf enc d w A xs.length xs := by rw [h.1]; exact h
end
structure Kd (α : Type) where
 sz : Nat
 E : List Nat
 K : World → α → List Value → Prop
 M : World → Nat → (Nat → Prop) → α → List Value → Prop
 K_len : ∀ {w x cs}, K w x cs → cs.length = sz
 K_one : ∀ {w x cs}, K w x cs → ∀ u ∈ cs, u.oneCell' = true
 K_below : ∀ {w w1 : World} {x cs}, Below w.heap.size w w1 → K w x cs → K w1 x cs
 K_of_M : ∀ {w base ok x cs}, M w base ok x cs → K w x cs
 M_mono : ∀ {w base ok ok' x cs}, (∀ k, ok k → ok' k) → M w base ok x cs → M w base ok' x cs
 M_bound : ∀ {w : World} {base ok x cs}, M w base ok x cs → M w base (fun k => ok k ∧ base ≤ k ∧ k < w.heap.size ∧ ∃ q, q ∈ E ∧ ∃ cells, w.heap[k]? = some (.cells cells q (0, 0))) x cs
 M_move : ∀ {w w1 : World} {base ok x cs}, (∀ k, ok k → w1.heap[k]? = w.heap[k]?) → M w base ok x cs → M w1 base ok x cs
 M_lower : ∀ {w base base' ok x cs}, base' ≤ base → M w base ok x cs → M w base' ok x cs
theorem own_move {w w1 : World} {base : Nat} {e : TypeId} {size n : Nat} {v : Value} {xs : List Value} (h : w.ownsRow base e size v n xs) (hm : ∀ k, v.ownBlock = some k → w1.heap[k]? = w.heap[k]?) : w1.ownsRow base e size v n xs := by
 obtain ⟨h1, h2⟩ := h
 refine ⟨h1, ?_⟩
 rcases h2 with h2 | ⟨g, cap, cur, rfl, hg, hh, r⟩
 ·
  exact .inl h2
 ·
  exact .inr ⟨g, cap, cur, rfl, hg, (hm g (by simp [Value.ownBlock])).trans hh, r⟩
theorem own_typed {w : World} {base : Nat} {e : TypeId} {size n : Nat} {v : Value} {xs : List Value} (h : w.ownsRow base e size v n xs) (k : Nat) (hk : v.ownBlock = some k) : ∃ cells, w.heap[k]? = some (.cells cells e (0, 0)) := by
 rcases h.2 with ⟨rfl, _⟩ | ⟨g, cap, cur, rfl, hg, hh, r⟩
 ·
  simp [Value.ownBlock] at hk
 ·
  have : g = k := by simpa [Value.ownBlock] using hk
  subst this
  exact ⟨cur, hh⟩
namespace Kd
def C {α : Type} (d : Kd α) (w : World) (A : Option Addr) (n : Nat) (xs : List α) : Prop := ReadsRow (d.K w) d.sz w A n xs
def R {α : Type} (d : Kd α) (e : Nat) (w : World) (base : Nat) (ok : Nat → Prop) (v : Value) (xs : List α) : Prop :=
 (∀ k, v.ownBlock = some k → ok k) ∧ OwnRow (d.M w base (fun k => ok k ∧ some k ≠ v.ownBlock)) e d.sz w base v xs
section
variable {α : Type} {d : Kd α} {e : Nat} {w w1 : World} {base : Nat} {ok ok' : Nat → Prop} {v : Value} {xs : List α}
theorem C_below {A : Option Addr} {n : Nat} (h : d.C w A n xs) (hb : Below w.heap.size w w1) : d.C w1 A n xs := ReadsRow.imp_ h hb (fun _ _ hp => d.K_below hb hp)
theorem R_mono (h : d.R e w base ok v xs) (hok : ∀ k, ok k → ok' k) : d.R e w base ok' v xs := ⟨fun k hk => hok k (h.1 k hk), h.2.imp_ (fun _ _ hp => d.M_mono (fun k hk => ⟨hok k hk.1, hk.2⟩) hp)⟩
theorem R_bound (h : d.R e w base ok v xs) : d.R e w base (fun k => ok k ∧ base ≤ k ∧ k < w.heap.size ∧ ∃ q, q ∈ e :: d.E ∧ ∃ cells, w.heap[k]? = some (.cells cells q (0, 0))) v xs := by
 obtain ⟨h0, inner, ho, hr⟩ := h
 refine ⟨fun k hk => ?_, inner, ho, hr.imp_ (fun _ _ hp => d.M_mono (fun k hk => ?_) (d.M_bound hp))⟩
 ·
  obtain ⟨cells, hc⟩ := own_typed ho k hk
  exact ⟨h0 k hk, own_base ho k hk, own_lt ho k hk, e, List.mem_cons_self, cells, hc⟩
 ·
  obtain ⟨⟨h1, h2⟩, h3, h4, q, hq, hc⟩ := hk
  exact ⟨⟨h1, h3, h4, q, List.mem_cons_of_mem _ hq, hc⟩, h2⟩
theorem R_move (h : d.R e w base ok v xs) (hm : ∀ k, ok k → w1.heap[k]? = w.heap[k]?) : d.R e w1 base ok v xs := by
 obtain ⟨h0, inner, ho, hr⟩ := h
 exact ⟨h0, inner, own_move ho (fun k hk => hm k (h0 k hk)), hr.imp_ (fun _ _ hp => d.M_move (fun k hk => hm k hk.1) hp)⟩
theorem R_lower {base' : Nat} (h : d.R e w base ok v xs) (hb : base' ≤ base) : d.R e w base' ok v xs := by
 obtain ⟨h0, inner, ho, hr⟩ := h
 exact ⟨h0, inner, own_weaken ho hb, hr.imp_ (fun _ _ hp => d.M_lower hb hp)⟩
theorem R_reads (h : d.R e w base ok v xs) : ∃ A c, v = .slice A xs.length c ∧ xs.length ≤ c ∧ d.C w A xs.length xs := by
 obtain ⟨A, c, he, hl, hr⟩ := OwnRow.reads h.2
 exact ⟨A, c, he, hl, hr.imp_ (Below.refl _ _) (fun _ _ hp => d.K_of_M hp)⟩
end
def scalar {α : Type} (enc : α → Value) (h1 : ∀ x, (enc x).oneCell' = true) : Kd α where
 sz := 1
 E := []
 K := fun _ x cs => cs = [enc x]
 M := fun _ _ _ x cs => cs = [enc x]
 K_len := fun h => by rw [h]; rfl
 K_one := fun h u hu => by
  rw [h] at hu
  rw [List.mem_singleton.1 hu]
  exact h1 _
 K_below := fun _ h => h
 K_of_M := fun h => h
 M_mono := fun _ h => h
 M_bound := fun h => h
 M_move := fun _ h => h
 M_lower := fun _ h => h
def int (k : IntKind) : Kd Int := scalar (Value.int k) (fun _ => rfl)
def bool : Kd Bool := scalar Value.bool (fun _ => rfl)
def slice {α : Type} (e : Nat) (d : Kd α) : Kd (List α) where
 sz := 1
 E := e :: d.E
 K := fun w xs cs => ∃ A c, cs = [.slice A xs.length c] ∧ xs.length ≤ c ∧ d.C w A xs.length xs
 M := fun w base ok xs cs => ∃ v, cs = [v] ∧ d.R e w base ok v xs
 K_len := by
  rintro w x cs ⟨A, c, rfl, _⟩
  rfl
 K_one := by
  rintro w x cs ⟨A, c, rfl, _⟩ u hu
  rw [List.mem_singleton.1 hu]
  rfl
 K_below := by
  rintro w w1 x cs hb ⟨A, c, rfl, hl, hr⟩
  exact ⟨A, c, rfl, hl, C_below hr hb⟩
 K_of_M := by
  rintro w base ok x cs ⟨v, rfl, h⟩
  obtain ⟨A, c, rfl, hl, hr⟩ := R_reads h
  exact ⟨A, c, rfl, hl, hr⟩
 M_mono := by
  rintro w base ok ok' x cs hok ⟨v, rfl, h⟩
  exact ⟨v, rfl, R_mono h hok⟩
 M_bound := by
  rintro w base ok x cs ⟨v, rfl, h⟩
  exact ⟨v, rfl, R_bound h⟩
 M_move := by
  rintro w w1 base ok x cs hm ⟨v, rfl, h⟩
  exact ⟨v, rfl, R_move h hm⟩
 M_lower := by
  rintro w base base' ok x cs hb ⟨v, rfl, h⟩
  exact ⟨v, rfl, R_lower h hb⟩
def bot {α : Type} (sz : Nat) (E : List Nat) : Kd α where
 sz := sz
 E := E
 K := fun _ _ _ => False
 M := fun _ _ _ _ _ => False
 K_len := fun h => h.elim
 K_one := fun h => h.elim
 K_below := fun _ h => h
 K_of_M := fun h => h
 M_mono := fun _ h => h
 M_bound := fun h => h
 M_move := fun _ h => h
 M_lower := fun _ h => h
def upto {α : Type} (F : Kd α → Kd α) (sz : Nat) (E : List Nat) : Nat → Kd α
 | 0 => bot sz E
 | n + 1 => F (upto F sz E n)
theorem reads_of_C {α : Type} {enc : α → Value} {d : α} {h1 : ∀ x, (enc x).oneCell' = true} {w : World} {A : Option Addr} {n : Nat} {xs : List α} (h : (scalar enc h1).C w A n xs) : ReadsOf enc d w A n xs := by
 refine ⟨h.1, h.2.1, fun hn => ?_⟩
 obtain ⟨ad, e, hc⟩ := h.2.2 hn
 refine ⟨ad, e, fun j hj => ?_⟩
 have hl : j < xs.length := by have := h.1; omega
 obtain ⟨c, _, hK, hcell⟩ := hc j _ (List.getElem?_eq_getElem hl)
 have hK' : c = [enc xs[j]] := hK
 subst hK'
 have := hcell 0 _ rfl
 simpa [scalar, List.getD_eq_getElem?_getD, List.getElem?_eq_getElem hl] using this
end Kd
namespace Kd
section
variable {w W : World} {A : Option Addr} {n : Nat}
theorem at_int {k : IntKind} {xs : List Int} (h : (Kd.int k).C w A n xs) (i : Int) (h0 : 0 ≤ i) (h1 : i < n) : ∃ ad, A = some ad ∧ w.cell? (ad.add i.toNat) = some (.int k (rd xs i)) :=
 ReadsOf.at_ (reads_of_C (enc := Value.int k) (d := (0 : Int)) (h1 := fun _ => rfl) h) i h0 h1
variable {α : Type} {enc : α → Value} {h1 : ∀ x, (enc x).oneCell' = true} {e base g cap : Nat} {ok : Nat → Prop} {xs : List α}
end
end Kd
def QRow (w : World) (base : Nat) (e : TypeId) (size : Nat) (v : Value) (n : Nat) (xs : List Value) : Prop :=
 xs.length = n * size ∧
 ((n = 0 ∧ ∃ A, v = .slice A 0 0 ∧ ∀ a, A = some a → base ≤ a.block ∧ ∃ cur, w.heap[a.block]? = some (.cells cur e (0, 0))) ∨
  ∃ g off cap cur, v = .slice (some ⟨g, off * size, none⟩) n cap ∧ base ≤ g ∧ w.heap[g]? = some (.cells cur e (0, 0)) ∧ n ≤ cap ∧ off + cap ≤ maxLen ∧ cur.size = (off + cap) * size ∧ (cur.toList.drop (off * size)).take (n * size) = xs)
namespace Kd
def Q {α : Type} (d : Kd α) (e : Nat) (w : World) (base : Nat) (ok : Nat → Prop) (v : Value) (xs : List α) : Prop :=
 (∀ k, v.ownBlock = some k → ok k) ∧ ∃ inner, QRow w base e d.sz v xs.length inner ∧ Reps (d.M w base (fun k => ok k ∧ some k ≠ v.ownBlock)) d.sz xs inner
end Kd
theorem below_step {w W w2 : World} (h : Below w.heap.size w W) (k : Below W.heap.size W w2) : Below w.heap.size w w2 := below_then h h.size k
theorem ReadsInt.nil (W : World) (k : IntKind) : ReadsInt W k none ([] : List Int).length [] := ⟨rfl, by simp, fun h => absurd h (Nat.lt_irrefl 0)⟩
theorem ReadsInt.drewN {W : World} {k : IntKind} {A : Option Addr} {n : Nat} {xs : List Int} (h : ReadsInt W k A n xs) (m : Nat) : ReadsInt (W.drewN m) k A n xs := h
theorem keep_cell {w W : World} {g : Nat} (h : KeepBut w W g none) {a : Addr} {v : Value} (hc : w.cell? a = some v) (hne : a.block ≠ g) : W.cell? a = some v := by
 have := h.2 a.block (World.block_lt_of_cell? w a hc) hne (by simp)
 simpa [World.cell?, this] using hc
theorem add_block (a : Addr) (i : Nat) : (a.add i).block = a.block := by unfold Addr.add; split <;> rfl
theorem ReadsOf.nil {α : Type} (enc : α → Value) (d : α) (W : World) : ReadsOf enc d W none ([] : List α).length [] := ⟨rfl, by simp, fun h => absurd h (Nat.lt_irrefl 0)⟩
theorem ReadsOf.drewN {α : Type} {enc : α → Value} {d : α} {W : World} {A : Option Addr} {n : Nat} {xs : List α} (h : ReadsOf enc d W A n xs) (m : Nat) : ReadsOf enc d (W.drewN m) A n xs := h
theorem ReadsInt.keep {w W : World} {k : IntKind} {A : Option Addr} {n g : Nat} {xs : List Int} (h : ReadsInt w k A n xs) (hk : KeepBut w W g none) (hf : ∀ ad, A = some ad → 0 < n → ad.block ≠ g) : ReadsInt W k A n xs :=
 ⟨h.1, h.2.1, fun hn => by
  obtain ⟨ad, e, hc⟩ := h.2.2 hn
  exact ⟨ad, e, fun j hj => keep_cell hk (hc j hj) (by rw [add_block]; exact hf ad e hn)⟩⟩
theorem ReadsOf.keep {α : Type} {enc : α → Value} {d : α} {w W : World} {A : Option Addr} {n g : Nat} {xs : List α} (h : ReadsOf enc d w A n xs) (hk : KeepBut w W g none) (hf : ∀ ad, A = some ad → 0 < n → ad.block ≠ g) : ReadsOf enc d W A n xs :=
 ⟨h.1, h.2.1, fun hn => by
  obtain ⟨ad, e, hc⟩ := h.2.2 hn
  exact ⟨ad, e, fun j hj => keep_cell hk (hc j hj) (by rw [add_block]; exact hf ad e hn)⟩⟩
end Go.Proofs.YtbakdobjidjncaaW.PrintWords
end
section
namespace Go.Proofs.YtbakdobjidjncaaW.PrintLast
section
variable {P : Program} {ops : Array Oper} {Q : Exit → Act → World → Prop} {md : Region.Mode} {S : World → Prop} {ds : List Nat}
def ListedClosed (md : Region.Mode) (ops : Array Oper) (listed : Array Bool) : Prop :=
 ∀ j oj, ops[j]? = some oj → listed.getD j false = true → ∀ e ∈ oj.after, Region.binds md e = true → listed.getD e.on false = true
theorem ListedClosed.set {listed : Array Bool} {i : Nat} (h : ListedClosed md ops listed) (hi : i ∈ Region.ready md ops listed) : ListedClosed md ops (listed.setIfInBounds i true) := by
 obtain ⟨_, oi, hoi, hall⟩ := mem_ready.1 hi
 intro j oj hj hl e he hb
 by_cases hij : i = j
 ·
  subst hij
  have : oj = oi := Option.some.inj (hj.symm.trans hoi)
  subst this
  exact getD_set_true (hall e he hb)
 ·
  rw [getD_set_ne false hij] at hl
  exact getD_set_true (h j oj hj hl e he hb)
def wpAnyLast (P : Program) (md : Region.Mode) (ops : Array Oper) (Q : Exit → Act → World → Prop) (S : World → Prop) (ds : List Nat) : Nat → Array Bool → Act → World → Prop
 | 0, listed, a, w => Region.ready md ops listed = [] ∧ Q .normal a w
 | fuel + 1, listed, a, w =>
  (Region.ready md ops listed = [] → Q .normal a w) ∧
  ∀ i ∈ Region.ready md ops listed, wpOp P ops Q i (fun a' w' => (i ∉ ds → S w → S w') ∧ wpAnyLast P md ops Q S ds fuel (listed.setIfInBounds i true) a' w') a w
end
section
variable {P : Program} {ops : Array Oper} {Q : Exit → Act → World → Prop} {md : Region.Mode} {S : World → Prop} {ds : List Nat}
def AllReadyL (P : Program) (md : Region.Mode) (ops : Array Oper) (Q : Exit → Act → World → Prop) (S : World → Prop) (ds : List Nat) (fuel : Nat) (listed : Array Bool) (a : Act) (w : World) (rs : List Nat) : Prop :=
 ∀ i ∈ rs, wpOp P ops Q i (fun a' w' => (i ∉ ds → S w → S w') ∧ wpAnyLast P md ops Q S ds fuel (listed.setIfInBounds i true) a' w') a w
theorem AllReadyL.nil {fuel : Nat} {listed : Array Bool} {a : Act} {w : World} : AllReadyL P md ops Q S ds fuel listed a w [] := fun _ h => by cases h
theorem AllReadyL.cons {fuel : Nat} {listed : Array Bool} {a : Act} {w : World} {i : Nat} {o : Oper} {rs : List Nat} (ho : ops[i]? = some o) (hd : i ∉ ds)
  (h : ∀ K' : Act → World → Prop, Shut (∀ a w, S w → (S w → wpAnyLast P md ops Q S ds fuel (listed.setIfInBounds i true) a w) → K' a w) → if Region.wanted o (yielded ops a.tmps) = true then Oper.wp P o a w K' Q else K' (a.put o.dst undef) w)
  (hs : AllReadyL P md ops Q S ds fuel listed a w rs) : AllReadyL P md ops Q S ds fuel listed a w (i :: rs) := fun j hj => by
 rcases List.mem_cons.1 hj with rfl | hj
 ·
  exact wpOp_step ho (fun K' hK => h K' (fun a w hS hW => hK a w ⟨fun _ _ => hS, hW hS⟩))
 ·
  exact hs j hj
end
end Go.Proofs.YtbakdobjidjncaaW.PrintLast
namespace Go.Proofs.YtbakdobjidjncaaW.PrintWords
open Go.RowKit
namespace Kd
def tag {α : Type} (f : Nat → Nat) (d : Kd α) : Kd (α × Nat) where
 sz := d.sz
 E := d.E
 K := fun w x cs => d.K w x.1 cs
 M := fun w base ok x cs => d.M w base (fun k => ok k ∧ f k = x.2) x.1 cs
 K_len := fun h => d.K_len h
 K_one := fun h => d.K_one h
 K_below := fun hb h => d.K_below hb h
 K_of_M := fun h => d.K_of_M h
 M_mono := fun hok h => d.M_mono (fun k hk => ⟨hok k hk.1, hk.2⟩) h
 M_bound := fun h => d.M_mono (fun _ hk => ⟨⟨hk.1.1, hk.2⟩, hk.1.2⟩) (d.M_bound h)
 M_move := fun hm h => d.M_move (fun k hk => hm k hk.1) h
 M_lower := fun hb h => d.M_lower hb h
def raw (sz : Nat) : Kd (List Value) where
 sz := sz
 E := []
 K := fun _ x cs => cs = x ∧ cs.length = sz ∧ ∀ u ∈ cs, u.oneCell' = true
 M := fun _ _ _ x cs => cs = x ∧ cs.length = sz ∧ ∀ u ∈ cs, u.oneCell' = true
 K_len := fun h => h.2.1
 K_one := fun h => h.2.2
 K_below := fun _ h => h
 K_of_M := fun h => h
 M_mono := fun _ h => h
 M_bound := fun h => h
 M_move := fun _ h => h
 M_lower := fun _ h => h
def S {α : Type} (d : Kd α) (e : Nat) (w : World) (base : Nat) (ok : Nat → Prop) (v : Value) (xs : List α) : Prop := ∃ f, (tag f d).R e w base ok v xs.zipIdx
def gap {α : Type} (f : Nat → Nat) (d : Kd α) (i : Nat) (c : List Value) : Kd (α × Nat) where
 sz := d.sz
 E := d.E
 K := fun w x cs => (x.2 = i → cs = c ∧ cs.length = d.sz ∧ ∀ u ∈ cs, u.oneCell' = true) ∧ (x.2 ≠ i → d.K w x.1 cs)
 M := fun w base ok x cs => (x.2 = i → cs = c ∧ cs.length = d.sz ∧ ∀ u ∈ cs, u.oneCell' = true) ∧ (x.2 ≠ i → d.M w base (fun k => ok k ∧ f k = x.2) x.1 cs)
 K_len := fun {w x cs} h => by
  by_cases hx : x.2 = i
  ·
   exact (h.1 hx).2.1
  ·
   exact d.K_len (h.2 hx)
 K_one := fun {w x cs} h => by
  by_cases hx : x.2 = i
  ·
   exact (h.1 hx).2.2
  ·
   exact d.K_one (h.2 hx)
 K_below := fun hb h => ⟨h.1, fun hx => d.K_below hb (h.2 hx)⟩
 K_of_M := fun h => ⟨h.1, fun hx => d.K_of_M (h.2 hx)⟩
 M_mono := fun hok h => ⟨h.1, fun hx => d.M_mono (fun k hk => ⟨hok k hk.1, hk.2⟩) (h.2 hx)⟩
 M_bound := fun h => ⟨h.1, fun hx => d.M_mono (fun _ hk => ⟨⟨hk.1.1, hk.2⟩, hk.1.2⟩) (d.M_bound (h.2 hx))⟩
 M_move := fun hm h => ⟨h.1, fun hx => d.M_move (fun k hk => hm k hk.1) (h.2 hx)⟩
 M_lower := fun hb h => ⟨h.1, fun hx => d.M_lower hb (h.2 hx)⟩
def H {α : Type} (d : Kd α) (e : Nat) (w : World) (base : Nat) (ok : Nat → Prop) (v : Value) (xs : List α) (i : Int) (oki : Nat → Prop) (c : List Value) : Prop :=
 (∀ k, oki k → ok k) ∧ ∃ f, (gap f d i.toNat c).R e w base (fun k => ok k ∧ ¬ oki k) v xs.zipIdx
end Kd
end Go.Proofs.YtbakdobjidjncaaW.PrintWords
namespace Go.Proofs.YtbakdobjidjncaaW.PrintWords
open Go.RowKit
namespace Kd
structure Heap {α : Type} (d : Kd α) : Prop where
 K : ∀ {w w1 : World} {x : α} {cs : List Value}, (∀ k, k < w.heap.size → w1.heap[k]? = w.heap[k]?) → d.K w x cs → d.K w1 x cs
theorem cell_heap {w w1 : World} (hb : ∀ k, k < w.heap.size → w1.heap[k]? = w.heap[k]?) {a : Addr} {v : Value} (h : w.cell? a = some v) : w1.cell? a = some v := by
 have := hb a.block (World.block_lt_of_cell? w a h)
 simpa [World.cell?, this] using h
theorem Heap.C {α : Type} {d : Kd α} (hd : Heap d) {w w1 : World} {A : Option Addr} {n : Nat} {xs : List α} (hb : ∀ k, k < w.heap.size → w1.heap[k]? = w.heap[k]?) (h : d.C w A n xs) : d.C w1 A n xs :=
 ⟨h.1, h.2.1, fun hn => by
  obtain ⟨ad, e, hc⟩ := h.2.2 hn
  refine ⟨ad, e, fun j p hj => ?_⟩
  obtain ⟨c, hs, hr, hcell⟩ := hc j p hj
  exact ⟨c, hs, hd.K hb hr, fun i u hu => cell_heap hb (hcell i u hu)⟩⟩
end Kd
end Go.Proofs.YtbakdobjidjncaaW.PrintWords
namespace Go.Proofs.YtbakdobjidjncaaW.PrintWords
open Go.RowKit
def Kept (w W : World) (S : Nat → Prop) : Prop := w.heap.size ≤ W.heap.size ∧ ∀ i, i < w.heap.size → ¬ S i → W.heap[i]? = w.heap[i]?
section
variable {w W W2 : World} {S S2 S' : Nat → Prop}
theorem Kept.refl (w : World) (S : Nat → Prop) : Kept w w S := ⟨Nat.le_refl _, fun _ _ _ => rfl⟩
theorem Kept.of_below (h : Below w.heap.size w W) (S : Nat → Prop) : Kept w W S := ⟨h.size, fun i hi _ => h.block i hi⟩
theorem Kept.mono (h : Kept w W S) (hs : ∀ k, S k → S' k) : Kept w W S' := ⟨h.1, fun i hi hn => h.2 i hi (fun hk => hn (hs i hk))⟩
theorem Kept.then_ (h : Kept w W S) (k : Kept W W2 S2) (hs : ∀ k, S2 k → S k ∨ w.heap.size ≤ k) : Kept w W2 S :=
 ⟨Nat.le_trans h.1 k.1, fun i hi hn => (k.2 i (Nat.lt_of_lt_of_le hi h.1) (fun h2 => (hs i h2).elim hn (fun h3 => by omega))).trans (h.2 i hi hn)⟩
theorem Kept.below (h : Kept w W S) (hb : Below W.heap.size W W2) : Kept w W2 S := h.then_ (Kept.of_below hb (fun _ => False)) (fun _ hk => hk.elim)
theorem Kept.alloc (h : Kept w W S) (o : Obj) : Kept w (W.alloc o) S := h.below (zab (Below.refl _ _) o)
theorem Kept.drew (h : Kept w W S) : Kept w W.drew S := h
theorem Kept.drewN (h : Kept w W S) (m : Nat) : Kept w (W.drewN m) S := h
theorem Kept.setCell (h : Kept w W S) {p : Addr} (hp : S p.block ∨ w.heap.size ≤ p.block) (u : Value) : Kept w (W.setCell p u) S :=
 h.then_ (S2 := fun k => k = p.block) ⟨by simp [World.setCell], fun i _ hn => Below.heap_setCell W p u i hn⟩ (fun k hk => by rw [hk]; exact hp)
theorem Kept.keep {g : Nat} (h : KeepBut w W g none) (k : Kept W W2 S2) (hs : ∀ k, S2 k → w.heap.size ≤ k) : KeepBut w W2 g none :=
 ⟨Nat.le_trans h.1 k.1, fun i hi hg hr => (k.2 i (Nat.lt_of_lt_of_le hi h.1) (fun h2 => by have := hs i h2; omega)).trans (h.2 i hi hg hr)⟩
end
end Go.Proofs.YtbakdobjidjncaaW.PrintWords
namespace Go.Proofs.YtbakdobjidjncaaW.PrintWords
open Go.RowKit
def Foot (P : World → Prop) (W : World) (ok : Nat → Prop) : Prop := ∀ W' : World, (∀ k, ok k → k < W.heap.size → W'.heap[k]? = W.heap[k]?) → P W'
theorem heap_lt {W W1 : World} {k : Nat} (h : W1.heap[k]? = W.heap[k]?) (hlt : k < W.heap.size) : k < W1.heap.size := by
 rw [Array.getElem?_eq_getElem hlt] at h
 exact (Array.getElem?_eq_some_iff.1 h).1
namespace Foot
variable {P Q : World → Prop} {W W1 : World} {ok ok' : Nat → Prop}
theorem mono (h : Foot P W ok) (hok : ∀ k, ok k → ok' k) : Foot P W ok' := fun W' hW => h W' (fun k hk hlt => hW k (hok k hk) hlt)
theorem step (h : Foot P W ok) (hm : ∀ k, ok k → k < W.heap.size → W1.heap[k]? = W.heap[k]?) : Foot P W1 ok := fun W' hW => h W' (fun k hk hlt => (hW k hk (heap_lt (hm k hk hlt) hlt)).trans (hm k hk hlt))
end Foot
namespace Kd
def F {α : Type} (d : Kd α) (W : World) (ok : Nat → Prop) (A : Option Addr) (n : Nat) (xs : List α) : Prop := Foot (fun W => d.C W A n xs) W ok
def FK {α : Type} (d : Kd α) (W : World) (ok : Nat → Prop) (x : α) (c : List Value) : Prop := Foot (fun W => d.K W x c) W ok
end Kd
end Go.Proofs.YtbakdobjidjncaaW.PrintWords
namespace Go.Proofs.YtbakdobjidjncaaW.PrintWords
open Go.RowKit
namespace Kd
section
variable {α : Type} {d : Kd α} {e base n cc g : Nat} {ok ok' okp S : Nat → Prop} {w w1 W W1 : World} {A : Option Addr} {u v v1 : Value} {xs : List α} {x : α} {c : List Value}
def N {α : Type} (d : Kd α) (e : Nat) (w : World) (base : Nat) (ok : Nat → Prop) (v : Value) (xs : List α) : Prop :=
 (∀ k, v.ownBlock = some k → ok k) ∧ ∃ rows : List (List Value), rows.length = xs.length ∧ (raw d.sz).R e w base (fun k => some k = v.ownBlock) v rows ∧ ∀ (j : Nat) (x : α) (c : List Value), xs[j]? = some x → rows[j]? = some c → FK d w (fun k => ok k ∧ some k ≠ v.ownBlock) x c
end
end Kd
end Go.Proofs.YtbakdobjidjncaaW.PrintWords
namespace Go.Proofs.YtbakdobjidjncaaW.PrintWords
theorem Reps.one {α : Type} {R : α → List Value → Prop} {ps : List α} {cs : List Value} {p : α} {v : Value} (hp : R p [v]) (h : Reps R 1 ps cs) : Reps R 1 (p :: ps) (v :: cs) := by
 refine ⟨by simp [h.1], fun j q hq => ?_⟩
 cases j with
 | zero =>
  simp only [List.getElem?_cons_zero, Option.some.injEq] at hq
  subst hq
  simpa using hp
 | succ j =>
  simp only [List.getElem?_cons_succ] at hq
  have h1 := h.2 j q hq
  simpa [Nat.mul_one] using h1
theorem Reps.front {α : Type} {R : α → List Value → Prop} {size : Nat} {ps : List α} {cs c all : List Value} {p : α} (hp : R p c) (hc : c.length = size) (h : Reps R size ps cs) (ha : c ++ cs = all) : Reps R size (p :: ps) all := by
 subst ha
 refine ⟨by rw [List.length_append, hc, h.1, List.length_cons, Nat.succ_mul, Nat.add_comm], fun j q hq => ?_⟩
 cases j with
 | zero =>
  simp only [List.getElem?_cons_zero, Option.some.injEq] at hq
  subst hq
  rw [Nat.zero_mul, List.drop_zero, List.take_append_of_le_length (by omega), List.take_of_length_le (by omega)]
  exact hp
 | succ j =>
  simp only [List.getElem?_cons_succ] at hq
  have h1 := h.2 j q hq
  rw [Nat.succ_mul, List.drop_append, List.drop_of_length_le (by rw [hc]; exact Nat.le_add_left _ _), List.nil_append, hc, Nat.add_sub_cancel]
  exact h1
theorem Reps.c2 {α : Type} {R : α → List Value → Prop} {ps : List α} {cs : List Value} {p : α} {va vb : Value} (hp : R p [va, vb]) (h : Reps R 2 ps cs) : Reps R 2 (p :: ps) (va :: vb :: cs) := Reps.front hp rfl h rfl
theorem Reps.c3 {α : Type} {R : α → List Value → Prop} {ps : List α} {cs : List Value} {p : α} {va vb vc : Value} (hp : R p [va, vb, vc]) (h : Reps R 3 ps cs) : Reps R 3 (p :: ps) (va :: vb :: vc :: cs) := Reps.front hp rfl h rfl
theorem Reps.c4 {α : Type} {R : α → List Value → Prop} {ps : List α} {cs : List Value} {p : α} {va vb vc vd : Value} (hp : R p [va, vb, vc, vd]) (h : Reps R 4 ps cs) : Reps R 4 (p :: ps) (va :: vb :: vc :: vd :: cs) := Reps.front hp rfl h rfl
theorem Reps.c5 {α : Type} {R : α → List Value → Prop} {ps : List α} {cs : List Value} {p : α} {va vb vc vd ve : Value} (hp : R p [va, vb, vc, vd, ve]) (h : Reps R 5 ps cs) : Reps R 5 (p :: ps) (va :: vb :: vc :: vd :: ve :: cs) := Reps.front hp rfl h rfl
theorem Reps.c6 {α : Type} {R : α → List Value → Prop} {ps : List α} {cs : List Value} {p : α} {va vb vc vd ve vf : Value} (hp : R p [va, vb, vc, vd, ve, vf]) (h : Reps R 6 ps cs) : Reps R 6 (p :: ps) (va :: vb :: vc :: vd :: ve :: vf :: cs) := Reps.front hp rfl h rfl
end Go.Proofs.YtbakdobjidjncaaW.PrintWords
namespace Go.Proofs.YtbakdobjidjncaaW.PrintMore
open Go.RowKit Go.Proofs.YtbakdobjidjncaaW.PrintWords
theorem max2_int (k k' : IntKind) (x y : Int) : Builtin.max2 (.int k x) (.int k' y) = pure (.int k (if x < y then y else x)) := by simp only [Builtin.max2, gt_iff_lt]
theorem min2_int (k k' : IntKind) (x y : Int) : Builtin.min2 (.int k x) (.int k' y) = pure (.int k (if y < x then y else x)) := by simp only [Builtin.min2]
theorem max_two (ats : Array TypeId) (ty : TypeId) (a b : Value) : Builtin.max_ ats ty #[a, b] = (Builtin.max2 a b >>= fun s => pure s) := by simp only [Builtin.max_, List.foldlM_cons, List.foldlM_nil]
theorem min_two (ats : Array TypeId) (ty : TypeId) (a b : Value) : Builtin.min_ ats ty #[a, b] = (Builtin.min2 a b >>= fun s => pure s) := by simp only [Builtin.min_, List.foldlM_cons, List.foldlM_nil]
theorem max_three (ats : Array TypeId) (ty : TypeId) (a b c : Value) : Builtin.max_ ats ty #[a, b, c] = (Builtin.max2 a b >>= fun s => Builtin.max2 s c >>= fun s => pure s) := by simp only [Builtin.max_, List.foldlM_cons, List.foldlM_nil]
theorem min_three (ats : Array TypeId) (ty : TypeId) (a b c : Value) : Builtin.min_ ats ty #[a, b, c] = (Builtin.min2 a b >>= fun s => Builtin.min2 s c >>= fun s => pure s) := by simp only [Builtin.min_, List.foldlM_cons, List.foldlM_nil]
theorem max_four (ats : Array TypeId) (ty : TypeId) (a b c d : Value) : Builtin.max_ ats ty #[a, b, c, d] = (Builtin.max2 a b >>= fun s => Builtin.max2 s c >>= fun s => Builtin.max2 s d >>= fun s => pure s) := by simp only [Builtin.max_, List.foldlM_cons, List.foldlM_nil]
theorem min_four (ats : Array TypeId) (ty : TypeId) (a b c d : Value) : Builtin.min_ ats ty #[a, b, c, d] = (Builtin.min2 a b >>= fun s => Builtin.min2 s c >>= fun s => Builtin.min2 s d >>= fun s => pure s) := by simp only [Builtin.min_, List.foldlM_cons, List.foldlM_nil]
end Go.Proofs.YtbakdobjidjncaaW.PrintMore
namespace Go.Proofs.YtbakdobjidjncaaW.PrintMore
open Go.RowKit Go.Proofs.YtbakdobjidjncaaW.PrintWords
theorem zA {p : Prop} (h : p) : Aside0 p := Aside0.mk h
theorem zF {p : Prop} (h : p := by first | rfl | (simp; done) | (simp [*]; done)) : p := h
end Go.Proofs.YtbakdobjidjncaaW.PrintMore

end
section
namespace Go.Proofs.Ytbakdobjidjncaa.P
open Go.RowKit Go.Proofs.YtbakdobjidjncaaW.PrintWords
def GlobX (w : World) : Prop := True
theorem GlobX.below {w w1 : World} (h : GlobX w) (hb : Below w.heap.size w w1) : GlobX w1 := trivial
def Glob (w : World) : Prop := Lib.TabIs Try.prog w "internal/strconv.uint64pow10" .u64 Lib.pow10Tab ∧ GlobX w
theorem Glob.below {w w1 : World} (h : Glob w) (hb : Below w.heap.size w w1) : Glob w1 := by
 refine ⟨?_, GlobX.below h.2 hb⟩
 have h := h.1
 unfold Lib.TabIs at *
 cases hg : (Try.prog).globalNamed "internal/strconv.uint64pow10" with
 | none => simp [World.var?, hg] at h
 | some g =>
  refine var?_below hb hg ?_ h
  simp only [World.var?, hg, Option.bind_some] at h
  rcases Nat.lt_or_ge g w.heap.size with h1 | h1
  ·
   exact h1
  ·
   rw [Array.getElem?_eq_none h1] at h
   cases h
end Go.Proofs.Ytbakdobjidjncaa.P
end
section
namespace Go.Proofs
open Go.Shelf
def Try.lays189_ren : Go.Shelf.Ren := ⟨fun | 189 => 45 | 125 => 58 | 257 => 57 | 128 => 73 | 129 => 74 | 294 => 64 | 295 => 65 | 296 => 66 | 297 => 67 | 298 => 68 | 299 => 69 | 216 => 70 | 300 => 71 | 301 => 72 | 328 => 77 | 329 => 78 | 330 => 79 | 331 => 80 | 332 => 81 | 215 => 82 | 343 => 84 | n => n, fun | 28 => 26 | 3 => 3 | 46 => 101 | 0 => 0 | 51 => 119 | 53 => 121 | 4 => 4 | 183 => 111 | 182 => 110 | 131 => 116 | 5 => 5 | 9 => 9 | 218 => 122 | 222 => 126 | 228 => 129 | 229 => 130 | n => n, fun | n => n⟩
theorem Try.lays189 : Go.Proofs.Lays.n189 Try.prog Try.lays189_ren := {
 mixed := by kernel_rfl
 f125 := Try.func58.trans (congrArg some (by kernel_rfl))
 f128 := Try.func73.trans (congrArg some (by kernel_rfl))
 f129 := Try.func74.trans (congrArg some (by kernel_rfl))
 f189 := Try.func45.trans (congrArg some (by kernel_rfl))
 f215 := Try.func82.trans (congrArg some (by kernel_rfl))
 f216 := Try.func70.trans (congrArg some (by kernel_rfl))
 f257 := Try.func57.trans (congrArg some (by kernel_rfl))
 f294 := Try.func64.trans (congrArg some (by kernel_rfl))
 f295 := Try.func65.trans (congrArg some (by kernel_rfl))
 f296 := Try.func66.trans (congrArg some (by kernel_rfl))
 f297 := Try.func67.trans (congrArg some (by kernel_rfl))
 f298 := Try.func68.trans (congrArg some (by kernel_rfl))
 f299 := Try.func69.trans (congrArg some (by kernel_rfl))
 f300 := Try.func71.trans (congrArg some (by kernel_rfl))
 f301 := Try.func72.trans (congrArg some (by kernel_rfl))
 f328 := Try.func77.trans (congrArg some (by kernel_rfl))
 f329 := Try.func78.trans (congrArg some (by kernel_rfl))
 f330 := Try.func79.trans (congrArg some (by kernel_rfl))
 f331 := Try.func80.trans (congrArg some (by kernel_rfl))
 f332 := Try.func81.trans (congrArg some (by kernel_rfl))
 f343 := Try.func84.trans (congrArg some (by kernel_rfl))
 t0 := Try.underlying0
 a0 := Try.isAgg0
 z0 := Try.sizeOf0
 v0 := Try.zeroValue0
 t3 := Try.underlying3
 a3 := Try.isAgg3
 z3 := Try.sizeOf3
 v3 := Try.zeroValue3
 t4 := Try.underlying4
 a4 := Try.isAgg4
 z4 := Try.sizeOf4
 v4 := Try.zeroValue4
 t5 := Try.underlying5
 a5 := Try.isAgg5
 z5 := Try.sizeOf5
 v5 := Try.zeroValue5
 t9 := Try.underlying9
 a9 := Try.isAgg9
 z9 := Try.sizeOf9
 v9 := Try.zeroValue9
 t28 := Try.underlying26
 a28 := Try.isAgg26
 z28 := Try.sizeOf26
 v28 := Try.zeroValue26
 t46 := Try.underlying101
 a46 := Try.isAgg101
 z46 := Try.sizeOf101
 v46 := Try.zeroValue101
 t51 := Try.underlying119
 a51 := Try.isAgg119
 z51 := Try.sizeOf119
 v51 := Try.zeroValue119
 t53 := Try.underlying121
 a53 := Try.isAgg121
 z53 := Try.sizeOf121
 v53 := Try.zeroValue121
 t131 := Try.underlying116
 a131 := Try.isAgg116
 z131 := Try.sizeOf116
 v131 := Try.zeroValue116
 t182 := Try.underlying110
 a182 := Try.isAgg110
 z182 := Try.sizeOf110
 v182 := Try.zeroValue110
 t183 := Try.underlying111
 a183 := Try.isAgg111
 z183 := Try.sizeOf111
 v183 := Try.zeroValue111
 t218 := Try.underlying122
 a218 := Try.isAgg122
 z218 := Try.sizeOf122
 v218 := Try.zeroValue122
 t222 := Try.underlying126
 a222 := Try.isAgg126
 z222 := Try.sizeOf126
 v222 := Try.zeroValue126
 t228 := Try.underlying129
 a228 := Try.isAgg129
 z228 := Try.sizeOf129
 v228 := Try.zeroValue129
 t229 := Try.underlying130
 a229 := Try.isAgg130
 z229 := Try.sizeOf130
 v229 := Try.zeroValue130 }
open Go.Sort Go.RowKit in
theorem Try.slices_Sort_int (blk off cap : Nat) (zs : List Int) (w : World) (hH : Holds (Value.int .i64) w blk off zs.toArray) (hblk : blk < w.heap.size) (hsz : zs.length < 4611686018427387904) :
  Calls Try.prog 45 #[.slice (some ⟨blk, off, none⟩) zs.length cap] w fun e w' =>
   e = .returned (.tuple #[]) ∧ ∃ n os, w' = grow (putRow (Value.int .i64) (Sort.ahead w n) blk off (zs.mergeSort fun x y => decide (x ≤ y)).toArray) os := Any.slices_Sort_int Try.lays189 blk off cap zs w hH hblk hsz
def Try.laysNm215_ren : Go.Shelf.Ren := ⟨fun | 15 => 55 | n => n, fun | 22 => 26 | 3 => 3 | 4 => 4 | n => n, fun | n => n⟩
theorem Try.laysNm215 : Go.Proofs.Lays2.n15 Try.prog Try.laysNm215_ren := {
 mixed := by kernel_rfl
 f15 := Try.func55.trans (congrArg some (by kernel_rfl))
 t3 := Try.underlying3
 a3 := Try.isAgg3
 z3 := Try.sizeOf3
 v3 := Try.zeroValue3
 t4 := Try.underlying4
 a4 := Try.isAgg4
 z4 := Try.sizeOf4
 v4 := Try.zeroValue4
 t22 := Try.underlying26
 a22 := Try.isAgg26
 z22 := Try.sizeOf26
 v22 := Try.zeroValue26
 i3 := by kernel_rfl }
open Go.RowKit Go.Lib in
theorem Try.slices_Clone_int (b off n c : Nat) (zs : List Int) (w : World) (hz : n ≤ zs.length) (hbig : n * 8 ≤ 140737488355328) (hc : ∀ j, j < zs.length → w.cell? ⟨b, off + j, none⟩ = some (.int .i64 (zs.getD j 0))) :
  Calls Try.prog 55 #[.slice (some ⟨b, off, none⟩) n c] w fun e w' => ∃ v', e = .returned v' ∧ w'.ownsRow w.heap.size 3 1 v' n ((zs.take n).map (Value.int .i64)) ∧ v' ≠ .slice none 0 0 ∧ Below w.heap.size w w' := Any.slices_Clone_int Try.laysNm215 b off n c zs w hz hbig hc
end Go.Proofs
end
section
namespace Go.Proofs.Ytbakdobjidjncaa.P
open Go.RowKit Go.Proofs.YtbakdobjidjncaaW.PrintWords Go.Proofs.YtbakdobjidjncaaW.PrintLast Go.Proofs.YtbakdobjidjncaaW.PrintMore
attribute [local go_sem] max2_int min2_int max_two min_two max_three min_three max_four min_four
def za.l0 : Nat → List Int → Int → Int → Int → Option (Int)
 | 0, _, _, _, _ => none
 | k + 1, x0, x1, x7, x8 => if x8 < x7 then (if 0 ≤ x8 then (if x8 < (x0.length : Int) then (if x1 = (rd x0 x8) then (some x8) else (za.l0 k x0 x1 x7 (wrap64 (x8 + 1)))) else (none)) else (none)) else (some (-1))
def za.f (k : Nat) (l0 : List Int) (a1 : Int) : Option (Int) := za.l0 k l0 a1 (l0.length : Int) 0
theorem za.calls (k : Nat) (A0 : Option Addr) (c0 : Nat) (l0 : List Int) (a1 : Int) (r : Int) (w : World) (hr0 : Kd.C (Kd.int .i64) w A0 l0.length l0) (hc0 : l0.length ≤ c0) (h : za.f k l0 a1 = some r) :
  Calls Try.prog 53 #[.slice A0 l0.length c0, .int .i64 a1] w fun e w' => e = .returned (.int .i64 r) ∧ Drawn0 w w' := by
 have HR0 := zA hr0
 have HC0 := zA hc0
 clear hr0 hc0
 have H : (za.l0 k l0 a1 (l0.length : Int) 0) = some r := h
 clear h
 have H' := zA H
 clear H
 go_enter Try.func53, Try.ntmps53
 go_wp2
 go_loopg [8] k (fun kq v8 w' => ∃ (x8_1 : Int), v8 = .int .i64 x8_1 ∧ Aside0 (za.l0 kq l0 a1 (l0.length : Int) x8_1 = some r) ∧ Aside0 (kq ≤ k) ∧ Drawn0 w w')
 case atStart => exact ⟨(0), (zF), H', ⟨Nat.le_refl _⟩, by repeat (first | exact Drawn0.refl _ | apply Drawn0.step)⟩
 case round =>
  clear H'
  try clear p2
  obtain ⟨x8_1, rfl, HA, HK1, ⟨m1, rfl⟩⟩ := hrel
  cases gk with
  | zero => exact absurd HA.out (by simp [za.l0])
  | succ k1 =>
   have H := HA.out
   clear HA
   simp only [za.l0] at H
   by_cases c3 : x8_1 < (l0.length : Int)
   ·
    rw [if_pos c3] at H
    have c3b0 : decide (x8_1 < (l0.length : Int)) = true := decide_eq_true c3
    clear c3
    by_cases c4 : 0 ≤ x8_1
    ·
     rw [if_pos c4] at H
     have c4b0 : decide (0 ≤ x8_1) = true := decide_eq_true c4
     clear c4
     by_cases c5 : x8_1 < (l0.length : Int)
     ·
      rw [if_pos c5] at H
      have c5b0 : decide (x8_1 < (l0.length : Int)) = true := decide_eq_true c5
      clear c5
      by_cases c6 : a1 = (rd l0 x8_1)
      ·
       rw [if_pos c6] at H
       have c6b0 : (a1 == (rd l0 x8_1)) = true := beq_iff_eq.mpr c6
       have c6b1 : (a1 != (rd l0 x8_1)) = false := bne_eq_false_iff_eq.mpr c6
       clear c6
       obtain rfl := Option.some.inj H
       have p373 : 0 ≤ (x8_1 : Int) := of_decide_eq_true (by first | (with_reducible assumption) | assumption)
       have q373 : x8_1 < (l0.length : Int) := of_decide_eq_true (by first | (with_reducible assumption) | assumption)
       obtain ⟨ad373, e373, hx373_0⟩ := Kd.at_int HR0.out x8_1 p373 q373
       cases e373
       replace p373 := eq_true p373
       replace q373 := eq_true q373
       go_wp2
       go_ret
       exact ⟨zF, by repeat (first | exact Drawn0.refl _ | apply Drawn0.step)⟩
      ·
       rw [if_neg c6] at H
       have c6b0 : (a1 == (rd l0 x8_1)) = false := beq_eq_false_iff_ne.mpr c6
       have c6b1 : (a1 != (rd l0 x8_1)) = true := bne_iff_ne.mpr c6
       have H' := zA H
       clear H
       have p373 : 0 ≤ (x8_1 : Int) := of_decide_eq_true (by first | (with_reducible assumption) | assumption)
       have q373 : x8_1 < (l0.length : Int) := of_decide_eq_true (by first | (with_reducible assumption) | assumption)
       obtain ⟨ad373, e373, hx373_0⟩ := Kd.at_int HR0.out x8_1 p373 q373
       cases e373
       replace p373 := eq_true p373
       replace q373 := eq_true q373
       go_wp2
       go_roundg k1
       case measure => have := HK1.out; omega
       case rel => exact ⟨(wrap64 (x8_1 + 1)), (zF), H', ⟨by have := HK1.out; omega⟩, by repeat (first | exact Drawn0.refl _ | apply Drawn0.step)⟩
     ·
      rw [if_neg c5] at H
      exact absurd H (by simp)
    ·
     rw [if_neg c4] at H
     exact absurd H (by simp)
   ·
    rw [if_neg c3] at H
    have c3b0 : decide (x8_1 < (l0.length : Int)) = false := decide_eq_false c3
    clear c3
    obtain rfl := Option.some.inj H
    go_wp2
    go_ret
    exact ⟨zF, by repeat (first | exact Drawn0.refl _ | apply Drawn0.step)⟩
end Go.Proofs.Ytbakdobjidjncaa.P
end
section
namespace Go.Proofs.Ytbakdobjidjncaa.P
open Go.RowKit Go.Proofs.YtbakdobjidjncaaW.PrintWords Go.Proofs.YtbakdobjidjncaaW.PrintLast Go.Proofs.YtbakdobjidjncaaW.PrintMore
attribute [local go_sem] max2_int min2_int max_two min_two max_three min_three max_four min_four
def Ev {α : Type} (F : Nat → Option α) (r : α) : Prop := ∃ K, ∀ k, K ≤ k → F k = some r
theorem Ev.const {α : Type} (r : α) : Ev (fun _ => some r) r := ⟨0, fun _ _ => rfl⟩
theorem Ev.congr {α : Type} {F G : Nat → Option α} {r : α} (h : ∀ k, F k = G k) (hg : Ev G r) : Ev F r := by
 obtain ⟨K, hK⟩ := hg
 exact ⟨K, fun k hk => (h k).trans (hK k hk)⟩
theorem Ev.step {α : Type} {F G : Nat → Option α} {r : α} (h : ∀ k, F (k + 1) = G k) (hg : Ev G r) : Ev F r := by
 obtain ⟨K, hK⟩ := hg
 refine ⟨K + 1, fun k hk => ?_⟩
 obtain ⟨m, rfl⟩ : ∃ m, k = m + 1 := ⟨k - 1, by omega⟩
 exact (h m).trans (hK m (by omega))
theorem Ev.get {α : Type} {F : Nat → Option α} {r : α} (h : Ev F r) : ∃ k, F k = some r := by
 obtain ⟨K, hK⟩ := h
 exact ⟨K, hK K (Nat.le_refl _)⟩
theorem w64s {x : Int} (h0 : -9223372036854775808 ≤ x) (h1 : x < 9223372036854775808) : wrap64 x = x := by unfold wrap64; omega
def val (B : Nat) : List Int → Nat
 | [] => 0
 | x :: xs => x.toNat + B * val B xs
def Dig (B : Nat) (l : List Int) : Prop := ∀ x ∈ l, 0 ≤ x ∧ x < (B : Int)
theorem Dig.cons {B : Nat} {x : Int} {l : List Int} (h : Dig B (x :: l)) : (0 ≤ x ∧ x < (B : Int)) ∧ Dig B l := ⟨h x (by simp), fun y hy => h y (by simp [hy])⟩
theorem Dig.mk {B : Nat} {x : Int} {l : List Int} (h0 : 0 ≤ x) (h1 : x < (B : Int)) (h : Dig B l) : Dig B (x :: l) := by
 intro y hy
 rcases List.mem_cons.1 hy with rfl | hy
 ·
  exact ⟨h0, h1⟩
 ·
  exact h y hy
theorem Dig.nil (B : Nat) : Dig B [] := by intro x hx; cases hx
theorem Dig.get {B : Nat} (hB : 0 < B) {l : List Int} (h : Dig B l) (i : Nat) : 0 ≤ l.getD i 0 ∧ l.getD i 0 < (B : Int) := by
 by_cases hi : i < l.length
 ·
  rw [List.getD_eq_getElem?_getD, List.getElem?_eq_getElem hi]
  exact h _ (List.getElem_mem hi)
 ·
  rw [List.getD_eq_getElem?_getD, List.getElem?_eq_none (by omega)]
  simp
  omega
theorem rd_nat (l : List Int) (i : Nat) : rd l (i : Int) = l.getD i 0 := by
 unfold rd
 simp
def TabAt (w : World) (b s : Nat) (l : List Int) (last : Int) : Prop :=
 b ≠ s ∧ w.heap[b]? = some (.cells #[.slice (some ⟨s, 0, none⟩) l.length l.length, .int .i64 last] 95 (0, 0)) ∧ w.heap[s]? = some (.cells (l.map (Value.int .i64)).toArray 3 (0, 0)) ∧ l.length ≤ 64
theorem made_map (m : Nat) : madeCells #[.int .i64 0] m = ((List.replicate m (0 : Int)).map (Value.int .i64)).toArray := by
 apply Array.ext
 ·
  simp [size_madeCells]
 ·
  intro i h1 h2
  simp [madeCells, Nat.mod_one]
theorem table_New_ok (m : Nat) (h1 : 1 ≤ m) (h2 : m ≤ 64) (w : World) :
  Calls Try.prog 30 #[.int .i64 (m : Int)] w fun e w' => ∃ b s, e = .returned (.tuple #[.pointer (some ⟨b, 0, none⟩), .int .i64 0]) ∧ w.heap.size ≤ b ∧ w.heap.size ≤ s ∧ TabAt w' b s (List.replicate m 0) 0 ∧ Below w.heap.size w w' := by
 have d1 : decide ((m : Int) < 1) = false := decide_eq_false (by omega)
 have d2 : decide ((m : Int) > 64) = false := decide_eq_false (by omega)
 have hmk := print_make (P := Try.prog) 26 3 .i64 8 Try.underlying26 (by kernel_rfl) (by decide) m (by omega)
 go_enter Try.func30, Try.ntmps30
 go_wp2_with fail
 go_ret2
 refine ⟨w.heap.size + 1, w.heap.size, by simp, by omega, Nat.le_refl _, ⟨by omega, ?_, ?_, by simpa using h2⟩, zab (zab (Below.refl _ _) _) _⟩
 ·
  have := blk_new (w.alloc (.cells (madeCells #[.int .i64 0] m) 3)) (.cells #[.slice (some ⟨w.heap.size, 0, none⟩) m m, .int .i64 0] 95)
  rw [show (w.alloc (.cells (madeCells #[.int .i64 0] m) 3)).heap.size = w.heap.size + 1 by simp] at this
  rw [List.length_replicate]
  exact this
 ·
  have := blk_alloc (blk_new w (.cells (madeCells #[.int .i64 0] m) 3)) (.cells #[.slice (some ⟨w.heap.size, 0, none⟩) m m, .int .i64 0] 95)
  rw [made_map m] at this
  rw [made_map m]
  exact this
theorem TabAt.mem {w : World} {b s : Nat} {l : List Int} {last : Int} (h : TabAt w b s l last) : Kd.C (Kd.int .i64) w (some ⟨s, 0, none⟩) l.length l := by
 refine ⟨rfl, by have := h.2.2.2; omega, fun _ => ⟨_, rfl, fun j p hj => ⟨[.int .i64 p], rfl, rfl, fun i u hu => ?_⟩⟩⟩
 match i, hu with
 | 0, hu =>
  have e : (Addr.add ⟨s, 0, none⟩ (j * (Kd.int .i64).sz + 0)) = ⟨s, j, none⟩ := by
   show (Addr.add ⟨s, 0, none⟩ (j * 1 + 0)) = _
   rw [Nat.mul_one, Nat.add_zero, add_plain]
  rw [e, blk_cell h.2.2.1 j]
  simp [hj]
  simpa using hu
theorem TabAt.below {w w' : World} {b s n : Nat} {l : List Int} {last : Int} (h : TabAt w b s l last) (hb : Below n w w') (h1 : b < n) (h2 : s < n) : TabAt w' b s l last :=
 ⟨h.1, (hb.block b h1).trans h.2.1, (hb.block s h2).trans h.2.2.1, h.2.2.2⟩
theorem TabAt.lt {w : World} {b s : Nat} {l : List Int} {last : Int} (h : TabAt w b s l last) : b < w.heap.size ∧ s < w.heap.size := ⟨blk_lt h.2.1, blk_lt h.2.2.1⟩
theorem TabAt.keep {w w' : World} {b s : Nat} {l : List Int} {last : Int} (h : TabAt w b s l last) (hb : Below w.heap.size w w') : TabAt w' b s l last := h.below hb h.lt.1 h.lt.2
theorem TabAt.set {w : World} {b s : Nat} {l : List Int} {last : Int} (h : TabAt w b s l last) (i : Nat) (x : Int) : TabAt (w.setCell ⟨s, i, none⟩ (.int .i64 x)) b s (l.set i x) last := by
 refine ⟨h.1, ?_, ?_, by rw [List.length_set]; exact h.2.2.2⟩
 ·
  rw [Below.heap_setCell _ _ _ _ h.1, h.2.1, List.length_set]
 ·
  rw [blk_set h.2.2.1]
  simp [List.map_set]
theorem TabAt.push {w : World} {b s : Nat} {l : List Int} {last : Int} (h : TabAt w b s l last) (x : Int) : TabAt (w.setCell ⟨b, 1, none⟩ (.int .i64 x)) b s l x := by
 refine ⟨h.1, ?_, ?_, h.2.2.2⟩
 ·
  rw [blk_set h.2.1]
  rfl
 ·
  rw [Below.heap_setCell _ _ _ _ (fun e => h.1 e.symm), h.2.2.1]
theorem TabAt.facts {w : World} {b s : Nat} {l : List Int} {last : Int} (h : TabAt w b s l last) :
  w.cell? ⟨b, 0, none⟩ = some (.slice (some ⟨s, 0, none⟩) l.length l.length) ∧ w.cell? ⟨b, 1, none⟩ = some (.int .i64 last) ∧ w.frozen? ⟨b, 1, none⟩ = false ∧ ∀ i : Nat, w.frozen? ⟨s, i, none⟩ = false :=
 ⟨(blk_cell h.2.1 0).trans rfl, (blk_cell h.2.1 1).trans rfl, blk_frozen h.2.1 1, fun i => blk_frozen h.2.2.1 i⟩
theorem TabAt.drew {w : World} {b s : Nat} {l : List Int} {last : Int} (h : TabAt w b s l last) : TabAt w.drew b s l last := h
theorem TabAt.slot {w : World} {b s : Nat} {l : List Int} {last : Int} (h : TabAt w b s l last) {i : Nat} (hi : i < l.length) : w.cell? ⟨s, i, none⟩ = some (.int .i64 (l.getD i 0)) := by
 rw [blk_cell h.2.2.1 i]
 simp [hi]
theorem table_Add_ok {w : World} {b s : Nat} {l : List Int} {last : Int} (k i : Nat) (h : TabAt w b s l last) (hi : i < l.length) (hx : za.f k l 0 = some (i : Int)) (h0 : 0 ≤ last) (h1 : last < 2147483648) :
  Calls Try.prog 31 #[.pointer (some ⟨b, 0, none⟩)] w fun e w' => e = .returned (.tuple #[.int .i64 (last + 1), .int .i64 (i : Int), .int .i64 0]) ∧ TabAt w' b s (l.set i (last + 1)) (last + 1) ∧ ∀ n, n ≤ b → n ≤ s → Below n w w' := by
 have H := Aside0.mk h
 have HX := Aside0.mk hx
 obtain ⟨f0, f1, f2, f3⟩ := h.facts
 have d1 : decide ((i : Int) < 0) = false := decide_eq_false (by omega)
 have d2 : (last == 2147483648) = false := by simpa using (show last ≠ 2147483648 by omega)
 clear h hx f3
 go_enter Try.func31, Try.ntmps31
 go_wp2_with fail
 go_at_call 53
 refine (za.calls k _ _ l 0 _ _ H.out.mem (Nat.le_refl _) HX.out).mono ?_
 rintro e w1 ⟨rfl, hd⟩
 have B1 := Aside0.mk hd.below
 have H1 := Aside0.mk (H.out.keep B1.out)
 obtain ⟨g0, g1, g2, g3⟩ := H1.out.facts
 clear hd f0 f1 f2 g3
 go_wp2_with fail
 have H2 := Aside0.mk (H1.out.push (last + 1))
 have B2 : Aside0 (∀ n, n ≤ b → n ≤ s → Below n w (w1.setCell ⟨b, 1, none⟩ (.int .i64 (last + 1)))) := ⟨fun n hb hs => (B1.out.mono (by have := H.out.lt; omega)).setCell hb _⟩
 generalize w1.setCell ⟨b, 1, none⟩ (.int .i64 (last + 1)) = W2 at H2 B2 ⊢
 clear g0 g1 g2
 obtain ⟨g0, g1, g2, g3⟩ := H2.out.facts
 have g4 := g3 i
 clear g3
 have g5 := H2.out.slot hi
 go_region
 have H3 := Aside0.mk (H2.out.set i (last + 1)).drew
 have B3 : Aside0 (∀ n, n ≤ b → n ≤ s → Below n w (W2.setCell ⟨s, i, none⟩ (.int .i64 (last + 1))).drew) := ⟨fun n hb hs => ((B2.out n hb hs).setCell hs _).drew⟩
 generalize (W2.setCell ⟨s, i, none⟩ (.int .i64 (last + 1))).drew = W3 at H3 B3 ⊢
 clear g0 g1 g2 g4 g5
 obtain ⟨g0, g1, g2, g3⟩ := H3.out.facts
 clear g3
 go_wp2
 go_ret3
 exact ⟨by simp, H3.out, B3.out⟩
theorem table_Add_full {w : World} {b s : Nat} {l : List Int} {last : Int} (k : Nat) (r : Int) (h : TabAt w b s l last) (hx : za.f k l 0 = some r) (hr : r < 0 ∨ 0 ≤ r ∧ last = 2147483648) :
  Calls Try.prog 31 #[.pointer (some ⟨b, 0, none⟩)] w fun e w' => e = .returned (.tuple #[.int .i64 0, .int .i64 0, .int .i64 6]) ∧ Drawn0 w w' := by
 have H := Aside0.mk h
 have HX := Aside0.mk hx
 obtain ⟨f0, f1, f2, f3⟩ := h.facts
 clear h hx f3
 go_enter Try.func31, Try.ntmps31
 go_wp2_with fail
 go_at_call 53
 refine (za.calls k _ _ l 0 _ _ H.out.mem (Nat.le_refl _) HX.out).mono ?_
 rintro e w1 ⟨rfl, hd⟩
 have D1 := Aside0.mk hd
 have H1 := Aside0.mk (H.out.keep hd.below)
 obtain ⟨g0, g1, g2, g3⟩ := H1.out.facts
 clear hd f0 f1 f2 g3
 rcases hr with hr | ⟨hr, rfl⟩
 ·
  have d1 : decide (r < 0) = true := decide_eq_true hr
  go_wp2_with fail
  go_ret3
  exact ⟨rfl, D1.out⟩
 ·
  have d1 : decide (r < 0) = false := decide_eq_false (by omega)
  go_wp2_with fail
  go_ret3
  exact ⟨rfl, D1.out⟩
theorem table_Slot_ok {w : World} {b s : Nat} {l : List Int} {last : Int} (k : Nat) (r x : Int) (h : TabAt w b s l last) (hx : za.f k l x = some r) (hr : 0 ≤ r) (h0 : x ≠ 0) :
  Calls Try.prog 37 #[.pointer (some ⟨b, 0, none⟩), .int .i64 x] w fun e w' => e = .returned (.tuple #[.int .i64 r, .int .i64 0]) ∧ Drawn0 w w' := by
 have H := Aside0.mk h
 have HX := Aside0.mk hx
 obtain ⟨f0, f1, f2, f3⟩ := h.facts
 clear h hx f3
 go_enter Try.func37, Try.ntmps37
 go_wp2_with fail
 go_at_call 53
 refine (za.calls k _ _ l x _ _ H.out.mem (Nat.le_refl _) HX.out).mono ?_
 rintro e w1 ⟨rfl, hd⟩
 have D1 := Aside0.mk hd
 clear hd f0 f1 f2
 have d1 : decide (r < 0) = false := decide_eq_false (by omega)
 have d2 : (x == 0) = false := by simpa using h0
 go_wp2_with fail
 go_ret2
 exact ⟨rfl, D1.out⟩
theorem TabAt.drawn {w w' : World} {b s : Nat} {l : List Int} {last : Int} (h : TabAt w b s l last) (hd : Drawn0 w w') : TabAt w' b s l last := h.keep hd.below
theorem table_Drop_ok {w : World} {b s : Nat} {l : List Int} {last : Int} (k i : Nat) (x : Int) (h : TabAt w b s l last) (hi : i < l.length) (hx0 : x ≠ 0) (hx : za.f k l x = some (i : Int)) :
  Calls Try.prog 33 #[.pointer (some ⟨b, 0, none⟩), .int .i64 x] w fun e w' => e = .returned (.int .i64 0) ∧ TabAt w' b s (l.set i 0) last ∧ ∀ n, n ≤ b → n ≤ s → Below n w w' := by
 have H := Aside0.mk h
 have HX := Aside0.mk hx
 clear h hx
 go_enter Try.func33, Try.ntmps33
 go_wp2_with fail
 go_at_call 37
 refine (table_Slot_ok k (i : Int) x H.out HX.out (by omega) hx0).mono ?_
 rintro e w1 ⟨rfl, hd⟩
 have B1 := Aside0.mk hd.below
 have H1 := Aside0.mk (H.out.drawn hd)
 obtain ⟨g0, g1, g2, g3⟩ := H1.out.facts
 have g4 := g3 i
 have g5 := H1.out.slot hi
 clear hd g3
 go_wp2_with fail
 go_ret
 exact ⟨rfl, H1.out.set i 0, fun n hb hs => (B1.out.mono (by have := H.out.lt; omega)).setCell hs _⟩
theorem table_Id_ok {w : World} {b s : Nat} {l : List Int} {last : Int} (i : Nat) (h : TabAt w b s l last) (hi : i < l.length) :
  Calls Try.prog 35 #[.pointer (some ⟨b, 0, none⟩), .int .i64 (i : Int)] w fun e w' => e = .returned (.int .i64 (l.getD i 0)) ∧ Drawn0 w w' := by
 obtain ⟨f0, f1, f2, f3⟩ := h.facts
 have g5 := h.slot hi
 have d1 : decide ((i : Int) < 0) = false := decide_eq_false (by omega)
 have d2 : decide ((i : Int) ≥ (l.length : Int)) = false := decide_eq_false (by omega)
 have H := Aside0.mk h
 clear h f3
 go_enter Try.func35, Try.ntmps35
 go_wp2_with fail
 go_ret
 exact ⟨by simp [hi], Drawn0.refl _⟩
def RowC (w : World) (g : Nat) (l : List Int) : Prop := g < w.heap.size ∧ ∀ i, i < l.length → w.cell? ⟨g, i, none⟩ = some (.int .i64 (l.getD i 0)) ∧ w.frozen? ⟨g, i, none⟩ = false
theorem isZero_ok (x : Int) (w : World) : Calls Try.prog 56 #[.int .i64 x] w fun e w' => e = .returned (.bool (x == 0)) ∧ w' = w := by
 go_enter Try.func56, Try.ntmps56
 go_wp2_with fail
 go_ret
 exact ⟨rfl, rfl⟩
def z0 : List Int → Nat → Int
 | [], _ => -1
 | x :: xs, i => if x = 0 then (i : Int) else z0 xs (i + 1)
theorem IndexFunc_ok {w : World} {g cap : Nat} {l : List Int} (h : RowC w g l) (hl : l.length ≤ 64) :
  Calls Try.prog 63 #[.slice (some ⟨g, 0, none⟩) l.length cap, .func (.func 56) #[] #[]] w fun e w' => e = .returned (.int .i64 (z0 l 0)) ∧ w' = w := by
 have H := Aside0.mk h
 clear h
 go_enter Try.func63, Try.ntmps63
 go_wp2_with fail
 go_loopg [8] l.length (fun gk v8 w' => ∃ i : Nat, v8 = .int .i64 (i : Int) ∧ i + gk = l.length ∧ z0 (l.drop i) i = z0 l 0 ∧ w' = w)
 case atStart => exact ⟨0, rfl, by omega, by rw [List.drop_zero], rfl⟩
 case round =>
  obtain ⟨i, rfl, hi, hz, rfl⟩ := hrel
  cases gk with
  | zero =>
   rw [List.drop_of_length_le (by omega)] at hz
   have d1 : decide ((i : Int) < (l.length : Int)) = false := decide_eq_false (by omega)
   go_wp2_with fail
   go_ret
   exact ⟨by rw [← hz]; rfl, rfl⟩
  | succ g1 =>
   have d1 : decide ((i : Int) < (l.length : Int)) = true := decide_eq_true (by omega)
   have hil : i < l.length := by omega
   obtain ⟨f0, f1⟩ := H.out.2 i hil
   rw [List.drop_eq_getElem_cons hil] at hz
   have HZ := Aside0.mk hz
   clear hz
   go_wp2_with fail
   refine (isZero_ok _ wr).mono ?_
   rintro e w2 ⟨rfl, hw⟩
   subst hw
   by_cases h0 : l[i] = 0
   ·
    have d2 : (l[i] == 0) = true := by simpa using h0
    go_wp2_with fail
    go_ret
    have hz := HZ.out
    rw [z0, if_pos h0] at hz
    exact ⟨by rw [hz]; rfl, rfl⟩
   ·
    have d2 : (l[i] == 0) = false := by simpa using h0
    go_wp2
    go_roundg g1
    case measure => omega
    case rel =>
     have hz := HZ.out
     rw [z0, if_neg h0] at hz
     exact ⟨i + 1, by go_num, by omega, hz, rfl⟩
theorem z0_spec : ∀ (l : List Int) (n : Nat), (z0 l n = -1 ∧ l.filter (fun x => !(x == 0)) = l) ∨ ∃ i, z0 l n = ((n + i : Nat) : Int) ∧ i < l.length ∧ l.getD i 0 = 0 ∧ (l.take i).filter (fun x => !(x == 0)) = l.take i
 | [], n => .inl ⟨rfl, rfl⟩
 | x :: xs, n => by
  by_cases h0 : x = 0
  ·
   exact .inr ⟨0, by rw [z0, if_pos h0]; rfl, by simp, by simpa using h0, rfl⟩
  ·
   have h1 : (x == 0) = false := by simpa using h0
   rcases z0_spec xs (n + 1) with ⟨h2, h3⟩ | ⟨i, h2, h3, h4, h5⟩
   ·
    exact .inl ⟨by rw [z0, if_neg h0, h2], by rw [List.filter_cons, if_pos (by rw [h1]; rfl), h3]⟩
   ·
    refine .inr ⟨i + 1, by rw [z0, if_neg h0, h2]; omega, by rw [List.length_cons]; omega, by simpa using h4, ?_⟩
    rw [List.take_succ_cons, List.filter_cons, if_pos (by rw [h1]; rfl), h5]
theorem RowC.set {w : World} {g : Nat} {l : List Int} (h : RowC w g l) (i : Nat) (x : Int) (hi : i < l.length) : RowC (w.setCell ⟨g, i, none⟩ (.int .i64 x)) g (l.set i x) := by
 refine ⟨by simpa using h.1, fun j hj => ?_⟩
 rw [List.length_set] at hj
 obtain ⟨h1, h2⟩ := h.2 j hj
 rw [World.frozen?_setCell]
 refine ⟨?_, h2⟩
 by_cases e : i = j
 ·
  subst e
  rw [World.cell?_setCell_same' _ _ _ (by rw [h1]; rfl)]
  simp [hj]
 ·
  rw [World.cell?_setCell_other _ _ _ _ (fun h => e (by injection h)), h1]
  simp [e]
theorem setCells_below (g : Nat) : ∀ (vs : List Value) (o : Nat) (w : World), (w.setCells g o vs).heap.size = w.heap.size ∧ ∀ n, n ≤ g → Below n w (w.setCells g o vs)
 | [], _, w => ⟨rfl, fun n _ => Below.refl n w⟩
 | v :: r, o, w => by
  obtain ⟨h1, h2⟩ := setCells_below g r (o + 1) (w.setCell ⟨g, o, none⟩ v)
  exact ⟨by rw [World.setCells, h1]; simp, fun n hn => ((Below.refl n w).setCell hn v).trans (h2 n hn)⟩
theorem take_set_succ : ∀ (l : List Int) (i : Nat) (x : Int), i < l.length → (l.set i x).take (i + 1) = l.take i ++ [x]
 | [], i, x, h => absurd h (by simp)
 | a :: l, 0, x, h => by simp
 | a :: l, i + 1, x, h => by simp [take_set_succ l i x (by simpa using h)]
theorem filter_take_succ (l : List Int) (j : Nat) (h : j < l.length) : (l.take (j + 1)).filter (fun x => !(x == 0)) = (l.take j).filter (fun x => !(x == 0)) ++ [l[j]].filter (fun x => !(x == 0)) := by
 rw [List.take_succ_eq_append_getElem h, List.filter_append]
theorem DeleteFunc_ok {w : World} {g cap : Nat} {l : List Int} (h : RowC w g l) (hl : l.length ≤ 64) (hc : l.length ≤ cap) :
  Calls Try.prog 54 #[.slice (some ⟨g, 0, none⟩) l.length cap, .func (.func 56) #[] #[]] w fun e w' => e = .returned (.slice (some ⟨g, 0, none⟩) (l.filter fun x => !(x == 0)).length cap) ∧ RowC w' g (l.filter fun x => !(x == 0)) ∧ w'.heap.size = w.heap.size ∧ ∀ n, n ≤ g → Below n w w' := by
 have H := Aside0.mk h
 clear h
 go_enter Try.func54, Try.ntmps54
 go_wp2_with fail
 go_at_call 63
 refine (IndexFunc_ok H.out hl).mono ?_
 rintro e w1 ⟨rfl, hw⟩
 subst hw
 rcases z0_spec l 0 with ⟨hz, hf⟩ | ⟨i, hz, hi, hx, hf⟩
 ·
  rw [hz]
  go_wp2_with fail
  go_ret
  rw [hf]
  exact ⟨rfl, H.out, rfl, fun n _ => Below.refl _ _⟩
 ·
  rw [hz, Nat.zero_add]
  have d1 : ((i : Int) == -1) = false := beq_eq_false_iff_ne.mpr (by omega)
  have HF := Aside0.mk hf
  have HX := Aside0.mk hx
  clear hf hx hz
  go_wp2_with fail
  go_loopg [5, 6] (l.length - (i + 1)) (fun gk v5 v6 w' => ∃ (i j : Nat) (l' : List Int), v5 = .int .i64 (i : Int) ∧ v6 = .int .i64 (j : Int) ∧ j + gk = l.length ∧ i < j ∧ Aside0 (RowC w' g l') ∧ l'.length = l.length ∧ Aside0 (l'.take i = (l.take j).filter fun x => !(x == 0)) ∧ Aside0 (l'.drop j = l.drop j) ∧ Aside0 (w'.heap.size = w1.heap.size ∧ ∀ n, n ≤ g → Below n w1 w'))
  case atStart =>
   refine ⟨i, i + 1, l, by go_num, by go_num, ?_, by omega, H, rfl, ⟨?_⟩, ⟨rfl⟩, ⟨rfl, fun n _ => Below.refl _ _⟩⟩
   ·
    omega
   ·
    have hx := HX.out
    rw [List.getD_eq_getElem?_getD, List.getElem?_eq_getElem hi] at hx
    rw [filter_take_succ l i hi, HF.out, show l[i] = 0 from hx]
    simp
  case round =>
   obtain ⟨i, j, l', rfl, rfl, hj, hij, H', hl', HT, HD, HB⟩ := hrel
   cases gk with
   | zero =>
    have d1 : decide ((j : Int) < (l.length : Int)) = false := decide_eq_false (by omega)
    have hF : l'.take i = l.filter fun x => !(x == 0) := by
     rw [HT.out, List.take_of_length_le (by omega)]
    have hlen : (l.filter fun x => !(x == 0)).length = i := by
     rw [← hF, List.length_take]
     omega
    have hcl : ∀ ty, (Builtin.clear_ #[26] ty #[.slice (some ⟨g, i, none⟩) (l.length - i) (cap - i)]).run Try.prog wr = .ok (.tuple #[]) (wr.setCells g i (List.replicate (l.length - i) (.int .i64 0))) := fun ty =>
     Lib.run_clear_slice wr _ _ ty _ Try.underlying26 Try.zeroValue3 rfl rfl g i _ _ (by omega) (fun m hm => by rw [(H'.out.2 (i + m) (by omega)).1]; rfl) (fun m hm => (H'.out.2 (i + m) (by omega)).2)
    obtain ⟨s1, s2⟩ := setCells_below g (List.replicate (l.length - i) (.int .i64 0)) i wr
    go_wp2_with fail
    go_ret
    rw [hlen]
    refine ⟨rfl, ⟨by rw [s1]; exact H'.out.1, fun m hm => ?_⟩, by rw [s1]; exact HB.out.1, fun n hn => (HB.out.2 n hn).trans (s2 n hn)⟩
    obtain ⟨c1, c2⟩ := H'.out.2 m (by omega)
    rw [World.frozen?_setCells, World.cell?_setCells_out g _ i wr _ (fun _ _ => .inl (show m < i by omega)), c1]
    refine ⟨?_, c2⟩
    rw [← hF, List.getD_eq_getElem?_getD, List.getD_eq_getElem?_getD, List.getElem?_take_of_lt (by omega)]
   | succ g1 =>
    have d1 : decide ((j : Int) < (l.length : Int)) = true := decide_eq_true (by omega)
    have hjl : j < l.length := by omega
    obtain ⟨f0, f1⟩ := H'.out.2 j (by omega)
    obtain ⟨f2, f3⟩ := H'.out.2 i (by omega)
    have h1 : l'[j]? = l[j]? := by
     have := congrArg List.head? HD.out
     rwa [List.head?_drop, List.head?_drop] at this
    have ej : l'.getD j 0 = l[j] := by
     rw [List.getD_eq_getElem?_getD, h1, List.getElem?_eq_getElem hjl]
     rfl
    have hd1 : l'.drop (j + 1) = l.drop (j + 1) := by
     have := congrArg (List.drop 1) HD.out
     rwa [List.drop_drop, List.drop_drop] at this
    have HD1 := Aside0.mk hd1
    have HFT := Aside0.mk (filter_take_succ l j hjl)
    rw [ej] at f0
    clear h1 ej hd1
    go_wp2_with fail
    refine (isZero_ok _ wr).mono ?_
    rintro e w2 ⟨rfl, hw⟩
    subst hw
    by_cases h0 : l[j] = 0
    ·
     have d2 : (l[j] == 0) = true := by simpa using h0
     go_wp2_with fail
     go_roundg g1
     case measure => omega
     case rel =>
      refine ⟨i, j + 1, l', rfl, by go_num, by omega, by omega, H', hl', ⟨?_⟩, HD1, HB⟩
      rw [HFT.out, HT.out, h0]
      simp
    ·
     have d2 : (l[j] == 0) = false := by simpa using h0
     go_wp2
     go_roundg g1
     case measure => omega
     case rel =>
      refine ⟨i + 1, j + 1, l'.set i l[j], by go_num, by go_num, by omega, by omega, ⟨H'.out.set i l[j] (by omega)⟩, by rw [List.length_set]; exact hl', ⟨?_⟩, ⟨?_⟩, ⟨by simpa using HB.out.1, fun n hn => (HB.out.2 n hn).setCell hn _⟩⟩
      ·
       rw [HFT.out, take_set_succ _ _ _ (by omega), HT.out, List.filter_cons, if_pos (by rw [d2]; rfl)]
       rfl
      ·
       rw [List.drop_set_of_lt (by omega)]
       exact HD1.out
section
open Go.Sort
theorem below_grew {B : Nat} {w0 w : World} (h : Below B w0 w) (hB : B ≤ w.heap.size) (os : Array Obj) : Below B w0 (grow w os) :=
 ⟨h.os, h.tape, h.output, by rw [size_grow]; have := h.size; omega, fun k hk => by rw [heap_grow_old w os (by omega)]; exact h.block k hk⟩
def idsOf (l : List Int) : List Int := (l.filter fun x => !(x == 0)).mergeSort fun x y => decide (x ≤ y)
theorem idsOf_len (l : List Int) : (idsOf l).length = (l.filter fun x => !(x == 0)).length := List.length_mergeSort _
theorem RowC.holds {w : World} {g : Nat} {l : List Int} (h : RowC w g l) : Holds (Value.int .i64) w g 0 l.toArray := by
 intro j hj
 have hj' : j < l.length := by simpa using hj
 obtain ⟨h1, h2⟩ := h.2 j hj'
 rw [Nat.zero_add]
 refine ⟨?_, h2⟩
 rw [h1]
 simp [hj']
theorem RowC.of_holds {w : World} {g : Nat} {l : List Int} (hg : g < w.heap.size) (h : Holds (Value.int .i64) w g 0 l.toArray) : RowC w g l := by
 refine ⟨hg, fun i hi => ?_⟩
 obtain ⟨h1, h2⟩ := h i (by simpa using hi)
 rw [Nat.zero_add] at h1 h2
 refine ⟨?_, h2⟩
 rw [h1]
 simp [hi]
theorem table_Ids_ok {w : World} {b s : Nat} {l : List Int} {last : Int} (h : TabAt w b s l last) :
  Calls Try.prog 36 #[.pointer (some ⟨b, 0, none⟩)] w fun e w' => ∃ g cap, e = .returned (.slice (some ⟨g, 0, none⟩) (idsOf l).length cap) ∧ w.heap.size ≤ g ∧ RowC w' g (idsOf l) ∧ (idsOf l).length ≤ cap ∧ Below w.heap.size w w' := by
 have H := Aside0.mk h
 obtain ⟨f0, f1, f2, f3⟩ := h.facts
 have hl := h.2.2.2
 clear h f3
 go_enter Try.func36, Try.ntmps36
 go_wp2_with fail
 go_at_call 55
 refine (Try.slices_Clone_int s 0 l.length l.length l w (Nat.le_refl _) (by omega) (fun j hj => by rw [Nat.zero_add]; exact H.out.slot hj)).mono ?_
 rintro e w1 ⟨v, rfl, ho, hne, hb⟩
 obtain ⟨g, cap, cur, rfl, hg, hh, hn, hmx, hsz, ht⟩ : ∃ g cap cur, v = .slice (some ⟨g, 0, none⟩) l.length cap ∧ w.heap.size ≤ g ∧ w1.heap[g]? = some (.cells cur 3 (0, 0)) ∧ l.length ≤ cap ∧ cap ≤ maxLen ∧ cur.size = cap * 1 ∧ cur.toList.take (l.length * 1) = (l.take l.length).map (Value.int .i64) := by
  obtain ⟨_, h1 | h1⟩ := ho
  ·
   exact absurd h1.1 hne
  ·
   exact h1
 rw [Nat.mul_one, List.take_of_length_le (Nat.le_refl _)] at ht
 have hr : RowC w1 g l := by
  refine ⟨blk_lt hh, fun i hi => ⟨?_, blk_frozen hh i⟩⟩
  rw [blk_cell hh i]
  have := congrArg (fun z => z[i]?) ht
  simp only [List.getElem?_take_of_lt hi] at this
  rw [← Array.getElem?_toList, this]
  simp [hi]
 have HR := Aside0.mk hr
 have HB := Aside0.mk hb
 have HG := Aside0.mk hg
 clear hr hb ho hne ht hsz hh f0 f1 f2
 go_wp2_with fail
 go_at_call 54
 refine (DeleteFunc_ok HR.out hl hn).mono ?_
 rintro e w2 ⟨rfl, hr2, hs2, hb2⟩
 have HR2 := Aside0.mk hr2
 have HB2 := Aside0.mk (HB.out.trans (hb2 _ HG.out))
 have hfl : (l.filter fun x => !(x == 0)).length ≤ l.length := List.length_filter_le _ _
 clear hr2 hs2 hb2
 go_wp2_with fail
 go_at_call 45
 refine (Try.slices_Sort_int g 0 cap (l.filter fun x => !(x == 0)) w2 HR2.out.holds HR2.out.1 (by omega)).mono ?_
 rintro e w3 ⟨rfl, n, os, rfl⟩
 have HR3 : Aside0 (RowC (grow (putRow (Value.int .i64) (Sort.ahead w2 n) g 0 (idsOf l).toArray) os) g (idsOf l)) := ⟨by
  have hb3 : g < (putRow (Value.int .i64) (Sort.ahead w2 n) g 0 (idsOf l).toArray).heap.size := by
   rw [size_putRow]
   exact HR2.out.1
  refine RowC.of_holds (by rw [size_grow]; omega) (holds_grow _ _ _ _ _ _ hb3 (holds_putRow _ _ _ _ (l.filter fun x => !(x == 0)).toArray _ ?_ (by simp [idsOf_len])))
  exact HR2.out.holds⟩
 have HB3 : Aside0 (Below w.heap.size w (grow (putRow (Value.int .i64) (Sort.ahead w2 n) g 0 (idsOf l).toArray) os)) := ⟨by
  have h1 := Lib.below_putRow (enc := Value.int .i64) (q := n) (d := (idsOf l).toArray) HB2.out HG.out
  exact below_grew h1 (by rw [size_putRow]; exact HB2.out.size) os⟩
 go_wp2_with fail
 go_ret
 exact ⟨g, cap, by rw [idsOf_len]; rfl, HG.out, HR3.out, by rw [idsOf_len]; omega, HB3.out⟩
end
end Go.Proofs.Ytbakdobjidjncaa.P
end
section
namespace Go.Proofs.Ytbakdobjidjncaa.P
open Go.RowKit Go.Proofs.YtbakdobjidjncaaW.PrintWords Go.Proofs.YtbakdobjidjncaaW.PrintLast Go.Proofs.YtbakdobjidjncaaW.PrintMore
attribute [local go_sem] max2_int min2_int max_two min_two max_three min_three max_four min_four
theorem awake06_ok (w : World) : Calls Try.prog 29 #[] w fun e w' => e = .returned (.bool true) ∧ Below w.heap.size w w' := by
 go_enter Try.func29, Try.ntmps29
 go_wp2_with fail
 go_at_call 30
 refine (table_New_ok 3 (by decide) (by decide) w).mono ?_
 rintro e w1 ⟨b, s, rfl, hb, hs, ht, hw⟩
 have HB := Aside0.mk hb
 have HS := Aside0.mk hs
 have HT := Aside0.mk ht
 have HW := Aside0.mk hw
 clear hb hs ht hw
 go_wp2_with fail
 go_at_call 31
 refine (table_Add_ok 10 0 HT.out (by decide) (by kernel_rfl) (by decide) (by decide)).mono ?_
 rintro e w2 ⟨rfl, ht2, hw2⟩
 have HT2 := Aside0.mk ht2
 have HW2 := Aside0.mk (HW.out.trans (hw2 _ HB.out HS.out))
 clear ht2 hw2
 go_wp2_with fail
 go_at_call 31
 refine (table_Add_ok 10 1 HT2.out (by decide) (by kernel_rfl) (by decide) (by decide)).mono ?_
 rintro e w3 ⟨rfl, ht3, hw3⟩
 have HT3 := Aside0.mk ht3
 have HW3 := Aside0.mk (HW2.out.trans (hw3 _ HB.out HS.out))
 clear ht3 hw3
 go_wp2_with fail
 go_at_call 33
 refine (table_Drop_ok 10 0 1 HT3.out (by decide) (by decide) (by kernel_rfl)).mono ?_
 rintro e w4 ⟨rfl, ht4, hw4⟩
 have HT4 := Aside0.mk ht4
 have HW4 := Aside0.mk (HW3.out.trans (hw4 _ HB.out HS.out))
 clear ht4 hw4
 go_wp2_with fail
 go_at_call 31
 refine (table_Add_ok 10 0 HT4.out (by decide) (by kernel_rfl) (by decide) (by decide)).mono ?_
 rintro e w5 ⟨rfl, ht5, hw5⟩
 have HW5 := Aside0.mk (HW4.out.trans (hw5 _ HB.out HS.out))
 clear ht5 hw5
 go_wp2_with fail
 go_ret
 exact ⟨rfl, HW5.out⟩
theorem Ev.pos_ {α : Type} {c : Prop} [Decidable c] {F G : Nat → Option α} {r : α} (hc : c) (h : Ev F r) : Ev (fun k => if c then F k else G k) r := Ev.congr (fun k => if_pos hc) h
theorem Ev.neg_ {α : Type} {c : Prop} [Decidable c] {F G : Nat → Option α} {r : α} (hc : ¬ c) (h : Ev G r) : Ev (fun k => if c then F k else G k) r := Ev.congr (fun k => if_neg hc) h
theorem index_step {l : List Int} {a r : Int} {j : Nat} (hl : l.length ≤ 1000) (hj : j < l.length) (hn : l.getD j 0 ≠ a) (h : Ev (fun k => za.l0 k l a (l.length : Int) ((j + 1 : Nat) : Int)) r) : Ev (fun k => za.l0 k l a (l.length : Int) (j : Int)) r := by
 refine Ev.step (fun _ => za.l0.eq_2 ..) (Ev.pos_ (by omega) (Ev.pos_ (by omega) (Ev.pos_ (by omega) (Ev.neg_ ?_ ?_))))
 ·
  rw [rd_nat]
  exact fun e => hn e.symm
 ·
  rw [w64s (by omega) (by omega)]
  exact h
theorem index_first {l : List Int} {a : Int} {i : Nat} (hl : l.length ≤ 1000) (hi : i < l.length) (h : l.getD i 0 = a) (hb : ∀ j, j < i → l.getD j 0 ≠ a) : ∃ k, za.f k l a = some (i : Int) := by
 have go : ∀ d j, j + d = i → Ev (fun k => za.l0 k l a (l.length : Int) (j : Int)) (i : Int) := by
  intro d
  induction d with
  | zero =>
   intro j hj
   obtain rfl : j = i := by omega
   refine Ev.step (fun _ => za.l0.eq_2 ..) (Ev.pos_ (by omega) (Ev.pos_ (by omega) (Ev.pos_ (by omega) (Ev.pos_ ?_ (Ev.const _)))))
   rw [rd_nat]
   exact h.symm
  | succ d ih =>
   intro j hj
   exact index_step hl (by omega) (hb j (by omega)) (ih (j + 1) (by omega))
 exact Ev.get (go i 0 (by omega))
theorem index_none {l : List Int} {a : Int} (hl : l.length ≤ 1000) (hb : ∀ j, j < l.length → l.getD j 0 ≠ a) : ∃ k, za.f k l a = some (-1) := by
 have go : ∀ d j, j + d = l.length → Ev (fun k => za.l0 k l a (l.length : Int) (j : Int)) (-1) := by
  intro d
  induction d with
  | zero =>
   intro j hj
   exact Ev.step (fun _ => za.l0.eq_2 ..) (Ev.neg_ (by omega) (Ev.const _))
  | succ d ih =>
   intro j hj
   exact index_step hl (by omega) (hb j (by omega)) (ih (j + 1) (by omega))
 exact Ev.get (go l.length 0 (by omega))
theorem getD_set (l : List Int) (k : Nat) (x : Int) (j : Nat) (hk : k < l.length) : (l.set k x).getD j 0 = if j = k then x else l.getD j 0 := by
 by_cases e : j = k
 ·
  subst e
  rw [if_pos rfl]
  simp [hk]
 ·
  rw [if_neg e]
  simp [show ¬ k = j from fun h => e h.symm]
theorem index_any {l : List Int} (a : Int) (hl : l.length ≤ 1000) : (∃ i k, i < l.length ∧ l.getD i 0 = a ∧ za.f k l a = some ((i : Nat) : Int)) ∨ ∃ k, za.f k l a = some (-1) ∧ ∀ j, j < l.length → l.getD j 0 ≠ a := by
 have go : ∀ d j, j + d = l.length → (∀ q, q < j → l.getD q 0 ≠ a) → (∃ i, i < l.length ∧ l.getD i 0 = a ∧ ∀ q, q < i → l.getD q 0 ≠ a) ∨ ∀ q, q < l.length → l.getD q 0 ≠ a := by
  intro d
  induction d with
  | zero =>
   intro j hj hb
   exact .inr fun q hq => hb q (by omega)
  | succ d ih =>
   intro j hj hb
   by_cases h : l.getD j 0 = a
   ·
    exact .inl ⟨j, by omega, h, hb⟩
   ·
    refine ih (j + 1) (by omega) fun q hq => ?_
    by_cases e : q = j
    ·
     rw [e]
     exact h
    ·
     exact hb q (by omega)
 rcases go l.length 0 (by omega) (fun q hq => absurd hq (by omega)) with ⟨i, hi, h, hb⟩ | hn
 ·
  obtain ⟨k, hk⟩ := index_first hl hi h hb
  exact .inl ⟨i, k, hi, h, hk⟩
 ·
  obtain ⟨k, hk⟩ := index_none hl hn
  exact .inr ⟨k, hk, hn⟩
def Inv (l : List Int) (last : Int) : Prop :=
 0 ≤ last ∧ (∀ j, j < l.length → 0 ≤ l.getD j 0 ∧ l.getD j 0 ≤ last) ∧ ∀ i j, i < l.length → j < l.length → l.getD i 0 ≠ 0 → l.getD i 0 = l.getD j 0 → i = j
theorem Inv.add {l : List Int} {last : Int} (h : Inv l last) {i : Nat} (hi : i < l.length) : Inv (l.set i (last + 1)) (last + 1) := by
 obtain ⟨h0, h1, h2⟩ := h
 refine ⟨by omega, fun j hj => ?_, fun p q hp hq hz he => ?_⟩
 ·
  rw [List.length_set] at hj
  rw [getD_set _ _ _ _ hi]
  have := h1 j hj
  by_cases e : j = i
  ·
   rw [if_pos e]
   omega
  ·
   rw [if_neg e]
   omega
 ·
  rw [List.length_set] at hp hq
  rw [getD_set _ _ _ _ hi] at hz he
  rw [getD_set _ _ _ _ hi] at he
  have b1 := h1 p hp
  have b2 := h1 q hq
  by_cases e : p = i
  ·
   rw [if_pos e] at he
   by_cases e2 : q = i
   ·
    omega
   ·
    rw [if_neg e2] at he
    omega
  ·
   rw [if_neg e] at he hz
   by_cases e2 : q = i
   ·
    rw [if_pos e2] at he
    omega
   ·
    rw [if_neg e2] at he
    exact h2 p q hp hq hz he
theorem Inv.drop {l : List Int} {last : Int} (h : Inv l last) {i : Nat} (hi : i < l.length) : Inv (l.set i 0) last := by
 obtain ⟨h0, h1, h2⟩ := h
 refine ⟨h0, fun j hj => ?_, fun p q hp hq hz he => ?_⟩
 ·
  rw [List.length_set] at hj
  rw [getD_set _ _ _ _ hi]
  have := h1 j hj
  by_cases e : j = i
  ·
   rw [if_pos e]
   omega
  ·
   rw [if_neg e]
   omega
 ·
  rw [List.length_set] at hp hq
  rw [getD_set _ _ _ _ hi] at hz he
  rw [getD_set _ _ _ _ hi] at he
  by_cases e : p = i
  ·
   rw [if_pos e] at hz
   omega
  ·
   rw [if_neg e] at he hz
   by_cases e2 : q = i
   ·
    rw [if_pos e2] at he
    omega
   ·
    rw [if_neg e2] at he
    exact h2 p q hp hq hz he
theorem ids_facts {l : List Int} {last : Int} (hI : Inv l last) : (idsOf l).Pairwise (· < ·) ∧ ∀ x ∈ idsOf l, x ≠ 0 ∧ ∃ i, i < l.length ∧ l.getD i 0 = x := by
 have hp : (idsOf l).Perm (l.filter fun x => !(x == 0)) := List.mergeSort_perm _ _
 constructor
 ·
  have h1 : (idsOf l).Pairwise (fun a b => decide (a ≤ b) = true) := List.pairwise_mergeSort (fun a b c h1 h2 => by simp at *; omega) (fun a b => by simp; omega) _
  have h2 : (l.filter fun x => !(x == 0)).Pairwise (· ≠ ·) := by
   rw [List.pairwise_filter, List.pairwise_iff_getElem]
   intro i j hi hj hij ha hb he
   have := hI.2.2 i j hi hj (by simpa [hi] using ha) (by simpa [hi, hj] using he)
   omega
  have h3 : (idsOf l).Pairwise (· ≠ ·) := (hp.pairwise_iff (fun h e => h e.symm)).2 h2
  rw [List.pairwise_iff_getElem] at h1 h3 ⊢
  intro i j hi hj hij
  have a1 := of_decide_eq_true (h1 i j hi hj hij)
  have a2 := h3 i j hi hj hij
  omega
 ·
  intro x hx
  have := hp.mem_iff.1 hx
  obtain ⟨h1, h2⟩ := List.mem_filter.1 this
  refine ⟨by simpa using h2, ?_⟩
  obtain ⟨i, hi, rfl⟩ := List.mem_iff_getElem.1 h1
  exact ⟨i, hi, by simp [hi]⟩
def cnt (l : List Int) (i : Nat) : Nat := ((l.take i).filter fun x => !(x == 0)).length
noncomputable def mkR {α : Type} (mk : α → Value) (v : Value) : Option (DataW α × List MemPlace) :=
 open Classical in if h : ∃ a, mk a = v then some (.held h.choose, []) else none
theorem mkR_mk {α : Type} {mk : α → Value} (hi : ∀ a b, mk a = mk b → a = b) (a : α) : mkR mk (mk a) = some (.held a, []) := by
 have h : ∃ b, mk b = mk a := ⟨a, rfl⟩
 unfold mkR
 rw [dif_pos h, hi _ _ h.choose_spec]
theorem mkR_inv {α : Type} {mk : α → Value} {v : Value} {y : DataW α × List MemPlace} (h : mkR mk v = some y) : ∃ a, v = mk a ∧ y = (.held a, []) := by
 unfold mkR at h
 split at h
 ·
  rename_i hx
  cases h
  exact ⟨_, hx.choose_spec.symm, rfl⟩
 ·
  cases h
def HoldsM {α : Type} (D : DataW α) (g : Int → Option α) : Prop :=
 ∀ k, (g k = none → Maps.has D (.int .i64 k) = false) ∧ ∀ a, g k = some a → ∀ z, D.atKey (.int .i64 k) z = .held a
theorem HoldsM.has {α : Type} {D : DataW α} {g : Int → Option α} (h : HoldsM D g) (k : Int) : Maps.has D (.int .i64 k) = (g k).isSome := by
 cases hg : g k with
 | none => exact (h k).1 hg
 | some a => exact Maps.has_true_of_atKey ((h k).2 a hg)
def MapAt {α : Type} (P : Program) (kt : TypeId) (mk : α → Value) (w : World) (b n : Nat) (g : Int → Option α) : Prop :=
 ∃ D : DataW α, w.ownsMap P kt (mkR mk) b n D ∧ HoldsM D g
section
variable {α : Type} {P : Program} {kt : TypeId} {mk : α → Value} {w : World} {b n : Nat} {g : Int → Option α}
theorem MapAt.lt (h : MapAt P kt mk w b n g) : b < w.heap.size := by
 obtain ⟨D, h, _⟩ := h
 exact h.lt
theorem MapAt.kept {w' : World} {row : Option Nat} (h : MapAt P kt mk w b n g) (hg : w.grownBy w' row) (hne : some b ≠ row) : MapAt P kt mk w' b n g := by
 obtain ⟨D, h, hd⟩ := h
 exact ⟨D, h.kept hg hne, hd⟩
theorem MapAt.below {w' : World} {m : Nat} (h : MapAt P kt mk w b n g) (hb : Below m w w') (hm : b < m) : MapAt P kt mk w' b n g := by
 obtain ⟨D, ⟨es, clock, h1, h2⟩, hd⟩ := h
 exact ⟨D, ⟨es, clock, (hb.block b hm).trans h1, h2⟩, hd⟩
theorem MapAt.keep {w' : World} (h : MapAt P kt mk w b n g) (hb : Below w.heap.size w w') : MapAt P kt mk w' b n g := h.below hb h.lt
theorem MapAt.mono {n' : Nat} (h : MapAt P kt mk w b n g) (hn : n ≤ n') : MapAt P kt mk w b n' g := by
 obtain ⟨D, h, hd⟩ := h
 exact ⟨D, h.mono hn, hd⟩
theorem MapAt.set {a : Addr} (h : MapAt P kt mk w b n g) (ha : b ≠ a.block) (u : Value) : MapAt P kt mk (w.setCell a u) b n g := by
 obtain ⟨D, h, hd⟩ := h
 exact ⟨D, h.setCell ha u, hd⟩
theorem MapAt.ext {g' : Int → Option α} (h : MapAt P kt mk w b n g) (e : ∀ k, g' k = g k) : MapAt P kt mk w b n g' := by
 rw [show g' = g from funext e]
 exact h
theorem MapAt.made (P : Program) (kt : TypeId) (mk : α → Value) (w : World) : MapAt P kt mk (w.alloc (.map #[] 0)) w.heap.size 0 (fun _ => none) :=
 ⟨_, World.ownsMap_made w P kt (mkR mk), fun k => ⟨fun _ => rfl, fun a h => by cases h⟩⟩
theorem zaa {w' : World} (h : w.mapTurned w' b) {m : Nat} (hm : m ≤ b) : Below m w w' := by
 have hg := h.grown
 obtain ⟨es, clock, es', clock', hb, rfl⟩ := h
 have := blk_lt hb
 exact (Below.refl m w).grown hg (by omega) (fun k e => by cases e; exact hm)
theorem MapAt.look {t e : TypeId} {z : Value} {k : Int} (h : MapAt P kt mk w b n g) (hk : P.underlying kt = some (.int .i64)) (ht : P.underlying t = some (.map kt e)) (hz : (zeroValue e).run P w = .ok z w) (wf : (Lit.int .i64 k).wf = true) :
  (∀ a, g k = some a → (Instr.lookup t (.map (some b)) (.int .i64 k) false).run P w = .ok (mk a) w) ∧ (g k = none → (Instr.lookup t (.map (some b)) (.int .i64 k) false).run P w = .ok z w) := by
 obtain ⟨D, ⟨es, clock, hb, F, _, rfl⟩, hd⟩ := h
 rcases Maps.fit_look false (Maps.int_keyed hk) ht hz hb F (Maps.keyOf_int_mk hk wf) with ⟨hrun, _, hat⟩ | ⟨e0, y, _, _, hrun, hRv, hat, _⟩
 ·
  refine ⟨fun a ha => ?_, fun _ => hrun⟩
  have h1 := hd.has k
  rw [Maps.has_false_of_atKey hat, ha] at h1
  cases h1
 ·
  refine ⟨fun a ha => ?_, fun hn => ?_⟩
  ·
   obtain ⟨a', e1, e2⟩ := mkR_inv hRv
   have h2 := (hd k).2 a ha .nil
   rw [hat .nil, e2] at h2
   cases h2
   rw [e1] at hrun
   exact hrun
  ·
   have h1 := hd.has k
   rw [Maps.has_true_of_atKey hat, hn] at h1
   cases h1
theorem HoldsM.put {D : DataW α} (h : HoldsM D g) (hD : Maps.IsMap D) (k : Int) (a : α) : HoldsM (D.put (.int .i64 k) (.held a)) (fun j => if j = k then some a else g j) := by
 intro j
 by_cases e : j = k
 ·
  subst e
  refine ⟨fun hn => ?_, fun a' ha z => ?_⟩
  ·
   dsimp only at hn
   rw [if_pos rfl] at hn
   cases hn
  ·
   dsimp only at ha
   rw [if_pos rfl] at ha
   cases ha
   exact Maps.atKey_put_same hD (show WideAt.IsKeyLit (.int .i64 j) from trivial) _ _
 ·
  have hne : (Lit.int .i64 j) ≠ .int .i64 k := fun e1 => e (by cases e1; rfl)
  refine ⟨fun hn => ?_, fun a' ha z => ?_⟩
  ·
   dsimp only at hn
   rw [if_neg e] at hn
   rw [Maps.has_put_other hne]
   exact (h j).1 hn
  ·
   dsimp only at ha
   rw [if_neg e] at ha
   rw [Maps.atKey_put_other hne]
   exact (h j).2 a' ha z
theorem HoldsM.del {D : DataW α} (h : HoldsM D g) (k : Int) : HoldsM (D.del (.int .i64 k)) (fun j => if j = k then none else g j) := by
 intro j
 by_cases e : j = k
 ·
  subst e
  refine ⟨fun _ => Maps.has_del_same, fun a' ha z => ?_⟩
  dsimp only at ha
  rw [if_pos rfl] at ha
  cases ha
 ·
  have hne : (Lit.int .i64 j) ≠ .int .i64 k := fun e1 => e (by cases e1; rfl)
  refine ⟨fun hn => ?_, fun a' ha z => ?_⟩
  ·
   dsimp only at hn
   rw [if_neg e] at hn
   rw [Maps.has_del_other hne]
   exact (h j).1 hn
  ·
   dsimp only at ha
   rw [if_neg e] at ha
   rw [Maps.atKey_del_other hne]
   exact (h j).2 a' ha z
theorem MapAt.store {t e : TypeId} (h : MapAt P kt mk w b n g) (hi : ∀ a b, mk a = mk b → a = b) (hk : P.underlying kt = some (.int .i64)) (ht : P.underlying t = some (.map kt e)) (hn : n < maxLen) {k : Int} (wf : (Lit.int .i64 k).wf = true) (a : α) :
  ∃ w', (Instr.mapUpdate t (.map (some b)) (.int .i64 k) (mk a)).run P w = .ok () w' ∧ MapAt P kt mk w' b (n + 1) (fun j => if j = k then some a else g j) ∧ w.mapTurned w' b := by
 obtain ⟨D, h, hd⟩ := h
 obtain ⟨w', hrun, ho, ht'⟩ := h.store (Maps.int_keyed hk) ht hn (Maps.keyOf_int_mk hk wf) (mkR_mk hi a)
 exact ⟨w', hrun, ⟨_, ho, hd.put h.isMap k a⟩, ht'⟩
theorem MapAt.drop {t e : TypeId} (h : MapAt P kt mk w b n g) (hk : P.underlying kt = some (.int .i64)) (ht : P.underlying t = some (.map kt e)) {k : Int} (wf : (Lit.int .i64 k).wf = true) (ty : TypeId) :
  ∃ w', (Builtin.delete_ #[t, kt] ty #[.map (some b), .int .i64 k]).run P w = .ok (.tuple #[]) w' ∧ MapAt P kt mk w' b n (fun j => if j = k then none else g j) ∧ w.mapTurned w' b := by
 obtain ⟨D, h, hd⟩ := h
 obtain ⟨w', hrun, ho, ht'⟩ := h.drop (Maps.int_keyed hk) ht (Maps.keyOf_int_mk hk wf) ty
 exact ⟨w', hrun, ⟨_, ho, hd.del k⟩, ht'⟩
theorem MapAt.len {t e : TypeId} (h : MapAt P kt mk w b n g) (ht : P.underlying t = some (.map kt e)) (hk : P.underlying kt = some (.int .i64)) : ∃ m : Nat, m ≤ n ∧ (m = 0 ↔ ∀ k, g k = none) ∧ ∀ ty, (Builtin.len_ #[t] ty #[.map (some b)]).run P w = .ok (.int .i64 m) w := by
 obtain ⟨D, h, hd⟩ := h
 refine ⟨Maps.size D, h.size_le, ⟨fun e0 k => ?_, fun hn => ?_⟩, fun ty => h.len ht ty⟩
 ·
  obtain ⟨es, rfl⟩ := h.isMap
  have h1 := hd.has k
  rw [Maps.size_eq] at e0
  rw [List.length_eq_zero_iff.1 e0] at h1
  cases hg : g k with
  | none => rfl
  | some a =>
   rw [hg] at h1
   cases h1
 ·
  obtain ⟨es, e1, _, hp⟩ := h.entries (Maps.int_keyed hk)
  subst e1
  cases es with
  | nil => rfl
  | cons p r =>
   obtain ⟨es', clock, hb, F, hs, hD⟩ := h
   have h1 : p ∈ (es'.toList.map (WideElems.rg P kt (mkR mk))).foldr DataW.insert [] := by
    have : DataW.map (p :: r) = DataW.map ((es'.toList.map (WideElems.rg P kt (mkR mk))).foldr DataW.insert []) := hD
    injection this with this
    rw [← this]
    exact List.mem_cons_self
   obtain ⟨x, hx, rfl⟩ := List.mem_map.1 (mem_sorted.1 h1)
   obtain ⟨y, hy⟩ := F.reads x hx
   obtain ⟨k, _, e2, _⟩ := Maps.keyOf_int_inv hk (WideElems.rd_key hy)
   have h2 := hd.has k
   rw [hn k, Maps.has_eq, WideElems.rg_of hy] at h2
   rw [← e2] at h2
   simp [WideAt.sameKey_self (show WideAt.IsKeyLit y.1 by rw [e2]; trivial)] at h2
end
def RangeAt {α : Type} (P : Program) (kt : TypeId) (mk : α → Value) (w : World) (b r n : Nat) (g : Int → Option α) (left : Int → Bool) (cnt : Nat) : Prop :=
 ∃ (D : DataW α) (l : Lit → Bool), w.ranges P kt (mkR mk) b r n D l cnt ∧ HoldsM D g ∧ ∀ k, l (.int .i64 k) = left k
section
variable {α : Type} {P : Program} {kt : TypeId} {mk : α → Value} {w : World} {b r n cnt : Nat} {g : Int → Option α} {left : Int → Bool}
theorem RangeAt.owns (h : RangeAt P kt mk w b r n g left cnt) : MapAt P kt mk w b n g := by
 obtain ⟨D, l, h, hd, _⟩ := h
 exact ⟨D, h.owns, hd⟩
theorem RangeAt.lt (h : RangeAt P kt mk w b r n g left cnt) : r < w.heap.size := by
 obtain ⟨D, l, h, hd, _⟩ := h
 exact h.lt
theorem RangeAt.ne (h : RangeAt P kt mk w b r n g left cnt) : r ≠ b := by
 obtain ⟨D, l, h, hd, _⟩ := h
 exact h.ne
theorem RangeAt.below {w' : World} {m : Nat} (h : RangeAt P kt mk w b r n g left cnt) (hb : Below m w w') (h1 : b < m) (h2 : r < m) : RangeAt P kt mk w' b r n g left cnt := by
 obtain ⟨D, l, ⟨es, clock, since, seen, c0, e1, F, hs, hD, e2, rest⟩, hd⟩ := h
 exact ⟨D, l, ⟨es, clock, since, seen, c0, (hb.block b h1).trans e1, F, hs, hD, (hb.block r h2).trans e2, rest⟩, hd⟩
theorem RangeAt.keep {w' : World} (h : RangeAt P kt mk w b r n g left cnt) (hb : Below w.heap.size w w') : RangeAt P kt mk w' b r n g left cnt := h.below hb h.owns.lt h.lt
theorem RangeAt.set {a : Addr} (h : RangeAt P kt mk w b r n g left cnt) (h1 : b ≠ a.block) (h2 : r ≠ a.block) (u : Value) : RangeAt P kt mk (w.setCell a u) b r n g left cnt := by
 obtain ⟨D, l, ⟨es, clock, since, seen, c0, e1, F, hs, hD, e2, rest⟩, hd⟩ := h
 exact ⟨D, l, ⟨es, clock, since, seen, c0, by rw [Below.heap_setCell _ _ _ _ h1]; exact e1, F, hs, hD, by rw [Below.heap_setCell _ _ _ _ h2]; exact e2, rest⟩, hd⟩
theorem RangeAt.store {t e : TypeId} (h : RangeAt P kt mk w b r n g left cnt) (hi : ∀ a b, mk a = mk b → a = b) (hk : P.underlying kt = some (.int .i64)) (ht : P.underlying t = some (.map kt e)) {k : Int} (wf : (Lit.int .i64 k).wf = true) (a : α) (hin : (g k).isSome = true) :
  ∃ w', (Instr.mapUpdate t (.map (some b)) (.int .i64 k) (mk a)).run P w = .ok () w' ∧ RangeAt P kt mk w' b r n (fun j => if j = k then some a else g j) left cnt ∧ w.mapTurned w' b := by
 have hne := h.ne
 obtain ⟨D, l, ⟨es, clock, since, seen, c0, hb, F, hs, rfl, hr, hold, hc, hl1, hl2, hsc, hsk⟩, hd, hl⟩ := h
 have K := Maps.int_keyed (P := P) (k := kt) (q := .i64) hk
 have hkey := Maps.keyOf_int_mk (P := P) (k := kt) (q := .i64) hk wf
 have hv := mkR_mk hi a
 rcases K.find w hkey es.toList F.keys with ⟨h1, h2⟩ | ⟨j, e0, h1, h2, h3⟩
 ·
  exfalso
  have h4 := hd.has k
  rw [hin] at h4
  obtain ⟨p, hp, hpk⟩ := List.any_eq_true.1 h4
  obtain ⟨x, hx, rfl⟩ := List.mem_map.1 (mem_sorted.1 hp)
  obtain ⟨y, hy⟩ := F.reads x hx
  rw [WideElems.rg_of hy] at hpk
  exact h2 x hx (K.inj (WideElems.rd_key hy) ((WideAt.sameKey_eq hpk) ▸ hkey))
 ·
  have hj : es[j]? = some e0 := by simpa using h2
  have hkeyf : ∀ e', es[j]? = some e' → ({ e' with key := .int .i64 k, val := mk a } : MapEntry).key = e'.key := fun e' he' => by rw [hj] at he'; cases he'; exact h3.symm
  have hlist : (es.modify j (fun e' => { e' with key := .int .i64 k, val := mk a })).toList = es.toList.set j { e0 with key := .int .i64 k, val := mk a } := by rw [Array.toList_modify, ChangeMaps.modify_eq_set _ _ _ _ h2]
  have hmem0 : e0 ∈ es.toList := List.mem_of_getElem? h2
  obtain ⟨y0, hy0⟩ := F.reads e0 hmem0
  have who : ∀ x ∈ es.toList.set j { e0 with key := .int .i64 k, val := mk a }, x = { e0 with key := .int .i64 k, val := mk a } ∨ (x ∈ es.toList ∧ x.key ≠ .int .i64 k) := by
   intro x hx
   obtain ⟨i, hi, ex⟩ := List.getElem_of_mem hx
   rw [List.getElem_set] at ex
   split at ex
   ·
    exact Or.inl ex.symm
   ·
    rename_i hne
    have hi' : i < es.toList.length := by simpa using hi
    refine Or.inr ⟨ex ▸ List.getElem_mem hi', ?_⟩
    rw [← h3]
    exact WideElems.other_key F h2 (by rw [List.getElem?_eq_getElem hi', ex]) (fun e1 => hne e1.symm)
  have hy1 := WideElems.rd_mk (born := e0.born) hkey hv
  have e00 : (WideElems.rg P kt (mkR mk) e0).1 = .int .i64 k := by
   rw [WideElems.rg_of hy0]
   have h5 := WideElems.rd_key hy0
   rw [h3, hkey] at h5
   exact (Option.some.inj h5).symm
  have keyEq : ∀ x ∈ es.toList.set j { e0 with key := .int .i64 k, val := mk a }, ∃ x0 ∈ es.toList, x0.born = x.born ∧ (WideElems.rg P kt (mkR mk) x).1 = (WideElems.rg P kt (mkR mk) x0).1 := by
   intro x hx
   rcases who x hx with rfl | ⟨hx', _⟩
   ·
    exact ⟨e0, hmem0, rfl, by rw [e00, WideElems.rg_of hy1]⟩
   ·
    exact ⟨x, hx', rfl, rfl⟩
  have keyEq2 : ∀ x0 ∈ es.toList, ∃ x ∈ es.toList.set j { e0 with key := .int .i64 k, val := mk a }, x.born = x0.born ∧ (WideElems.rg P kt (mkR mk) x).1 = (WideElems.rg P kt (mkR mk) x0).1 := by
   intro x0 hx0
   obtain ⟨i, hi, ex⟩ := List.getElem_of_mem hx0
   by_cases e1 : i = j
   ·
    subst e1
    have : x0 = e0 := by
     rw [List.getElem?_eq_getElem hi, ex] at h2
     exact Option.some.inj h2
    subst this
    exact ⟨{ x0 with key := .int .i64 k, val := mk a }, List.mem_set hi _, rfl, by rw [e00, WideElems.rg_of hy1]⟩
   ·
    refine ⟨x0, ?_, rfl, rfl⟩
    have : (es.toList.set j { e0 with key := .int .i64 k, val := mk a })[i]'(by simpa using hi) = x0 := by
     rw [List.getElem_set_ne (fun e2 => e1 e2.symm)]
     exact ex
    rw [← this]
    exact List.getElem_mem _
  have hF' : WideElems.Fit P kt (mkR mk) (es.modify j (fun e' => { e' with key := .int .i64 k, val := mk a })) clock := by
   refine ⟨by simpa using F.size, MapKept.stamped_modify F.stamped _ _ (fun _ _ => rfl) (fun e' _ he' => hkeyf e' he'), fun x hx => ?_⟩
   rw [hlist] at hx
   rcases who x hx with rfl | ⟨hx', hne⟩
   ·
    exact ⟨_, hy1⟩
   ·
    exact F.reads x hx'
  have hput : ((es.modify j (fun e' => { e' with key := .int .i64 k, val := mk a })).toList.map (WideElems.rg P kt (mkR mk))).foldr DataW.insert [] = ChangeMaps.putKey (.int .i64 k) (.held a) ((es.toList.map (WideElems.rg P kt (mkR mk))).foldr DataW.insert []) := by
   refine Maps.sorted_put K.one ⟨_, hkey⟩ (Maps.fit_keys F) (Maps.fit_apart K F) ?_
   rw [Maps.filter_one K F hkey h2 h3, hlist, List.map_set, WideElems.rg_of hy1]
   exact ChangeMaps.set_perm _ _ (by simpa using (List.getElem?_eq_some_iff.1 h2).1) _
  refine ⟨ChangeMaps.setBlock w b (.map (es.modify j (fun e' => { e' with key := .int .i64 k, val := mk a })) clock), ?_, ⟨_, l, ⟨_, clock, since, seen, c0, ChangeMaps.heap_setBlock_same hb _, hF', by simpa using hs, rfl, (ChangeMaps.heap_setBlock_other hb _ hne).trans hr, fun x hx => ?_, ?_, fun x hx => ?_, fun kl hkl => ?_, hsc, hsk⟩, ?_, hl⟩, ⟨es, clock, _, clock, hb, rfl⟩⟩
  ·
   simp [Instr.mapUpdate, run_underlying ht, MapKept.run_getObj_map hb, K.check w false hkey, h1, hj, h3, K.stays w hkey, MapKept.run_setObj_map _ hb, Result.andThen, ChangeMaps.setBlock]
  ·
   rw [hlist] at hx
   obtain ⟨x0, hx0, e1, _⟩ := keyEq x hx
   rw [← e1]
   exact hold x0 hx0
  ·
   rw [← hc]
   have e1 : ∀ a : Array MapEntry, (leftOf a seen).size = (a.toList.map (fun e => e.born)).countP (fun b => !seen.contains b) := fun a => by
    unfold leftOf
    rw [List.countP_map, ← Array.length_toList, Array.toList_filter, List.countP_eq_length_filter]
    rfl
   rw [e1, e1, hlist, List.map_set]
   congr 1
   have : (es.toList.map (fun e => e.born))[j]? = some e0.born := by rw [List.getElem?_map, h2]; rfl
   obtain ⟨hj2, hj3⟩ := List.getElem?_eq_some_iff.1 this
   show List.set _ j e0.born = _
   rw [← hj3]
   exact List.set_getElem_self hj2
  ·
   rw [hlist] at hx
   obtain ⟨x0, hx0, e1, e2⟩ := keyEq x hx
   rw [e2, hl1 x0 hx0, e1]
  ·
   obtain ⟨x0, hx0, e1⟩ := hl2 kl hkl
   obtain ⟨x, hx, _, e2⟩ := keyEq2 x0 hx0
   exact ⟨x, by rw [hlist]; exact hx, e2.trans e1⟩
  ·
   rw [hput]
   have := hd.put ⟨_, rfl⟩ k a
   rw [DataW.put_eq] at this
   exact this
end
theorem mkBool_inj : ∀ a b : Bool, Value.bool a = Value.bool b → a = b := fun a b h => by cases h; rfl
def BytesAt (w : World) (A : Option Addr) (n : Nat) (f : Nat → Nat) : Prop :=
 ∀ i, i < n → ∃ ad, A = some ad ∧ ad.block < w.heap.size ∧ w.cell? (ad.add i) = some (.int .u8 ((f i : Nat) : Int)) ∧ f i < 256
theorem BytesAt.below {w w' : World} {A : Option Addr} {n : Nat} {f : Nat → Nat} (h : BytesAt w A n f) (hb : Below w.heap.size w w') : BytesAt w' A n f := by
 intro i hi
 obtain ⟨ad, e, h1, h2, h3⟩ := h i hi
 exact ⟨ad, e, Nat.lt_of_lt_of_le h1 hb.size, by rw [hb.cell (by rw [add_block]; exact h1), h2], h3⟩
theorem table_Slot_at {w : World} {b s : Nat} {l : List Int} {last : Int} (h : TabAt w b s l last) (hI : Inv l last) {x : Int} (hx : x ∈ idsOf l) :
  Calls Try.prog 37 #[.pointer (some ⟨b, 0, none⟩), .int .i64 x] w fun e w' => ∃ p : Nat, e = .returned (.tuple #[.int .i64 (p : Int), .int .i64 0]) ∧ p < l.length ∧ l.getD p 0 = x ∧ Drawn0 w w' := by
 have hlen := h.2.2.2
 obtain ⟨hx0, p0, hp0, hpe⟩ := (ids_facts hI).2 x hx
 rcases index_any (l := l) x (by omega) with ⟨p, k, hp, he, hk⟩ | ⟨k, hk, hn⟩
 ·
  refine (table_Slot_ok k (p : Int) x h hk (by omega) hx0).mono ?_
  rintro e w' ⟨rfl, hd⟩
  exact ⟨p, rfl, hp, he, hd⟩
 ·
  exact absurd hpe (hn p0 hp0)
def Only (b s : Nat) (w w' : World) : Prop := w.heap.size ≤ w'.heap.size ∧ ∀ i, i < w.heap.size → i ≠ b → i ≠ s → w'.heap[i]? = w.heap[i]?
theorem Only.of_below {b s : Nat} {w w' : World} (h : Below w.heap.size w w') : Only b s w w' := ⟨h.size, fun i hi _ _ => h.block i hi⟩
theorem Only.set1 {b s : Nat} {w w' : World} (h : Only b s w w') (i : Nat) (v : Value) : Only b s w (w'.setCell ⟨b, i, none⟩ v) :=
 ⟨by rw [World.size_setCell]; exact h.1, fun j hj h1 h2 => by rw [Below.heap_setCell _ _ _ _ h1]; exact h.2 j hj h1 h2⟩
theorem Only.set2 {b s : Nat} {w w' : World} (h : Only b s w w') (i : Nat) (v : Value) : Only b s w (w'.setCell ⟨s, i, none⟩ v) :=
 ⟨by rw [World.size_setCell]; exact h.1, fun j hj h1 h2 => by rw [Below.heap_setCell _ _ _ _ h2]; exact h.2 j hj h1 h2⟩
theorem MapAt.only {α : Type} {P : Program} {kt : TypeId} {mk : α → Value} {w w' : World} {b s c n : Nat} {g : Int → Option α} (h : MapAt P kt mk w c n g) (ho : Only b s w w') (h1 : c ≠ b) (h2 : c ≠ s) : MapAt P kt mk w' c n g := by
 have hl := h.lt
 obtain ⟨D, ⟨es, clock, h3, h4⟩, hd⟩ := h
 exact ⟨D, ⟨es, clock, (ho.2 c hl h1 h2).trans h3, h4⟩, hd⟩
theorem table_Add_only {w : World} {b s : Nat} {l : List Int} {last : Int} (k i : Nat) (h : TabAt w b s l last) (hi : i < l.length) (hx : za.f k l 0 = some (i : Int)) (h0 : 0 ≤ last) (h1 : last < 2147483648) :
  Calls Try.prog 31 #[.pointer (some ⟨b, 0, none⟩)] w fun e w' => e = .returned (.tuple #[.int .i64 (last + 1), .int .i64 (i : Int), .int .i64 0]) ∧ TabAt w' b s (l.set i (last + 1)) (last + 1) ∧ (∀ n, n ≤ b → n ≤ s → Below n w w') ∧ Only b s w w' := by
 have H := Aside0.mk h
 have HX := Aside0.mk hx
 obtain ⟨f0, f1, f2, f3⟩ := h.facts
 have d1 : decide ((i : Int) < 0) = false := decide_eq_false (by omega)
 have d2 : (last == 2147483648) = false := by simpa using (show last ≠ 2147483648 by omega)
 clear h hx f3
 go_enter Try.func31, Try.ntmps31
 go_wp2_with fail
 go_at_call 53
 refine (za.calls k _ _ l 0 _ _ H.out.mem (Nat.le_refl _) HX.out).mono ?_
 rintro e w1 ⟨rfl, hd⟩
 have B1 := Aside0.mk hd.below
 have H1 := Aside0.mk (H.out.keep B1.out)
 obtain ⟨g0, g1, g2, g3⟩ := H1.out.facts
 clear hd f0 f1 f2 g3
 go_wp2_with fail
 have H2 := Aside0.mk (H1.out.push (last + 1))
 have B2 : Aside0 (∀ n, n ≤ b → n ≤ s → Below n w (w1.setCell ⟨b, 1, none⟩ (.int .i64 (last + 1)))) := ⟨fun n hb hs => (B1.out.mono (by have := H.out.lt; omega)).setCell hb _⟩
 have O2 : Aside0 (Only b s w (w1.setCell ⟨b, 1, none⟩ (.int .i64 (last + 1)))) := ⟨(Only.of_below B1.out).set1 _ _⟩
 generalize w1.setCell ⟨b, 1, none⟩ (.int .i64 (last + 1)) = W2 at H2 B2 O2 ⊢
 clear g0 g1 g2
 obtain ⟨g0, g1, g2, g3⟩ := H2.out.facts
 have g4 := g3 i
 clear g3
 have g5 := H2.out.slot hi
 go_region
 have H3 := Aside0.mk (H2.out.set i (last + 1)).drew
 have B3 : Aside0 (∀ n, n ≤ b → n ≤ s → Below n w (W2.setCell ⟨s, i, none⟩ (.int .i64 (last + 1))).drew) := ⟨fun n hb hs => ((B2.out n hb hs).setCell hs _).drew⟩
 have O3 : Aside0 (Only b s w (W2.setCell ⟨s, i, none⟩ (.int .i64 (last + 1))).drew) := ⟨O2.out.set2 _ _⟩
 generalize (W2.setCell ⟨s, i, none⟩ (.int .i64 (last + 1))).drew = W3 at H3 B3 O3 ⊢
 clear g0 g1 g2 g4 g5
 obtain ⟨g0, g1, g2, g3⟩ := H3.out.facts
 clear g3
 go_wp2
 go_ret3
 exact ⟨by simp, H3.out, B3.out, O3.out⟩
theorem table_Drop_only {w : World} {b s : Nat} {l : List Int} {last : Int} (h : TabAt w b s l last) (hI : Inv l last) {x : Int} (hx : x ∈ idsOf l) :
  Calls Try.prog 33 #[.pointer (some ⟨b, 0, none⟩), .int .i64 x] w fun e w' => ∃ l', e = .returned (.int .i64 0) ∧ TabAt w' b s l' last ∧ Inv l' last ∧ l'.length = l.length ∧ (∀ n, n ≤ b → n ≤ s → Below n w w') ∧ Only b s w w' := by
 have H := Aside0.mk h
 have HI := Aside0.mk hI
 have HX := Aside0.mk hx
 clear h hI hx
 go_enter Try.func33, Try.ntmps33
 go_wp2_with fail
 go_at_call 37
 refine (table_Slot_at H.out HI.out HX.out).mono ?_
 rintro e w1 ⟨p, rfl, hp, he, hd⟩
 have B1 := Aside0.mk hd.below
 have H1 := Aside0.mk (H.out.drawn hd)
 obtain ⟨g0, g1, g2, g3⟩ := H1.out.facts
 have g4 := g3 p
 have g5 := H1.out.slot hp
 have E := Aside0.mk he
 clear hd g3 he
 go_wp2_with fail
 go_ret
 exact ⟨_, rfl, H1.out.set p 0, HI.out.drop hp, by rw [List.length_set], fun n hb hs => (B1.out.mono (by have := H.out.lt; omega)).setCell hs _, (Only.of_below B1.out).set2 _ _⟩
theorem table_Add_both {w : World} {b s : Nat} {l : List Int} {last : Int} (h : TabAt w b s l last) (hI : Inv l last) (hl : last < 2147483648) :
  Calls Try.prog 31 #[.pointer (some ⟨b, 0, none⟩)] w fun e w' =>
   (∃ i : Nat, i < l.length ∧ e = .returned (.tuple #[.int .i64 (last + 1), .int .i64 (i : Int), .int .i64 0]) ∧ TabAt w' b s (l.set i (last + 1)) (last + 1) ∧ Inv (l.set i (last + 1)) (last + 1) ∧ (∀ n, n ≤ b → n ≤ s → Below n w w') ∧ Only b s w w') ∨
   (e = .returned (.tuple #[.int .i64 0, .int .i64 0, .int .i64 6]) ∧ TabAt w' b s l last ∧ (∀ n, n ≤ b → n ≤ s → Below n w w') ∧ Only b s w w') := by
 have hlen := h.2.2.2
 rcases index_any (l := l) 0 (by omega) with ⟨i, k, hi, hx, hk⟩ | ⟨k, hk, hn⟩
 ·
  refine (table_Add_only k i h hi hk hI.1 hl).mono ?_
  rintro e w' ⟨rfl, ht, hb, ho⟩
  exact .inl ⟨i, hi, rfl, ht, hI.add hi, hb, ho⟩
 ·
  refine (table_Add_full k _ h hk (.inl (by omega))).mono ?_
  rintro e w' ⟨rfl, hd⟩
  exact .inr ⟨rfl, h.drawn hd, fun n h1 h2 => hd.below.mono (by have := h.lt; omega), Only.of_below hd.below⟩
theorem RowC_keep {w w' : World} {g : Nat} {l : List Int} (h : RowC w g l) (hb : Below w.heap.size w w') : RowC w' g l :=
 ⟨Nat.lt_of_lt_of_le h.1 hb.size, fun i hi => by
  obtain ⟨h1, h2⟩ := h.2 i hi
  rw [hb.cell (show (Addr.mk g i none).block < w.heap.size from h.1), hb.frozen (show (Addr.mk g i none).block < w.heap.size from h.1)]
  exact ⟨h1, h2⟩⟩
theorem RowC_turned {w w' : World} {g b : Nat} {l : List Int} (h : RowC w g l) (ht : w.mapTurned w' b) (hb : g < b) : RowC w' g l := by
 have hB := zaa ht (Nat.le_refl b)
 refine ⟨Nat.lt_of_lt_of_le h.1 hB.size, fun i hi => ?_⟩
 obtain ⟨h1, h2⟩ := h.2 i hi
 rw [hB.cell (show (Addr.mk g i none).block < b from hb), hB.frozen (show (Addr.mk g i none).block < b from hb)]
 exact ⟨h1, h2⟩
theorem TableOnce_ok (a : Nat) (ha : a < 256) (A : Option Addr) (len cap : Nat) (f : Nat → Nat) (w : World) (hR : BytesAt w A len f) (hlen : len ≤ 120) :
  Calls Try.prog 10 #[.int .u8 (a : Int), .slice A len cap] w fun e w' => e = .returned (.bool true) ∧ Below w.heap.size w w' := by
 obtain ⟨m, hm⟩ : ∃ m, m = 1 + a % 64 := ⟨_, rfl⟩
 have hm1 : 1 ≤ m ∧ m ≤ 64 := by omega
 have HN : Aside0 (1 + (a : Int) % 64 = (m : Int)) := ⟨by omega⟩
 have HR := Aside0.mk hR
 have d60 : decide ((len : Int) > 120) = false := decide_eq_false (by omega)
 have hA := Aside0.mk hm
 clear hm hR
 go_enter Try.func10, Try.ntmps10
 go_wp2_with fail
 go_at_call 29
 refine (awake06_ok w).mono ?_
 rintro e w0 ⟨rfl, hw0⟩
 have HW0 := Aside0.mk hw0
 clear hw0
 go_wp2_with fail
 go_at_call 30
 rw [HN.out]
 refine (table_New_ok m (by omega) (by omega) w0).mono ?_
 rintro e w1 ⟨g, s, rfl, hb1, hs, ht, hw⟩
 have HB := Aside0.mk (Nat.le_trans HW0.out.size hb1)
 have HS := Aside0.mk (Nat.le_trans HW0.out.size hs)
 have HT := Aside0.mk ht
 have HW := Aside0.mk (below_step HW0.out hw)
 clear hb1 hs ht hw HW0
 have hmm := @run_makeMap Try.prog
 go_wp2_with fail
 have HM := Aside0.mk (MapAt.made Try.prog 3 Value.bool w1)
 have HT1 := Aside0.mk (HT.out.keep (zab (Below.refl _ w1) (.map #[] 0)))
 have HW1 := Aside0.mk (zab HW.out (.map #[] 0))
 obtain ⟨hg0, hs0⟩ := HT.out.lt
 have hW1 := HW.out.size
 generalize w1.alloc (.map #[] 0) = W1 at HM HT1 HW1 ⊢
 generalize w1.heap.size = B7 at HM hg0 hs0 hW1 ⊢
 clear HT HW
 go_loopg [44] len (fun gk v44 w' => ∃ (i : Nat) (l : List Int) (last : Int) (gm : Int → Option Bool), v44 = .int .i64 (i : Int) ∧ i + gk = len ∧ Aside0 (TabAt w' g s l last) ∧ Aside0 (Inv l last) ∧ l.length = m ∧ last ≤ (i : Int) ∧ Aside0 (MapAt Try.prog 3 Value.bool w' B7 i gm) ∧ Aside0 (∀ k b, gm k = some b → k ≤ last) ∧ Aside0 (Below w.heap.size w w'))
 case atStart =>
  refine ⟨0, _, _, _, by go_num, by omega, HT1, ⟨Int.le_refl _, fun j hj => ?_, fun i j hi hj hz => ?_⟩, by simp, by simp, HM, ⟨fun k b h => by cases h⟩, HW1⟩
  ·
   rw [List.length_replicate] at hj
   simp [hj]
  ·
   rw [List.length_replicate] at hi
   simp [hi] at hz
 case round =>
  obtain ⟨i, l, last, gm, rfl, hi, HT', HI, hlm, hlast, HM', HK, HW'⟩ := hrel
  cases gk with
  | zero =>
   have d1 : decide ((i : Int) < (len : Int)) = false := decide_eq_false (by omega)
   go_wp2_with fail
   go_ret
   exact ⟨rfl, HW'.out⟩
  | succ g1 =>
   have d1 : decide ((i : Int) < (len : Int)) = true := decide_eq_true (by omega)
   obtain ⟨ad, eA, hblk, c0, hf⟩ := HR.out.below HW'.out i (by omega)
   subst eA
   generalize hX : f i = X at c0 hf
   clear hX
   go_wp2_with fail
   go_at_call 31
   refine (table_Add_both HT'.out HI.out (by omega)).mono ?_
   have hmx : maxLen = 9223372036854775807 := rfl
   rintro e w2 (⟨p, hp, rfl, ht2, hi2, hb2, ho2⟩ | ⟨rfl, ht2, hb2, ho2⟩)
   all_goals
    first
    | (
      have HT2 := Aside0.mk ht2
      have HI2 := Aside0.mk hi2
      have HW2 := Aside0.mk (HW'.out.trans (hb2 _ HB.out HS.out))
      have HM2 := HM'.out.only ho2 (by omega) (by omega)
      have L1 := (HM2.look (t := 66) (e := 4) (z := .bool false) (k := last + 1) Try.underlying3 Try.underlying66 (by kernel_rfl) (WalkArith.wf_i64 (by have := HI.out.1; omega))).2 (by
       cases hg : gm (last + 1) with
       | none => rfl
       | some b => have := HK.out _ _ hg; omega)
      have hget : (l.set p (last + 1)).getD p 0 = last + 1 := by
       rw [getD_set _ _ _ _ hp, if_pos rfl]
      have HM3 := Aside0.mk HM2
      clear HM2 ht2 hi2 hb2 ho2
      go_wp2_with fail
      go_at_call 35
      refine (table_Id_ok p HT2.out (by rw [List.length_set]; exact hp)).mono ?_
      rw [hget]
      rintro e w3 ⟨rfl, hd3⟩
      have HT3 := Aside0.mk (HT2.out.drawn hd3)
      have HW3 := Aside0.mk (below_step HW2.out hd3.below)
      have HM4 := Aside0.mk (HM3.out.keep hd3.below)
      clear hd3 L1
      obtain ⟨w4, s1, s2, s3⟩ := HM4.out.store (t := 66) (e := 4) mkBool_inj Try.underlying3 Try.underlying66 (by omega) (k := last + 1) (WalkArith.wf_i64 (by have := HI.out.1; omega)) true
      have HM5 := Aside0.mk s2
      have S3 := Aside0.mk s3
      have HK5 : Aside0 (∀ k b, (if k = last + 1 then some true else gm k) = some b → k ≤ last + 1) := ⟨fun k b h => by
       by_cases e : k = last + 1
       ·
        omega
       ·
        rw [if_neg e] at h
        have := HK.out _ _ h
        omega⟩
      clear s2 s3
      go_wp2_with fail
      have hbd : last + 1 ≤ (i : Int) + 1 := by omega
      have hlm5 : (l.set p (last + 1)).length = m := by rw [List.length_set]; exact hlm
      generalize hG : (fun j => if j = last + 1 then some true else gm j) = gm5 at HM5
      have HK6 : Aside0 (∀ k b, gm5 k = some b → k ≤ last + 1) := by rw [← hG]; exact HK5
      clear hG HK5 hget
      generalize hl5 : l.set p (last + 1) = l5 at HT2 HI2 HT3 hlm5
      clear hl5
      generalize hq : last + 1 = last5 at HT2 HI2 HT3 HK6 hbd ⊢
      clear hq
      have HT4 := Aside0.mk (HT3.out.below (zaa S3.out (Nat.le_refl B7)) hg0 hs0)
      have HW4 := Aside0.mk (HW3.out.trans (zaa S3.out hW1))
      clear HT2 HT3 HW2 HW3 HM3 HM4 S3 s1 HT' HM' HK HW' HI hp hlm hlast c0 hblk d1)
    | (
      have HT2 := Aside0.mk ht2
      have HW2 := Aside0.mk (HW'.out.trans (hb2 _ HB.out HS.out))
      have HM3 := Aside0.mk (HM'.out.only ho2 (by omega) (by omega))
      clear ht2 hb2 ho2
      obtain ⟨w4, s1, s2, s3⟩ := HM3.out.store (t := 66) (e := 4) mkBool_inj Try.underlying3 Try.underlying66 (by omega) (k := 0) (by decide) true
      have HM5 := Aside0.mk s2
      have S3 := Aside0.mk s3
      have HK5 : Aside0 (∀ k b, (if k = 0 then some true else gm k) = some b → k ≤ last) := ⟨fun k b h => by
       by_cases e : k = 0
       ·
        have := HI.out.1
        omega
       ·
        rw [if_neg e] at h
        have := HK.out _ _ h
        omega⟩
      clear s2 s3
      go_wp2_with fail
      generalize hG : (fun j => if j = 0 then some true else gm j) = gm5 at HM5
      have HK6 : Aside0 (∀ k b, gm5 k = some b → k ≤ last) := by rw [← hG]; exact HK5
      clear hG HK5
      have HT4 := Aside0.mk (HT2.out.below (zaa S3.out (Nat.le_refl B7)) hg0 hs0)
      have HW4 := Aside0.mk (HW2.out.trans (zaa S3.out hW1))
      have HI2 := HI
      obtain ⟨l5, hl5⟩ : ∃ z, z = l := ⟨_, rfl⟩
      obtain ⟨last5, hq⟩ : ∃ z, z = last := ⟨_, rfl⟩
      have hbd : last5 ≤ (i : Int) + 1 := by omega
      have hlm5 : l5.length = m := by rw [hl5]; exact hlm
      rw [← hl5, ← hq] at HT4 HI2
      rw [← hq] at HK6
      clear HT2 HW2 HM3 S3 s1 HT' HM' HK HW' HI hlm hlast c0 hblk d1 hl5 hq)
   all_goals
    try go_at_call 36
    refine (table_Ids_ok HT4.out).mono ?_
    have hids : (idsOf l5).length ≤ m := by
     rw [← hlm5, idsOf_len]
     exact List.length_filter_le _ _
    rintro e w5 ⟨gi, ci, rfl, hgi, hrow, hci, hb5⟩
    have HT5 := Aside0.mk (HT4.out.keep hb5)
    have HM6 := Aside0.mk (HM5.out.keep hb5)
    have HW5 := Aside0.mk (below_step HW4.out hb5)
    have HRow := Aside0.mk hrow
    have hgi0 : gi < w5.heap.size := hrow.1
    have hg5 : B7 < w5.heap.size := HM6.out.lt
    clear hb5 hrow HT4 HM5 HW4
    go_wp2_with fail
    have HMs := Aside0.mk (MapAt.made Try.prog 3 Value.bool w5)
    have HT6 := Aside0.mk (HT5.out.keep (zab (Below.refl _ w5) (.map #[] 0)))
    have HM7 := Aside0.mk (HM6.out.keep (zab (Below.refl _ w5) (.map #[] 0)))
    have HR6 : Aside0 (RowC (w5.alloc (.map #[] 0)) gi (idsOf l5)) := ⟨RowC_keep HRow.out (zab (Below.refl _ w5) (.map #[] 0))⟩
    have HW6 := Aside0.mk (zab HW5.out (.map #[] 0))
    have hWs := HW5.out.size
    generalize w5.alloc (.map #[] 0) = W6 at HMs HT6 HM7 HR6 HW6 ⊢
    generalize w5.heap.size = B14 at HMs hgi0 hg5 hWs ⊢
    clear HT5 HM6 HRow HW5
    go_loopg [75] (idsOf l5).length (fun gk v75 w' => ∃ (j : Nat) (gs : Int → Option Bool), v75 = .int .i64 (j : Int) ∧ j + gk = (idsOf l5).length ∧ Aside0 (RowC w' gi (idsOf l5)) ∧ Aside0 (TabAt w' g s l5 last5) ∧ Aside0 (MapAt Try.prog 3 Value.bool w' B7 (i + 1) gm5) ∧ Aside0 (MapAt Try.prog 3 Value.bool w' B14 j gs) ∧ Aside0 (∀ k b, gs k = some b → ∃ q p : Nat, q < j ∧ k = (p : Int) ∧ l5.getD p 0 = (idsOf l5).getD q 0) ∧ Aside0 (Below w.heap.size w w'))
    case atStart => exact ⟨0, _, by go_num, by omega, HR6, HT6, HM7, HMs, ⟨fun k b h => by cases h⟩, HW6⟩
    case round =>
     obtain ⟨j, gs, rfl, hj, HRow', HT7, HM8, HMs', HKs, HW7⟩ := hrel
     cases gk with
     | zero =>
      have d3 : decide ((j : Int) < ((idsOf l5).length : Int)) = false := decide_eq_false (by omega)
      by_cases hz : (idsOf l5).length = 0
      ·
       have d4 : decide (((idsOf l5).length : Int) > 0) = false := decide_eq_false (by omega)
       go_wp2_with fail
       all_goals
        go_wp2
        go_roundg g1
        case measure => omega
        case rel => exact ⟨i + 1, l5, last5, gm5, by go_num, by omega, HT7, HI2, hlm5, by omega, HM8, HK6, HW7⟩
      ·
       have d4 : decide (((idsOf l5).length : Int) > 0) = true := decide_eq_true (by omega)
       have hq : X / 3 % (idsOf l5).length < (idsOf l5).length := Nat.mod_lt _ (by omega)
       have hb5 : (X : Int) / 3 % ((idsOf l5).length : Int) < ((idsOf l5).length : Int) := by
        have : (X : Int) / 3 % ((idsOf l5).length : Int) = ((X / 3 % (idsOf l5).length : Nat) : Int) := by simp
        omega
       have hb4 : ¬ (X : Int) / 3 % ((idsOf l5).length : Int) < 0 := by
        have : (X : Int) / 3 % ((idsOf l5).length : Int) = ((X / 3 % (idsOf l5).length : Nat) : Int) := by simp
        omega
       obtain ⟨r0, r1⟩ := HRow'.out.2 _ hq
       rw [show (idsOf l5).getD (X / 3 % (idsOf l5).length) 0 = (idsOf l5)[X / 3 % (idsOf l5).length] by simp [hq]] at r0
       have HX : Aside0 ((idsOf l5)[X / 3 % (idsOf l5).length] ∈ idsOf l5) := ⟨List.getElem_mem hq⟩
       generalize (idsOf l5)[X / 3 % (idsOf l5).length] = X5 at r0 HX
       by_cases hk : X % 3 = 0
       ·
        have d5 : decide ((X : Int) % 3 > 0) = false := decide_eq_false (by omega)
        go_wp2_with fail
        go_roundg g1
        case measure => omega
        case rel => exact ⟨i + 1, l5, last5, gm5, by go_num, by omega, HT7, HI2, hlm5, by omega, HM8, HK6, HW7⟩
       ·
        have d5 : decide ((X : Int) % 3 > 0) = true := decide_eq_true (by omega)
        go_wp2_with fail
        refine (table_Drop_only HT7.out HI2.out HX.out).mono ?_
        rintro e w9 ⟨l9, rfl, ht9, hi9, hl9, hb9, ho9⟩
        have HT9 := Aside0.mk ht9
        have HI9 := Aside0.mk hi9
        have HM9 := Aside0.mk (HM8.out.only ho9 (by omega) (by omega))
        have HW9 := Aside0.mk (HW7.out.trans (hb9 _ HB.out HS.out))
        clear ht9 hi9 hb9 ho9
        go_wp2
        go_roundg g1
        case measure => omega
        case rel => exact ⟨i + 1, l9, last5, gm5, by go_num, by omega, HT9, HI9, by rw [hl9, hlm5], by omega, HM9, HK6, HW9⟩
     | succ g2 =>
      have d3 : decide ((j : Int) < ((idsOf l5).length : Int)) = true := decide_eq_true (by omega)
      have hjl : j < (idsOf l5).length := by omega
      obtain ⟨r0, r1⟩ := HRow'.out.2 j hjl
      have hxe : (idsOf l5).getD j 0 = (idsOf l5)[j] := by simp [hjl]
      rw [hxe] at r0
      obtain ⟨hsort, hmem⟩ := ids_facts HI2.out
      have HP := Aside0.mk hsort
      have HX : Aside0 ((idsOf l5)[j] ∈ idsOf l5) := ⟨List.getElem_mem hjl⟩
      have HE := Aside0.mk hxe
      clear hsort hmem hxe
      generalize (idsOf l5)[j] = X5 at r0 HX HE
      go_wp2_with fail
      go_at_call 37
      refine (table_Slot_at HT7.out HI2.out HX.out).mono ?_
      rintro e w8 ⟨p, rfl, hp, hpe, hd8⟩
      have HT8 := Aside0.mk (HT7.out.drawn hd8)
      have HR8 : Aside0 (RowC w8 gi (idsOf l5)) := ⟨RowC_keep HRow'.out hd8.below⟩
      have HM9 := Aside0.mk (HM8.out.keep hd8.below)
      have HMt := Aside0.mk (HMs'.out.keep hd8.below)
      have HW8 := Aside0.mk (below_step HW7.out hd8.below)
      have hnone : gs (p : Int) = none := by
       cases hg : gs (p : Int) with
       | none => rfl
       | some b =>
        obtain ⟨q, p', h1, h2, h3⟩ := HKs.out _ _ hg
        obtain rfl : p = p' := by omega
        rw [hpe, ← HE.out] at h3
        have h4 := (List.pairwise_iff_getElem.1 HP.out) q j (by omega) hjl h1
        rw [show (idsOf l5).getD j 0 = (idsOf l5)[j] by simp [hjl], show (idsOf l5).getD q 0 = (idsOf l5)[q]'(by omega) by simp [show q < (idsOf l5).length by omega]] at h3
        omega
      have hlen5 := HT8.out.2.2.2
      have L1 := (HMt.out.look (t := 66) (e := 4) (z := .bool false) (k := (p : Int)) Try.underlying3 Try.underlying66 (by kernel_rfl) (WalkArith.wf_i64 (by omega))).2 hnone
      obtain ⟨w9, s1, s2, s3⟩ := HMt.out.store (t := 66) (e := 4) mkBool_inj Try.underlying3 Try.underlying66 (by omega) (k := (p : Int)) (WalkArith.wf_i64 (by omega)) true
      have S2 := Aside0.mk s2
      have S3 := Aside0.mk s3
      have HE2 := Aside0.mk hpe
      have HD := Aside0.mk hd8
      clear hd8 hnone s2 s3 hpe
      go_wp2
      go_roundg g2
      case measure => omega
      case rel =>
       refine ⟨j + 1, _, by go_num, by omega, ⟨?_⟩, ⟨HT8.out.below (zaa S3.out (Nat.le_refl _)) (by omega) (by omega)⟩, ⟨HM9.out.below (zaa S3.out (Nat.le_refl _)) (by omega)⟩, S2, ⟨?_⟩, ⟨HW8.out.trans (zaa S3.out hWs)⟩⟩
       ·
        exact RowC_turned HR8.out S3.out (by omega)
       ·
        intro k b' h
        by_cases e : k = (p : Int)
        ·
         exact ⟨j, p, by omega, e, by rw [HE2.out, HE.out]⟩
        ·
         simp only [if_neg e] at h
         obtain ⟨q, p', h1, h2, h3⟩ := HKs.out _ _ h
         exact ⟨q, p', by omega, h2, h3⟩
theorem TableOnce_long (a : Nat) (A : Option Addr) (len cap : Nat) (w : World) (hlen : 120 < len) :
  Calls Try.prog 10 #[.int .u8 (a : Int), .slice A len cap] w fun e w' => e = .returned (.bool true) ∧ Below w.heap.size w w' := by
 have d60 : decide ((len : Int) > 120) = true := decide_eq_true (by omega)
 go_enter Try.func10, Try.ntmps10
 go_wp2_with fail
 go_at_call 29
 refine (awake06_ok w).mono ?_
 rintro e w0 ⟨rfl, hw0⟩
 have HW0 := Aside0.mk hw0
 clear hw0
 go_wp2_with fail
 go_at_call 29
 refine (awake06_ok w0).mono ?_
 rintro e w1 ⟨rfl, hw1⟩
 have HW1 := Aside0.mk (below_step HW0.out hw1)
 clear hw1
 go_wp2_with fail
 go_ret
 exact ⟨rfl, HW1.out⟩
theorem lTableOnce {W : World} (a : Int) (A : Option Addr) (len cap : Nat) (zs : List Int) (ha : (Lit.int .u8 a).wf = true)
  (h : (A = none ∧ len = 0 ∧ cap = 0 ∧ zs = []) ∨ ∃ x, A = some x ∧ len ≤ cap ∧ cap ≤ maxLen ∧ zs.length = cap ∧ (∀ i, i < zs.length → W.cell? (x.add i) = some (.int .u8 (zs.getD i 0))) ∧ ∀ n ∈ zs, (Lit.int .u8 n).wf = true) :
  Calls Try.prog 10 #[.int .u8 a, .slice A len cap] W fun e w' => e = .returned (.bool true) ∧ Below W.heap.size W w' := by
 have h1 : IntKind.u8.min ≤ a ∧ a ≤ IntKind.u8.max := by simpa [Lit.wf] using ha
 have h2 : IntKind.u8.min = 0 := by decide
 have h3 : IntKind.u8.max = 255 := by decide
 obtain ⟨n, rfl⟩ := Int.eq_ofNat_of_zero_le (show 0 ≤ a by omega)
 by_cases hlen : len ≤ 120
 ·
  refine TableOnce_ok n (by omega) A len cap (fun i => (zs.getD i 0).toNat) W ?_ hlen
  intro i hi
  rcases h with ⟨_, h0, _⟩ | ⟨x, rfl, hl, _, hz, hc, hw⟩
  ·
   omega
  ·
   have h4 := hc i (by omega)
   have h5 : (Lit.int .u8 (zs.getD i 0)).wf = true := by
    refine hw _ ?_
    rw [List.getD_eq_getElem?_getD, List.getElem?_eq_getElem (by omega)]
    exact List.getElem_mem _
   have h6 : IntKind.u8.min ≤ zs.getD i 0 ∧ zs.getD i 0 ≤ IntKind.u8.max := by simpa [Lit.wf] using h5
   refine ⟨x, rfl, ?_, ?_, by show (zs.getD i 0).toNat < 256; omega⟩
   ·
    rcases Nat.lt_or_ge x.block W.heap.size with h | h
    ·
     exact h
    ·
     unfold World.cell? at h4
     rw [add_block, Array.getElem?_eq_none h] at h4
     simp at h4
   ·
    show _ = some (Value.int .u8 (((zs.getD i 0).toNat : Nat) : Int))
    rw [h4, Int.toNat_of_nonneg (by omega)]
 ·
  exact TableOnce_long n A len cap W (by omega)
end Go.Proofs.Ytbakdobjidjncaa.P
end
section
namespace Go.Proofs.YtbakdobjidjncaaW.PrintWords
open Go.ChangeShapes Go.WideShapes
theorem sized_ints {H : Type} {enc : TypeId × Value → H} {P : Program} {W : World} {base : Nat} {spare : Nat → Bool} {held : Bool} {t e : TypeId} {k : IntKind} {a : Option Addr} {len cap : Nat} {d : DataW H} {ps : List MemPlace} {ts : List TypeId} {ds : List (DataW H)} {j : Nat}
  (hsz : (DataW.weightsEach P ts ds).all (· ≤ reachBytes) = true) (ht : ts[j]? = some t) (hd : ds[j]? = some d) (hu : P.underlying t = some (.slice e)) (he : P.underlying e = some (.int k)) (hc : P.cellsOf e = 1) {B : Nat} (hB : P.bytesOf e = B)
  (h : DataW.Trod enc P W base spare held t (.slice a len cap) d ps) : len * B ≤ 140737488351232 := by
 obtain ⟨fuel, hf⟩ := h
 rcases open_ints hu he hc hf with ⟨hcs, _⟩ | ⟨x, l, c, zs, hcs, _, hl, _, hz, hx, _, _⟩
 ·
  simp [Value.cells] at hcs
  obtain ⟨rfl, rfl, rfl⟩ := hcs
  simp
 ·
  simp [Value.cells] at hcs
  obtain ⟨rfl, rfl, rfl⟩ := hcs
  obtain ⟨hx, _⟩ := Prod.mk.inj hx
  subst hx
  have z := sized_slice hsz ht hd hu
  rw [hB] at z
  have hl2 : len ≤ zs.length := by
   rw [hz]
   split
   ·
    exact hl
   ·
    exact Nat.le_refl _
  have h1 : (lits (H := H) k (zs.take len)).length + (lits (H := H) k (zs.drop len)).length = zs.length := by
   simp [lits]
   omega
  rw [h1] at z
  exact Nat.le_trans (Nat.mul_le_mul_right _ hl2) z
end Go.Proofs.YtbakdobjidjncaaW.PrintWords
end
