import Derived.Test.YtcoipojikmgdmaaDoorWWords
import Derived.Test.YtcoipojikmgdmaaDoorWMore
import Derived.Laws.MakeOwn
import Derived.Test.YtcoipojikmgdmaaDoorProg
import Derived.Lib.LaidTab
import Derived.Lib.ItoaNum
import Derived.WalkSmall
namespace Go.Proofs.YtcoipojikmgdmaaDoor.P
open Go.RowKit Go.Proofs.YtcoipojikmgdmaaDoorW.PrintWords
set_option linter.unusedVariables false
set_option linter.unusedSimpArgs false

/-- make([]T, n, c): every element is z0, whose cells are the type's zero's. -/
theorem R_makec_ {α : Type} {P : Program} {ops : Array Oper} {rest : List Oper} {o : Oper} {a : Act} {Q : Exit → Act → World → Prop} {W : World} (d : Kd α) {w0 : World} (base e : Nat) (hgd : o.guard = none) {N : Tmp} (hd : o.dst = some N) (t : TypeId) (x y : Operand) (ho : o.op = .makeSlice t x y) (n c : Int) (hx : a.eval x = .int .i64 n) (hy : a.eval y = .int .i64 c)
    (ht : P.underlying t = some (.slice e)) (z : Value) (bytes : Nat) (hinfo : (P.info? e).map (fun i => (i.zero, i.size, i.bytes)) = some (some z, d.sz, bytes)) (hz : z.cells.size = d.sz) (hs0 : 0 < d.sz) (hb0 : 0 < bytes)
    (z0 : α) {ok okp : Nat → Prop} (hzero : d.M W base okp z0 z.cells.toList) (hok : ∀ k, okp k → ok k) (hfresh : ok W.heap.size) (h0 : 0 ≤ n) (hnc : n ≤ c) (hl : c.toNat * bytes ≤ 281474976710656) (HB : Below base w0 W) (hbase : base ≤ W.heap.size)
    (h : ∀ v1 w1, d.R e w1 base ok v1 (List.replicate n.toNat z0) → Below base w0 w1 → W.grownBy w1 none → (∃ b, v1.ownBlock = some b ∧ W.heap.size ≤ b) → wpList P ops Q rest (a.put o.dst v1) w1) : wpList P ops Q (o :: rest) a W := by
  obtain ⟨m, rfl⟩ := Int.eq_ofNat_of_zero_le h0
  obtain ⟨k, rfl⟩ := Int.eq_ofNat_of_zero_le (Int.le_trans h0 hnc)
  simp only [Int.toNat_natCast] at hl h
  have hmk : m ≤ k := by omega
  obtain ⟨i0, hi, hzz⟩ := Option.map_eq_some_iff.1 hinfo
  simp only [Prod.mk.injEq] at hzz
  obtain ⟨hz0, hz1, hz2⟩ := hzz
  have hm : k ≤ 281474976710656 := Nat.le_trans (Nat.le_mul_of_pos_right _ hb0) hl
  have hr := run_make (P := P) W t e i0 z ht hi hz0 .i64 .i64 (m : Int) (k : Int) (by omega) (by omega)
    (by
      have h3 : ((i0.bytes * k : Nat) : Int) ≤ 281474976710656 := by rw [hz2, Nat.mul_comm]; omega
      rwa [Int.natCast_mul] at h3) (by omega)
  simp only [Int.toNat_natCast] at hr
  rw [hz1] at hr
  have hcells : (madeCells z.cells (m * d.sz)).toList = ((madeCells z.cells (k * d.sz)).toList).take (m * d.sz) := by
    have hle : m * d.sz ≤ k * d.sz := Nat.mul_le_mul_right _ hmk
    apply List.ext_getElem
    · simp [size_madeCells, Nat.min_eq_left hle]
    · intro i h1 h2
      simp [madeCells]
  have hrun : (execOp a.eval o).run P W = .ok (.value (.slice (some ⟨W.heap.size, 0, none⟩) m k)) (W.alloc (.cells (madeCells z.cells (k * d.sz)) e)) := by
    simp [execOp, ho, hx, hy, hr]
  refine Kd.event_run hgd hrun (h _ _ ⟨fun q hq => ?_, (madeCells z.cells (m * d.sz)).toList, ?_, ?_⟩ (HB.alloc hbase _) (World.grownBy_alloc W _ none) ⟨W.heap.size, by simp [Value.ownBlock], Nat.le_refl _⟩)
  · have : W.heap.size = q := by simpa [Value.ownBlock] using hq
    subst this
    exact hfresh
  · have h2 := World.ownsRow_lit (base := base) (e := e) (size := d.sz) W (madeCells z.cells (k * d.sz)) k hbase (by simp only [maxLen]; omega) (by simp [size_madeCells])
    have h3 := own_take h2 hmk
    simp only [List.length_replicate]
    rw [hcells]
    exact h3
  · refine (Kd.reps_made hz hs0 hzero m).imp_ (fun p c hp => d.M_mono (fun q hq => ⟨hok q hq.1, fun he => ?_⟩) (Kd.M_below (d.M_bound hp) (below_alloc (Below.refl _ _) _)))
    have h3 : q = W.heap.size := by simpa [Value.ownBlock] using he
    have := hq.2.2.1
    omega
theorem addr_plain {w : World} {ad : Addr} {v : Value} (h : w.cell? (ad.add 0) = some v) : ∃ b o, ad = ⟨b, o, none⟩ ∧ b < w.heap.size := by
  have hb := World.block_lt_of_cell? w _ h
  obtain ⟨b, o, s⟩ := ad
  cases s with
  | none => exact ⟨b, o, rfl, hb⟩
  | some k =>
    exfalso
    simp only [Addr.add, if_true] at h
    unfold World.cell? at h
    split at h <;> simp at h
theorem add_none (b o j : Nat) : (⟨b, o, none⟩ : Addr).add j = ⟨b, o + j, none⟩ := by
  unfold Addr.add
  split
  · rename_i h; subst h; rfl
  · rfl
/-- A slice's append asks of the second type only whether it is a number's. -/
theorem run_append_types {P : Program} {t u e e' : TypeId} (ht : P.underlying t = some (.slice e)) (hu : P.underlying u = some (.slice e')) (ty : TypeId) (xs : Array Value) (W : World) :
    (Builtin.append_ #[t, u] ty xs).run P W = (Builtin.append_ #[t, t] ty xs).run P W := by
  unfold Builtin.append_
  simp only [List.getElem?_toArray, List.getElem?_cons_zero, List.getElem?_cons_succ]
  rcases xs[0]? with _ | s <;> rcases xs[1]? with _ | x
  · simp [run_underlying ht, run_underlying hu]
  · simp [run_underlying ht, run_underlying hu]
  · simp [run_underlying ht, run_underlying hu]
  · cases s <;> simp [Sem.run_bind, run_underlying ht, run_underlying hu]
/-- R_append_rows, where the second slice's type has another name. -/
theorem R_append_rows2_ {P : Program} {ops : Array Oper} {rest : List Oper} {o : Oper} {a : Act} {Q : Exit → Act → World → Prop} {α : Type} (d : Kd α) {Rr : α → List Value → Prop} {w0 W : World} (base : Nat) (hgd : o.guard = none) (s x : Operand) (t u e : TypeId) (z : Value) (bytes : Nat)
    (ho : o.op = .call { callee := .builtin .append, args := #[s, x], argTypes := #[t, u] })
    (ht : P.underlying t = some (.slice e)) (hu : P.underlying u = some (.slice e)) (hinfo : (P.info? e).map (fun i => (i.zero, i.size, i.bytes)) = some (some z, d.sz, bytes)) (hz : z.cells.size = d.sz) (hs0 : 0 < d.sz) (hb0 : 0 < bytes)
    (v : Value) (xs ys : List α) (A : Option Addr) (m c : Nat) (ok okp : Nat → Prop) (hs : a.eval s = v) (hx : a.eval x = .slice A m c)
    (HO : d.R e W base ok v xs) (HR : ReadsRow Rr d.sz W A m ys) (hKM : ∀ x cs, Rr x cs → d.M W base okp x cs) (hokp : ∀ k, okp k → ok k ∧ some k ≠ v.ownBlock) (hfresh : ∀ k, W.heap.size ≤ k → ok k)
    (HB : Below base w0 W) (hbase : base ≤ W.heap.size) (hl : (xs.length + m) * bytes ≤ 140737488355328)
    (h : ∀ v1 w1, d.R e w1 base ok v1 (xs ++ ys) → Below base w0 w1 → W.grownBy w1 v.ownBlock → (v1.ownBlock = v.ownBlock ∨ ∃ b, v1.ownBlock = some b ∧ W.heap.size ≤ b) → wpList P ops Q rest (a.put o.dst v1) w1) :
    wpList P ops Q (o :: rest) a W := by
  have hrun : ∃ v1 w1, (Builtin.append_ #[t, u] o.type #[v, .slice A m c]).run P W = .ok v1 w1 ∧ d.R e w1 base ok v1 (xs ++ ys) ∧ Below base w0 w1 ∧ W.grownBy w1 v.ownBlock ∧ (v1.ownBlock = v.ownBlock ∨ ∃ b, v1.ownBlock = some b ∧ W.heap.size ≤ b) := by
    rw [run_append_types ht hu]
    have k := Kd.R_append_rows (P := P) (ops := #[]) (rest := []) (o := { dst := some 0, op := .call { callee := .builtin .append, args := #[.const v, .const (.slice A m c)], argTypes := #[t, t] }, type := o.type, pos := "", after := #[], guard := none }) (a := { tmps := #[undef], defers := [] })
      (Q := fun e_ a_ w_ => e_ = .normal ∧ ∀ v1, a_.tmps = #[v1] → d.R e w_ base ok v1 (xs ++ ys) ∧ Below base w0 w_ ∧ W.grownBy w_ v.ownBlock ∧ (v1.ownBlock = v.ownBlock ∨ ∃ b, v1.ownBlock = some b ∧ W.heap.size ≤ b))
      d base rfl (.const v) (.const (.slice A m c)) t e z bytes rfl ht hinfo hz hs0 hb0 v xs ys A m c ok okp rfl rfl HO HR hKM hokp hfresh HB hbase hl
      (fun v1 w1 h1 h2 h3 h4 => ⟨rfl, fun v2 he => by
        have : v1 = v2 := by simpa [Act.put] using he
        subst this
        exact ⟨h1, h2, h3, h4⟩⟩)
    unfold wpList at k
    rw [if_pos (by simp [Region.wanted])] at k
    rcases k with k | ⟨_, k⟩
    · unfold Oper.wp execOp at k
      have ea : ({ tmps := #[undef], defers := [] } : Act).eval (.const v) = v := rfl
      have eb : ({ tmps := #[undef], defers := [] } : Act).eval (.const (.slice A m c)) = .slice A m c := rfl
      simp only [resolve, invoke, builtin, Sem.run_bind, Sem.run_pure, Result.andThen_ok, List.map_toArray, List.map_cons, List.map_nil, ea, eb] at k
      cases hr : (Builtin.append_ #[t, t] o.type #[v, .slice A m c]).run P W with
      | ok v1 w1 =>
        rw [hr] at k
        simp only [Result.andThen_ok, Oper.upon_value] at k
        exact ⟨v1, w1, rfl, k.2 v1 rfl⟩
      | halt h_ w_ =>
        rw [hr] at k
        exfalso
        cases h_ <;> simp [Result.andThen, Oper.upon] at k
    · exfalso
      simp [LetsOut] at k
  obtain ⟨v1, w1, hr1, h1, h2, h3, h4⟩ := hrun
  refine wpList_plain hgd fun K hK => ?_
  unfold Oper.wp execOp
  simp only [ho, resolve, invoke, builtin, Sem.run_bind, Sem.run_pure, Result.andThen_ok, List.map_toArray, List.map_cons, List.map_nil, hs, hx, hr1]
  exact hK _ _ (h v1 w1 h1 h2 h3 h4)
/-- What the text of a number leans on: the library's table of powers of ten. -/
def Glob (w : World) : Prop := Lib.TabIs Tryd.prog w "internal/strconv.uint64pow10" .u64 Lib.pow10Tab
theorem Glob.below {w w1 : World} (h : Glob w) (hb : Below w.heap.size w w1) : Glob w1 := by
  unfold Glob Lib.TabIs at *
  cases hg : (Tryd.prog).globalNamed "internal/strconv.uint64pow10" with
  | none => simp [World.var?, hg] at h
  | some g =>
    refine var?_below hb hg ?_ h
    simp only [World.var?, hg, Option.bind_some] at h
    rcases Nat.lt_or_ge g w.heap.size with h1 | h1
    · exact h1
    · rw [Array.getElem?_eq_none h1] at h
      cases h

end Go.Proofs.YtcoipojikmgdmaaDoor.P
