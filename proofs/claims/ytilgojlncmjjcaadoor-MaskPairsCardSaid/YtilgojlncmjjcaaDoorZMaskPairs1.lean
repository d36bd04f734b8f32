-- Written by a program of this session (wip/tools/shake.py) out of its own texts and of the kit's printed ones; not trusted: Lean checks it.
import Derived.Test.YtilgojlncmjjcaaDoorZMaskPairs0
set_option maxHeartbeats 8000000
set_option maxRecDepth 100000
set_option linter.unusedVariables false
set_option linter.unusedSimpArgs false
section
namespace Go.Proofs.YtilgojlncmjjcaaDoor.P
open Go.RowKit Go.Proofs.YtilgojlncmjjcaaDoorW.PrintWords Go.Proofs.YtilgojlncmjjcaaDoorW.PrintLast Go.Proofs.YtilgojlncmjjcaaDoorW.PrintMore
attribute [local go_sem] max2_int min2_int max_two min_two max_three min_three max_four min_four
theorem in_ok (a b : Nat) (ha : a < 18446744073709551616) (hb : b < 18446744073709551616) (w : World) : Calls Tryd.prog 19 #[.int .u64 a, .int .u64 b] w fun e w' => e = .returned (.bool (decide (minusN a b = 0))) ∧ Below w.heap.size w w' :=
 (mask_Set_In.calls _ _ _ w (in_f a b ha hb)).mono fun _ _ h => ⟨h.1, h.2.below⟩
def cells64 (s : Nat) : Array Value := ((List.range 64).map fun i => Value.bool (s.testBit i)).toArray
theorem zaa (s : Nat) : (cells64 s).size = 64 := by simp [cells64]
theorem cells64_get (s i : Nat) (hi : i < 64) : (cells64 s)[i]? = some (.bool (s.testBit i)) := by simp [cells64, hi]
theorem cells64_one (s : Nat) : (cells64 s).all (·.oneCell') = true := by
 rw [Array.all_eq_true_iff_forall_mem]
 intro v hv
 simp only [cells64, List.mem_toArray, List.mem_map, List.mem_range] at hv
 obtain ⟨i, _, rfl⟩ := hv
 rfl
theorem cells64_ext (a b : Nat) (h : ∀ i, i < 64 → a.testBit i = b.testBit i) : cells64 a = cells64 b := by
 unfold cells64
 congr 1
 refine List.map_congr_left fun i hi => ?_
 rw [h i (List.mem_range.1 hi)]
def putB (s i : Nat) (b : Bool) : Nat := if b = true then s ||| 2 ^ i else minusN s (2 ^ i)
theorem testBit_putB (s i : Nat) (b : Bool) (j : Nat) : (putB s i b).testBit j = if i = j then b else s.testBit j := by
 unfold putB
 cases b
 ·
  rw [if_neg (by decide), testBit_minus, Nat.testBit_two_pow]
  by_cases h : i = j <;> simp [h]
 ·
  rw [if_pos rfl, Nat.testBit_or, Nat.testBit_two_pow]
  by_cases h : i = j <;> simp [h]
theorem cells64_set (s i : Nat) (b : Bool) : (cells64 s).setIfInBounds i (.bool b) = cells64 (putB s i b) := by
 apply Array.ext_getElem?
 intro j
 rw [Array.getElem?_setIfInBounds]
 by_cases hj : j < 64
 ·
  rw [cells64_get _ _ hj, cells64_get _ _ hj, testBit_putB]
  by_cases h : i = j
  ·
   subst h
   simp [zaa, hj]
  ·
   simp [h]
 ·
  rw [Array.getElem?_eq_none (by rw [zaa]; omega), Array.getElem?_eq_none (by rw [zaa]; omega)]
  by_cases h : i = j
  ·
   subst h
   simp [zaa, hj]
  ·
   simp [h]
theorem info64 : (Tryd.prog.info? 30).map (·.size) = some 64 := by kernel_rfl
theorem under64 : Tryd.prog.underlying 30 = some (.array 64 4) := by kernel_rfl
theorem zero64 (w : World) : (zeroValue 30).run Tryd.prog w = .ok (.agg (cells64 0)) w := (zero_of_info (n := 64) (by kernel_rfl)).1 w
theorem built64 : Tryd.prog.built 30 [] = some (cells64 0) := by kernel_rfl
def SetAt (w : World) (b s : Nat) : Prop := w.heap[b]? = some (.cells (cells64 s) 30 (0, 0))
theorem SetAt.cell {w : World} {b s : Nat} (h : SetAt w b s) {i : Nat} (hi : i < 64) : w.cell? ⟨b, i, none⟩ = some (.bool (s.testBit i)) ∧ w.frozen? ⟨b, i, none⟩ = false :=
 ⟨(blk_cell h i).trans (cells64_get s i hi), blk_frozen h i⟩
theorem SetAt.put {w : World} {b s : Nat} (h : SetAt w b s) (i : Nat) (x : Bool) : SetAt (w.setCell ⟨b, i, none⟩ (.bool x)) b (putB s i x) := by
 unfold SetAt
 rw [blk_set h, cells64_set]
theorem SetAt.keep {w w' : World} {b s n : Nat} (h : SetAt w b s) (hb : Below n w w') (hn : b < n) : SetAt w' b s := (hb.block b hn).trans h
theorem SetAt.lt {w : World} {b s : Nat} (h : SetAt w b s) : b < w.heap.size := blk_lt h
theorem SetAt.new (w : World) (s : Nat) : SetAt (w.alloc (.cells (cells64 s) 30)) w.heap.size s := blk_new w _
theorem SetAt.alloc {w : World} {b s : Nat} (h : SetAt w b s) (o : Obj) : SetAt (w.alloc o) b s := blk_alloc h o
theorem SetAt.row {w : World} {b s : Nat} (h : SetAt w b s) (x : Nat) : SetAt (w.setRow b (cells64 x)) b x := setRow_heap w b _ _ _ _ h
theorem SetAt.rowNe {w : World} {b g s : Nat} (h : SetAt w b s) (hn : b ≠ g) (x : Nat) : SetAt (w.setRow g (cells64 x)) b s := by
 unfold SetAt World.setRow
 show (w.heap.modify g _)[b]? = _
 rw [Array.getElem?_modify, if_neg (fun e => hn e.symm)]
 exact h
theorem below_row {n g : Nat} {w w' : World} (h : Below n w w') (hg : n ≤ g) (cs : Array Value) : Below n w (w'.setRow g cs) := by
 refine ⟨h.os, h.tape, h.output, ?_, fun b hb => ?_⟩
 ·
  rw [setRow_size]; exact h.size
 ·
  show (w'.heap.modify g _)[b]? = _
  rw [Array.getElem?_modify, if_neg (by omega)]
  exact h.block b hb
theorem wpl_alloc64 {ops : Array Oper} {rest : List Oper} {o : Oper} {a : Act} {w : World} {Q : Exit → Act → World → Prop} (hg : o.guard = none) (ho : o.op = .alloc 30)
  (h : wpList Tryd.prog ops Q rest (a.put o.dst (.pointer (some ⟨w.heap.size, 0, none⟩))) (w.alloc (.cells (cells64 0) 30))) : wpList Tryd.prog ops Q (o :: rest) a w :=
 wpList_plain hg fun K hK => by
  unfold Oper.wp execOp
  have e : (Instr.alloc 30 true (.tuple #[])).run Tryd.prog w = .ok (.pointer (some ⟨w.heap.size, 0, none⟩)) (w.alloc (.cells (cells64 0) 30)) := by
   unfold Instr.alloc
   simp only [Sem.run_bind, zero64, Result.andThen_ok]
   rfl
  simp only [ho, Sem.run_bind, e, Result.andThen_ok]
  exact hK _ _ h
theorem wpl_build64 {ops : Array Oper} {rest : List Oper} {o : Oper} {a : Act} {w : World} {Q : Exit → Act → World → Prop} (hg : o.guard = none) (ho : o.op = .build 30 #[])
  (h : wpList Tryd.prog ops Q rest (a.put o.dst (.agg (cells64 0))) w) : wpList Tryd.prog ops Q (o :: rest) a w := by
 have e : (Array.map (fun (x : Nat × Operand) => (x.1, a.eval x.2)) #[]).toList = [] := by simp
 refine wpList_build hg 30 #[] ho ?_ ?_
 ·
  rw [e, built64]
  exact rfl
 ·
  rw [e, built64]
  exact h
theorem wpl_store64 {ops : Array Oper} {rest : List Oper} {o : Oper} {a : Act} {w : World} {Q : Exit → Act → World → Prop} (g s x : Nat) (p q : Operand) (hgd : o.guard = none) (ho : o.op = .store 30 p q)
  (hx : a.eval p = .pointer (some ⟨g, 0, none⟩)) (hy : a.eval q = .agg (cells64 x)) (hs : SetAt w g s)
  (h : wpList Tryd.prog ops Q rest (a.put o.dst undef) (w.setRow g (cells64 x))) : wpList Tryd.prog ops Q (o :: rest) a w :=
 wpList_store_row hgd 30 p q ho g (cells64 x) hx hy 30 (cells64 s) hs (by rw [zaa]; exact info64) (by rw [zaa, zaa]) (cells64_one x) h
theorem wpl_load64 {ops : Array Oper} {rest : List Oper} {o : Oper} {a : Act} {w : World} {Q : Exit → Act → World → Prop} (g s : Nat) (p : Operand) (hgd : o.guard = none) (ho : o.op = .load 30 p)
  (hx : a.eval p = .pointer (some ⟨g, 0, none⟩)) (hs : SetAt w g s)
  (h : wpList Tryd.prog ops Q rest (a.put o.dst (.agg (cells64 s))) w) : wpList Tryd.prog ops Q (o :: rest) a w :=
 wpList_load_row hgd 30 p ho g hx 30 (cells64 s) (0, 0) _ hs under64 rfl (by rw [zaa]; exact info64) h
theorem results64 {fn : Func} {p : Tmp} (h : fn.results = #[.cell p 30]) (tmps : Array Value) (w : World) (g s : Nat) (hp : tmps.getD p undef = .pointer (some ⟨g, 0, none⟩)) (hg : SetAt w g s) :
  (results fn tmps).run Tryd.prog w = .ok (.agg (cells64 s)) w :=
 results_cell_row h tmps w g 30 (cells64 s) (0, 0) _ hp hg under64 rfl (by rw [zaa]; exact info64)
theorem half_bit (s k : Nat) : s / 2 ^ k = s / 2 ^ (k + 1) * 2 + (if s.testBit k = true then 1 else 0) := by
 rw [Nat.pow_succ, ← Nat.div_div_eq_div_mul, Nat.testBit_eq_decide_div_mod_eq]
 generalize s / 2 ^ k = q
 by_cases h : q % 2 = 1
 ·
  rw [decide_eq_true h, if_pos rfl]; omega
 ·
  rw [decide_eq_false h, if_neg (by decide)]; omega
theorem mod_put (s i : Nat) : putB (s % 2 ^ i) i (s.testBit i) = s % 2 ^ (i + 1) := by
 refine Nat.eq_of_testBit_eq fun j => ?_
 rw [testBit_putB, Nat.testBit_mod_two_pow, Nat.testBit_mod_two_pow]
 by_cases h : i = j
 ·
  subst h
  simp
 ·
  rw [if_neg h]
  by_cases h2 : j < i
  ·
   simp [h2, show j < i + 1 by omega]
  ·
   simp [h2, show ¬ j < i + 1 by omega]
theorem rbits_ok (s : Nat) (hs : s < 18446744073709551616) (w : World) :
  Calls Tryd.prog 15 #[.int .u64 s] w fun e w' => e = .returned (.agg (cells64 s)) ∧ Below w.heap.size w w' := by
 have HS := Aside0.mk hs
 clear hs
 go_enter Tryd.func15, Tryd.ntmps15
 have HC1 := SetAt.new w 0
 have HC2 := SetAt.new (w.alloc (.cells (cells64 0) 30)) 0
 have es : (w.alloc (.cells (cells64 0) 30)).heap.size = w.heap.size + 1 := by simp
 have HB := Aside0.mk (zab (zab (Below.refl w.heap.size w) (.cells (cells64 0) 30)) (.cells (cells64 0) 30))
 go_wp2_with (first | (refine wpl_alloc64 rfl rfl ?_) | (refine wpl_build64 rfl rfl ?_) | (refine wpl_store64 _ 0 0 _ _ rfl rfl rfl rfl HC2 ?_))
 rw [es] at HC2
 have HS2 := Aside0.mk (HC2.row 0)
 have HS1 := Aside0.mk (SetAt.rowNe (SetAt.alloc HC1 (.cells (cells64 0) 30)) (show w.heap.size ≠ w.heap.size + 1 by omega) 0)
 have HBB := Aside0.mk (below_row HB.out (show w.heap.size ≤ w.heap.size + 1 by omega) (cells64 0))
 go_loopg [0, 4, 6] 64 (fun gk v0 v4 v6 w' => ∃ i : Nat, v0 = .int .u64 ((s / 2 ^ i : Nat) : Int) ∧ v6 = .int .i64 (i : Int) ∧ Aside0 (i + gk = 64) ∧ Aside0 (SetAt w' (w.heap.size + 1) (s % 2 ^ i)) ∧ Aside0 (SetAt w' w.heap.size 0) ∧ Aside0 (Below w.heap.size w w'))
 case atStart => exact ⟨0, by rw [Nat.pow_zero, Nat.div_one], rfl, ⟨rfl⟩, by rw [Nat.pow_zero, Nat.mod_one]; exact HS2, HS1, HBB⟩
 case round =>
  obtain ⟨i, rfl, rfl, HK, HC, HR, HBr⟩ := hrel
  clear HC1 HC2 HS1 HS2 HBB HB es
  cases gk with
  | zero =>
   have hi : i = 64 := by have := HK.out; omega
   subst hi
   have HRR := Aside0.mk (HR.out.row s)
   have hc := HC.out
   rw [Nat.mod_eq_of_lt (by have := HS.out; omega)] at hc
   go_wp2_with (first | (refine wpl_load64 _ s _ rfl rfl rfl hc ?_) | (refine wpl_store64 _ 0 s _ _ rfl rfl rfl rfl HR.out ?_))
   refine bodyPost_ret (v := .agg (cells64 s)) (results64 rfl _ _ w.heap.size s rfl HRR.out) rfl ?_
   exact ⟨rfl, below_row HBr.out (Nat.le_refl _) _⟩
  | succ g =>
   have hi : i < 64 := by have := HK.out; omega
   have d1 : decide ((i : Int) < 64) = true := decide_eq_true (by omega)
   obtain ⟨c1, c2⟩ := HC.out.cell hi
   have hh := half_bit s i
   have hbit : s.testBit i = decide (s / 2 ^ i % 2 = 1) := Nat.testBit_eq_decide_div_mod_eq
   have HP := Aside0.mk (mod_put s i)
   have H2 : Aside0 (s / 2 ^ i / 2 = s / 2 ^ (i + 1)) := ⟨by rw [Nat.pow_succ, Nat.div_div_eq_div_mul]⟩
   have HQ : Aside0 (s / 2 ^ i < 18446744073709551616) := ⟨Nat.lt_of_le_of_lt (Nat.div_le_self _ _) HS.out⟩
   generalize s / 2 ^ i = q at hbit H2 HQ ⊢
   have HBT := Aside0.mk hbit
   clear hbit hh
   generalize (s % 2 ^ i).testBit i = ob at c1
   go_wp2_with fail
   have eb : ((q : Int) % 2 == 1) = s.testBit i := by
    rw [HBT.out]
    by_cases h : q % 2 = 1
    ·
     rw [decide_eq_true h]
     simp
     omega
    ·
     rw [decide_eq_false h, beq_eq_false_iff_ne]
     omega
   have HN := Aside0.mk (HC.out.put i (s.testBit i))
   rw [HP.out] at HN
   have HN1 : Aside0 (SetAt (wr.setCell ⟨w.heap.size + 1, i, none⟩ (.bool (s.testBit i))) w.heap.size 0) := ⟨by
    unfold SetAt
    rw [Below.heap_setCell _ _ _ _ (by simp)]
    exact HR.out⟩
   have HN2 : Aside0 (Below w.heap.size w (wr.setCell ⟨w.heap.size + 1, i, none⟩ (.bool (s.testBit i)))) := ⟨HBr.out.setCell (by simp) _⟩
   have ew : IntKind.u64.wrap ((q : Int) / 2) = ((q / 2 : Nat) : Int) := by
    have := HQ.out
    rw [IntKind.wrap_u64]
    omega
   rw [eb, ew]
   go_roundg g
   case rel => exact ⟨i + 1, by rw [H2.out], by rfl, ⟨by have := HK.out; omega⟩, HN, HN1, HN2⟩
   case measure => omega
def mixN (a b : Nat) : Nat → Nat
 | 0 => a
 | i + 1 => putB (mixN a b i) i (a.testBit i && b.testBit i)
theorem testBit_mix (a b : Nat) : ∀ i j, (mixN a b i).testBit j = if j < i then (a.testBit j && b.testBit j) else a.testBit j
 | 0, j => rfl
 | i + 1, j => by
  show (putB (mixN a b i) i (a.testBit i && b.testBit i)).testBit j = _
  rw [testBit_putB, testBit_mix a b i j]
  by_cases h : i = j
  ·
   subst h
   rw [if_pos rfl, if_pos (by omega)]
  ·
   rw [if_neg h]
   by_cases h2 : j < i
   ·
    rw [if_pos h2, if_pos (by omega)]
   ·
    rw [if_neg h2, if_neg (by omega)]
theorem mix_all (a b : Nat) : cells64 (mixN a b 64) = cells64 (a &&& b) := cells64_ext _ _ fun i hi => by
 rw [testBit_mix, if_pos hi, Nat.testBit_and]
theorem SetAt.other {w : World} {b g s : Nat} (h : SetAt w b s) (hn : b ≠ g) (i : Nat) (v : Value) : SetAt (w.setCell ⟨g, i, none⟩ v) b s := by
 unfold SetAt
 rw [Below.heap_setCell _ _ _ _ hn]
 exact h
theorem both_ok (a b : Nat) (w : World) :
  Calls Tryd.prog 18 #[.agg (cells64 a), .agg (cells64 b)] w fun e w' => e = .returned (.agg (cells64 (a &&& b))) ∧ Below w.heap.size w w' := by
 go_enter Tryd.func18, Tryd.ntmps18
 go_wp2_with (first | (refine wpl_alloc64 rfl rfl ?_))
 have hz1 : (w.alloc (.cells (cells64 a) 30)).heap.size = w.heap.size + 1 := by simp
 have hz2 : ((w.alloc (.cells (cells64 a) 30)).alloc (.cells (cells64 b) 30)).heap.size = w.heap.size + 2 := by simp
 have hA := ((SetAt.new w a).alloc (.cells (cells64 b) 30)).alloc (.cells (cells64 0) 30)
 have hB := (SetAt.new (w.alloc (.cells (cells64 a) 30)) b).alloc (.cells (cells64 0) 30)
 have hR := SetAt.new ((w.alloc (.cells (cells64 a) 30)).alloc (.cells (cells64 b) 30)) 0
 rw [hz1] at hB
 rw [hz2] at hR
 have HA := Aside0.mk hA
 have HB := Aside0.mk hB
 have HR := Aside0.mk hR
 have HW := Aside0.mk (zab (zab (zab (Below.refl w.heap.size w) (.cells (cells64 a) 30)) (.cells (cells64 b) 30)) (.cells (cells64 0) 30))
 clear hA hB hR hz1 hz2
 generalize ((w.alloc (.cells (cells64 a) 30)).alloc (.cells (cells64 b) 30)).alloc (.cells (cells64 0) 30) = W1 at HA HB HR HW ⊢
 go_loopg [5, 6] 64 (fun gk v5 v6 w' => ∃ i : Nat, v6 = .int .i64 (i : Int) ∧ Aside0 (i + gk = 64) ∧ Aside0 (SetAt w' w.heap.size (mixN a b i)) ∧ Aside0 (SetAt w' (w.heap.size + 1) b) ∧ Aside0 (SetAt w' (w.heap.size + 2) 0) ∧ Aside0 (Below w.heap.size w w'))
 case atStart => exact ⟨0, rfl, ⟨rfl⟩, HA, HB, HR, HW⟩
 case round =>
  obtain ⟨i, rfl, HK, HAr, HBr, HRr, HWr⟩ := hrel
  clear HA HB HR HW
  cases gk with
  | zero =>
   have hi : i = 64 := by have := HK.out; omega
   subst hi
   have ha := HAr.out
   unfold SetAt at ha
   rw [mix_all] at ha
   have ha' : SetAt wr w.heap.size (a &&& b) := ha
   clear ha
   have HRR := Aside0.mk (HRr.out.row (a &&& b))
   go_wp2_with (first | (refine wpl_load64 _ (a &&& b) _ rfl rfl rfl ha' ?_) | (refine wpl_store64 _ 0 (a &&& b) _ _ rfl rfl rfl rfl HRr.out ?_))
   refine bodyPost_ret (v := .agg (cells64 (a &&& b))) (results64 rfl _ _ (w.heap.size + 2) (a &&& b) rfl HRR.out) rfl ?_
   exact ⟨rfl, below_row HWr.out (by omega) _⟩
  | succ g =>
   have hi : i < 64 := by have := HK.out; omega
   have d1 : decide ((i : Int) < 64) = true := decide_eq_true (by omega)
   obtain ⟨c1, c2⟩ := HAr.out.cell hi
   obtain ⟨c3, c4⟩ := HBr.out.cell hi
   have hm := testBit_mix a b i i
   rw [if_neg (by omega)] at hm
   rw [hm] at c1
   clear hm
   have HP := Aside0.mk (show putB (mixN a b i) i (a.testBit i && b.testBit i) = mixN a b (i + 1) from rfl)
   cases ha : a.testBit i
   ·
    rw [ha] at c1 HP
    clear c3 c4
    have HN := Aside0.mk (HAr.out.put i false)
    rw [show putB (mixN a b i) i false = mixN a b (i + 1) from HP.out] at HN
    have HN1 := Aside0.mk (HBr.out.other (g := w.heap.size) (by omega) i (.bool false))
    have HN2 := Aside0.mk (HRr.out.other (g := w.heap.size) (by omega) i (.bool false))
    have HN3 : Aside0 (Below w.heap.size w (wr.setCell ⟨w.heap.size, i, none⟩ (.bool false))) := ⟨HWr.out.setCell (by simp) _⟩
    go_wp2_with fail
    go_roundg g
    case rel => exact ⟨i + 1, by rfl, ⟨by have := HK.out; omega⟩, HN, HN1, HN2, HN3⟩
    case measure => omega
   ·
    rw [ha] at c1 HP
    have HN := Aside0.mk (HAr.out.put i (b.testBit i))
    rw [show putB (mixN a b i) i (b.testBit i) = mixN a b (i + 1) from HP.out] at HN
    have HN1 := Aside0.mk (HBr.out.other (g := w.heap.size) (by omega) i (.bool (b.testBit i)))
    have HN2 := Aside0.mk (HRr.out.other (g := w.heap.size) (by omega) i (.bool (b.testBit i)))
    have HN3 : Aside0 (Below w.heap.size w (wr.setCell ⟨w.heap.size, i, none⟩ (.bool (b.testBit i)))) := ⟨HWr.out.setCell (by simp) _⟩
    go_wp2_with fail
    go_roundg g
    case rel => exact ⟨i + 1, by rfl, ⟨by have := HK.out; omega⟩, HN, HN1, HN2, HN3⟩
    case measure => omega
def same64 (a b : Nat) : Bool := (List.range 64).all fun i => a.testBit i == b.testBit i
theorem same64_eq (a b : Nat) (ha : a < 18446744073709551616) (hb : b < 18446744073709551616) : same64 a b = decide (a = b) := by
 unfold same64
 by_cases h : a = b
 ·
  subst h
  rw [decide_eq_true rfl, List.all_eq_true]
  intro i _
  exact beq_self_eq_true _
 ·
  rw [decide_eq_false h, List.all_eq_false]
  apply Classical.byContradiction
  intro hn
  apply h
  refine Nat.eq_of_testBit_eq fun i => ?_
  by_cases hi : i < 64
  ·
   apply Classical.byContradiction
   intro hne
   exact hn ⟨i, List.mem_range.2 hi, by simpa using hne⟩
  ·
   have hp := Nat.pow_le_pow_right (n := 2) (by decide) (show 64 ≤ i by omega)
   rw [Nat.testBit_lt_two_pow (by omega), Nat.testBit_lt_two_pow (by omega)]
theorem underBool : Tryd.prog.underlying 4 = some .bool := by kernel_rfl
theorem guard64 : Tryd.prog.eqGuardType Tryd.prog.depth 30 = false := by kernel_rfl
theorem eqItems64 (a b d : Nat) (w : World) : ∀ is : List Nat, (∀ i ∈ is, i < 64) → (Op.eqItems (d + 1) 4 1 (cells64 a) (cells64 b) is).run Tryd.prog w = .ok (is.all fun i => a.testBit i == b.testBit i) w
 | [], _ => by simp [Op.eqItems]
 | i :: is, h => by
  have hi := h i List.mem_cons_self
  have ih := eqItems64 a b d w is (fun j hj => h j (List.mem_cons_of_mem _ hj))
  have p1 : (part 4 (cells64 a) (i * 1)).run Tryd.prog w = .ok (.bool (a.testBit i)) w := run_part_plain w (by kernel_rfl) (by rw [Nat.mul_one]; exact cells64_get a i hi)
  have p2 : (part 4 (cells64 b) (i * 1)).run Tryd.prog w = .ok (.bool (b.testBit i)) w := run_part_plain w (by kernel_rfl) (by rw [Nat.mul_one]; exact cells64_get b i hi)
  simp only [Op.eqItems, Sem.run_bind, p1, p2, Result.andThen_ok, run_equalIn_bool' w d 4 _ _ underBool, List.all_cons]
  cases h2 : (a.testBit i == b.testBit i)
  ·
   simp
  ·
   simp only [Bool.not_true, Bool.false_eq_true, if_false, Bool.true_and]
   exact ih
theorem equal64 (a b : Nat) (w : World) : (Op.equalIn 10000 30 (.agg (cells64 a)) (.agg (cells64 b))).run Tryd.prog w = .ok (same64 a b) w := by
 cases hq : Tryd.prog.info? 4 with
 | none =>
  have h : (Tryd.prog.info? 4).isSome = true := by kernel_rfl
  rw [hq] at h
  cases h
 | some i =>
  rw [run_equalIn_array w 9999 (cells64 a) (cells64 b) under64 hq, show Tryd.prog.cellsOf 4 = 1 by kernel_rfl]
  exact eqItems64 a b 9998 w (List.range 64) (fun i hi => List.mem_range.1 hi)
def cellsL (s : Nat) : List Value := (List.range 64).map fun i => Value.bool (s.testBit i)
theorem cellsL_len (s : Nat) : (cellsL s).length = 64 := by simp [cellsL]
theorem infoL (s : Nat) : (Tryd.prog.info? 30).map (·.size) = some (cellsL s).length := by rw [cellsL_len]; exact info64
theorem SetAt.range {w : World} {b s : Nat} (h : SetAt w b s) : w.rangeAt b 0 (cellsL s) := fun j v hv => by
 rw [Nat.zero_add, blk_cell h j]
 show (cellsL s).toArray[j]? = some v
 rw [List.getElem?_toArray]
 exact hv
def Stay (w0 : World) (b s : Nat) (W : World) : Prop := SetAt W b s ∧ Below w0.heap.size w0 W ∧ b < W.heap.size
theorem Stay.step {w0 W W' : World} {b s : Nat} (hb : Below W.heap.size W W') (h : W.rangeAt b 0 (cellsL s) ∧ Stay w0 b s W) : W'.rangeAt b 0 (cellsL s) ∧ Stay w0 b s W' := by
 have h1 := h.2.1.keep hb h.2.2.2
 exact ⟨h1.range, h1, za h.2.2.1 hb, Nat.lt_of_lt_of_le h.2.2.2 hb.size⟩
theorem Stay.drew {w0 W : World} {b s : Nat} (h : Stay w0 b s W) : W.drew.rangeAt b 0 (cellsL s) ∧ Stay w0 b s W.drew := ⟨SetAt.range (w := W.drew) h.1, h.1, h.2.1.drew, h.2.2⟩
theorem meets_ok (a b : Nat) (ha : a < 18446744073709551616) (hb : b < 18446744073709551616) (w : World) : Calls Tryd.prog 20 #[.int .u64 a, .int .u64 b] w fun e w' => e = .returned (.bool (decide (a &&& b ≠ 0))) ∧ Below w.heap.size w w' :=
 (zad.calls _ _ _ w (meets_f a b ha hb)).mono fun _ _ h => ⟨h.1, h.2.below⟩
theorem in_same (a b : Nat) (ha : a < 18446744073709551616) (hb : b < 18446744073709551616) : same64 (a &&& b) a = decide (minusN a b = 0) := by
 have hl : a &&& b < 18446744073709551616 := Nat.lt_of_le_of_lt Nat.and_le_left ha
 rw [same64_eq _ _ hl ha]
 refine decide_eq_decide.2 ⟨fun h => (minus_zero a b).2 fun i hi => ?_, fun h => Nat.eq_of_testBit_eq fun i => ?_⟩
 ·
  rw [← h, Nat.testBit_and] at hi
  exact (Bool.and_eq_true_iff.1 hi).2
 ·
  rw [Nat.testBit_and]
  cases hi : a.testBit i
  ·
   rfl
  ·
   rw [(minus_zero a b).1 h i hi]; rfl
theorem meets_same (a b : Nat) (ha : a < 18446744073709551616) (hb : b < 18446744073709551616) : same64 (a &&& b) 0 = !(decide (a &&& b ≠ 0)) := by
 rw [same64_eq _ _ (Nat.lt_of_le_of_lt Nat.and_le_left ha) (by decide)]
 by_cases h : a &&& b = 0 <;> simp [h]
def pqT : Bool × List (List Nat × List Nat) := (true, [([], []), ([], []), ([0, 1], [0, 1]), ([], []), ([], []), ([4, 2], [4]), ([3, 5], [3, 5]), ([2, 6], [2, 6]), ([7, 5], [7]), ([8], [8]), ([8], [8]), ([9, 10, 8, 8], [8, 9, 10]), ([8], [8]), ([8], [8]), ([12, 13, 8], [8, 12, 13]), ([11, 14, 8], [8, 11, 14]), ([8, 15], [8, 15]), ([16, 11, 0, 1, 2, 3, 4, 5, 6, 7, 8, 9, 10, 11, 12, 13, 14, 15, 16], [16])])
def pqB : List Nat := [0, 0, 3, 0, 0, 23, 63, 127, 255, 511, 511, 2047, 511, 511, 12799, 32767, 65535, 131071]
theorem pqtab : rtab .any (opsOf Tryd.f5 4) = pqT := by kernel_rfl
theorem pqbits : waitsOk pqT.2 pqB = true := by kernel_rfl
theorem build64 (w : World) : (Instr.build 30 #[]).run Tryd.prog w = .ok (.agg (cells64 0)) w := run_build w _ _ _ built64
theorem exec_build64 (ρ : Operand → Value) (o : Oper) (ho : o.op = .build 30 #[]) (w : World) : (execOp ρ o).run Tryd.prog w = .ok (.value (.agg (cells64 0))) w := by
 unfold execOp
 simp only [ho, Sem.run_bind, List.map_toArray, List.map_nil, build64, Result.andThen_ok, Sem.run_pure]
theorem pairs_ok (a b : Nat) (ha : a < 18446744073709551616) (hb : b < 18446744073709551616) (w : World) (hT : TabAt 0 Lib.deBruijn64tab w) (hg : 0 < w.heap.size) :
  Calls Tryd.prog 5 #[.int .u64 a, .int .u64 b] w fun e w' => e = .returned (.bool true) ∧ Below w.heap.size w w' := by
 have HT := Aside0.mk hT
 have HG := Aside0.mk hg
 have HA := Aside0.mk ha
 have HB := Aside0.mk hb
 clear hT hg ha hb
 go_enter Tryd.func5, Tryd.ntmps5
 go_wp2_with fail
 refine (awake01_ok w HT.out HG.out).mono ?_
 rintro e w1 ⟨rfl, hb1⟩
 have HB1 := Aside0.mk hb1
 clear hb1
 go_wp2_with fail
 refine (rbits_ok a HA.out w1).mono ?_
 rintro e w2 ⟨rfl, hb⟩
 have HB2 := Aside0.mk (za HB1.out hb)
 clear hb HB1
 go_wp2_with fail
 refine (rbits_ok b HB.out w2).mono ?_
 rintro e w3 ⟨rfl, hb⟩
 have HB3 := Aside0.mk (za HB2.out hb)
 clear hb HB2
 go_wp2_with fail
 refine (both_ok a b w3).mono ?_
 rintro e w4 ⟨rfl, hb⟩
 have HB4 := Aside0.mk (za HB3.out hb)
 clear hb HB3
 have HN := SetAt.new w4 0
 have HB5 := Aside0.mk (below_row (zab HB4.out (.cells (cells64 0) 30)) (g := w4.heap.size) HB4.out.size (cells64 (a &&& b)))
 have HS := Aside0.mk (HN.row (a &&& b))
 have HST : Aside0 (Stay w w4.heap.size (a &&& b) ((w4.alloc (.cells (cells64 0) 30)).setRow w4.heap.size (cells64 (a &&& b)))) := ⟨HS.out, HB5.out, by simp⟩
 go_wp2_with (first | (refine wpl_alloc64 rfl rfl ?_) | (refine wpl_store64 _ 0 (a &&& b) _ _ rfl rfl rfl rfl HN ?_))
 generalize (w4.alloc (.cells (cells64 0) 30)).setRow w4.heap.size (cells64 (a &&& b)) = W at HST ⊢
 generalize w4.heap.size = g at HST ⊢
 clear HN HB5 HS HB4
 have CI : Aside0 (∀ W, Calls Tryd.prog 19 #[.int .u64 a, .int .u64 b] W fun e w' => e = .returned (.bool (decide (minusN a b = 0))) ∧ Below W.heap.size W w') := ⟨fun W => in_ok a b HA.out HB.out W⟩
 have CM : Aside0 (∀ W, Calls Tryd.prog 20 #[.int .u64 a, .int .u64 b] W fun e w' => e = .returned (.bool (decide (a &&& b ≠ 0))) ∧ Below W.heap.size W w') := ⟨fun W => meets_ok a b HA.out HB.out W⟩
 have CB : Aside0 (∀ W, Calls Tryd.prog 15 #[.int .u64 a] W fun e w' => e = .returned (.agg (cells64 a)) ∧ Below W.heap.size W w') := ⟨fun W => rbits_ok a HA.out W⟩
 have e1 : ∀ W, (Op.equalIn 10000 30 (.agg (cellsL (a &&& b)).toArray) (.agg (cells64 a))).run Tryd.prog W = .ok (decide (minusN a b = 0)) W := fun W => by
  rw [← in_same a b HA.out HB.out]
  exact equal64 (a &&& b) a W
 have e2 : ∀ W, (Op.equalIn 10000 30 (.agg (cellsL (a &&& b)).toArray) (.agg (cells64 0))).run Tryd.prog W = .ok (!(decide (a &&& b ≠ 0))) W := fun W => by
  rw [← meets_same a b HA.out HB.out]
  exact equal64 (a &&& b) 0 W
 have u64 := under64
 have iL := infoL (a &&& b)
 have g64 := guard64
 have b64 := build64
 generalize decide (minusN a b = 0) = r1 at CI e1
 generalize decide (a &&& b ≠ 0) = r2 at CM e2
 clear HA HB HT HG
 have hr1 : (r1 == r1) = true := beq_self_eq_true _
 have hr2 : (r2 == r2) = true := beq_self_eq_true _
 have hr3 : (!(!r2)) = r2 := Bool.not_not _
 refine start_ (n := 18) (S := fun W' => W'.rangeAt g 0 (cellsL (a &&& b)) ∧ Stay w g (a &&& b) W') (ds := []) #[false, false, false, false, false, false, false, false, false, false, false, false, false, false, false, false, false, false] (by kernel_rfl) rfl rfl (HST.out.drew) (fun hHeld => ?_); refine with_tabW pqtab pqbits (fun HT_ HW_ => ?_)
 refine pure_ (i := 0) (N := some 13) (v := ?_) (a' := ?_) #[true, false, false, false, false, false, false, false, false, false, false, false, false, false, false, false, false, false] rfl rfl (any_of HT_.out (by kernel_rfl)) (fun _ _ _ h => h) (Or.inl ⟨by rfl, ?_⟩) ?_ ?_
 rotate_left
 ·
  intro w'
  go_simp
  with_reducible rfl
 rotate_left
 ·
  simp only [Act.put, List.setIfInBounds_toArray, List.set_cons_zero, List.set_cons_succ]
  rfl
 refine pure_ (i := 1) (N := some 14) (v := ?_) (a' := ?_) #[true, true, false, false, false, false, false, false, false, false, false, false, false, false, false, false, false, false] rfl rfl (any_of HT_.out (by kernel_rfl)) (fun _ _ _ h => h) (Or.inl ⟨by rfl, ?_⟩) ?_ ?_
 rotate_left
 ·
  intro w'
  go_simp
  with_reducible rfl
 rotate_left
 ·
  simp only [Act.put, List.setIfInBounds_toArray, List.set_cons_zero, List.set_cons_succ]
  rfl
 refine pure_ (i := 4) (N := some 17) (v := ?_) (a' := ?_) #[true, true, false, false, true, false, false, false, false, false, false, false, false, false, false, false, false, false] rfl rfl (any_of HT_.out (by kernel_rfl)) (fun _ _ _ h => h) (Or.inl ⟨by rfl, ?_⟩) ?_ ?_
 rotate_left
 ·
  intro w'
  go_simp
  with_reducible rfl
 rotate_left
 ·
  simp only [Act.put, List.setIfInBounds_toArray, List.set_cons_zero, List.set_cons_succ]
  rfl
 refine take_ (i := 3) (N := some 16) (v := .agg (cellsL (a &&& b)).toArray) (a' := ?_) #[true, true, false, true, true, false, false, false, false, false, false, false, false, false, false, false, false, false] rfl rfl (take_ofW HT_.out HW_.out (by kernel_rfl)) (fun _ _ _ h => h) (yieldsIf_load_mid (by rfl) _ _ rfl _ 0 rfl (cellsL (a &&& b)) _ (fun _ h => h.1) under64 rfl (infoL (a &&& b))) hHeld ?_ ?_
 rotate_left
 ·
  simp only [Act.put, List.setIfInBounds_toArray, List.set_cons_zero, List.set_cons_succ]
  rfl
 refine one_ (i := 2) (N := some 15) #[true, true, true, true, true, false, false, false, false, false, false, false, false, false, false, false, false, false] rfl rfl (one_of HT_.out (by kernel_rfl)) (by decide) (fun K hK => ?_)
 refine goes_ Tryd.func19 (by kernel_rfl) rfl #[.int .u64 (a : Int), .int .u64 (b : Int)] (by rfl) rfl rfl (by (try simp only [List.map_toArray, List.map_cons, List.map_nil]); first | done | rfl) ?_
 refine (CI.out _).mono ?_
 rintro e v1 ⟨rfl, hb⟩
 refine ⟨_, rfl, ?_⟩
 refine hK.out _ _ (Stay.step hb hHeld) (fun hHeld => ?_)
 clear hK K hb
 refine norm_ (a' := ?_) ?_ ?_
 rotate_left
 ·
  show Act.put _ (some 15) _ = _
  simp only [Act.put, List.setIfInBounds_toArray, List.set_cons_zero, List.set_cons_succ]
  rfl
 refine one_ (i := 5) (N := some 18) #[true, true, true, true, true, true, false, false, false, false, false, false, false, false, false, false, false, false] rfl rfl (one_of HT_.out (by kernel_rfl)) (by decide) (fun K hK => ?_)
 refine goes_ Tryd.func15 (by kernel_rfl) rfl #[.int .u64 (a : Int)] (by rfl) rfl rfl (by (try simp only [List.map_toArray, List.map_cons, List.map_nil]); first | done | rfl) ?_
 refine (CB.out _).mono ?_
 rintro e v2 ⟨rfl, hb⟩
 refine ⟨_, rfl, ?_⟩
 refine hK.out _ _ (Stay.step hb hHeld) (fun hHeld => ?_)
 clear hK K hb
 refine norm_ (a' := ?_) ?_ ?_
 rotate_left
 ·
  show Act.put _ (some 18) _ = _
  simp only [Act.put, List.setIfInBounds_toArray, List.set_cons_zero, List.set_cons_succ]
  rfl
 refine pure_ (i := 6) (N := some 19) (v := ?_) (a' := ?_) #[true, true, true, true, true, true, true, false, false, false, false, false, false, false, false, false, false, false] rfl rfl (any_of HT_.out (by kernel_rfl)) (fun _ _ _ h => h) (Or.inl ⟨by rfl, ?_⟩) ?_ ?_
 rotate_left
 ·
  intro w'
  go_simp
  with_reducible rfl
 rotate_left
 ·
  simp only [Act.put, List.setIfInBounds_toArray, List.set_cons_zero, List.set_cons_succ]
  rfl
 refine pure_ (i := 7) (N := some 20) (v := ?_) (a' := ?_) #[true, true, true, true, true, true, true, true, false, false, false, false, false, false, false, false, false, false] rfl rfl (any_of HT_.out (by kernel_rfl)) (fun _ _ _ h => h) (Or.inl ⟨by rfl, ?_⟩) ?_ ?_
 rotate_left
 ·
  intro w'
  go_simp
  with_reducible rfl
 rotate_left
 ·
  simp only [Act.put, List.setIfInBounds_toArray, List.set_cons_zero, List.set_cons_succ]
  rfl
 refine pure_ (i := 8) (N := some 21) (v := ?_) (a' := ?_) #[true, true, true, true, true, true, true, true, true, false, false, false, false, false, false, false, false, false] rfl rfl (any_of HT_.out (by kernel_rfl)) (fun _ _ _ h => h) (Or.inl ⟨by rfl, ?_⟩) ?_ ?_
 rotate_left
 ·
  intro w'
  go_simp
  with_reducible rfl
 rotate_left
 ·
  simp only [Act.put, List.setIfInBounds_toArray, List.set_cons_zero, List.set_cons_succ]
  rfl
 refine pure_ (i := 9) (N := some 22) (v := ?_) (a' := ?_) #[true, true, true, true, true, true, true, true, true, true, false, false, false, false, false, false, false, false] rfl rfl (any_of HT_.out (by kernel_rfl)) (fun _ _ _ h => h) (Or.inl ⟨by rfl, ?_⟩) ?_ ?_
 rotate_left
 ·
  intro w'
  go_simp
  with_reducible rfl
 rotate_left
 ·
  simp only [Act.put, List.setIfInBounds_toArray, List.set_cons_zero, List.set_cons_succ]
  rfl
 refine pure_ (i := 10) (N := some 23) (v := ?_) (a' := ?_) #[true, true, true, true, true, true, true, true, true, true, true, false, false, false, false, false, false, false] rfl rfl (any_of HT_.out (by kernel_rfl)) (fun _ _ _ h => h) (Or.inl ⟨by rfl, ?_⟩) ?_ ?_
 rotate_left
 ·
  intro w'
  go_simp
  with_reducible rfl
 rotate_left
 ·
  simp only [Act.put, List.setIfInBounds_toArray, List.set_cons_zero, List.set_cons_succ]
  rfl
 refine pure_ (i := 13) (N := some 26) (v := .agg (cells64 0)) (a' := ?_) #[true, true, true, true, true, true, true, true, true, true, true, false, false, true, false, false, false, false] rfl rfl (any_of HT_.out (by kernel_rfl)) (fun _ _ _ h => h) (Or.inl ⟨by rfl, fun w' => exec_build64 _ _ rfl w'⟩) ?_ ?_
 rotate_left
 ·
  simp only [Act.put, List.setIfInBounds_toArray, List.set_cons_zero, List.set_cons_succ]
  rfl
 refine take_ (i := 12) (N := some 25) (v := .agg (cellsL (a &&& b)).toArray) (a' := ?_) #[true, true, true, true, true, true, true, true, true, true, true, false, true, true, false, false, false, false] rfl rfl (take_ofW HT_.out HW_.out (by kernel_rfl)) (fun _ _ _ h => h) (yieldsIf_load_mid (by rfl) _ _ rfl _ 0 rfl (cellsL (a &&& b)) _ (fun _ h => h.1) under64 rfl (infoL (a &&& b))) hHeld ?_ ?_
 rotate_left
 ·
  simp only [Act.put, List.setIfInBounds_toArray, List.set_cons_zero, List.set_cons_succ]
  rfl
 refine pure_ (i := 14) (N := some 27) (v := ?_) (a' := ?_) #[true, true, true, true, true, true, true, true, true, true, true, false, true, true, true, false, false, false] rfl rfl (any_of HT_.out (by kernel_rfl)) (fun _ _ _ h => h) (Or.inl ⟨by rfl, ?_⟩) ?_ ?_
 rotate_left
 ·
  intro w'
  go_simp
  with_reducible rfl
 rotate_left
 ·
  simp only [Act.put, List.setIfInBounds_toArray, List.set_cons_zero, List.set_cons_succ]
  rfl
 refine one_ (i := 11) (N := some 24) #[true, true, true, true, true, true, true, true, true, true, true, true, true, true, true, false, false, false] rfl rfl (one_of HT_.out (by kernel_rfl)) (by decide) (fun K hK => ?_)
 refine goes_ Tryd.func20 (by kernel_rfl) rfl #[.int .u64 (a : Int), .int .u64 (b : Int)] (by rfl) rfl rfl (by (try simp only [List.map_toArray, List.map_cons, List.map_nil]); first | done | rfl) ?_
 refine (CM.out _).mono ?_
 rintro e v3 ⟨rfl, hb⟩
 refine ⟨_, rfl, ?_⟩
 refine hK.out _ _ (Stay.step hb hHeld) (fun hHeld => ?_)
 clear hK K hb
 refine norm_ (a' := ?_) ?_ ?_
 rotate_left
 ·
  show Act.put _ (some 24) _ = _
  simp only [Act.put, List.setIfInBounds_toArray, List.set_cons_zero, List.set_cons_succ]
  rfl
 refine pure_ (i := 15) (N := some 28) (v := ?_) (a' := ?_) #[true, true, true, true, true, true, true, true, true, true, true, true, true, true, true, true, false, false] rfl rfl (any_of HT_.out (by kernel_rfl)) (fun _ _ _ h => h) (Or.inl ⟨by rfl, ?_⟩) ?_ ?_
 rotate_left
 ·
  intro w'
  go_simp
  with_reducible rfl
 rotate_left
 ·
  simp only [Act.put, List.setIfInBounds_toArray, List.set_cons_zero, List.set_cons_succ]
  rfl
 refine pure_ (i := 16) (N := some 29) (v := ?_) (a' := ?_) #[true, true, true, true, true, true, true, true, true, true, true, true, true, true, true, true, true, false] rfl rfl (any_of HT_.out (by kernel_rfl)) (fun _ _ _ h => h) (Or.inl ⟨by rfl, ?_⟩) ?_ ?_
 rotate_left
 ·
  intro w'
  go_simp
  with_reducible rfl
 rotate_left
 ·
  simp only [Act.put, List.setIfInBounds_toArray, List.set_cons_zero, List.set_cons_succ]
  rfl
 refine pure_ (i := 17) (N := some 4) (v := ?_) (a' := ?_) #[true, true, true, true, true, true, true, true, true, true, true, true, true, true, true, true, true, true] rfl rfl (any_of HT_.out (by kernel_rfl)) (fun _ _ _ h => h) (Or.inl ⟨by rfl, ?_⟩) ?_ ?_
 rotate_left
 ·
  intro w'
  go_simp
  with_reducible rfl
 rotate_left
 ·
  simp only [Act.put, List.setIfInBounds_toArray, List.set_cons_zero, List.set_cons_succ]
  rfl
 refine done_ (done_of HT_.out (by kernel_rfl)) ?_
 have HB9 := Aside0.mk hHeld.2.2.1
 go_wp2
 go_ret
 exact ⟨rfl, HB9.out⟩
theorem pairs_row (a b : Int) (ha : (Lit.int .u64 a).wf = true) (hb : (Lit.int .u64 b).wf = true) (w : World) (hT : TabAt 0 Lib.deBruijn64tab w) (hg : 0 < w.heap.size) :
  Calls Tryd.prog 5 #[.int .u64 a, .int .u64 b] w fun e w' => e = .returned (.bool true) ∧ Below w.heap.size w w' := by
 have ha' := bounds_u64 ha
 have hb' := bounds_u64 hb
 obtain ⟨n, rfl⟩ : ∃ n : Nat, a = (n : Int) := ⟨a.toNat, by omega⟩
 obtain ⟨m, rfl⟩ : ∃ m : Nat, b = (m : Int) := ⟨b.toNat, by omega⟩
 exact pairs_ok n m (by omega) (by omega) w hT hg
end Go.Proofs.YtilgojlncmjjcaaDoor.P
end
