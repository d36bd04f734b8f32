-- Written by a program of this session (wip/tools/shake.py) out of its own texts and of the kit's printed ones; not trusted: Lean checks it.
import Derived.Test.YtilgojlncmjjcaaDoorZMaskOf0
set_option maxHeartbeats 8000000
set_option maxRecDepth 100000
set_option linter.unusedVariables false
set_option linter.unusedSimpArgs false
section
namespace Go.Proofs.YtilgojlncmjjcaaDoor.P
open Go.RowKit Go.Proofs.YtilgojlncmjjcaaDoorW.PrintWords Go.Proofs.YtilgojlncmjjcaaDoorW.PrintLast Go.Proofs.YtilgojlncmjjcaaDoorW.PrintMore
attribute [local go_sem] max2_int min2_int max_two min_two max_three min_three max_four min_four
def cells64 (s : Nat) : Array Value := ((List.range 64).map fun i => Value.bool (s.testBit i)).toArray
theorem zaa (s : Nat) : (cells64 s).size = 64 := by simp [cells64]
theorem cells64_get (s i : Nat) (hi : i < 64) : (cells64 s)[i]? = some (.bool (s.testBit i)) := by simp [cells64, hi]
theorem cells64_one (s : Nat) : (cells64 s).all (·.oneCell') = true := by
 rw [Array.all_eq_true_iff_forall_mem]
 intro v hv
 simp only [cells64, List.mem_toArray, List.mem_map, List.mem_range] at hv
 obtain ⟨i, _, rfl⟩ := hv
 rfl
def putB (s i : Nat) (b : Bool) : Nat := if b = true then s ||| 2 ^ i else minusN s (2 ^ i)
theorem testBit_putB (s i : Nat) (b : Bool) (j : Nat) : (putB s i b).testBit j = if i = j then b else s.testBit j := by
 unfold putB
 cases b
 ·
  rw [if_neg (by decide), testBit_minus, Nat.testBit_two_pow]
  by_cases h : i = j <;> simp [h]
 ·
  rw [if_pos rfl, Nat.testBit_or, Nat.testBit_two_pow]
  by_cases h : i = j <;> simp [h]
theorem cells64_set (s i : Nat) (b : Bool) : (cells64 s).setIfInBounds i (.bool b) = cells64 (putB s i b) := by
 apply Array.ext_getElem?
 intro j
 rw [Array.getElem?_setIfInBounds]
 by_cases hj : j < 64
 ·
  rw [cells64_get _ _ hj, cells64_get _ _ hj, testBit_putB]
  by_cases h : i = j
  ·
   subst h
   simp [zaa, hj]
  ·
   simp [h]
 ·
  rw [Array.getElem?_eq_none (by rw [zaa]; omega), Array.getElem?_eq_none (by rw [zaa]; omega)]
  by_cases h : i = j
  ·
   subst h
   simp [zaa, hj]
  ·
   simp [h]
theorem info64 : (Tryd.prog.info? 30).map (·.size) = some 64 := by kernel_rfl
theorem under64 : Tryd.prog.underlying 30 = some (.array 64 4) := by kernel_rfl
theorem zero64 (w : World) : (zeroValue 30).run Tryd.prog w = .ok (.agg (cells64 0)) w := (zero_of_info (n := 64) (by kernel_rfl)).1 w
theorem built64 : Tryd.prog.built 30 [] = some (cells64 0) := by kernel_rfl
def SetAt (w : World) (b s : Nat) : Prop := w.heap[b]? = some (.cells (cells64 s) 30 (0, 0))
theorem SetAt.cell {w : World} {b s : Nat} (h : SetAt w b s) {i : Nat} (hi : i < 64) : w.cell? ⟨b, i, none⟩ = some (.bool (s.testBit i)) ∧ w.frozen? ⟨b, i, none⟩ = false :=
 ⟨(blk_cell h i).trans (cells64_get s i hi), blk_frozen h i⟩
theorem SetAt.put {w : World} {b s : Nat} (h : SetAt w b s) (i : Nat) (x : Bool) : SetAt (w.setCell ⟨b, i, none⟩ (.bool x)) b (putB s i x) := by
 unfold SetAt
 rw [blk_set h, cells64_set]
theorem SetAt.keep {w w' : World} {b s n : Nat} (h : SetAt w b s) (hb : Below n w w') (hn : b < n) : SetAt w' b s := (hb.block b hn).trans h
theorem SetAt.lt {w : World} {b s : Nat} (h : SetAt w b s) : b < w.heap.size := blk_lt h
theorem SetAt.new (w : World) (s : Nat) : SetAt (w.alloc (.cells (cells64 s) 30)) w.heap.size s := blk_new w _
theorem SetAt.alloc {w : World} {b s : Nat} (h : SetAt w b s) (o : Obj) : SetAt (w.alloc o) b s := blk_alloc h o
theorem SetAt.row {w : World} {b s : Nat} (h : SetAt w b s) (x : Nat) : SetAt (w.setRow b (cells64 x)) b x := setRow_heap w b _ _ _ _ h
theorem SetAt.rowNe {w : World} {b g s : Nat} (h : SetAt w b s) (hn : b ≠ g) (x : Nat) : SetAt (w.setRow g (cells64 x)) b s := by
 unfold SetAt World.setRow
 show (w.heap.modify g _)[b]? = _
 rw [Array.getElem?_modify, if_neg (fun e => hn e.symm)]
 exact h
theorem below_row {n g : Nat} {w w' : World} (h : Below n w w') (hg : n ≤ g) (cs : Array Value) : Below n w (w'.setRow g cs) := by
 refine ⟨h.os, h.tape, h.output, ?_, fun b hb => ?_⟩
 ·
  rw [setRow_size]; exact h.size
 ·
  show (w'.heap.modify g _)[b]? = _
  rw [Array.getElem?_modify, if_neg (by omega)]
  exact h.block b hb
theorem wpl_alloc64 {ops : Array Oper} {rest : List Oper} {o : Oper} {a : Act} {w : World} {Q : Exit → Act → World → Prop} (hg : o.guard = none) (ho : o.op = .alloc 30)
  (h : wpList Tryd.prog ops Q rest (a.put o.dst (.pointer (some ⟨w.heap.size, 0, none⟩))) (w.alloc (.cells (cells64 0) 30))) : wpList Tryd.prog ops Q (o :: rest) a w :=
 wpList_plain hg fun K hK => by
  unfold Oper.wp execOp
  have e : (Instr.alloc 30 true (.tuple #[])).run Tryd.prog w = .ok (.pointer (some ⟨w.heap.size, 0, none⟩)) (w.alloc (.cells (cells64 0) 30)) := by
   unfold Instr.alloc
   simp only [Sem.run_bind, zero64, Result.andThen_ok]
   rfl
  simp only [ho, Sem.run_bind, e, Result.andThen_ok]
  exact hK _ _ h
theorem wpl_build64 {ops : Array Oper} {rest : List Oper} {o : Oper} {a : Act} {w : World} {Q : Exit → Act → World → Prop} (hg : o.guard = none) (ho : o.op = .build 30 #[])
  (h : wpList Tryd.prog ops Q rest (a.put o.dst (.agg (cells64 0))) w) : wpList Tryd.prog ops Q (o :: rest) a w := by
 have e : (Array.map (fun (x : Nat × Operand) => (x.1, a.eval x.2)) #[]).toList = [] := by simp
 refine wpList_build hg 30 #[] ho ?_ ?_
 ·
  rw [e, built64]
  exact rfl
 ·
  rw [e, built64]
  exact h
theorem wpl_store64 {ops : Array Oper} {rest : List Oper} {o : Oper} {a : Act} {w : World} {Q : Exit → Act → World → Prop} (g s x : Nat) (p q : Operand) (hgd : o.guard = none) (ho : o.op = .store 30 p q)
  (hx : a.eval p = .pointer (some ⟨g, 0, none⟩)) (hy : a.eval q = .agg (cells64 x)) (hs : SetAt w g s)
  (h : wpList Tryd.prog ops Q rest (a.put o.dst undef) (w.setRow g (cells64 x))) : wpList Tryd.prog ops Q (o :: rest) a w :=
 wpList_store_row hgd 30 p q ho g (cells64 x) hx hy 30 (cells64 s) hs (by rw [zaa]; exact info64) (by rw [zaa, zaa]) (cells64_one x) h
theorem wpl_load64 {ops : Array Oper} {rest : List Oper} {o : Oper} {a : Act} {w : World} {Q : Exit → Act → World → Prop} (g s : Nat) (p : Operand) (hgd : o.guard = none) (ho : o.op = .load 30 p)
  (hx : a.eval p = .pointer (some ⟨g, 0, none⟩)) (hs : SetAt w g s)
  (h : wpList Tryd.prog ops Q rest (a.put o.dst (.agg (cells64 s))) w) : wpList Tryd.prog ops Q (o :: rest) a w :=
 wpList_load_row hgd 30 p ho g hx 30 (cells64 s) (0, 0) _ hs under64 rfl (by rw [zaa]; exact info64) h
theorem half_bit (s k : Nat) : s / 2 ^ k = s / 2 ^ (k + 1) * 2 + (if s.testBit k = true then 1 else 0) := by
 rw [Nat.pow_succ, ← Nat.div_div_eq_div_mul, Nat.testBit_eq_decide_div_mod_eq]
 generalize s / 2 ^ k = q
 by_cases h : q % 2 = 1
 ·
  rw [decide_eq_true h, if_pos rfl]; omega
 ·
  rw [decide_eq_false h, if_neg (by decide)]; omega
theorem number_ok (s : Nat) (hs : s < 18446744073709551616) (w : World) :
  Calls Tryd.prog 33 #[.agg (cells64 s)] w fun e w' => e = .returned (.int .u64 s) ∧ Below w.heap.size w w' := by
 have HS := Aside0.mk hs
 clear hs
 go_enter Tryd.func33, Tryd.ntmps33
 go_wp2_with fail
 have HC := Aside0.mk (SetAt.new w s)
 have HB := Aside0.mk (zab (Below.refl w.heap.size w) (.cells (cells64 s) 30))
 go_loopg [3, 4] 64 (fun gk v3 v4 w' => v3 = .int .u64 ((s / 2 ^ gk : Nat) : Int) ∧ v4 = .int .i64 ((gk : Int) - 1) ∧ Aside0 (gk ≤ 64) ∧ Aside0 (SetAt w' w.heap.size s) ∧ Aside0 (Below w.heap.size w w'))
 case atStart => exact ⟨by rw [Nat.div_eq_of_lt (by have := HS.out; omega)]; rfl, rfl, ⟨Nat.le_refl _⟩, HC, HB⟩
 case round =>
  obtain ⟨rfl, rfl, HK, HCr, HBr⟩ := hrel
  clear HC HB
  cases gk with
  | zero =>
   rw [show ((((0 : Nat) : Int)) - 1) = -1 by rfl, Nat.pow_zero, Nat.div_one]
   go_wp2_with fail
   go_ret
   exact ⟨rfl, HBr.out⟩
  | succ g =>
   have e1 : (((g + 1 : Nat) : Int) - 1) = (g : Int) := by omega
   rw [e1]
   have d1 : decide ((g : Int) ≥ 0) = true := by simp
   obtain ⟨c1, _⟩ := HCr.out.cell (i := g) (by have := HK.out; omega)
   have hh := half_bit s g
   have hl1 : s / 2 ^ g ≤ s := Nat.div_le_self _ _
   generalize s / 2 ^ (g + 1) = q at hh ⊢
   have hw1 : IntKind.u64.wrap ((q : Int) * 2) = (q : Int) * 2 := by
    have := HS.out
    rw [IntKind.wrap_u64]
    omega
   have hl : (g : Int) < 64 := by have := HK.out; omega
   cases hb : s.testBit g
   ·
    rw [hb] at hh c1
    have HH := Aside0.mk (hh.trans (Nat.add_zero _))
    clear hh hl1
    go_wp2_with fail
    go_roundg g
    case rel => exact ⟨by rw [HH.out, Int.natCast_mul]; rfl, by rfl, ⟨by have := HK.out; omega⟩, HCr, HBr⟩
    case measure => omega
   ·
    rw [hb] at hh c1
    have hw2 : IntKind.u64.wrap ((q : Int) * 2 + 1) = (q : Int) * 2 + 1 := by
     have := HS.out
     rw [if_pos rfl] at hh
     rw [IntKind.wrap_u64]
     omega
    have HH := Aside0.mk (hh.trans (congrArg (q * 2 + ·) (if_pos rfl)))
    clear hh hl1
    go_wp2_with fail
    go_roundg g
    case rel => exact ⟨by rw [HH.out, Int.natCast_add, Int.natCast_mul]; rfl, by rfl, ⟨by have := HK.out; omega⟩, HCr, HBr⟩
    case measure => omega
theorem SetAt.other {w : World} {b g s : Nat} (h : SetAt w b s) (hn : b ≠ g) (i : Nat) (v : Value) : SetAt (w.setCell ⟨g, i, none⟩ v) b s := by
 unfold SetAt
 rw [Below.heap_setCell _ _ _ _ hn]
 exact h
theorem is01_ok (n s : Nat) (hs : s < 18446744073709551616) (w : World) :
  Calls Tryd.prog 13 #[.int .u64 n, .agg (cells64 s)] w fun e w' => e = .returned (.bool (((n : Nat) : Int) == ((s : Nat) : Int))) ∧ Below w.heap.size w w' := by
 have HS := Aside0.mk hs
 clear hs
 go_enter Tryd.func13, Tryd.ntmps13
 have HC := Aside0.mk (SetAt.new w s)
 have HB := Aside0.mk (zab (Below.refl w.heap.size w) (.cells (cells64 s) 30))
 go_wp2_with (first | (refine wpl_load64 _ s _ rfl rfl rfl HC.out ?_))
 refine (number_ok s HS.out _).mono ?_
 rintro e w2 ⟨rfl, hb⟩
 have HB2 := Aside0.mk (za HB.out hb)
 clear hb HB HC
 go_wp2_with fail
 go_ret
 exact ⟨rfl, HB2.out⟩
def ofG (s : Nat) : List Int → Nat × Int
 | [] => (s, 0)
 | c :: l => if isC c = true then ofG (withN s c) l else (0, 2)
theorem ofG_lt : ∀ (l : List Int) (s : Nat), s < 18446744073709551616 → (ofG s l).1 < 18446744073709551616
 | [], _, h => h
 | c :: l, s, h => by
  unfold ofG
  by_cases hc : isC c = true
  ·
   rw [if_pos hc]
   exact ofG_lt l _ (with_lt s c h)
  ·
   rw [if_neg hc]
   decide
theorem mask_of_l (l : List Int) (hl : l.length ≤ 1000) : ∀ (k i s : Nat), s < 18446744073709551616 → i ≤ l.length → l.length - i < k →
  zai.l0 k (s : Int) l (l.length : Int) (i : Int) = some (((ofG s (l.drop i)).1 : Int), (ofG s (l.drop i)).2)
 | 0, _, _, _, _, h => by omega
 | k + 1, i, s, hs, hi, hk => by
  rw [zai.l0.eq_2]
  by_cases h : i < l.length
  ·
   rw [if_pos (by omega), if_pos (by omega), if_pos (by omega), core_f, Option.bind_some, List.drop_eq_getElem_cons h]
   have e : rd l (i : Int) = l[i] := by unfold rd; simp [h]
   rw [e]
   unfold ofG
   by_cases hc : isC l[i] = true
   ·
    rw [if_pos hc, if_pos hc, with_f s _ hs, Option.bind_some, show wrap64 ((i : Int) + 1) = ((i + 1 : Nat) : Int) by unfold wrap64; omega]
    exact mask_of_l l hl k (i + 1) _ (with_lt s _ hs) (by omega) (by omega)
   ·
    rw [if_neg hc, if_neg hc]
    rfl
  ·
   rw [if_neg (by omega), List.drop_of_length_le (by omega)]
   rfl
theorem mask_of_f (l : List Int) (hl : l.length ≤ 1000) : zai.f (l.length + 1) l = some (((ofG 0 l).1 : Int), (ofG 0 l).2) := mask_of_l l hl (l.length + 1) 0 0 (by decide) (by omega) (by omega)
def IntsC (w : World) (A : Option Addr) (l : List Int) : Prop := ∀ i, i < l.length → ∃ ad, A = some ad ∧ w.cell? (ad.add i) = some (.int .i64 (l.getD i 0))
theorem IntsC.keep {w w' : World} {A : Option Addr} {l : List Int} (h : IntsC w A l) (hb : Below w.heap.size w w') : IntsC w' A l := fun i hi => by
 obtain ⟨ad, e, hc⟩ := h i hi
 exact ⟨ad, e, (hb.cell (block_lt_of_cell hc)).trans hc⟩
theorem IntsC.kd {w : World} {A : Option Addr} {l : List Int} (h : IntsC w A l) (hl : l.length ≤ 1000) : Kd.C (Kd.int .i64) w A l.length l := by
 refine ⟨rfl, by omega, fun hn => ?_⟩
 obtain ⟨ad, e, _⟩ := h 0 hn
 refine ⟨ad, e, fun j p hj => ⟨[.int .i64 p], rfl, rfl, fun i u hu => ?_⟩⟩
 match i, hu with
 | 0, hu =>
  obtain ⟨hjl, hjp⟩ := List.getElem?_eq_some_iff.1 hj
  obtain ⟨ad2, e2, hc⟩ := h j hjl
  obtain rfl : ad = ad2 := Option.some.inj (e.symm.trans e2)
  rw [show Addr.add ad (j * (Kd.int .i64).sz + 0) = ad.add j by rw [Nat.add_zero]; exact congrArg _ (Nat.mul_one j), hc]
  have : l.getD j 0 = p := by simp [hjl, hjp]
  rw [this]
  simpa using hu
theorem results64t {fn : Func} {p u : Tmp} (h : fn.results = #[.cell p 30, .tmp u]) (tmps : Array Value) (w : World) (g s : Nat) (x : Value) (hp : tmps.getD p undef = .pointer (some ⟨g, 0, none⟩)) (hu : tmps.getD u undef = x) (hg : SetAt w g s) :
  (results fn tmps).run Tryd.prog w = .ok (.tuple #[.agg (cells64 s), x]) w := by
 rw [results_cell_tmp h, hp, hu]
 have e := run_loadVar_row (P := Tryd.prog) w g 30 30 (cells64 s) (0, 0) _ hg under64 rfl (by rw [zaa]; exact info64)
 simp only [asAddr, Sem.run_pure, Result.andThen_ok, e]
theorem rof_ok (A : Option Addr) (cap : Nat) (l : List Int) (hl : l.length ≤ 1000) (w : World) (hA : IntsC w A l) :
  Calls Tryd.prog 12 #[.slice A l.length cap] w fun e w' => e = .returned (.tuple #[.agg (cells64 (ofG 0 l).1), .int .i64 (ofG 0 l).2]) ∧ Below w.heap.size w w' := by
 have HA := Aside0.mk hA
 have HL := Aside0.mk hl
 clear hA hl
 go_enter Tryd.func12, Tryd.ntmps12
 have HC1 := SetAt.new w 0
 have HC2 := SetAt.new (w.alloc (.cells (cells64 0) 30)) 0
 have es : (w.alloc (.cells (cells64 0) 30)).heap.size = w.heap.size + 1 := by simp
 have HB := Aside0.mk (zab (zab (Below.refl w.heap.size w) (.cells (cells64 0) 30)) (.cells (cells64 0) 30))
 go_wp2_with (first | (refine wpl_alloc64 rfl rfl ?_) | (refine wpl_build64 rfl rfl ?_) | (refine wpl_store64 _ 0 0 _ _ rfl rfl rfl rfl HC2 ?_))
 rw [es] at HC2
 have HS2 := Aside0.mk (HC2.row 0)
 have HS1 := Aside0.mk (SetAt.rowNe (SetAt.alloc HC1 (.cells (cells64 0) 30)) (show w.heap.size ≠ w.heap.size + 1 by omega) 0)
 have HBB := Aside0.mk (below_row HB.out (show w.heap.size ≤ w.heap.size + 1 by omega) (cells64 0))
 clear HC1 HC2 es HB
 generalize hln : l.length = len at HL ⊢
 have HLN := Aside0.mk hln
 clear hln
 go_loopg [5, 9] len (fun gk v5 v9 w' => ∃ i s : Nat, v9 = .int .i64 (i : Int) ∧ Aside0 (i + gk = len) ∧ Aside0 (s < 18446744073709551616 ∧ ofG 0 l = ofG s (l.drop i)) ∧ Aside0 (SetAt w' (w.heap.size + 1) s) ∧ Aside0 (SetAt w' w.heap.size 0) ∧ Aside0 (Below w.heap.size w w'))
 case atStart => exact ⟨0, 0, rfl, ⟨by omega⟩, ⟨by decide, by rw [List.drop_zero]⟩, HS2, HS1, HBB⟩
 case round =>
  obtain ⟨i, s, rfl, HK, HO, HC, HR, HBr⟩ := hrel
  clear HS1 HS2 HBB
  cases gk with
  | zero =>
   have hi : i = len := by have := HK.out; omega
   subst hi
   have HRR := Aside0.mk (HR.out.row s)
   have d1 : decide ((i : Int) < (i : Int)) = false := decide_eq_false (by omega)
   have HO2 : Aside0 (ofG 0 l = (s, 0)) := ⟨by rw [HO.out.2, List.drop_of_length_le (by have := HLN.out; omega)]; rfl⟩
   go_wp2_with (first | (refine wpl_load64 _ s _ rfl rfl rfl HC.out ?_) | (refine wpl_store64 _ 0 s _ _ rfl rfl rfl rfl HR.out ?_))
   refine bodyPost_ret (v := .tuple #[.agg (cells64 s), .int .i64 0]) (results64t rfl _ _ w.heap.size s (.int .i64 0) rfl rfl HRR.out) rfl ?_
   exact ⟨by rw [HO2.out], below_row HBr.out (Nat.le_refl _) _⟩
  | succ gk =>
   have hi : i < l.length := by have := HK.out; have := HLN.out; omega
   have hil : i < len := by have := HK.out; omega
   have d1 : decide ((i : Int) < (len : Int)) = true := decide_eq_true (by omega)
   obtain ⟨ad, rfl, c1⟩ := (HA.out.keep HBr.out) i hi
   have hx : l.getD i 0 = l[i] := by simp [hi]
   have HX : Aside0 (ofG 0 l = ofG s (l[i] :: l.drop (i + 1))) := ⟨by rw [HO.out.2, List.drop_eq_getElem_cons hi]⟩
   rw [hx] at c1
   generalize l[i] = c at c1 HX
   clear hx
   go_wp2_with fail
   refine (rcore_ok c wr).mono ?_
   rintro e w3 ⟨rfl, hb⟩
   have HC3 := Aside0.mk (HC.out.keep hb HC.out.lt)
   have HR3 := Aside0.mk (HR.out.keep hb HR.out.lt)
   have HB3 := Aside0.mk (za HBr.out hb)
   have c3 : w3.cell? (ad.add i) = some (.int .i64 c) := (hb.cell (block_lt_of_cell c1)).trans c1
   clear c1 hb HC HR HBr
   cases hc : isC c
   ·
    have HO2 : Aside0 (ofG 0 l = (0, 2)) := ⟨by rw [HX.out]; unfold ofG; rw [hc]; rfl⟩
    have HRR := Aside0.mk (HR3.out.row 0)
    clear c3
    go_wp2_with (first | (refine wpl_build64 rfl rfl ?_) | (refine wpl_store64 _ 0 0 _ _ rfl rfl rfl rfl HR3.out ?_))
    refine bodyPost_ret (v := .tuple #[.agg (cells64 0), .int .i64 2]) (results64t rfl _ _ w.heap.size 0 (.int .i64 2) rfl rfl HRR.out) rfl ?_
    exact ⟨by rw [HO2.out], below_row HB3.out (Nat.le_refl _) _⟩
   ·
    have HO2 : Aside0 (ofG 0 l = ofG (withN s c) (l.drop (i + 1))) := ⟨by rw [HX.out]; conv => lhs; unfold ofG; rw [hc]; simp⟩
    have HLT := Aside0.mk (with_lt s c HO.out.1)
    have h' := isC_iff.1 hc
    obtain ⟨j, rfl⟩ : ∃ j : Nat, c = (j : Int) := ⟨c.toNat, by omega⟩
    have hj : j < 64 := by omega
    have HP : Aside0 (putB s j true = withN s (j : Int)) := ⟨by unfold withN; rw [hc]; rfl⟩
    obtain ⟨c1, c2⟩ := HC3.out.cell hj
    have HN := Aside0.mk (HC3.out.put j true)
    rw [HP.out] at HN
    have HN1 := Aside0.mk (HR3.out.other (g := w.heap.size + 1) (by omega) j (.bool true))
    have HN3 : Aside0 (Below w.heap.size w (w3.setCell ⟨w.heap.size + 1, j, none⟩ (.bool true))) := ⟨HB3.out.setCell (by simp) _⟩
    clear h' HX
    go_wp2_with fail
    go_roundg gk
    case rel => exact ⟨i + 1, _, by rw [show wrap64 ((i : Int) + 1) = ((i + 1 : Nat) : Int) by (have := HL.out; unfold wrap64; omega)], ⟨by have := HK.out; omega⟩, ⟨HLT.out, HO2.out⟩, HN, HN1, HN3⟩
    case measure => omega
theorem wpl_load64g {ops : Array Oper} {rest : List Oper} {o : Oper} {a : Act} {w : World} {Q : Exit → Act → World → Prop} (g s : Nat) (p : Operand) (hw : Region.wanted o (yielded ops a.tmps) = true) (ho : o.op = .load 30 p)
  (hx : a.eval p = .pointer (some ⟨g, 0, none⟩)) (hs : SetAt w g s)
  (h : wpList Tryd.prog ops Q rest (a.put o.dst (.agg (cells64 s))) w) : wpList Tryd.prog ops Q (o :: rest) a w :=
 wpList_step fun K hK => by
  rw [if_pos hw]
  exact wp_load_row 30 p ho g hx 30 (cells64 s) (0, 0) _ hs under64 rfl (by rw [zaa]; exact info64) (hK _ _ h)
theorem of_ok (A : Option Addr) (cap : Nat) (l : List Int) (hl : l.length ≤ 100) (hcap : l.length ≤ cap) (w : World) (hA : IntsC w A l) (hT : TabAt 0 Lib.deBruijn64tab w) (hg : 0 < w.heap.size) :
  Calls Tryd.prog 3 #[.slice A l.length cap] w fun e w' => e = .returned (.bool true) ∧ Below w.heap.size w w' := by
 have HT := Aside0.mk hT
 have HG := Aside0.mk hg
 have HA := Aside0.mk hA
 have HL := Aside0.mk hl
 have HC := Aside0.mk hcap
 have d1 : decide ((l.length : Int) > 100) = false := decide_eq_false (by omega)
 clear hT hg hA hl hcap
 go_enter Tryd.func3, Tryd.ntmps3
 go_wp2_with fail
 refine (awake01_ok w HT.out HG.out).mono ?_
 rintro e w1 ⟨rfl, hb1⟩
 have HB1 := Aside0.mk hb1
 have HA1 := Aside0.mk (HA.out.keep hb1)
 clear hb1
 go_wp2_with fail
 refine (zai.calls (l.length + 1) A cap l _ _ w1 (HA1.out.kd (by have := HL.out; omega)) HC.out (mask_of_f l (by have := HL.out; omega))).mono ?_
 rintro e w2 ⟨rfl, hd⟩
 have HB2 := Aside0.mk (za HB1.out hd.below)
 have HA2 := Aside0.mk (HA1.out.keep hd.below)
 clear hd HB1
 go_wp2_with fail
 refine (rof_ok A cap l (by have := HL.out; omega) w2 HA2.out).mono ?_
 rintro e w3 ⟨rfl, hb⟩
 have HB3 := Aside0.mk (za HB2.out hb)
 have HLT := Aside0.mk (ofG_lt l 0 (by decide))
 clear hb HB2
 generalize (ofG 0 l).1 = s at HLT ⊢
 generalize (ofG 0 l).2 = c
 have hcc : (c == c) = true := beq_self_eq_true _
 have HNN := SetAt.new w3 0
 have HS := Aside0.mk (HNN.row s)
 have HB4 := Aside0.mk (below_row (zab HB3.out (.cells (cells64 0) 30)) (g := w3.heap.size) HB3.out.size (cells64 s))
 go_wp2_with (first | (refine wpl_alloc64 rfl rfl ?_) | (refine wpl_store64 _ 0 s _ _ rfl rfl rfl rfl HNN ?_) | (refine wpl_load64g _ s _ rfl rfl rfl HS.out ?_))
 refine (is01_ok s s HLT.out _).mono ?_
 rintro e w5 ⟨rfl, hb⟩
 have HB5 := Aside0.mk (za HB4.out hb)
 rw [beq_self_eq_true]
 clear hb
 go_wp2_with fail
 go_ret
 exact ⟨rfl, HB5.out⟩
theorem of_long (A : Option Addr) (cap len : Nat) (hl : 100 < len) (w : World) (hT : TabAt 0 Lib.deBruijn64tab w) (hg : 0 < w.heap.size) :
  Calls Tryd.prog 3 #[.slice A len cap] w fun e w' => e = .returned (.bool true) ∧ Below w.heap.size w w' := by
 have HT := Aside0.mk hT
 have HG := Aside0.mk hg
 have d1 : decide ((len : Int) > 100) = true := decide_eq_true (by omega)
 clear hT hg
 go_enter Tryd.func3, Tryd.ntmps3
 go_wp2_with fail
 refine (awake01_ok w HT.out HG.out).mono ?_
 rintro e w1 ⟨rfl, hb1⟩
 have HB1 := Aside0.mk hb1
 clear hb1
 go_wp2_with fail
 refine (awake01_ok w1 (tab_below HT.out HB1.out HG.out) (Nat.lt_of_lt_of_le HG.out HB1.out.size)).mono ?_
 rintro e w2 ⟨rfl, hb⟩
 have HB2 := Aside0.mk (za HB1.out hb)
 clear hb
 go_wp2_with fail
 go_ret
 exact ⟨rfl, HB2.out⟩
theorem of_row (A : Option Addr) (len cap : Nat) (zs : List Int) (w : World)
  (h : (A = none ∧ len = 0 ∧ cap = 0 ∧ zs = []) ∨ ∃ x, A = some x ∧ len ≤ cap ∧ cap ≤ maxLen ∧ zs.length = cap ∧ (∀ i, i < zs.length → w.cell? (x.add i) = some (.int .i64 (zs.getD i 0))) ∧ ∀ n ∈ zs, (Lit.int .i64 n).wf = true)
  (hT : TabAt 0 Lib.deBruijn64tab w) (hg : 0 < w.heap.size) :
  Calls Tryd.prog 3 #[.slice A len cap] w fun e w' => e = .returned (.bool true) ∧ Below w.heap.size w w' := by
 by_cases hl : 100 < len
 ·
  exact of_long A cap len hl w hT hg
 ·
  rcases h with ⟨rfl, rfl, rfl, rfl⟩ | ⟨x, rfl, hc, _, hz, hr, _⟩
  ·
   exact of_ok none 0 [] (by simp) (by simp) w (fun i hi => by simp at hi) hT hg
  ·
   have e : (zs.take len).length = len := by rw [List.length_take]; omega
   have := of_ok (some x) cap (zs.take len) (by omega) (by omega) w (fun i hi => ⟨x, rfl, by
    rw [e] at hi
    rw [hr i (by omega)]
    simp [hi]⟩) hT hg
   rw [e] at this
   exact this
end Go.Proofs.YtilgojlncmjjcaaDoor.P
end
section
namespace Go.Proofs.YtilgojlncmjjcaaDoorW.PrintWords
open Go.ChangeShapes Go.WideShapes
theorem sized_ints {H : Type} {enc : TypeId × Value → H} {P : Program} {W : World} {base : Nat} {spare : Nat → Bool} {held : Bool} {t e : TypeId} {k : IntKind} {a : Option Addr} {len cap : Nat} {d : DataW H} {ps : List MemPlace} {ts : List TypeId} {ds : List (DataW H)} {j : Nat}
  (hsz : (DataW.weightsEach P ts ds).all (· ≤ reachBytes) = true) (ht : ts[j]? = some t) (hd : ds[j]? = some d) (hu : P.underlying t = some (.slice e)) (he : P.underlying e = some (.int k)) (hc : P.cellsOf e = 1) {B : Nat} (hB : P.bytesOf e = B)
  (h : DataW.Trod enc P W base spare held t (.slice a len cap) d ps) : len * B ≤ 140737488351232 := by
 obtain ⟨fuel, hf⟩ := h
 rcases open_ints hu he hc hf with ⟨hcs, _⟩ | ⟨x, l, c, zs, hcs, _, hl, _, hz, hx, _, _⟩
 ·
  simp [Value.cells] at hcs
  obtain ⟨rfl, rfl, rfl⟩ := hcs
  simp
 ·
  simp [Value.cells] at hcs
  obtain ⟨rfl, rfl, rfl⟩ := hcs
  obtain ⟨hx, _⟩ := Prod.mk.inj hx
  subst hx
  have z := sized_slice hsz ht hd hu
  rw [hB] at z
  have hl2 : len ≤ zs.length := by
   rw [hz]
   split
   ·
    exact hl
   ·
    exact Nat.le_refl _
  have h1 : (lits (H := H) k (zs.take len)).length + (lits (H := H) k (zs.drop len)).length = zs.length := by
   simp [lits]
   omega
  rw [h1] at z
  exact Nat.le_trans (Nat.mul_le_mul_right _ hl2) z
end Go.Proofs.YtilgojlncmjjcaaDoorW.PrintWords
end
