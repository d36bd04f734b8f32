-- Written by a program of this session (wip/tools/shake.py) out of its own texts and of the kit's printed ones; not trusted: Lean checks it.
import Derived.Test.YtilgojlncmjjcaaDoorZMaskReads0
set_option maxHeartbeats 8000000
set_option maxRecDepth 100000
set_option linter.unusedVariables false
set_option linter.unusedSimpArgs false
section
namespace Go.Proofs.YtilgojlncmjjcaaDoor.P
open Go.RowKit Go.Proofs.YtilgojlncmjjcaaDoorW.PrintWords Go.Proofs.YtilgojlncmjjcaaDoorW.PrintLast Go.Proofs.YtilgojlncmjjcaaDoorW.PrintMore
attribute [local go_sem] max2_int min2_int max_two min_two max_three min_three max_four min_four
attribute [local go_sem] Oper.semAt_some
def addRun (R : List (Int × Int)) (c : Int) : List (Int × Int) :=
 match R.getLast? with
 | some r => if r.2 = wrap64 (c - 1) then R.dropLast ++ [(r.1, c)] else R ++ [(c, c)]
 | none => [(c, c)]
def runsOf (l : List Int) : List (Int × Int) := l.foldl addRun []
theorem runsOf_snoc (l : List Int) (c : Int) : runsOf (l ++ [c]) = addRun (runsOf l) c := by simp [runsOf]
def runCells (R : List (Int × Int)) : List Value := R.flatMap fun r => [.int .i64 r.1, .int .i64 r.2]
theorem zar (R : List (Int × Int)) : (runCells R).length = R.length * 2 := by
 unfold runCells
 induction R with
 | nil => rfl
 | cons a R ih => rw [List.flatMap_cons, List.length_append, ih]; simp; omega
theorem runCells_app (R Q : List (Int × Int)) : runCells (R ++ Q) = runCells R ++ runCells Q := by simp [runCells]
theorem addRun_len (R : List (Int × Int)) (c : Int) : (addRun R c).length ≤ R.length + 1 := by
 unfold addRun
 cases h : R.getLast? with
 | none => simp
 | some r =>
  dsimp only
  split
  ·
   simp only [List.length_append, List.length_dropLast, List.length_cons, List.length_nil]
   omega
  ·
   simp
theorem runsOf_len (l : List Int) : (runsOf l).length ≤ l.length := by
 have key : ∀ (l : List Int) (R : List (Int × Int)), (l.foldl addRun R).length ≤ R.length + l.length := by
  intro l
  induction l with
  | nil => intro R; simp
  | cons c l ih =>
   intro R
   have := ih (addRun R c)
   have := addRun_len R c
   rw [List.foldl_cons, List.length_cons]
   omega
 have := key l []
 simpa [runsOf] using this
theorem row_below {W W' : World} {base : Nat} {e : TypeId} {size : Nat} {v : Value} {n : Nat} {xs : List Value} (h : W.ownsRow base e size v n xs) (hb : Below W.heap.size W W') : W'.ownsRow base e size v n xs := by
 obtain ⟨h1, h2 | ⟨g, cap, cur, h3, h4, h5, h6⟩⟩ := h
 ·
  exact ⟨h1, .inl h2⟩
 ·
  exact ⟨h1, .inr ⟨g, cap, cur, h3, h4, (hb.block g (blk_lt h5)).trans h5, h6⟩⟩
theorem runCells_get {R : List (Int × Int)} {i : Nat} (h : i < R.length) : (runCells R)[i * 2]? = some (.int .i64 R[i].1) := by
 induction R generalizing i with
 | nil => simp at h
 | cons a R ih =>
  cases i with
  | zero => rfl
  | succ i =>
   have := ih (i := i) (by simpa using h)
   simp only [List.getElem_cons_succ]
   rw [← this, show (i + 1) * 2 = i * 2 + 1 + 1 by omega]
   rfl
theorem runCells_get1 {R : List (Int × Int)} {i : Nat} (h : i < R.length) : (runCells R)[i * 2 + 1]? = some (.int .i64 R[i].2) := by
 induction R generalizing i with
 | nil => simp at h
 | cons a R ih =>
  cases i with
  | zero => rfl
  | succ i =>
   have := ih (i := i) (by simpa using h)
   simp only [List.getElem_cons_succ]
   rw [← this, show (i + 1) * 2 + 1 = i * 2 + 1 + 1 + 1 by omega]
   rfl
theorem str_info : (Tryd.prog.info? 9).map (fun i => (i.zero, i.size, i.bytes)) = some (some (.string ⟨#[]⟩), 1, 16) := by kernel_rfl
theorem one_new (W : World) (a : Value) (t : TypeId) : ∀ j u, [a][j]? = some u → (W.alloc (.cells #[a] t)).cell? ((⟨W.heap.size, 0, none⟩ : Addr).add j) = some u := by
 intro j u h
 have hb := blk_new W (.cells #[a] t)
 have e : ((⟨W.heap.size, 0, none⟩ : Addr).add j) = ⟨W.heap.size, j, none⟩ := add_plain ..
 rw [e, zas hb j]
 match j, h with
 | 0, h => exact h
def runTexts (R : List (Int × Int)) : List ByteArray := R.map fun r => runText r.1.toNat r.2.toNat
theorem cores_in (s : Nat) (hs : s < 18446744073709551616) : ∀ c ∈ coresN s, 0 ≤ c ∧ c < 64 := by
 induction s using Nat.strongRecOn with
 | _ s ih =>
  by_cases h0 : s = 0
  ·
   subst h0
   rw [coresN_zero]
   intro c hc
   cases hc
  ·
   rw [zan h0]
   intro c hc
   rcases List.mem_cons.1 hc with rfl | hc
   ·
    obtain ⟨_, hk⟩ := Lib.lowest_bit 64 s h0 hs
    omega
   ·
    have := Nat.and_le_right (n := s) (m := s - 1)
    exact ih _ (by omega) (by omega) c hc
theorem addRun_in {R : List (Int × Int)} {c : Int} (h : ∀ r ∈ R, (0 ≤ r.1 ∧ r.1 < 64) ∧ 0 ≤ r.2 ∧ r.2 < 64) (hc : 0 ≤ c ∧ c < 64) : ∀ r ∈ addRun R c, (0 ≤ r.1 ∧ r.1 < 64) ∧ 0 ≤ r.2 ∧ r.2 < 64 := by
 unfold addRun
 cases hl : R.getLast? with
 | none =>
  intro r hr
  simp at hr
  subst hr
  exact ⟨hc, hc⟩
 | some q =>
  have hq := h q (List.mem_of_getLast? hl)
  dsimp only
  split
  ·
   intro r hr
   rcases List.mem_append.1 hr with hr | hr
   ·
    exact h r (List.dropLast_subset _ hr)
   ·
    simp at hr
    subst hr
    exact ⟨hq.1, hc⟩
  ·
   intro r hr
   rcases List.mem_append.1 hr with hr | hr
   ·
    exact h r hr
   ·
    simp at hr
    subst hr
    exact ⟨hc, hc⟩
theorem runs_in (s : Nat) (hs : s < 18446744073709551616) : ∀ r ∈ runsOf (coresN s), (0 ≤ r.1 ∧ r.1 < 64) ∧ 0 ≤ r.2 ∧ r.2 < 64 := by
 have key : ∀ (l : List Int) (R : List (Int × Int)), (∀ c ∈ l, 0 ≤ c ∧ c < 64) → (∀ r ∈ R, (0 ≤ r.1 ∧ r.1 < 64) ∧ 0 ≤ r.2 ∧ r.2 < 64) → ∀ r ∈ l.foldl addRun R, (0 ≤ r.1 ∧ r.1 < 64) ∧ 0 ≤ r.2 ∧ r.2 < 64 := by
  intro l
  induction l with
  | nil => intro R _ h; exact h
  | cons c l ih =>
   intro R hl hR
   rw [List.foldl_cons]
   exact ih _ (fun x hx => hl x (List.mem_cons_of_mem _ hx)) (addRun_in hR (hl c List.mem_cons_self))
 exact key (coresN s) [] (cores_in s hs) (fun r hr => by cases hr)
theorem run_info : (Tryd.prog.info? 59).map (fun i => (i.zero, i.size, i.bytes)) = some (some (.agg #[.int .i64 0, .int .i64 0]), 2, 16) := by kernel_rfl
theorem two_new (W : World) (a b : Value) (t : TypeId) : ∀ j u, [a, b][j]? = some u → (W.alloc (.cells #[a, b] t)).cell? ((⟨W.heap.size, 0, none⟩ : Addr).add j) = some u := by
 intro j u h
 have hb := blk_new W (.cells #[a, b] t)
 have e : ((⟨W.heap.size, 0, none⟩ : Addr).add j) = ⟨W.heap.size, j, none⟩ := add_plain ..
 rw [e, zas hb j]
 match j, h with
 | 0, h => exact h
 | 1, h => exact h
theorem text_in (n : Nat) (hn : 3 ≤ n) (s : Nat) (hs : s < 18446744073709551616) (hs0 : s ≠ 0) (w : World) (hT : TabAt 0 Lib.deBruijn64tab w) (hg : 0 < w.heap.size) (hN : (coresN s).length ≤ 64) (hJ : (Lib.join ((runTexts (runsOf (coresN s))).map (·.data.toList)) [44]).length ≤ 140737488355328) :
  CallsIn Fence.wide n Tryd.prog 28 #[.int .u64 (s : Int)] w fun e W' => e = .returned (.string ⟨(Lib.join ((runTexts (runsOf (coresN s))).map (·.data.toList)) [44]).toArray⟩) ∧ Below w.heap.size w W' := by
 have h1 : 1 ≤ n := by omega
 have d0 : ((s : Int) == 0) = false := beq_eq_false_iff_ne.mpr (by omega)
 refine callsIn_of_wp_marks Tryd.func28 rfl trivial ?_ rfl
 simp only [Tryd.ntmps28, List.size_toArray, List.length_cons, List.length_nil, Nat.reduceAdd, Nat.reduceSub, Array.replicate_succ, Array.replicate_zero, List.push_toArray, List.append_toArray, List.nil_append, List.cons_append]
 gi_wp2
 refine ⟨trivial, (callsIn_wide.2 (cores_make (s : Int) _)).mono ?_⟩
 rintro e w' ⟨rfl, rfl⟩
 gi_wp2
 have hb0 := Boxed.new w 57 (.slice none 0 0)
 have hcc : ((w.alloc (.cells #[.slice none 0 0] 57)).alloc (.cells #[.int .u64 (s : Int)] 25)).cell? ⟨w.heap.size + 1, 0, none⟩ = some (.int .u64 (s : Int)) := by
  have := blk_new (w.alloc (.cells #[.slice none 0 0] 57)) (.cells #[.int .u64 (s : Int)] 25)
  rw [show (w.alloc (.cells #[.slice none 0 0] 57)).heap.size = w.heap.size + 1 by simp] at this
  exact (zas this 0).trans rfl
 have hB0 : Below w.heap.size w ((w.alloc (.cells #[.slice none 0 0] 57)).alloc (.cells #[.int .u64 (s : Int)] 25)) := ((Below.refl _ w).alloc (Nat.le_refl _) _).alloc (by simp) _
 refine wpIn_rangeFunc_ownF rfl h1 (gf := 34) (lb := #[.pointer (some ⟨w.heap.size + 1, 0, none⟩)]) rfl trivial (enters_of Tryd.func34 (by kernel_rfl) rfl)
  (cores_stops (n - 1) (by omega) (w.heap.size + 1) w.heap.size s hs hg _ (by simp) (by simp; omega) hcc (tab_below hT hB0 hg)) belowK_t (belowK_b (by simp; omega)) (Below.refl _ _) (fun _ => rfl)
  (fun pre W => (∃ v, Boxed W w.heap.size 57 v ∧ W.ownsRow w.heap.size 59 2 v (runsOf pre).length (runCells (runsOf pre)) ∧ True) ∧ Below w.heap.size w W)
  (fun _ _ _ => False)
  (OwnFrom.and (Own.from (holdsRow_own w.heap.size w.heap.size 57 59 2 (fun pre => (runsOf pre).length) (fun pre => runCells (runsOf pre)) (fun _ _ => True)) _) (ownFrom_below (Nat.le_refl _) (by simp; omega)))
  (fun _ _ _ _ _ hs _ _ => hs)
  ⟨⟨.slice none 0 0, hb0.alloc _, World.ownsRow_nil _ _ _ _, trivial⟩, hB0⟩
  (fun x => { tmps := #[.int .u64 (s : Int), undef, .string ⟨#[]⟩, .pointer (some ⟨w.heap.size, 0, none⟩), .int .i64 x, undef, undef, undef, undef, .int .u64 (s : Int), .bool false, .int .u64 (s : Int), .func (.func 34) #[] #[.pointer (some ⟨w.heap.size + 1, 0, none⟩)], .int .i64 x, undef, undef, undef, undef, undef, undef, undef, undef, undef, undef, undef, undef, undef, undef, undef, undef, undef, undef, undef, undef, undef, undef, undef, undef, undef, undef, undef, undef, undef, undef, undef, undef, undef, undef, undef, undef, undef, undef, undef, undef, undef], defers := [] }) ?assign ?body ?done ?stop
 case assign =>
  intro l x W K hK
  gi_wp2
  exact hK
 case stop =>
  rintro D c pre W _ _ h _
  exact h.elim
 case body =>
  rintro l pre x W ⟨⟨v, hv, hrow, _⟩, hB⟩ hlt
  have hcell := hv.cell
  have hfro := hv.frozen
  have hrl := runsOf_len pre
  have hform : ∃ A cap, v = .slice A (runsOf pre).length cap := by
   rcases hrow.2 with ⟨rfl, h0⟩ | ⟨g, cap, cur, rfl, _⟩
   ·
    exact ⟨none, 0, by rw [h0]⟩
   ·
    exact ⟨_, _, rfl⟩
  obtain ⟨A, cap, rfl⟩ := hform
  obtain ⟨i0, hi, hz0, hz1, hz2⟩ := info_parts run_info
  have hadd := runsOf_snoc pre x
  have hRow := Aside0.mk hrow
  have hBx := Aside0.mk hB
  have hVx := Aside0.mk hv
  have hmax : maxLen = 35184372088831 ∨ 1000 ≤ maxLen := .inr (by decide)
  rcases hR : (runsOf pre).getLast? with _ | r
  ·
   have hR0 : runsOf pre = [] := List.getLast?_eq_none_iff.1 hR
   have hk0 : (runsOf pre).length = 0 := by rw [hR0]; rfl
   have d1 : decide (((runsOf pre).length : Int) > 0) = false := decide_eq_false (by omega)
   have hnx : addRun (runsOf pre) x = runsOf pre ++ [(x, x)] := by rw [hR0]; rfl
   rw [hnx] at hadd
   have hADD := Aside0.mk hadd
   have hRun0 := Aside0.mk hR0
   clear hadd hnx hR hR0
   clear hrow hB
   have hrow0 : W.ownsRow w.heap.size 59 2 (.slice A 0 cap) 0 [] := by
    have := hRow.out
    rw [hRun0.out] at this
    exact this
   have hv0 : Boxed W w.heap.size 57 (.slice A 0 cap) := by
    have := hVx.out
    rw [hRun0.out] at this
    exact this
   rw [hRun0.out] at hcell
   have hcell : W.cell? ⟨w.heap.size, 0, none⟩ = some (.slice A 0 cap) := hcell
   have hRow0 := Aside0.mk hrow0
   have hV0 := Aside0.mk hv0
   clear hrow0 hv0 hv hk0 d1 hrl
   gi_wp2_with (gi_at_builtin; refine wpListIn_append_own _ rfl _ _ 57 rfl w.heap.size 59 i0 (.agg #[.int .i64 0, .int .i64 0]) 2 16 Tryd.underlying57 hi hz0 hz1 hz2 rfl (by decide) _ _ _ rfl (hRow0.out.alloc _) ⟨W.heap.size, 0, none⟩ 1 1 [.int .i64 x, .int .i64 x] rfl rfl (two_new _ _ _ _) (by simp [Value.oneCell']) (by omega) (by omega) (by have := hBx.out.size; simp; omega) ?_; intro v' w1 hown' hgrow _; obtain ⟨g', cap', rfl⟩ := ownsRow_succ hown'; obtain ⟨hv1, hv2, hr2, hk2, hb2⟩ := hV0.out.appended (by decide) hRow0.out hBx.out.size (Nat.le_refl _) hown' hgrow; have hc1 := hv1.cell; have hf1 := hv1.frozen)
   refine ⟨hk2, hb2, ⟨_, hv2, ?_, trivial⟩, hBx.out.trans hb2⟩
   rw [hADD.out, hRun0.out]
   exact hr2
  ·
   obtain ⟨R', hR'⟩ := List.getLast?_eq_some_iff.1 hR
   have hRun := Aside0.mk hR'
   have hLast := Aside0.mk hR
   have hADD := Aside0.mk hadd
   have hkl : (runsOf pre).length = R'.length + 1 := by rw [hR']; simp
   obtain ⟨k, hk⟩ : ∃ k, R'.length = k := ⟨_, rfl⟩
   have hk64 : k < 64 := by omega
   have hrow1 : W.ownsRow w.heap.size 59 2 (.slice A (k + 1) cap) (k + 1) (runCells R' ++ [.int .i64 r.1, .int .i64 r.2]) := by
    have := hrow
    rw [hkl, hk, hR', runCells_app] at this
    exact this
   have hv1 : Boxed W w.heap.size 57 (.slice A (k + 1) cap) := by
    have := hv
    rw [hkl, hk] at this
    exact this
   rw [hkl, hk] at hcell
   obtain ⟨g, cap1, hform⟩ := ownsRow_succ hrow1
   simp only [Value.slice.injEq, true_and] at hform
   obtain ⟨rfl, rfl⟩ := hform
   have hto : W.cell? ⟨g, k * 2 + 1, none⟩ = some (.int .i64 r.2) := by
    rw [hrow1.cellAt (k * 2 + 1) (by omega), List.getElem?_append_right (by rw [zar, hk]; omega), zar, hk]
    simp
   have hfrz : W.frozen? ⟨g, k * 2 + 1, none⟩ = false := hrow1.frozenAt (k * 2 + 1)
   have hRow1 := Aside0.mk hrow1
   have hV1 := Aside0.mk hv1
   have hK := Aside0.mk hk
   clear hrow hv hR hR' hadd hkl hrow1 hv1 hrl hB hk
   have hgl := (hRow1.out.lt g rfl).1
   have hne := hV1.out.not_row (by decide) hRow1.out
   have hRk : (runsOf pre).length = k + 1 := by rw [hRun.out, List.length_append, hK.out]; rfl
   by_cases hx : r.2 = wrap64 (x - 1)
   ·
    have db : (r.2 == wrap64 (x - 1)) = true := beq_iff_eq.mpr hx
    have hnew : runsOf (pre ++ [x]) = R' ++ [(r.1, x)] := by
     rw [hADD.out]
     unfold addRun
     rw [hLast.out]
     dsimp only
     rw [if_pos hx, hRun.out, List.dropLast_concat]
    have HNEW := Aside0.mk hnew
    clear hx hnew
    gi_wp2
    have hst := hRow1.out.stored (k * 2 + 1) (.int .i64 x)
    have hset : (runCells R' ++ [Value.int .i64 r.1, Value.int .i64 r.2]).set (k * 2 + 1) (.int .i64 x) = runCells (R' ++ [(r.1, x)]) := by
     rw [List.set_append_right _ _ (by rw [zar, hK.out]; omega), zar, hK.out, runCells_app]
     rw [show k * 2 + 1 - k * 2 = 1 by omega]
     rfl
    rw [hset] at hst
    refine ⟨KeepsOthers.setCell _ _ _, (Below.refl w.heap.size W).setCell (p := ⟨g, k * 2 + 1, none⟩) hgl _, ⟨_, hV1.out.kept hst.2 hne, ?_, trivial⟩, hBx.out.setCell (p := ⟨g, k * 2 + 1, none⟩) hgl _⟩
    rw [HNEW.out, show (R' ++ [(r.1, x)]).length = k + 1 by rw [List.length_append, hK.out]; rfl]
    exact hst.1
   ·
    have db : (r.2 == wrap64 (x - 1)) = false := beq_eq_false_iff_ne.mpr hx
    have hnew : runsOf (pre ++ [x]) = (R' ++ [r]) ++ [(x, x)] := by
     rw [hADD.out]
     unfold addRun
     rw [hLast.out]
     dsimp only
     rw [if_neg hx, hRun.out]
    have HNEW := Aside0.mk hnew
    have HXN := Aside0.mk hx
    clear hx hnew
    gi_wp2_with (gi_at_builtin; refine wpListIn_append_own _ rfl _ _ 57 rfl w.heap.size 59 i0 (.agg #[.int .i64 0, .int .i64 0]) 2 16 Tryd.underlying57 hi hz0 hz1 hz2 rfl (by decide) _ _ _ rfl (hRow1.out.alloc _) ⟨W.heap.size, 0, none⟩ 1 1 [.int .i64 x, .int .i64 x] rfl rfl (two_new _ _ _ _) (by simp [Value.oneCell']) (by omega) (by omega) (by have := hBx.out.size; simp; omega) ?_; intro v' w1 hown' hgrow _; obtain ⟨g', cap', rfl⟩ := ownsRow_succ hown'; obtain ⟨hv1, hv2, hr2, hk2, hb2⟩ := hV1.out.appended (by decide) hRow1.out hBx.out.size (Nat.le_refl _) hown' hgrow; have hc1 := hv1.cell; have hf1 := hv1.frozen)
    all_goals first | (exfalso; first | exact HXN.out (by assumption) | exact HXN.out (beq_iff_eq.mp (by assumption)) | exact HXN.out (of_decide_eq_true (by assumption))) | skip
    refine ⟨hk2, hb2, ⟨_, hv2, ?_, trivial⟩, hBx.out.trans hb2⟩
    rw [HNEW.out, runCells_app, runCells_app, show ((R' ++ [r]) ++ [(x, x)]).length = k + 1 + 1 by rw [List.length_append, List.length_append, hK.out]; rfl]
    exact hr2
 case done =>
  rintro D ys W hD rfl ⟨⟨v, hv, hrow, _⟩, hB⟩ hK
  have hcell := hv.cell
  have hform : ∃ A cap, v = .slice A (runsOf (coresN s)).length cap := by
   rcases hrow.2 with ⟨rfl, h0⟩ | ⟨g, cap, cur, rfl, _⟩
   ·
    exact ⟨none, 0, by rw [h0]⟩
   ·
    exact ⟨_, _, rfl⟩
  obtain ⟨A, cap, rfl⟩ := hform
  have hrl := runsOf_len (coresN s)
  have hin := runs_in s hs
  obtain ⟨R, hRR⟩ : ∃ R, runsOf (coresN s) = R := ⟨_, rfl⟩
  have HRR := Aside0.mk hRR
  rw [hRR] at hrow hcell hrl hin hJ
  clear hRR
  have hRow := Aside0.mk hrow
  have hBx := Aside0.mk hB
  have hKD := Aside0.mk hK
  have hIn := Aside0.mk hin
  have hDD := Aside0.mk hD
  clear hrow hB hK hin hD hv hb0 hcc hB0
  gi_wp2
  clear hcell
  gi_loopw [6, 43] (fun p6 p43 wr => ∃ i : Nat, p43 = .int .i64 (i : Int) ∧ Aside0 (i ≤ R.length) ∧ Aside0 (wr.ownsRow W.heap.size 9 1 p6 i (((runTexts R).take i).map Value.string)) ∧ Aside0 (Below W.heap.size W wr))
   (fun _ p43 _ => R.length - (match p43 with | .int _ z => z.toNat | _ => 0))
  case atStart => exact ⟨0, by go_num, ⟨by omega⟩, ⟨World.ownsRow_nil _ _ _ _⟩, ⟨Below.refl _ _⟩⟩
  case round =>
   obtain ⟨i, rfl, hi, hO, hW⟩ := hrel
   by_cases hil : i < R.length
   ·
    have d1 : decide ((i : Int) < (R.length : Int)) = true := decide_eq_true (by omega)
    have d3 : 0 ≤ (i : Int) ∧ (i : Int) < (R.length : Int) := by omega
    obtain ⟨r, hr⟩ : ∃ r, R[i] = r := ⟨_, rfl⟩
    have hrm : r ∈ R := by rw [← hr]; exact List.getElem_mem hil
    obtain ⟨b1, b2⟩ := hIn.out r hrm
    obtain ⟨a, ha⟩ : ∃ a : Nat, r.1.toNat = a := ⟨_, rfl⟩
    obtain ⟨b, hb⟩ : ∃ b : Nat, r.2.toNat = b := ⟨_, rfl⟩
    have hform2 : ∃ g, A = some ⟨g, 0, none⟩ := by
     obtain ⟨q, hq⟩ : ∃ q, R.length = q + 1 := ⟨R.length - 1, by omega⟩
     have h2 := hRow.out
     rw [hq] at h2
     obtain ⟨g, c, e⟩ := ownsRow_succ h2
     simp only [Value.slice.injEq] at e
     exact ⟨g, e.1⟩
    obtain ⟨g, rfl⟩ := hform2
    have hgl := (hRow.out.lt g rfl).2
    have hrc0 : (runCells R)[i * 2]? = some (.int .i64 (a : Int)) := by
     rw [runCells_get hil, hr, show r.1 = (a : Int) by omega]
    have hrc1 : (runCells R)[i * 2 + 1]? = some (.int .i64 (b : Int)) := by
     rw [runCells_get1 hil, hr, show r.2 = (b : Int) by omega]
    have c0 : wr.cell? ⟨g, i * 2, none⟩ = some (.int .i64 (a : Int)) := (hW.out.cell (p := ⟨g, i * 2, none⟩) hgl).trans ((hRow.out.cellAt (i * 2) (by omega)).trans hrc0)
    have c1 : wr.cell? ⟨g, i * 2 + 1, none⟩ = some (.int .i64 (b : Int)) := (hW.out.cell (p := ⟨g, i * 2 + 1, none⟩) hgl).trans ((hRow.out.cellAt (i * 2 + 1) (by omega)).trans hrc1)
    have htk : (runTexts R).take (i + 1) = (runTexts R).take i ++ [runText a b] := by
     unfold runTexts
     rw [List.take_succ_eq_append_getElem (by rw [List.length_map]; exact hil)]
     simp [hr, ha, hb]
    have HTK := Aside0.mk htk
    have HA : Aside0 (a < 100 ∧ b < 100) := ⟨by omega⟩
    have HI2 : Aside0 (i + 1 ≤ R.length ∧ i < 64) := ⟨by omega⟩
    clear htk hrc0 hrc1 hr hrm b1 b2 ha hb hgl
    gi_wp2
    refine ⟨trivial, (callsIn_wide.2 (run_text a b HA.out.1 HA.out.2 _)).mono ?_⟩
    rintro e w2 ⟨rfl, hb2⟩
    have HB2 := Aside0.mk (zaa (zae hW.out (.cells #[.int .i64 (a : Int), .int .i64 (b : Int)] 59)) hb2)
    have HO2 := Aside0.mk (row_below (hO.out.alloc _) hb2)
    obtain ⟨i1, hi1, hs0', hs1, hs2⟩ := info_parts str_info
    have hmax : 1000 ≤ maxLen := by decide
    clear hb2 c0 c1
    gi_wp2_with (gi_at_builtin; refine wpListIn_append_own _ rfl _ _ 60 rfl W.heap.size 9 i1 (.string ⟨#[]⟩) 1 16 Tryd.underlying60 hi1 hs0' hs1 hs2 rfl (by decide) _ _ _ rfl (HO2.out.alloc _) ⟨w2.heap.size, 0, none⟩ 1 1 [.string (runText a b)] rfl rfl (one_new _ _ _) (by simp [Value.oneCell']) (by have := HI2.out.2; omega) (by have := HI2.out.2; omega) (by have := HB2.out.size; simp; omega) ?_; intro v' w3 hown' hgrow _; have hb3 : Below W.heap.size W w3 := (HB2.out.alloc HB2.out.size _).grown hgrow (by have := HB2.out.size; simp; omega) (fun j ej => (HO2.out.lt j ej).1); have HOn := Aside0.mk hown'; have HBn := Aside0.mk hb3; clear hown' hgrow hb3)
    go_roundw
    case rel => exact ⟨i + 1, by go_num, ⟨HI2.out.1⟩, ⟨by rw [HTK.out, List.map_append]; exact HOn.out⟩, HBn⟩
    case measure =>
     show R.length - ((i : Int) + 1).toNat < R.length - (i : Int).toNat
     have := HI2.out.1
     omega
   ·
    have d1 : decide ((i : Int) < (R.length : Int)) = false := decide_eq_false (by omega)
    have d2 : decide (i < R.length) = false := decide_eq_false hil
    have hie : i = R.length := by have := hi.out; omega
    have hxl : (runTexts R).length = R.length := by simp [runTexts]
    have hrow6 := hO.out
    rw [hie, List.take_of_length_le (by omega)] at hrow6
    have HJN : Aside0 (Calls Tryd.prog 38 #[u6, .string ⟨#[44]⟩] wr fun e w' => e = .returned (.string ⟨(Lib.join ((runTexts R).map (·.data.toList)) [44]).toArray⟩) ∧ Below wr.heap.size wr w') := ⟨by
     rcases hrow6.2 with ⟨rfl, h0⟩ | ⟨g, cap6, cur, rfl, hg0, hcur, hcap6, hmx, hsz, htk⟩
     ·
      have hR0 : runTexts R = [] := List.eq_nil_of_length_eq_zero (by omega)
      rw [hR0]
      exact (Tryd.strings_Join_none none 0 ⟨#[44]⟩ wr).mono fun e w' ⟨he, hw⟩ => ⟨he, by rw [hw]; exact Below.refl _ _⟩
     ·
      have := Tryd.strings_Join g 0 cap6 (runTexts R) ⟨#[44]⟩ wr (fun j x hx => by
       have hj : j < R.length := by
        have := (List.getElem?_eq_some_iff.1 hx).1
        omega
       rw [Nat.zero_add, hrow6.cellAt j (by omega), List.getElem?_map, hx]
       rfl) (blk_lt hcur) (by omega) (by omega) hJ
      rw [hxl] at this
      exact this⟩
    clear hrow6 d1 hxl
    gi_wp2
    refine ⟨trivial, (callsIn_wide.2 HJN.out).mono ?_⟩
    rintro e w9 ⟨rfl, hb9⟩
    have hbW := zaa hW.out hb9
    have hKD9 := (hbW.block D (blk_lt hKD.out)).trans hKD.out
    have HB9 := Aside0.mk (hBx.out.trans (hbW.mono hBx.out.size))
    have HK9 := Aside0.mk hKD9
    clear hb9 hbW hKD9
    gi_wp2
    refine ⟨by simp, .inl ⟨_, _, rfl, run_takeDeferred HK9.out, ?_⟩⟩
    exact ⟨_, results_tmp rfl _ _ _, by rw [HRR.out]; rfl, HB9.out.trans (belowK_b (w := w) (Nat.le_refl _) w9 D _ _ (by have := hDD.out; simp at this; omega) HK9.out rfl rfl)⟩
end Go.Proofs.YtilgojlncmjjcaaDoor.P
end
section
namespace Go.Proofs.YtilgojlncmjjcaaDoor.P
open Go.RowKit Go.Proofs.YtilgojlncmjjcaaDoorW.PrintWords Go.Proofs.YtilgojlncmjjcaaDoorW.PrintLast Go.Proofs.YtilgojlncmjjcaaDoorW.PrintMore
attribute [local go_sem] max2_int min2_int max_two min_two max_three min_three max_four min_four
theorem text_ok (s : Nat) (hs : s < 18446744073709551616) (hs0 : s ≠ 0) (w : World) (hT : TabAt 0 Lib.deBruijn64tab w) (hg : 0 < w.heap.size) (hN : (coresN s).length ≤ 64) (hJ : (Lib.join ((runTexts (runsOf (coresN s))).map (·.data.toList)) [44]).length ≤ 140737488355328) :
  Calls Tryd.prog 28 #[.int .u64 (s : Int)] w fun e W' => e = .returned (.string ⟨(Lib.join ((runTexts (runsOf (coresN s))).map (·.data.toList)) [44]).toArray⟩) ∧ Below w.heap.size w W' :=
 callsIn_wide.1 (text_in 3 (Nat.le_refl _) s hs hs0 w hT hg hN hJ)
theorem cores39 : coresN 39 = [0, 1, 2, 5] := by
 rw [zan (by decide), zan (by decide), zan (by decide), zan (by decide), show ((39 &&& (39 - 1)) &&& ((39 &&& (39 - 1)) - 1)) &&& (((39 &&& (39 - 1)) &&& ((39 &&& (39 - 1)) - 1)) - 1) &&& ((((39 &&& (39 - 1)) &&& ((39 &&& (39 - 1)) - 1)) &&& (((39 &&& (39 - 1)) &&& ((39 &&& (39 - 1)) - 1)) - 1)) - 1) = 0 by decide, coresN_zero]
 decide +kernel
theorem runs39 : runsOf (coresN 39) = [(0, 2), (5, 5)] := by
 rw [cores39]
 decide +kernel
theorem text39 (w : World) (hT : TabAt 0 Lib.deBruijn64tab w) (hg : 0 < w.heap.size) :
  Calls Tryd.prog 28 #[.int .u64 39] w fun e W' => e = .returned (.string ⟨#[48, 45, 50, 44, 53]⟩) ∧ Below w.heap.size w W' := by
 have h := text_ok 39 (by decide) (by decide) w hT hg (by rw [cores39]; decide) (by rw [runs39]; decide +kernel)
 rw [runs39, show (⟨(Lib.join ((runTexts [(0, 2), (5, 5)]).map (·.data.toList)) [44]).toArray⟩ : ByteArray) = ⟨#[48, 45, 50, 44, 53]⟩ by decide +kernel] at h
 exact h
theorem row_C {W : World} {g : Nat} {l : List Int} {t : TypeId} (h : W.heap[g]? = some (.cells (l.map (Value.int .i64)).toArray t (0, 0))) (hl : l.length ≤ 1000) : Kd.C (Kd.int .i64) W (some ⟨g, 0, none⟩) l.length l := by
 refine ⟨rfl, by omega, fun _ => ⟨_, rfl, fun j p hj => ⟨[.int .i64 p], rfl, rfl, fun i u hu => ?_⟩⟩⟩
 match i, hu with
 | 0, hu =>
  have e : (Addr.add ⟨g, 0, none⟩ (j * (Kd.int .i64).sz + 0)) = ⟨g, j, none⟩ := by
   show (Addr.add ⟨g, 0, none⟩ (j * 1 + 0)) = _
   rw [Nat.mul_one, Nat.add_zero, add_plain]
  rw [e, zas h j]
  simp [hj]
  simpa using hu
theorem awake01_ok (w : World) (hT : TabAt 0 Lib.deBruijn64tab w) (hg : 0 < w.heap.size) :
  Calls Tryd.prog 10 #[] w fun e w' => e = .returned (.bool true) ∧ Below w.heap.size w w' := by
 have HT := Aside0.mk hT
 have HG := Aside0.mk hg
 clear hT hg
 go_enter Tryd.func10, Tryd.ntmps10
 go_wp2_with fail
 have hb := blk_new w (.cells #[.int .i64 0, .int .i64 1, .int .i64 2, .int .i64 5] 3)
 have hB := zae (Below.refl w.heap.size w) (.cells #[.int .i64 0, .int .i64 1, .int .i64 2, .int .i64 5] 3)
 generalize w.alloc (.cells #[.int .i64 0, .int .i64 1, .int .i64 2, .int .i64 5] 3) = W1 at hb hB ⊢
 have HB := Aside0.mk hB
 refine (mask_Of.calls 10 (some ⟨w.heap.size, 0, none⟩) 4 [0, 1, 2, 5] 39 0 W1 (row_C (l := [0, 1, 2, 5]) hb (by decide)) (by decide) (by kernel_rfl)).mono ?_
 rintro e w2 ⟨rfl, hd2⟩
 have HB2 := Aside0.mk (zaa HB.out hd2.below)
 clear hb hB hd2
 go_wp2_with fail
 refine (text39 w2 (tab_below HT.out HB2.out HG.out) (Nat.lt_of_lt_of_le HG.out HB2.out.size)).mono ?_
 rintro e w3 ⟨rfl, hb3⟩
 have HB3 := Aside0.mk (zaa HB2.out hb3)
 clear hb3
 go_wp2_with fail
 refine (mask_Set_Len.calls 39 4 w3 (by kernel_rfl)).mono ?_
 rintro e w4 ⟨rfl, hd4⟩
 have HB4 := Aside0.mk (zaa HB3.out hd4.below)
 clear hd4
 go_wp2_with fail
 go_ret
 exact ⟨by first | rfl | simp, HB4.out⟩
def onesN (n s : Nat) : List Nat := (List.range n).filter (s.testBit ·)
def w1 (x : Int) : Int := IntKind.u64.wrap ((Go.bits .and .u64 (x / 2) 6148914691236517205) + (Go.bits .and .u64 x 6148914691236517205))
def w2 (x : Int) : Int := IntKind.u64.wrap ((Go.bits .and .u64 (x / 4) 3689348814741910323) + (Go.bits .and .u64 x 3689348814741910323))
def w3 (x : Int) : Int := Go.bits .and .u64 (IntKind.u64.wrap ((x / 16) + x)) 1085102592571150095
def w4 (x : Int) : Int := IntKind.u64.wrap (x + x / 256)
def w5 (x : Int) : Int := IntKind.u64.wrap (x + x / 65536)
def w6 (x : Int) : Int := IntKind.u64.wrap (x + x / 4294967296)
def minusN (a b : Nat) : Nat := a ^^^ (a &&& b)
theorem testBit_minus (a b i : Nat) : (minusN a b).testBit i = (a.testBit i && !b.testBit i) := by
 unfold minusN
 rw [Nat.testBit_xor, Nat.testBit_and]
 cases a.testBit i <;> cases b.testBit i <;> rfl
def isC (c : Int) : Bool := decide (0 ≤ c ∧ c < 64)
theorem isC_iff {c : Int} : isC c = true ↔ 0 ≤ c ∧ c < 64 := by unfold isC; exact decide_eq_true_iff
def withN (s : Nat) (c : Int) : Nat := if isC c = true then s ||| 2 ^ c.toNat else s
theorem pow_lt64 {c : Int} (h : isC c = true) : 2 ^ c.toNat < 18446744073709551616 := by
 have h' := isC_iff.1 h
 have := Nat.pow_lt_pow_right (a := 2) (by decide) (show c.toNat < 64 by omega)
 omega
theorem with_lt (s : Nat) (c : Int) (hs : s < 18446744073709551616) : withN s c < 18446744073709551616 := by
 unfold withN
 by_cases h : isC c = true
 ·
  rw [if_pos h]
  have := Nat.or_lt_two_pow (n := 64) (x := s) (y := 2 ^ c.toNat) (by omega) (by have := pow_lt64 h; omega)
  omega
 ·
  rw [if_neg h]; exact hs
theorem testBit_with (s : Nat) (c : Int) (i : Nat) : (withN s c).testBit i = (s.testBit i || (isC c && decide (c.toNat = i))) := by
 unfold withN
 by_cases h : isC c = true
 ·
  rw [if_pos h, Nat.testBit_or, Nat.testBit_two_pow, h, Bool.true_and]
 ·
  rw [if_neg h, eq_false_of_ne_true h, Bool.false_and, Bool.or_false]
theorem ones_le (n s : Nat) : (onesN n s).length ≤ n := by
 have := List.length_filter_le (s.testBit ·) (List.range n)
 rw [List.length_range] at this
 exact this
theorem clear_low (k m i : Nat) : ((2 ^ k * (2 * m + 1)) &&& (2 ^ k * (2 * m + 1) - 1)).testBit i = ((2 ^ k * (2 * m + 1)).testBit i && !decide (k = i)) := by
 have hp : 0 < 2 ^ k := Nat.pow_pos (by decide)
 have e : 2 ^ k * (2 * m + 1) - 1 = 2 ^ k * (2 * m) + (2 ^ k - 1) := by
  rw [Nat.mul_add, Nat.mul_one]
  omega
 have e0 := Nat.testBit_two_pow_mul_add (2 * m + 1) hp i
 rw [Nat.add_zero] at e0
 rw [Nat.testBit_and, e, Nat.testBit_two_pow_mul_add (2 * m) (by omega) i, e0]
 by_cases h : i < k
 ·
  rw [if_pos h, if_pos h, Nat.zero_testBit, Bool.false_and, Bool.false_and]
 ·
  rw [if_neg h, if_neg h]
  by_cases h2 : k = i
  ·
   subst h2
   rw [decide_eq_true rfl, Nat.sub_self, Nat.testBit_zero, Nat.testBit_zero]
   simp
  ·
   rw [decide_eq_false h2, Bool.not_false, Bool.and_true]
   obtain ⟨j, hj⟩ : ∃ j, i - k = j + 1 := ⟨i - k - 1, by omega⟩
   rw [hj, Nat.testBit_succ, Nat.testBit_succ, show (2 * m + 1) / 2 = m by omega, show 2 * m / 2 = m by omega, Bool.and_self]
theorem low_bits (k m : Nat) : (2 ^ k * (2 * m + 1)).testBit k = true ∧ ∀ i, i < k → (2 ^ k * (2 * m + 1)).testBit i = false := by
 have hp : 0 < 2 ^ k := Nat.pow_pos (by decide)
 have e0 := Nat.testBit_two_pow_mul_add (2 * m + 1) hp
 simp only [Nat.add_zero] at e0
 constructor
 ·
  rw [e0, if_neg (by omega), Nat.sub_self, Nat.testBit_zero]
  simp
 ·
  intro i hi
  rw [e0, if_pos hi, Nat.zero_testBit]
theorem onesN_clear (n k x y : Nat) (hk : k < n) (h1 : x.testBit k = true) (h0 : ∀ i, i < k → x.testBit i = false) (hy : ∀ i, y.testBit i = (x.testBit i && !decide (k = i))) :
  onesN n x = k :: onesN n y := by
 obtain ⟨r, rfl⟩ : ∃ r, n = (k + 1) + r := ⟨n - (k + 1), by omega⟩
 unfold onesN
 have ex : (List.range k).filter (x.testBit ·) = [] := by
  rw [List.filter_eq_nil_iff]
  intro i hi
  rw [h0 i (List.mem_range.1 hi)]
  decide
 have ey : (List.range k).filter (y.testBit ·) = [] := by
  rw [List.filter_eq_nil_iff]
  intro i hi
  rw [hy, h0 i (List.mem_range.1 hi), Bool.false_and]
  decide
 have eyk : y.testBit k = false := by rw [hy, h1]; simp
 rw [List.range_add, List.filter_append, List.filter_append, List.range_succ, List.filter_append, List.filter_append, ex, ey, List.filter_map, List.filter_map]
 rw [List.filter_cons_of_pos (by exact h1), List.filter_cons_of_neg (by rw [eyk]; decide)]
 simp only [List.filter_nil, List.nil_append, List.cons_append]
 congr 2
 refine List.filter_congr fun i _ => ?_
 show x.testBit (k + 1 + i) = y.testBit (k + 1 + i)
 rw [hy, decide_eq_false (by omega), Bool.not_false, Bool.and_true]
theorem coresN_ones : ∀ (m s : Nat), s ≤ m → s < 18446744073709551616 → coresN s = (onesN 64 s).map (fun i : Nat => (i : Int)) := by
 intro m
 induction m with
 | zero =>
  intro s h _
  have e : s = 0 := by omega
  subst e
  rw [coresN_zero]
  rfl
 | succ m ih =>
  intro s h hs
  by_cases h0 : s = 0
  ·
   subst h0
   rw [coresN_zero]
   rfl
  ·
   obtain ⟨q, hq, hk⟩ := Lib.ctzFrom_spec 64 s (by omega) (by omega)
   have e : Lib.ctz 64 s = Lib.ctzFrom 64 s := by simp [Lib.ctz, h0]
   rw [zan h0, e]
   generalize Lib.ctzFrom 64 s = k at hq hk
   have hb := low_bits k q
   have hc := clear_low k q
   rw [← hq] at hb hc
   have hl := Nat.and_le_right (n := s) (m := s - 1)
   rw [onesN_clear 64 k s (s &&& (s - 1)) hk hb.1 hb.2 hc, List.map_cons, ih _ (by omega) (by omega)]
theorem coresN_eq (s : Nat) (hs : s < 18446744073709551616) : coresN s = (onesN 64 s).map (fun i : Nat => (i : Int)) := coresN_ones s s (Nat.le_refl _) hs
theorem shl_core {c : Int} (h : isC c = true) : shl .u64 1 c = ((2 ^ c.toNat : Nat) : Int) := by
 have h' := isC_iff.1 h
 have hp := pow_lt64 h
 have e : min c.toNat 64 = c.toNat := by omega
 show IntKind.u64.wrap (1 * 2 ^ min c.toNat 64) = _
 rw [e, Int.one_mul, show ((2 : Int) ^ c.toNat) = ((2 ^ c.toNat : Nat) : Int) by rw [Int.natCast_pow]; rfl, IntKind.wrap_u64]
 generalize 2 ^ c.toNat = p at hp
 omega
theorem core_f (c : Int) : zaj.f c = some (isC c) := by
 unfold zaj.f isC
 by_cases h : c ≥ 0
 ·
  rw [if_pos h]
  by_cases h2 : c < 64
  ·
   rw [decide_eq_true h2, decide_eq_true ⟨h, h2⟩]
  ·
   rw [decide_eq_false h2, decide_eq_false (by omega)]
 ·
  rw [if_neg h, decide_eq_false (by omega)]
theorem isC_nonneg {c : Int} (h : isC c = true) : 0 ≤ c := (isC_iff.1 h).1
theorem with_f (s : Nat) (c : Int) (hs : s < 18446744073709551616) : zah.f (s : Int) c = some ((withN s c : Nat) : Int) := by
 unfold zah.f withN
 rw [core_f, Option.bind_some]
 by_cases h : isC c = true
 ·
  rw [if_pos h, if_pos h, if_pos (isC_nonneg h), shl_core h, bits_or_u64_nat _ _ hs (pow_lt64 h)]
 ·
  rw [if_neg h, if_neg h]
theorem with_ok (s : Nat) (c : Int) (hs : s < 18446744073709551616) (w : World) : Calls Tryd.prog 23 #[.int .u64 s, .int .i64 c] w fun e w' => e = .returned (.int .u64 (withN s c : Nat)) ∧ Below w.heap.size w w' :=
 (zah.calls _ _ _ w (with_f s c hs)).mono fun _ _ h => ⟨h.1, h.2.below⟩
def cells64 (s : Nat) : Array Value := ((List.range 64).map fun i => Value.bool (s.testBit i)).toArray
theorem zad (s : Nat) : (cells64 s).size = 64 := by simp [cells64]
theorem cells64_get (s i : Nat) (hi : i < 64) : (cells64 s)[i]? = some (.bool (s.testBit i)) := by simp [cells64, hi]
theorem cells64_one (s : Nat) : (cells64 s).all (·.oneCell') = true := by
 rw [Array.all_eq_true_iff_forall_mem]
 intro v hv
 simp only [cells64, List.mem_toArray, List.mem_map, List.mem_range] at hv
 obtain ⟨i, _, rfl⟩ := hv
 rfl
def putB (s i : Nat) (b : Bool) : Nat := if b = true then s ||| 2 ^ i else minusN s (2 ^ i)
theorem testBit_putB (s i : Nat) (b : Bool) (j : Nat) : (putB s i b).testBit j = if i = j then b else s.testBit j := by
 unfold putB
 cases b
 ·
  rw [if_neg (by decide), testBit_minus, Nat.testBit_two_pow]
  by_cases h : i = j <;> simp [h]
 ·
  rw [if_pos rfl, Nat.testBit_or, Nat.testBit_two_pow]
  by_cases h : i = j <;> simp [h]
theorem cells64_set (s i : Nat) (b : Bool) : (cells64 s).setIfInBounds i (.bool b) = cells64 (putB s i b) := by
 apply Array.ext_getElem?
 intro j
 rw [Array.getElem?_setIfInBounds]
 by_cases hj : j < 64
 ·
  rw [cells64_get _ _ hj, cells64_get _ _ hj, testBit_putB]
  by_cases h : i = j
  ·
   subst h
   simp [zad, hj]
  ·
   simp [h]
 ·
  rw [Array.getElem?_eq_none (by rw [zad]; omega), Array.getElem?_eq_none (by rw [zad]; omega)]
  by_cases h : i = j
  ·
   subst h
   simp [zad, hj]
  ·
   simp [h]
theorem info64 : (Tryd.prog.info? 30).map (·.size) = some 64 := by kernel_rfl
theorem under64 : Tryd.prog.underlying 30 = some (.array 64 4) := by kernel_rfl
theorem zero64 (w : World) : (zeroValue 30).run Tryd.prog w = .ok (.agg (cells64 0)) w := (zero_of_info (n := 64) (by kernel_rfl)).1 w
theorem built64 : Tryd.prog.built 30 [] = some (cells64 0) := by kernel_rfl
def SetAt (w : World) (b s : Nat) : Prop := w.heap[b]? = some (.cells (cells64 s) 30 (0, 0))
theorem SetAt.cell {w : World} {b s : Nat} (h : SetAt w b s) {i : Nat} (hi : i < 64) : w.cell? ⟨b, i, none⟩ = some (.bool (s.testBit i)) ∧ w.frozen? ⟨b, i, none⟩ = false :=
 ⟨(zas h i).trans (cells64_get s i hi), blk_frozen h i⟩
theorem SetAt.put {w : World} {b s : Nat} (h : SetAt w b s) (i : Nat) (x : Bool) : SetAt (w.setCell ⟨b, i, none⟩ (.bool x)) b (putB s i x) := by
 unfold SetAt
 rw [blk_set h, cells64_set]
theorem SetAt.keep {w w' : World} {b s n : Nat} (h : SetAt w b s) (hb : Below n w w') (hn : b < n) : SetAt w' b s := (hb.block b hn).trans h
theorem SetAt.lt {w : World} {b s : Nat} (h : SetAt w b s) : b < w.heap.size := blk_lt h
theorem SetAt.new (w : World) (s : Nat) : SetAt (w.alloc (.cells (cells64 s) 30)) w.heap.size s := blk_new w _
theorem SetAt.alloc {w : World} {b s : Nat} (h : SetAt w b s) (o : Obj) : SetAt (w.alloc o) b s := blk_alloc h o
theorem SetAt.row {w : World} {b s : Nat} (h : SetAt w b s) (x : Nat) : SetAt (w.setRow b (cells64 x)) b x := setRow_heap w b _ _ _ _ h
theorem SetAt.rowNe {w : World} {b g s : Nat} (h : SetAt w b s) (hn : b ≠ g) (x : Nat) : SetAt (w.setRow g (cells64 x)) b s := by
 unfold SetAt World.setRow
 show (w.heap.modify g _)[b]? = _
 rw [Array.getElem?_modify, if_neg (fun e => hn e.symm)]
 exact h
theorem zao {n g : Nat} {w w' : World} (h : Below n w w') (hg : n ≤ g) (cs : Array Value) : Below n w (w'.setRow g cs) := by
 refine ⟨h.os, h.tape, h.output, ?_, fun b hb => ?_⟩
 ·
  rw [setRow_size]; exact h.size
 ·
  show (w'.heap.modify g _)[b]? = _
  rw [Array.getElem?_modify, if_neg (by omega)]
  exact h.block b hb
theorem wpl_alloc64 {ops : Array Oper} {rest : List Oper} {o : Oper} {a : Act} {w : World} {Q : Exit → Act → World → Prop} (hg : o.guard = none) (ho : o.op = .alloc 30)
  (h : wpList Tryd.prog ops Q rest (a.put o.dst (.pointer (some ⟨w.heap.size, 0, none⟩))) (w.alloc (.cells (cells64 0) 30))) : wpList Tryd.prog ops Q (o :: rest) a w :=
 wpList_plain hg fun K hK => by
  unfold Oper.wp execOp
  have e : (Instr.alloc 30 true (.tuple #[])).run Tryd.prog w = .ok (.pointer (some ⟨w.heap.size, 0, none⟩)) (w.alloc (.cells (cells64 0) 30)) := by
   unfold Instr.alloc
   simp only [Sem.run_bind, zero64, Result.andThen_ok]
   rfl
  simp only [ho, Sem.run_bind, e, Result.andThen_ok]
  exact hK _ _ h
theorem zam {ops : Array Oper} {rest : List Oper} {o : Oper} {a : Act} {w : World} {Q : Exit → Act → World → Prop} (hg : o.guard = none) (ho : o.op = .build 30 #[])
  (h : wpList Tryd.prog ops Q rest (a.put o.dst (.agg (cells64 0))) w) : wpList Tryd.prog ops Q (o :: rest) a w := by
 have e : (Array.map (fun (x : Nat × Operand) => (x.1, a.eval x.2)) #[]).toList = [] := by simp
 refine wpList_build hg 30 #[] ho ?_ ?_
 ·
  rw [e, built64]
  exact rfl
 ·
  rw [e, built64]
  exact h
theorem zaf {ops : Array Oper} {rest : List Oper} {o : Oper} {a : Act} {w : World} {Q : Exit → Act → World → Prop} (g s x : Nat) (p q : Operand) (hgd : o.guard = none) (ho : o.op = .store 30 p q)
  (hx : a.eval p = .pointer (some ⟨g, 0, none⟩)) (hy : a.eval q = .agg (cells64 x)) (hs : SetAt w g s)
  (h : wpList Tryd.prog ops Q rest (a.put o.dst undef) (w.setRow g (cells64 x))) : wpList Tryd.prog ops Q (o :: rest) a w :=
 wpList_store_row hgd 30 p q ho g (cells64 x) hx hy 30 (cells64 s) hs (by rw [zad]; exact info64) (by rw [zad, zad]) (cells64_one x) h
theorem wpl_load64 {ops : Array Oper} {rest : List Oper} {o : Oper} {a : Act} {w : World} {Q : Exit → Act → World → Prop} (g s : Nat) (p : Operand) (hgd : o.guard = none) (ho : o.op = .load 30 p)
  (hx : a.eval p = .pointer (some ⟨g, 0, none⟩)) (hs : SetAt w g s)
  (h : wpList Tryd.prog ops Q rest (a.put o.dst (.agg (cells64 s))) w) : wpList Tryd.prog ops Q (o :: rest) a w :=
 wpList_load_row hgd 30 p ho g hx 30 (cells64 s) (0, 0) _ hs under64 rfl (by rw [zad]; exact info64) h
theorem half_bit (s k : Nat) : s / 2 ^ k = s / 2 ^ (k + 1) * 2 + (if s.testBit k = true then 1 else 0) := by
 rw [Nat.pow_succ, ← Nat.div_div_eq_div_mul, Nat.testBit_eq_decide_div_mod_eq]
 generalize s / 2 ^ k = q
 by_cases h : q % 2 = 1
 ·
  rw [decide_eq_true h, if_pos rfl]; omega
 ·
  rw [decide_eq_false h, if_neg (by decide)]; omega
theorem number_ok (s : Nat) (hs : s < 18446744073709551616) (w : World) :
  Calls Tryd.prog 33 #[.agg (cells64 s)] w fun e w' => e = .returned (.int .u64 s) ∧ Below w.heap.size w w' := by
 have HS := Aside0.mk hs
 clear hs
 go_enter Tryd.func33, Tryd.ntmps33
 go_wp2_with fail
 have HC := Aside0.mk (SetAt.new w s)
 have HB := Aside0.mk (zae (Below.refl w.heap.size w) (.cells (cells64 s) 30))
 go_loopg [3, 4] 64 (fun gk v3 v4 w' => v3 = .int .u64 ((s / 2 ^ gk : Nat) : Int) ∧ v4 = .int .i64 ((gk : Int) - 1) ∧ Aside0 (gk ≤ 64) ∧ Aside0 (SetAt w' w.heap.size s) ∧ Aside0 (Below w.heap.size w w'))
 case atStart => exact ⟨by rw [Nat.div_eq_of_lt (by have := HS.out; omega)]; rfl, rfl, ⟨Nat.le_refl _⟩, HC, HB⟩
 case round =>
  obtain ⟨rfl, rfl, HK, HCr, HBr⟩ := hrel
  clear HC HB
  cases gk with
  | zero =>
   rw [show ((((0 : Nat) : Int)) - 1) = -1 by rfl, Nat.pow_zero, Nat.div_one]
   go_wp2_with fail
   go_ret
   exact ⟨rfl, HBr.out⟩
  | succ g =>
   have e1 : (((g + 1 : Nat) : Int) - 1) = (g : Int) := by omega
   rw [e1]
   have d1 : decide ((g : Int) ≥ 0) = true := by simp
   obtain ⟨c1, _⟩ := HCr.out.cell (i := g) (by have := HK.out; omega)
   have hh := half_bit s g
   have hl1 : s / 2 ^ g ≤ s := Nat.div_le_self _ _
   generalize s / 2 ^ (g + 1) = q at hh ⊢
   have hw1 : IntKind.u64.wrap ((q : Int) * 2) = (q : Int) * 2 := by
    have := HS.out
    rw [IntKind.wrap_u64]
    omega
   have hl : (g : Int) < 64 := by have := HK.out; omega
   cases hb : s.testBit g
   ·
    rw [hb] at hh c1
    have HH := Aside0.mk (hh.trans (Nat.add_zero _))
    clear hh hl1
    go_wp2_with fail
    go_roundg g
    case rel => exact ⟨by rw [HH.out, Int.natCast_mul]; rfl, by rfl, ⟨by have := HK.out; omega⟩, HCr, HBr⟩
    case measure => omega
   ·
    rw [hb] at hh c1
    have hw2 : IntKind.u64.wrap ((q : Int) * 2 + 1) = (q : Int) * 2 + 1 := by
     have := HS.out
     rw [if_pos rfl] at hh
     rw [IntKind.wrap_u64]
     omega
    have HH := Aside0.mk (hh.trans (congrArg (q * 2 + ·) (if_pos rfl)))
    clear hh hl1
    go_wp2_with fail
    go_roundg g
    case rel => exact ⟨by rw [HH.out, Int.natCast_add, Int.natCast_mul]; rfl, by rfl, ⟨by have := HK.out; omega⟩, HCr, HBr⟩
    case measure => omega
def coresI (n s : Nat) : List Int := (onesN n s).map (fun i : Nat => (i : Int))
theorem SetAt.other {w : World} {b g s : Nat} (h : SetAt w b s) (hn : b ≠ g) (i : Nat) (v : Value) : SetAt (w.setCell ⟨g, i, none⟩ v) b s := by
 unfold SetAt
 rw [Below.heap_setCell _ _ _ _ hn]
 exact h
theorem is01_ok (n s : Nat) (hs : s < 18446744073709551616) (w : World) :
  Calls Tryd.prog 13 #[.int .u64 n, .agg (cells64 s)] w fun e w' => e = .returned (.bool (((n : Nat) : Int) == ((s : Nat) : Int))) ∧ Below w.heap.size w w' := by
 have HS := Aside0.mk hs
 clear hs
 go_enter Tryd.func13, Tryd.ntmps13
 have HC := Aside0.mk (SetAt.new w s)
 have HB := Aside0.mk (zae (Below.refl w.heap.size w) (.cells (cells64 s) 30))
 go_wp2_with (first | (refine wpl_load64 _ s _ rfl rfl rfl HC.out ?_))
 refine (number_ok s HS.out _).mono ?_
 rintro e w2 ⟨rfl, hb⟩
 have HB2 := Aside0.mk (zaa HB.out hb)
 clear hb HB HC
 go_wp2_with fail
 go_ret
 exact ⟨rfl, HB2.out⟩
def cellsL (s : Nat) : List Value := (List.range 64).map fun i => Value.bool (s.testBit i)
theorem SetAt.range {w : World} {b s : Nat} (h : SetAt w b s) : w.rangeAt b 0 (cellsL s) := fun j v hv => by
 rw [Nat.zero_add, zas h j]
 show (cellsL s).toArray[j]? = some v
 rw [List.getElem?_toArray]
 exact hv
def Stay (w0 : World) (b s : Nat) (W : World) : Prop := SetAt W b s ∧ Below w0.heap.size w0 W ∧ b < W.heap.size
theorem Stay.step {w0 W W' : World} {b s : Nat} (hb : Below W.heap.size W W') (h : W.rangeAt b 0 (cellsL s) ∧ Stay w0 b s W) : W'.rangeAt b 0 (cellsL s) ∧ Stay w0 b s W' := by
 have h1 := h.2.1.keep hb h.2.2.2
 exact ⟨h1.range, h1, zaa h.2.2.1 hb, Nat.lt_of_lt_of_le h.2.2.2 hb.size⟩
theorem Stay.drew {w0 W : World} {b s : Nat} (h : Stay w0 b s W) : W.drew.rangeAt b 0 (cellsL s) ∧ Stay w0 b s W.drew := ⟨SetAt.range (w := W.drew) h.1, h.1, h.2.1.drew, h.2.2⟩
def VarsOk (w : World) : Prop := (∃ m, w.cell? ⟨1, 0, none⟩ = some (.int .i64 m)) ∧ (∃ ev, w.cell? ⟨2, 0, none⟩ = some ev ∧ (ev = .nilIface ∨ ∃ te pe, ev = .iface te pe)) ∧
 (∃ ev, w.cell? ⟨3, 0, none⟩ = some ev ∧ (ev = .nilIface ∨ ∃ te pe, ev = .iface te pe)) ∧ TabAt 0 Lib.deBruijn64tab w ∧ 0 < w.heap.size
theorem VarsOk.keep {w w' : World} (h : VarsOk w) (hb : Below w.heap.size w w') : VarsOk w' := by
 obtain ⟨⟨m, h1⟩, ⟨e1, h2, h2'⟩, ⟨e2, h3, h3'⟩, hT, hg⟩ := h
 exact ⟨⟨m, (hb.cell (block_lt_of_cell h1)).trans h1⟩, ⟨e1, (hb.cell (block_lt_of_cell h2)).trans h2, h2'⟩, ⟨e2, (hb.cell (block_lt_of_cell h3)).trans h3, h3'⟩, tab_below hT hb hg, Nat.lt_of_lt_of_le hg hb.size⟩
def numP (l : List UInt8) : Int × Bool :=
 match Lib.atoiAll l with
 | .ok v => (v, true)
 | .syntax => (0, false)
 | .range => (Lib.atoiSat l, false)
theorem atoi_ok (s : ByteArray) (hs : s.size ≤ 1000) (w : World) (hV : VarsOk w) :
  Calls Tryd.prog 41 #[.string s] w fun e w' => ∃ er, e = .returned (.tuple #[.int .i64 (numP s.data.toList).1, er]) ∧ ((numP s.data.toList).2 = true ∧ er = .nilIface ∨ (numP s.data.toList).2 = false ∧ ∃ t p, er = .iface t p) ∧ Below w.heap.size w w' := by
 unfold numP
 cases h : Lib.atoiAll s.data.toList with
 | ok v =>
  refine (Tryd.strconv_Atoi_ok s (by omega) v h w).mono ?_
  rintro e w' ⟨rfl, hw⟩
  refine ⟨_, rfl, .inl ⟨rfl, rfl⟩, ?_⟩
  rcases hw with rfl | ⟨t, rfl⟩
  ·
   exact Below.refl _ _
  ·
   exact Lib.bytesWorld_below w _ t
 | «syntax» =>
  obtain ⟨ev, h2, h3⟩ := hV.2.1
  refine (Tryd.strconv_Atoi_syntax s (by omega) h ev w h2 h3).mono ?_
  rintro e w' ⟨N, rfl, _, _, hb⟩
  exact ⟨_, rfl, .inr ⟨rfl, _, _, rfl⟩, hb⟩
 | range =>
  obtain ⟨ev, h2, h3⟩ := hV.2.2.1
  refine (Tryd.strconv_Atoi_range s (by omega) h ev w h2 h3).mono ?_
  rintro e w' ⟨N, rfl, _, _, hb⟩
  exact ⟨_, rfl, .inr ⟨rfl, _, _, rfl⟩, hb⟩
theorem cut_ok (s : ByteArray) (hs : s.size ≤ 1000) (w : World) (hV : VarsOk w) :
  Calls Tryd.prog 40 #[.string s, .string ⟨#[45]⟩] w fun e w' => e = .returned (.tuple #[.string ⟨(Lib.cut s.data.toList [45]).1.toArray⟩, .string ⟨(Lib.cut s.data.toList [45]).2.1.toArray⟩, .bool (Lib.cut s.data.toList [45]).2.2]) ∧ Below w.heap.size w w' := by
 obtain ⟨m, hm⟩ := hV.1
 refine (Tryd.strings_Cut s ⟨#[45]⟩ m w (by omega) hm).mono ?_
 rintro e w' ⟨rfl, n, rfl⟩
 exact ⟨rfl, pw_below_drewN (Below.refl _ w) n⟩
def partsB (s : ByteArray) : List ByteArray := Lib.splitB ⟨#[44]⟩ 0 (Lib.countB s ⟨#[44]⟩) s
def partM (p : ByteArray) : Option (Int × Int) :=
 let c := Lib.cut p.data.toList [45]
 let f := numP c.1
 let t := if c.2.2 = true then (numP c.2.1).1 else f.1
 if f.2 = true ∧ isC f.1 = true ∧ isC t = true then some (f.1, t) else none
def fillN (s c : Nat) : Nat → Nat
 | 0 => s
 | k + 1 => fillN (withN s (c : Int)) (c + 1) k
theorem fill_lt : ∀ (k s c : Nat), s < 18446744073709551616 → fillN s c k < 18446744073709551616
 | 0, _, _, h => h
 | k + 1, s, c, h => fill_lt k _ _ (with_lt s _ h)
def readM (s : Nat) : List ByteArray → Option Nat
 | [] => some s
 | p :: ps => match partM p with
  | none => none
  | some r => readM (fillN s r.1.toNat (r.2.toNat + 1 - r.1.toNat)) ps
def noneB : ByteArray := ⟨#[110, 111, 110, 101]⟩
def textB (s : Nat) : ByteArray := if s = 0 then noneB else ⟨(Lib.join ((runTexts (runsOf (coresN s))).map (·.data.toList)) [44]).toArray⟩
theorem digs_size (a : Nat) (h : a < 100) : (⟨(Lib.decDigits a).toArray⟩ : ByteArray).size ≤ 2 := digs_len a h
theorem runText_size (a b : Nat) (ha : a < 100) (hb : b < 100) : (runText a b).size ≤ 5 := by
 have h1 := digs_size a ha
 have h2 := digs_size b hb
 unfold runText
 split
 ·
  omega
 ·
  rw [ByteArray.size_append, ByteArray.size_append]
  have : (⟨#[45]⟩ : ByteArray).size = 1 := rfl
  omega
theorem join_len : ∀ (l : List (List UInt8)), (∀ x ∈ l, x.length ≤ 5) → (Lib.join l [44]).length ≤ 6 * l.length
 | [], _ => by simp [Lib.join_nil]
 | [x], h => by
  rw [Lib.join_one]
  have := h x (by simp)
  simp
  omega
 | x :: y :: l, h => by
  have ih := join_len (y :: l) (fun z hz => h z (List.mem_cons_of_mem _ hz))
  have hx := h x List.mem_cons_self
  have e : Lib.join (x :: y :: l) [44] = x ++ [44] ++ Lib.join (y :: l) [44] := by simp [Lib.join, List.intercalate]
  rw [e]
  simp only [List.length_append, List.length_cons, List.length_nil] at ih ⊢
  omega
theorem text_len (s : Nat) (hs : s < 18446744073709551616) : (coresN s).length ≤ 64 ∧ (Lib.join ((runTexts (runsOf (coresN s))).map (·.data.toList)) [44]).length ≤ 384 := by
 have h1 : (coresN s).length ≤ 64 := by rw [coresN_eq s hs, List.length_map]; exact ones_le 64 s
 refine ⟨h1, ?_⟩
 have h2 := join_len ((runTexts (runsOf (coresN s))).map (·.data.toList)) (fun x hx => by
  obtain ⟨y, hy, rfl⟩ := List.mem_map.1 hx
  unfold runTexts at hy
  obtain ⟨r, hr, rfl⟩ := List.mem_map.1 hy
  have b := runs_in s hs r hr
  exact runText_size _ _ (by omega) (by omega))
 have h3 := runsOf_len (coresN s)
 rw [List.length_map] at h2
 unfold runTexts at h2 ⊢
 rw [List.length_map] at h2
 omega
theorem text_all (s : Nat) (hs : s < 18446744073709551616) (w : World) (hV : VarsOk w) :
  Calls Tryd.prog 28 #[.int .u64 (s : Int)] w fun e W' => e = .returned (.string (textB s)) ∧ Below w.heap.size w W' := by
 unfold textB
 by_cases h : s = 0
 ·
  subst h
  go_enter Tryd.func28, Tryd.ntmps28
  go_wp2_with fail
  go_ret
  exact ⟨rfl, Below.refl _ _⟩
 ·
  rw [if_neg h]
  have hl := text_len s hs
  exact text_ok s hs h w hV.2.2.2.1 hV.2.2.2.2 hl.1 (by omega)
theorem bytes_ext {a b : ByteArray} (h : a.toList = b.toList) : a = b := by
 rw [ByteArray.toList_eq, ByteArray.toList_eq] at h
 cases a
 cases b
 congr 1
 exact Array.toList_inj.1 h
theorem str_beq (a b : ByteArray) : (a.toList == b.toList) = decide (a = b) := by
 by_cases h : a = b
 ·
  rw [decide_eq_true h, h, beq_self_eq_true]
 ·
  rw [decide_eq_false h, beq_eq_false_iff_ne]
  exact fun e => h (bytes_ext e)
theorem count_le (t : ByteArray) : Lib.countB t ⟨#[44]⟩ ≤ t.size + 1 := Nat.le_succ_of_le (Lib.countB_le ⟨#[44]⟩ (by decide) t.size t (Nat.le_refl _))
def readOut (t : ByteArray) : Nat × Int :=
 if t = noneB then (0, 0) else match readM 0 (partsB t) with
  | none => (0, 17)
  | some s => if textB s = t then (s, 0) else (0, 17)
theorem read_lt : ∀ (ps : List ByteArray) (s x : Nat), s < 18446744073709551616 → readM s ps = some x → x < 18446744073709551616
 | [], s, x, h, e => by
  obtain rfl := Option.some.inj e
  exact h
 | p :: ps, s, x, h, e => by
  unfold readM at e
  cases hp : partM p with
  | none => rw [hp] at e; cases e
  | some r =>
   rw [hp] at e
   exact read_lt ps _ x (fill_lt _ _ _ h) e
theorem split_sizes (n : Nat) : ∀ (k : Nat) (s : ByteArray), s.size ≤ n → ∀ p ∈ Lib.splitB ⟨#[44]⟩ 0 k s, p.size ≤ n
 | 0, s, h, p, hp => by
  rw [Lib.splitB_zero, List.mem_singleton] at hp
  rw [hp]; exact h
 | k + 1, s, h, p, hp => by
  unfold Lib.splitB at hp
  split at hp
  ·
   rw [List.mem_singleton] at hp
   rw [hp]; exact h
  ·
   rcases List.mem_cons.1 hp with rfl | hp
   ·
    rw [ByteArray.size_extract]; omega
   ·
    exact split_sizes n k _ (by rw [ByteArray.size_extract]; omega) p hp
theorem cut_sizes (l sep : List UInt8) : (Lib.cut l sep).1.length ≤ l.length ∧ (Lib.cut l sep).2.1.length ≤ l.length := by
 unfold Lib.cut
 split
 ·
  exact ⟨by simp only [List.length_take]; omega, by simp only [List.length_drop]; omega⟩
 ·
  exact ⟨Nat.le_refl _, by simp⟩
theorem split_ok (t : ByteArray) (ht : t.size ≤ 1000) (w : World) (hV : VarsOk w) :
  Calls Tryd.prog 39 #[.string t, .string ⟨#[44]⟩] w fun e w' => e = .returned (.slice (some ⟨w.heap.size, 0, none⟩) (partsB t).length (partsB t).length) ∧ w'.heap[w.heap.size]? = some (.cells ((partsB t).map Value.string).toArray 9 (0, 0)) ∧ Below w.heap.size w w' := by
 obtain ⟨m, hm⟩ := hV.1
 have hpl : (partsB t).length = Lib.countB t ⟨#[44]⟩ + 1 := Lib.splitB_all ⟨#[44]⟩ (by decide) 0 _ t rfl
 refine (Tryd.strings_Split t ⟨#[44]⟩ m w (by omega) hm (by decide)).mono ?_
 rintro e w1 ⟨rfl, rfl⟩
 rw [hpl]
 exact ⟨rfl, blk_new w _, zae (Below.refl w.heap.size w) _⟩
theorem mcore_ok (c : Int) (w : World) : Calls Tryd.prog 32 #[.int .i64 c] w fun e w' => e = .returned (.bool (isC c)) ∧ Below w.heap.size w w' :=
 (zaj.calls _ _ w (core_f c)).mono fun _ _ h => ⟨h.1, h.2.below⟩
theorem partM_bad1 {p : ByteArray} (h : (numP (Lib.cut p.data.toList [45]).1).2 = false) : partM p = none := by
 unfold partM
 simp [h]
theorem readM_none {s : Nat} {p : ByteArray} {ps : List ByteArray} (h : partM p = none) : readM s (p :: ps) = none := by
 unfold readM
 rw [h]
theorem readM_some {s : Nat} {p : ByteArray} {ps : List ByteArray} {r : Int × Int} (h : partM p = some r) : readM s (p :: ps) = readM (fillN s r.1.toNat (r.2.toNat + 1 - r.1.toNat)) ps := by
 conv => lhs; unfold readM
 rw [h]
theorem zaq {t : ByteArray} (h0 : t ≠ noneB) (h : readM 0 (partsB t) = none) : readOut t = (0, 17) := by
 unfold readOut
 rw [if_neg h0, h]
theorem read_ok (t : ByteArray) (ht : t.size ≤ 1000) (w : World) (hV : VarsOk w) :
  Calls Tryd.prog 29 #[.string t] w fun e w' => e = .returned (.tuple #[.int .u64 ((readOut t).1 : Nat), .int .i64 (readOut t).2]) ∧ Below w.heap.size w w' := by
 have HV := Aside0.mk hV
 have HT := Aside0.mk ht
 clear hV ht
 go_enter Tryd.func29, Tryd.ntmps29
 by_cases h0 : t = noneB
 ·
  have d0 : (t.toList == [110, 111, 110, 101]) = true := by rw [h0]; decide +kernel
  have HO : Aside0 (readOut t = (0, 0)) := ⟨by unfold readOut; rw [if_pos h0]⟩
  clear h0
  go_wp2_with fail
  go_ret2
  exact ⟨by rw [HO.out]; rfl, Below.refl _ _⟩
 have d0 : (t.toList == [110, 111, 110, 101]) = false := by
  rw [beq_eq_false_iff_ne]
  intro e
  apply h0
  have e2 : t.toList = noneB.toList := e.trans (by decide +kernel)
  exact bytes_ext e2
 have H0 := Aside0.mk h0
 clear h0
 go_wp2_with fail
 refine (split_ok t HT.out w HV.out).mono ?_
 rintro e w1 ⟨rfl, hx, hb⟩
 have HX := Aside0.mk hx
 have HB1 := Aside0.mk hb
 have HV1 := Aside0.mk (HV.out.keep hb)
 have HPS : Aside0 (∀ p ∈ partsB t, p.size ≤ 1000) := ⟨split_sizes 1000 _ t HT.out⟩
 clear hx hb HV
 have HPL : Aside0 ((partsB t).length ≤ 4294967296) := ⟨by
  have h1 := Lib.splitB_length_le ⟨#[44]⟩ 0 (Lib.countB t ⟨#[44]⟩) t
  have h2 := count_le t
  have h3 := HT.out
  unfold partsB
  omega⟩
 have HRS : Aside0 (readM 0 (partsB t) = readM 0 (partsB t)) := ⟨rfl⟩
 generalize hps : partsB t = ps at HX HPS HPL HRS ⊢
 have HEQ := Aside0.mk hps
 clear hps HRS
 generalize w.heap.size = g at HX ⊢
 have HG := Aside0.mk (blk_lt HX.out)
 go_wp2_with fail
 go_loopg [4, 19] ps.length (fun gk v4 v19 w' => ∃ i s : Nat, v4 = .int .u64 (s : Int) ∧ v19 = .int .i64 (i : Int) ∧ Aside0 (i + gk = ps.length) ∧ Aside0 (s < 18446744073709551616 ∧ readM 0 ps = readM s (ps.drop i)) ∧ Aside0 (Below w1.heap.size w1 w'))
 case atStart => exact ⟨0, 0, rfl, rfl, ⟨by omega⟩, ⟨by decide, by rw [List.drop_zero]⟩, ⟨Below.refl _ _⟩⟩
 case round =>
  obtain ⟨i, s, rfl, rfl, HI, HR, HWr⟩ := hrel
  cases gk with
  | zero =>
   have hi : i = ps.length := by have := HI.out; omega
   subst hi
   have d1 : decide ((ps.length : Int) < (ps.length : Int)) = false := decide_eq_false (by omega)
   have HR0 : Aside0 (readM 0 ps = some s) := ⟨by rw [HR.out.2, List.drop_length]; rfl⟩
   go_wp2_with fail
   refine (text_all s HR.out.1 _ (HV1.out.keep HWr.out)).mono ?_
   rintro e w9 ⟨rfl, hb⟩
   have HW9 := Aside0.mk (zaa HWr.out hb)
   clear hb
   by_cases he : textB s = t
   ·
    have d3 : ((textB s).toList == t.toList) = true := by rw [str_beq]; exact decide_eq_true he
    have HE : Aside0 (readOut t = (s, 0)) := ⟨by unfold readOut; rw [if_neg H0.out, HEQ.out, HR0.out]; exact if_pos he⟩
    clear he
    go_wp2_with fail
    go_ret2
    exact ⟨by rw [HE.out]; rfl, HB1.out.trans (HW9.out.mono HB1.out.size)⟩
   ·
    have d3 : ((textB s).toList == t.toList) = false := by rw [str_beq]; exact decide_eq_false he
    have HE : Aside0 (readOut t = (0, 17)) := ⟨by unfold readOut; rw [if_neg H0.out, HEQ.out, HR0.out]; exact if_neg he⟩
    clear he
    go_wp2_with fail
    go_ret2
    exact ⟨by rw [HE.out]; rfl, HB1.out.trans (HW9.out.mono HB1.out.size)⟩
  | succ g1 =>
   have hil : i < ps.length := by have := HI.out; omega
   have d1 : decide ((i : Int) < (ps.length : Int)) = true := decide_eq_true (by omega)
   have hc : wr.cell? ⟨g, i, none⟩ = some (.string ps[i]) := (HWr.out.cell (p := ⟨g, i, none⟩) HG.out).trans ((zas HX.out i).trans (by simp [hil]))
   have HSZ := Aside0.mk (HPS.out ps[i] (List.getElem_mem hil))
   rw [List.drop_eq_getElem_cons hil] at HR
   generalize ps[i] = p at hc HSZ HR
   go_wp2_with fail
   refine (cut_ok p HSZ.out wr (HV1.out.keep HWr.out)).mono ?_
   rintro e w2 ⟨rfl, hb⟩
   have HW2 := Aside0.mk (zaa HWr.out hb)
   have hcs := cut_sizes p.data.toList [45]
   have hps2 : p.data.toList.length = p.size := rfl
   rw [hps2] at hcs
   have HCS : Aside0 ((Lib.cut p.data.toList [45]).1.length ≤ 1000 ∧ (Lib.cut p.data.toList [45]).2.1.length ≤ 1000) := ⟨by have := HSZ.out; omega, by have := HSZ.out; omega⟩
   clear hb hc hcs hps2
   generalize hcut : Lib.cut p.data.toList [45] = cc at HCS ⊢
   have HC := Aside0.mk hcut
   clear hcut
   obtain ⟨c1, c2, two⟩ := cc
   go_wp2_with fail
   refine (atoi_ok ⟨c1.toArray⟩ HCS.out.1 w2 (HV1.out.keep HW2.out)).mono ?_
   rintro e w3 ⟨er, rfl, her, hb⟩
   have HW3 := Aside0.mk (zaa HW2.out hb)
   clear hb
   replace her : (numP c1).2 = true ∧ er = .nilIface ∨ (numP c1).2 = false ∧ ∃ t p, er = .iface t p := her
   rw [show numP (⟨c1.toArray⟩ : ByteArray).data.toList = numP c1 from rfl]
   cases two
   ·
    skip
    rcases her with ⟨hk, rfl⟩ | ⟨hk, t1, p1, rfl⟩
    ·
     have HKK := Aside0.mk hk
     clear hk
     go_wp2_with fail
     refine (mcore_ok _ _).mono ?_
     rintro e w6 ⟨rfl, hb⟩
     have HW6 := Aside0.mk (zaa HW3.out hb)
     clear hb
     cases hcf : isC (numP c1).1
     ·
      have HE : Aside0 (readOut t = (0, 17)) := ⟨zaq H0.out (by rw [HEQ.out, HR.out.2, readM_none]; unfold partM; rw [HC.out]; simp [hcf])⟩
      go_wp2_with fail
      go_ret2
      exact ⟨by rw [HE.out]; rfl, HB1.out.trans (HW6.out.mono HB1.out.size)⟩
     ·
      go_wp2_with fail
      refine (mcore_ok _ _).mono ?_
      rintro e w7 ⟨rfl, hb⟩
      have HW7 := Aside0.mk (zaa HW6.out hb)
      clear hb
      cases hct : isC ((numP c1).1)
      ·
       have HE : Aside0 (readOut t = (0, 17)) := ⟨zaq H0.out (by rw [HEQ.out, HR.out.2, readM_none]; unfold partM; rw [HC.out]; simp [hct])⟩
       go_wp2_with fail
       go_ret2
       exact ⟨by rw [HE.out]; rfl, HB1.out.trans (HW7.out.mono HB1.out.size)⟩
      ·
       have HP : Aside0 (partM p = some ((numP c1).1, (numP c1).1)) := ⟨by unfold partM; rw [HC.out]; simp [hcf, hct, HKK.out]⟩
       have hf := isC_iff.1 hcf
       generalize (numP c1).1 = f at hf HP ⊢
       obtain ⟨a, rfl⟩ : ∃ a : Nat, f = (a : Int) := ⟨f.toNat, by omega⟩
       have ha : a < 64 := by omega
       have HR2 : Aside0 (s < 18446744073709551616 ∧ readM 0 ps = readM (fillN s a (a + 1 - a)) (ps.drop (i + 1))) := ⟨HR.out.1, by rw [HR.out.2, readM_some HP.out]; rfl⟩
       have HAB : Aside0 (a < 64 ∧ a < 64) := ⟨ha, ha⟩
       clear hf hcf hct HR HP HC ha
       go_wp2_with fail
       go_loopg [4, 13] (a + 1 - a) (fun gj v4 v13 w' => ∃ c x : Nat, v4 = .int .u64 (x : Int) ∧ v13 = .int .i64 (c : Int) ∧ Aside0 (a + 1 - c = gj ∧ c ≤ 64) ∧ Aside0 (x < 18446744073709551616 ∧ fillN s a (a + 1 - a) = fillN x c gj) ∧ Aside0 (Below w1.heap.size w1 w'))
       case atStart => exact ⟨a, s, rfl, rfl, ⟨rfl, by have := HAB.out; omega⟩, ⟨HR2.out.1, rfl⟩, HW7⟩
       case round =>
        obtain ⟨c, x, rfl, rfl, HJ, HF, HWJ⟩ := hrel
        cases gk with
        | zero =>
         have hcb : a < c := by have := HJ.out; omega
         have d2 : decide ((c : Int) ≤ (a : Int)) = false := decide_eq_false (by omega)
         have HF0 : Aside0 (fillN s a (a + 1 - a) = x) := ⟨HF.out.2⟩
         go_wp2_with fail
         go_roundg g1
         case rel => exact ⟨i + 1, x, by rfl, by rw [show wrap64 ((i : Int) + 1) = ((i + 1 : Nat) : Int) by (have := HI.out; have := HPL.out; unfold wrap64; omega)], ⟨by have := HI.out; omega⟩, ⟨HF.out.1, by rw [HR2.out.2, HF0.out]⟩, HWJ⟩
         case measure => omega
        | succ gj =>
         have hcb : c ≤ a := by have := HJ.out; omega
         have d2 : decide ((c : Int) ≤ (a : Int)) = true := decide_eq_true (by omega)
         go_wp2_with fail
         refine (with_ok x (c : Int) HF.out.1 _).mono ?_
         rintro e w8 ⟨rfl, hb⟩
         have HW8 := Aside0.mk (zaa HWJ.out hb)
         clear hb
         go_wp2_with fail
         go_roundg gj
         case rel => exact ⟨c + 1, withN x (c : Int), by rfl, by rw [show wrap64 ((c : Int) + 1) = ((c + 1 : Nat) : Int) by (have := HJ.out; unfold wrap64; omega)], ⟨by have := HJ.out; omega, by have := HJ.out; have := HAB.out; omega⟩, ⟨with_lt x _ HF.out.1, HF.out.2⟩, HW8⟩
         case measure => omega
    ·
     have HE : Aside0 (readOut t = (0, 17)) := ⟨zaq H0.out (by rw [HEQ.out, HR.out.2, readM_none (partM_bad1 (by rw [HC.out]; exact hk))])⟩
     clear hk
     go_wp2_with fail
     go_ret2
     exact ⟨by rw [HE.out]; rfl, HB1.out.trans (HW3.out.mono HB1.out.size)⟩
   ·
    go_wp2_with fail
    refine (atoi_ok ⟨c2.toArray⟩ HCS.out.2 w3 (HV1.out.keep HW3.out)).mono ?_
    rintro e w5 ⟨er2, rfl, _, hb⟩
    have HW5 := Aside0.mk (zaa HW3.out hb)
    clear hb
    rw [show numP (⟨c2.toArray⟩ : ByteArray).data.toList = numP c2 from rfl]
    rcases her with ⟨hk, rfl⟩ | ⟨hk, t1, p1, rfl⟩
    ·
     have HKK := Aside0.mk hk
     clear hk
     go_wp2_with fail
     refine (mcore_ok _ _).mono ?_
     rintro e w6 ⟨rfl, hb⟩
     have HW6 := Aside0.mk (zaa HW5.out hb)
     clear hb
     cases hcf : isC (numP c1).1
     ·
      have HE : Aside0 (readOut t = (0, 17)) := ⟨zaq H0.out (by rw [HEQ.out, HR.out.2, readM_none]; unfold partM; rw [HC.out]; simp [hcf])⟩
      go_wp2_with fail
      go_ret2
      exact ⟨by rw [HE.out]; rfl, HB1.out.trans (HW6.out.mono HB1.out.size)⟩
     ·
      go_wp2_with fail
      refine (mcore_ok _ _).mono ?_
      rintro e w7 ⟨rfl, hb⟩
      have HW7 := Aside0.mk (zaa HW6.out hb)
      clear hb
      cases hct : isC ((numP c2).1)
      ·
       have HE : Aside0 (readOut t = (0, 17)) := ⟨zaq H0.out (by rw [HEQ.out, HR.out.2, readM_none]; unfold partM; rw [HC.out]; simp [hct])⟩
       go_wp2_with fail
       go_ret2
       exact ⟨by rw [HE.out]; rfl, HB1.out.trans (HW7.out.mono HB1.out.size)⟩
      ·
       have HP : Aside0 (partM p = some ((numP c1).1, (numP c2).1)) := ⟨by unfold partM; rw [HC.out]; simp [hcf, hct, HKK.out]⟩
       have hf := isC_iff.1 hcf
       have ht := isC_iff.1 hct
       generalize (numP c1).1 = f at hf HP ⊢
       generalize (numP c2).1 = tv at ht HP ⊢
       obtain ⟨a, rfl⟩ : ∃ a : Nat, f = (a : Int) := ⟨f.toNat, by omega⟩
       obtain ⟨b, rfl⟩ : ∃ b : Nat, tv = (b : Int) := ⟨tv.toNat, by omega⟩
       have ha : a < 64 := by omega
       have hb : b < 64 := by omega
       have HR2 : Aside0 (s < 18446744073709551616 ∧ readM 0 ps = readM (fillN s a (b + 1 - a)) (ps.drop (i + 1))) := ⟨HR.out.1, by rw [HR.out.2, readM_some HP.out]; rfl⟩
       have HAB : Aside0 (a < 64 ∧ b < 64) := ⟨ha, hb⟩
       clear hf ht hcf hct HR HP HC ha hb
       go_wp2_with fail
       go_loopg [4, 13] (b + 1 - a) (fun gj v4 v13 w' => ∃ c x : Nat, v4 = .int .u64 (x : Int) ∧ v13 = .int .i64 (c : Int) ∧ Aside0 (b + 1 - c = gj ∧ c ≤ 64) ∧ Aside0 (x < 18446744073709551616 ∧ fillN s a (b + 1 - a) = fillN x c gj) ∧ Aside0 (Below w1.heap.size w1 w'))
       case atStart => exact ⟨a, s, rfl, rfl, ⟨rfl, by have := HAB.out; omega⟩, ⟨HR2.out.1, rfl⟩, HW7⟩
       case round =>
        obtain ⟨c, x, rfl, rfl, HJ, HF, HWJ⟩ := hrel
        cases gk with
        | zero =>
         have hcb : b < c := by have := HJ.out; omega
         have d2 : decide ((c : Int) ≤ (b : Int)) = false := decide_eq_false (by omega)
         have HF0 : Aside0 (fillN s a (b + 1 - a) = x) := ⟨HF.out.2⟩
         go_wp2_with fail
         go_roundg g1
         case rel => exact ⟨i + 1, x, by rfl, by rw [show wrap64 ((i : Int) + 1) = ((i + 1 : Nat) : Int) by (have := HI.out; have := HPL.out; unfold wrap64; omega)], ⟨by have := HI.out; omega⟩, ⟨HF.out.1, by rw [HR2.out.2, HF0.out]⟩, HWJ⟩
         case measure => omega
        | succ gj =>
         have hcb : c ≤ b := by have := HJ.out; omega
         have d2 : decide ((c : Int) ≤ (b : Int)) = true := decide_eq_true (by omega)
         go_wp2_with fail
         refine (with_ok x (c : Int) HF.out.1 _).mono ?_
         rintro e w8 ⟨rfl, hb⟩
         have HW8 := Aside0.mk (zaa HWJ.out hb)
         clear hb
         go_wp2_with fail
         go_roundg gj
         case rel => exact ⟨c + 1, withN x (c : Int), by rfl, by rw [show wrap64 ((c : Int) + 1) = ((c + 1 : Nat) : Int) by (have := HJ.out; unfold wrap64; omega)], ⟨by have := HJ.out; omega, by have := HJ.out; have := HAB.out; omega⟩, ⟨with_lt x _ HF.out.1, HF.out.2⟩, HW8⟩
         case measure => omega
    ·
     have HE : Aside0 (readOut t = (0, 17)) := ⟨zaq H0.out (by rw [HEQ.out, HR.out.2, readM_none (partM_bad1 (by rw [HC.out]; exact hk))])⟩
     clear hk
     go_wp2_with fail
     go_ret2
     exact ⟨by rw [HE.out]; rfl, HB1.out.trans (HW5.out.mono HB1.out.size)⟩
def digB (n : Nat) : ByteArray := ⟨(Lib.decDigits n).toArray⟩
theorem digits_all : ∀ n : Fin 64, zab.f ((n.val : Nat) : Int) = some (digB n.val) := by decide +kernel
theorem digits_ok (n : Nat) (h : n < 64) (w : World) : Calls Tryd.prog 42 #[.int .i64 (n : Int)] w fun e w' => e = .returned (.string (digB n)) ∧ Below w.heap.size w w' :=
 (zab.calls _ _ w (digits_all ⟨n, h⟩)).mono fun _ _ h => ⟨h.1, h.2.below⟩
def lastOf (s c : Nat) : Nat := if h : c < 63 ∧ s.testBit (c + 1) = true then lastOf s (c + 1) else c
termination_by 63 - c
decreasing_by omega
theorem lastOf_step {s c : Nat} (h : c < 63) (hb : s.testBit (c + 1) = true) : lastOf s c = lastOf s (c + 1) := by
 conv => lhs; rw [lastOf]
 rw [dif_pos ⟨h, hb⟩]
theorem zal {s c : Nat} (h : ¬ (c < 63 ∧ s.testBit (c + 1) = true)) : lastOf s c = c := by
 rw [lastOf, dif_neg h]
theorem lastOf_ge (s : Nat) : ∀ (d c : Nat), 63 - c ≤ d → c ≤ lastOf s c
 | 0, c, h => by
  rw [zal (by omega)]
  exact Nat.le_refl _
 | d + 1, c, h => by
  by_cases hc : c < 63 ∧ s.testBit (c + 1) = true
  ·
   rw [lastOf_step hc.1 hc.2]
   have := lastOf_ge s d (c + 1) (by omega)
   omega
  ·
   rw [zal hc]
   exact Nat.le_refl _
theorem lastOf_le (s : Nat) : ∀ (d c : Nat), 63 - c ≤ d → c ≤ 63 → lastOf s c ≤ 63
 | 0, c, h, hc => by
  rw [zal (by omega)]
  exact hc
 | d + 1, c, h, h2 => by
  by_cases hc : c < 63 ∧ s.testBit (c + 1) = true
  ·
   rw [lastOf_step hc.1 hc.2]
   exact lastOf_le s d (c + 1) (by omega) (by omega)
  ·
   rw [zal hc]
   exact h2
def addPiece (out p : ByteArray) : ByteArray := if out = ⟨#[]⟩ then p else out ++ ⟨#[44]⟩ ++ p
def textFrom (s c : Nat) (out : ByteArray) : ByteArray :=
 if h : c < 64 then (if s.testBit c = true then textFrom s (lastOf s c + 1) (addPiece out (runText c (lastOf s c))) else textFrom s (c + 1) out) else out
termination_by 64 - c
decreasing_by
 ·
  have := lastOf_ge s (63 - c) c (Nat.le_refl _)
  omega
 ·
  omega
theorem textFrom_in {s c : Nat} (out : ByteArray) (h : c < 64) (hb : s.testBit c = true) : textFrom s c out = textFrom s (lastOf s c + 1) (addPiece out (runText c (lastOf s c))) := by
 conv => lhs; rw [textFrom]
 rw [dif_pos h, if_pos hb]
theorem textFrom_out {s c : Nat} (out : ByteArray) (h : c < 64) (hb : s.testBit c = false) : textFrom s c out = textFrom s (c + 1) out := by
 conv => lhs; rw [textFrom]
 rw [dif_pos h, hb, if_neg (by decide)]
theorem textFrom_end {s c : Nat} (out : ByteArray) (h : 64 ≤ c) : textFrom s c out = out := by
 rw [textFrom, dif_neg (by omega)]
def textR (s : Nat) : ByteArray := if textFrom s 0 ⟨#[]⟩ = ⟨#[]⟩ then noneB else textFrom s 0 ⟨#[]⟩
theorem bytes_app_empty (b : ByteArray) : (⟨#[]⟩ : ByteArray) ++ b = b := by
 apply bytes_ext
 rw [ByteArray.toList_eq, ByteArray.toList_eq]
 simp
theorem bytes_assoc (a b c : ByteArray) : a ++ b ++ c = a ++ (b ++ c) := by
 apply bytes_ext
 rw [ByteArray.toList_eq, ByteArray.toList_eq]
 simp
theorem digB_size (n : Nat) (h : n < 64) : 1 ≤ (digB n).size ∧ (digB n).size ≤ 2 := by
 have key : ∀ n : Fin 64, 1 ≤ (digB n.val).size ∧ (digB n.val).size ≤ 2 := by decide +kernel
 exact key ⟨n, h⟩
theorem piece1 {out : ByteArray} {c l : Nat} (h0 : out = ⟨#[]⟩) (h : c < l) : out ++ digB c ++ ⟨#[45]⟩ ++ digB l = addPiece out (runText c l) := by
 unfold addPiece runText
 rw [if_pos h0, if_neg (by omega), h0, bytes_app_empty]
 rfl
theorem piece2 {out : ByteArray} {c l : Nat} (h0 : out = ⟨#[]⟩) (h : c = l) : out ++ digB c = addPiece out (runText c l) := by
 unfold addPiece runText
 rw [if_pos h0, if_pos h, h0, bytes_app_empty]
 rfl
theorem piece3 {out : ByteArray} {c l : Nat} (h0 : ¬ out = ⟨#[]⟩) (h : c < l) : out ++ ⟨#[44]⟩ ++ digB c ++ ⟨#[45]⟩ ++ digB l = addPiece out (runText c l) := by
 unfold addPiece runText
 rw [if_neg h0, if_neg (by omega), bytes_assoc, bytes_assoc, bytes_assoc (⟨(Lib.decDigits c).toArray⟩ : ByteArray)]
 rfl
theorem piece4 {out : ByteArray} {c l : Nat} (h0 : ¬ out = ⟨#[]⟩) (h : c = l) : out ++ ⟨#[44]⟩ ++ digB c = addPiece out (runText c l) := by
 unfold addPiece runText
 rw [if_neg h0, if_pos h]
 rfl
theorem rtext_ok (s : Nat) (w : World) :
  Calls Tryd.prog 30 #[.agg (cells64 s)] w fun e w' => e = .returned (.string (textR s)) ∧ Below w.heap.size w w' := by
 go_enter Tryd.func30, Tryd.ntmps30
 go_wp2_with fail
 have HC0 := Aside0.mk (SetAt.new w s)
 have HB0 := Aside0.mk (zae (Below.refl w.heap.size w) (.cells (cells64 s) 30))
 generalize w.alloc (.cells (cells64 s) 30) = W1 at HC0 HB0 ⊢
 go_loopg [3, 4] 64 (fun gk v3 v4 w' => ∃ (c : Nat) (out : ByteArray), v3 = .string out ∧ v4 = .int .i64 (c : Int) ∧ Aside0 (c + gk = 64) ∧ Aside0 (out.size ≤ 6 * c ∧ textFrom s 0 ⟨#[]⟩ = textFrom s c out) ∧ Aside0 (SetAt w' w.heap.size s) ∧ Aside0 (Below w.heap.size w w'))
 case atStart => exact ⟨0, ⟨#[]⟩, rfl, rfl, ⟨rfl⟩, ⟨by decide, rfl⟩, HC0, HB0⟩
 case round =>
  obtain ⟨c, out, rfl, rfl, HK, HO, HC, HB⟩ := hrel
  clear HC0 HB0
  cases gk with
  | zero =>
   have hc : c = 64 := by have := HK.out; omega
   subst hc
   have HE : Aside0 (textFrom s 0 ⟨#[]⟩ = out) := ⟨by rw [HO.out.2, textFrom_end out (Nat.le_refl _)]⟩
   by_cases h0 : out = ⟨#[]⟩
   ·
    subst h0
    have HR : Aside0 (textR s = noneB) := ⟨by unfold textR; rw [if_pos HE.out]⟩
    go_wp2_with fail
    go_ret
    exact ⟨by rw [HR.out]; rfl, HB.out⟩
   ·
    have HR : Aside0 (textR s = out) := ⟨by unfold textR; rw [HE.out, if_neg h0]⟩
    have d1 : (out.toList == []) = false := by
     have := str_beq out ⟨#[]⟩
     rw [decide_eq_false h0, show (⟨#[]⟩ : ByteArray).toList = [] by decide +kernel] at this
     exact this
    clear h0
    go_wp2_with fail
    go_ret
    exact ⟨by rw [HR.out]; rfl, HB.out⟩
  | succ g1 =>
   have hc : c < 64 := by have := HK.out; omega
   have d1 : decide ((c : Int) < 64) = true := decide_eq_true (by omega)
   obtain ⟨c1, _⟩ := HC.out.cell hc
   cases hb : s.testBit c
   ·
    rw [hb] at c1
    have HE := Aside0.mk (textFrom_out out hc hb)
    go_wp2_with fail
    go_roundg g1
    case rel => exact ⟨c + 1, out, rfl, by rfl, ⟨by have := HK.out; omega⟩, ⟨by have := HO.out.1; omega, by rw [HO.out.2, HE.out]⟩, HC, HB⟩
    case measure => omega
   ·
    rw [hb] at c1
    have HE := Aside0.mk (textFrom_in out hc hb)
    go_wp2_with fail
    go_loopg [5] (63 - c) (fun gk v5 w' => ∃ l : Nat, v5 = .int .i64 (l : Int) ∧ Aside0 (l + gk = 63 ∧ c ≤ l ∧ lastOf s c = lastOf s l) ∧ w' = wr)
    case atStart => exact ⟨c, rfl, ⟨by omega, Nat.le_refl _, rfl⟩, rfl⟩
    case round =>
     obtain ⟨l, rfl, HL, rfl⟩ := hrel
     clear c1
     cases gk with
     | zero =>
      have hl : l = 63 := by have := HL.out.1; omega
      have HLL : Aside0 (lastOf s c = l) := ⟨by rw [HL.out.2.2, zal (by omega)]⟩
      have d2 : decide ((l : Int) < 63) = false := decide_eq_false (by omega)
      have hlz : l < 64 := by omega
      clear hl
      have HX : Aside0 (textFrom s c out = textFrom s (l + 1) (addPiece out (runText c l))) := ⟨by rw [HE.out, HLL.out]⟩
      have hsz : out.size ≤ 384 := by have := HO.out.1; omega
      have hlb : l < 64 := by first | exact hlz | omega
      obtain ⟨dc, hDC⟩ : ∃ d, digB c = d := ⟨_, rfl⟩
      obtain ⟨dl, hDL⟩ : ∃ d, digB l = d := ⟨_, rfl⟩
      have hdc : dc.size ≤ 2 := by rw [← hDC]; exact (digB_size c hc).2
      have hdl : dl.size ≤ 2 := by rw [← hDL]; exact (digB_size l hlb).2
      have CDC : Aside0 (∀ W, Calls Tryd.prog 42 #[.int .i64 (c : Int)] W fun e w' => e = .returned (.string dc) ∧ Below W.heap.size W w') := ⟨fun W => by rw [← hDC]; exact digits_ok c hc W⟩
      have CDL : Aside0 (∀ W, Calls Tryd.prog 42 #[.int .i64 (l : Int)] W fun e w' => e = .returned (.string dl) ∧ Below W.heap.size W w') := ⟨fun W => by rw [← hDL]; exact digits_ok l hlb W⟩
      have HDC := Aside0.mk hDC
      have HDL := Aside0.mk hDL
      clear hDC hDL
      have hcl0 : c ≤ l := HL.out.2.1
      have hwl : wrap64 ((l : Int) + 1) = ((l + 1 : Nat) : Int) := by unfold wrap64; omega
      by_cases h0 : out = ⟨#[]⟩
      ·
       have he : out.toList.isEmpty = true := by rw [h0]; decide +kernel
       have H0 := Aside0.mk h0
       have hsz0 : out.size = 0 := by rw [h0]; rfl
       clear h0
       go_wp2_with fail
       obtain ⟨O, hOO⟩ : ∃ O, O = out := ⟨_, rfl⟩
       rw [show (Value.string out) = .string O by rw [hOO]]
       have HOO := Aside0.mk hOO
       have HSO : Aside0 (O.size ≤ 6 * c) := ⟨by rw [hOO]; exact HO.out.1⟩
       have hsO : O.size ≤ 385 := by rw [hOO]; omega
       clear hOO hsz0
       refine (CDC.out _).mono ?_
       rintro e w2 ⟨rfl, hb3⟩
       have HC2 := Aside0.mk (HC.out.keep hb3 HC.out.lt)
       have HB2 := Aside0.mk (zaa HB.out hb3)
       clear hb3
       have g1 : (9223372036854775807 < O.size + dc.size) = False := eq_false (by omega)
       go_upto_region 12 with fail
       obtain ⟨O1, hO1⟩ : ∃ O1, O1 = O ++ dc := ⟨_, rfl⟩
       rw [← hO1]
       have HO1 := Aside0.mk hO1
       have hs1 : O1.size = O.size + dc.size := by rw [hO1]; exact ByteArray.size_append
       clear hO1 g1
       by_cases hcl : c < l
       ·
        have d4 : decide ((l : Int) > (c : Int)) = true := decide_eq_true (by omega)
        have HP : Aside0 (O1 ++ ⟨#[45]⟩ ++ dl = addPiece out (runText c l) ∧ (O1 ++ ⟨#[45]⟩ ++ dl).size ≤ 6 * (l + 1)) := ⟨by rw [HO1.out, HOO.out, ← HDC.out, ← HDL.out]; exact piece1 H0.out hcl, by rw [ByteArray.size_append, ByteArray.size_append]; have h1 : (⟨#[45]⟩ : ByteArray).size = 1 := rfl; have := HSO.out; omega⟩
        have g2 : (9223372036854775807 < O1.size + 1) = False := eq_false (by omega)
        have hs1' : O1.size ≤ 387 := by omega
        clear hs1
        go_wp2_with fail
        obtain ⟨O2, hO2⟩ : ∃ O2, O2 = O1 ++ ⟨#[45]⟩ := ⟨_, rfl⟩
        rw [← hO2]
        have HO2 := Aside0.mk hO2
        have g3 : (9223372036854775807 < O2.size + dl.size) = False := by
         have e : O2.size = O1.size + 1 := by rw [hO2, ByteArray.size_append]; rfl
         exact eq_false (by omega)
        clear hO2 g2
        refine (CDL.out _).mono ?_
        rintro e w3 ⟨rfl, hb3⟩
        have HC3 := Aside0.mk (HC2.out.keep hb3 HC2.out.lt)
        have HB3 := Aside0.mk (zaa HB2.out hb3)
        clear hb3
        go_wp2_with fail
        go_roundg (63 - l)
        case rel => exact ⟨l + 1, O2 ++ dl, by rfl, by first | rfl | (rw [hwl]), ⟨by omega⟩, ⟨by rw [HO2.out]; exact HP.out.2, by rw [HO.out.2, HX.out, HO2.out, HP.out.1]⟩, HC3, HB3⟩
        case measure => have := HK.out; omega
       ·
        have d4 : decide ((l : Int) > (c : Int)) = false := decide_eq_false (by omega)
        have HP : Aside0 (O1 = addPiece out (runText c l) ∧ O1.size ≤ 6 * (l + 1)) := ⟨by rw [HO1.out, HOO.out, ← HDC.out]; exact piece2 H0.out (by omega), by have := HSO.out; omega⟩
        go_wp2_with fail
        go_roundg (63 - l)
        case rel => exact ⟨l + 1, O1, by rfl, by first | rfl | (rw [hwl]), ⟨by omega⟩, ⟨HP.out.2, by rw [HO.out.2, HX.out, HP.out.1]⟩, HC2, HB2⟩
        case measure => have := HK.out; omega
      ·
       have he : out.toList.isEmpty = false := by
        have := str_beq out ⟨#[]⟩
        rw [decide_eq_false h0, show (⟨#[]⟩ : ByteArray).toList = [] by decide +kernel] at this
        cases hh : out.toList with
        | nil => rw [hh] at this; cases this
        | cons a b => rfl
       have H0 := Aside0.mk h0
       have g0 : (9223372036854775807 < out.size + 1) = False := eq_false (by omega)
       clear h0
       go_wp2_with fail
       obtain ⟨O, hOO⟩ : ∃ O, O = out ++ ⟨#[44]⟩ := ⟨_, rfl⟩
       rw [← hOO]
       have HOO := Aside0.mk hOO
       have hs0 : O.size = out.size + 1 := by rw [hOO, ByteArray.size_append]; rfl
       have HSO : Aside0 (O.size ≤ 6 * c + 1) := ⟨by rw [hs0]; have := HO.out.1; omega⟩
       have hsO : O.size ≤ 385 := by omega
       clear hOO hs0 g0
       refine (CDC.out _).mono ?_
       rintro e w2 ⟨rfl, hb3⟩
       have HC2 := Aside0.mk (HC.out.keep hb3 HC.out.lt)
       have HB2 := Aside0.mk (zaa HB.out hb3)
       clear hb3
       have g1 : (9223372036854775807 < O.size + dc.size) = False := eq_false (by omega)
       go_upto_region 12 with fail
       obtain ⟨O1, hO1⟩ : ∃ O1, O1 = O ++ dc := ⟨_, rfl⟩
       rw [← hO1]
       have HO1 := Aside0.mk hO1
       have hs1 : O1.size = O.size + dc.size := by rw [hO1]; exact ByteArray.size_append
       clear hO1 g1
       by_cases hcl : c < l
       ·
        have d4 : decide ((l : Int) > (c : Int)) = true := decide_eq_true (by omega)
        have HP : Aside0 (O1 ++ ⟨#[45]⟩ ++ dl = addPiece out (runText c l) ∧ (O1 ++ ⟨#[45]⟩ ++ dl).size ≤ 6 * (l + 1)) := ⟨by rw [HO1.out, HOO.out, ← HDC.out, ← HDL.out]; exact piece3 H0.out hcl, by rw [ByteArray.size_append, ByteArray.size_append]; have h1 : (⟨#[45]⟩ : ByteArray).size = 1 := rfl; have := HSO.out; omega⟩
        have g2 : (9223372036854775807 < O1.size + 1) = False := eq_false (by omega)
        have hs1' : O1.size ≤ 387 := by omega
        clear hs1
        go_wp2_with fail
        obtain ⟨O2, hO2⟩ : ∃ O2, O2 = O1 ++ ⟨#[45]⟩ := ⟨_, rfl⟩
        rw [← hO2]
        have HO2 := Aside0.mk hO2
        have g3 : (9223372036854775807 < O2.size + dl.size) = False := by
         have e : O2.size = O1.size + 1 := by rw [hO2, ByteArray.size_append]; rfl
         exact eq_false (by omega)
        clear hO2 g2
        refine (CDL.out _).mono ?_
        rintro e w3 ⟨rfl, hb3⟩
        have HC3 := Aside0.mk (HC2.out.keep hb3 HC2.out.lt)
        have HB3 := Aside0.mk (zaa HB2.out hb3)
        clear hb3
        go_wp2_with fail
        go_roundg (63 - l)
        case rel => exact ⟨l + 1, O2 ++ dl, by rfl, by first | rfl | (rw [hwl]), ⟨by omega⟩, ⟨by rw [HO2.out]; exact HP.out.2, by rw [HO.out.2, HX.out, HO2.out, HP.out.1]⟩, HC3, HB3⟩
        case measure => have := HK.out; omega
       ·
        have d4 : decide ((l : Int) > (c : Int)) = false := decide_eq_false (by omega)
        have HP : Aside0 (O1 = addPiece out (runText c l) ∧ O1.size ≤ 6 * (l + 1)) := ⟨by rw [HO1.out, HOO.out, ← HDC.out]; exact piece4 H0.out (by omega), by have := HSO.out; omega⟩
        go_wp2_with fail
        go_roundg (63 - l)
        case rel => exact ⟨l + 1, O1, by rfl, by first | rfl | (rw [hwl]), ⟨by omega⟩, ⟨HP.out.2, by rw [HO.out.2, HX.out, HP.out.1]⟩, HC2, HB2⟩
        case measure => have := HK.out; omega
     | succ gl =>
      have hl : l < 63 := by have := HL.out.1; omega
      have d2 : decide ((l : Int) < 63) = true := decide_eq_true (by omega)
      have hw1 : wrap64 ((l : Int) + 1) = ((l + 1 : Nat) : Int) := by unfold wrap64; omega
      obtain ⟨c2, _⟩ := HC.out.cell (i := l + 1) (by omega)
      cases hb2 : s.testBit (l + 1)
      ·
       rw [hb2] at c2
       have HLL : Aside0 (lastOf s c = l) := ⟨by rw [HL.out.2.2, zal (by rw [hb2]; simp)]⟩
       have HX : Aside0 (textFrom s c out = textFrom s (l + 1) (addPiece out (runText c l))) := ⟨by rw [HE.out, HLL.out]⟩
       have hsz : out.size ≤ 384 := by have := HO.out.1; omega
       have hlb : l < 64 := by first | exact hlz | omega
       obtain ⟨dc, hDC⟩ : ∃ d, digB c = d := ⟨_, rfl⟩
       obtain ⟨dl, hDL⟩ : ∃ d, digB l = d := ⟨_, rfl⟩
       have hdc : dc.size ≤ 2 := by rw [← hDC]; exact (digB_size c hc).2
       have hdl : dl.size ≤ 2 := by rw [← hDL]; exact (digB_size l hlb).2
       have CDC : Aside0 (∀ W, Calls Tryd.prog 42 #[.int .i64 (c : Int)] W fun e w' => e = .returned (.string dc) ∧ Below W.heap.size W w') := ⟨fun W => by rw [← hDC]; exact digits_ok c hc W⟩
       have CDL : Aside0 (∀ W, Calls Tryd.prog 42 #[.int .i64 (l : Int)] W fun e w' => e = .returned (.string dl) ∧ Below W.heap.size W w') := ⟨fun W => by rw [← hDL]; exact digits_ok l hlb W⟩
       have HDC := Aside0.mk hDC
       have HDL := Aside0.mk hDL
       clear hDC hDL
       have hcl0 : c ≤ l := HL.out.2.1
       have hwl : wrap64 ((l : Int) + 1) = ((l + 1 : Nat) : Int) := by unfold wrap64; omega
       by_cases h0 : out = ⟨#[]⟩
       ·
        have he : out.toList.isEmpty = true := by rw [h0]; decide +kernel
        have H0 := Aside0.mk h0
        have hsz0 : out.size = 0 := by rw [h0]; rfl
        clear h0
        go_wp2_with fail
        obtain ⟨O, hOO⟩ : ∃ O, O = out := ⟨_, rfl⟩
        rw [show (Value.string out) = .string O by rw [hOO]]
        have HOO := Aside0.mk hOO
        have HSO : Aside0 (O.size ≤ 6 * c) := ⟨by rw [hOO]; exact HO.out.1⟩
        have hsO : O.size ≤ 385 := by rw [hOO]; omega
        clear hOO hsz0
        refine (CDC.out _).mono ?_
        rintro e w2 ⟨rfl, hb3⟩
        have HC2 := Aside0.mk (HC.out.keep hb3 HC.out.lt)
        have HB2 := Aside0.mk (zaa HB.out hb3)
        clear hb3
        have g1 : (9223372036854775807 < O.size + dc.size) = False := eq_false (by omega)
        go_upto_region 12 with fail
        obtain ⟨O1, hO1⟩ : ∃ O1, O1 = O ++ dc := ⟨_, rfl⟩
        rw [← hO1]
        have HO1 := Aside0.mk hO1
        have hs1 : O1.size = O.size + dc.size := by rw [hO1]; exact ByteArray.size_append
        clear hO1 g1
        by_cases hcl : c < l
        ·
         have d4 : decide ((l : Int) > (c : Int)) = true := decide_eq_true (by omega)
         have HP : Aside0 (O1 ++ ⟨#[45]⟩ ++ dl = addPiece out (runText c l) ∧ (O1 ++ ⟨#[45]⟩ ++ dl).size ≤ 6 * (l + 1)) := ⟨by rw [HO1.out, HOO.out, ← HDC.out, ← HDL.out]; exact piece1 H0.out hcl, by rw [ByteArray.size_append, ByteArray.size_append]; have h1 : (⟨#[45]⟩ : ByteArray).size = 1 := rfl; have := HSO.out; omega⟩
         have g2 : (9223372036854775807 < O1.size + 1) = False := eq_false (by omega)
         have hs1' : O1.size ≤ 387 := by omega
         clear hs1
         go_wp2_with fail
         obtain ⟨O2, hO2⟩ : ∃ O2, O2 = O1 ++ ⟨#[45]⟩ := ⟨_, rfl⟩
         rw [← hO2]
         have HO2 := Aside0.mk hO2
         have g3 : (9223372036854775807 < O2.size + dl.size) = False := by
          have e : O2.size = O1.size + 1 := by rw [hO2, ByteArray.size_append]; rfl
          exact eq_false (by omega)
         clear hO2 g2
         refine (CDL.out _).mono ?_
         rintro e w3 ⟨rfl, hb3⟩
         have HC3 := Aside0.mk (HC2.out.keep hb3 HC2.out.lt)
         have HB3 := Aside0.mk (zaa HB2.out hb3)
         clear hb3
         go_wp2_with fail
         go_roundg (63 - l)
         case rel => exact ⟨l + 1, O2 ++ dl, by rfl, by first | rfl | (rw [hwl]), ⟨by omega⟩, ⟨by rw [HO2.out]; exact HP.out.2, by rw [HO.out.2, HX.out, HO2.out, HP.out.1]⟩, HC3, HB3⟩
         case measure => have := HK.out; omega
        ·
         have d4 : decide ((l : Int) > (c : Int)) = false := decide_eq_false (by omega)
         have HP : Aside0 (O1 = addPiece out (runText c l) ∧ O1.size ≤ 6 * (l + 1)) := ⟨by rw [HO1.out, HOO.out, ← HDC.out]; exact piece2 H0.out (by omega), by have := HSO.out; omega⟩
         go_wp2_with fail
         go_roundg (63 - l)
         case rel => exact ⟨l + 1, O1, by rfl, by first | rfl | (rw [hwl]), ⟨by omega⟩, ⟨HP.out.2, by rw [HO.out.2, HX.out, HP.out.1]⟩, HC2, HB2⟩
         case measure => have := HK.out; omega
       ·
        have he : out.toList.isEmpty = false := by
         have := str_beq out ⟨#[]⟩
         rw [decide_eq_false h0, show (⟨#[]⟩ : ByteArray).toList = [] by decide +kernel] at this
         cases hh : out.toList with
         | nil => rw [hh] at this; cases this
         | cons a b => rfl
        have H0 := Aside0.mk h0
        have g0 : (9223372036854775807 < out.size + 1) = False := eq_false (by omega)
        clear h0
        go_wp2_with fail
        obtain ⟨O, hOO⟩ : ∃ O, O = out ++ ⟨#[44]⟩ := ⟨_, rfl⟩
        rw [← hOO]
        have HOO := Aside0.mk hOO
        have hs0 : O.size = out.size + 1 := by rw [hOO, ByteArray.size_append]; rfl
        have HSO : Aside0 (O.size ≤ 6 * c + 1) := ⟨by rw [hs0]; have := HO.out.1; omega⟩
        have hsO : O.size ≤ 385 := by omega
        clear hOO hs0 g0
        refine (CDC.out _).mono ?_
        rintro e w2 ⟨rfl, hb3⟩
        have HC2 := Aside0.mk (HC.out.keep hb3 HC.out.lt)
        have HB2 := Aside0.mk (zaa HB.out hb3)
        clear hb3
        have g1 : (9223372036854775807 < O.size + dc.size) = False := eq_false (by omega)
        go_upto_region 12 with fail
        obtain ⟨O1, hO1⟩ : ∃ O1, O1 = O ++ dc := ⟨_, rfl⟩
        rw [← hO1]
        have HO1 := Aside0.mk hO1
        have hs1 : O1.size = O.size + dc.size := by rw [hO1]; exact ByteArray.size_append
        clear hO1 g1
        by_cases hcl : c < l
        ·
         have d4 : decide ((l : Int) > (c : Int)) = true := decide_eq_true (by omega)
         have HP : Aside0 (O1 ++ ⟨#[45]⟩ ++ dl = addPiece out (runText c l) ∧ (O1 ++ ⟨#[45]⟩ ++ dl).size ≤ 6 * (l + 1)) := ⟨by rw [HO1.out, HOO.out, ← HDC.out, ← HDL.out]; exact piece3 H0.out hcl, by rw [ByteArray.size_append, ByteArray.size_append]; have h1 : (⟨#[45]⟩ : ByteArray).size = 1 := rfl; have := HSO.out; omega⟩
         have g2 : (9223372036854775807 < O1.size + 1) = False := eq_false (by omega)
         have hs1' : O1.size ≤ 387 := by omega
         clear hs1
         go_wp2_with fail
         obtain ⟨O2, hO2⟩ : ∃ O2, O2 = O1 ++ ⟨#[45]⟩ := ⟨_, rfl⟩
         rw [← hO2]
         have HO2 := Aside0.mk hO2
         have g3 : (9223372036854775807 < O2.size + dl.size) = False := by
          have e : O2.size = O1.size + 1 := by rw [hO2, ByteArray.size_append]; rfl
          exact eq_false (by omega)
         clear hO2 g2
         refine (CDL.out _).mono ?_
         rintro e w3 ⟨rfl, hb3⟩
         have HC3 := Aside0.mk (HC2.out.keep hb3 HC2.out.lt)
         have HB3 := Aside0.mk (zaa HB2.out hb3)
         clear hb3
         go_wp2_with fail
         go_roundg (63 - l)
         case rel => exact ⟨l + 1, O2 ++ dl, by rfl, by first | rfl | (rw [hwl]), ⟨by omega⟩, ⟨by rw [HO2.out]; exact HP.out.2, by rw [HO.out.2, HX.out, HO2.out, HP.out.1]⟩, HC3, HB3⟩
         case measure => have := HK.out; omega
        ·
         have d4 : decide ((l : Int) > (c : Int)) = false := decide_eq_false (by omega)
         have HP : Aside0 (O1 = addPiece out (runText c l) ∧ O1.size ≤ 6 * (l + 1)) := ⟨by rw [HO1.out, HOO.out, ← HDC.out]; exact piece4 H0.out (by omega), by have := HSO.out; omega⟩
         go_wp2_with fail
         go_roundg (63 - l)
         case rel => exact ⟨l + 1, O1, by rfl, by first | rfl | (rw [hwl]), ⟨by omega⟩, ⟨HP.out.2, by rw [HO.out.2, HX.out, HP.out.1]⟩, HC2, HB2⟩
         case measure => have := HK.out; omega
      ·
       rw [hb2] at c2
       have HLL : Aside0 (lastOf s c = lastOf s (l + 1)) := ⟨by rw [HL.out.2.2, lastOf_step hl hb2]⟩
       go_wp2_with fail
       go_roundg gl
       case rel => exact ⟨l + 1, by rfl, ⟨by have := HL.out.1; omega, by have := HL.out.2.1; omega, HLL.out⟩, rfl⟩
       case measure => omega
def runsR (s c : Nat) : List (Nat × Nat) :=
 if h : c < 64 then (if s.testBit c = true then (c, lastOf s c) :: runsR s (lastOf s c + 1) else runsR s (c + 1)) else []
termination_by 64 - c
decreasing_by
 ·
  have := lastOf_ge s (63 - c) c (Nat.le_refl _)
  omega
 ·
  omega
theorem runsR_in {s c : Nat} (h : c < 64) (hb : s.testBit c = true) : runsR s c = (c, lastOf s c) :: runsR s (lastOf s c + 1) := by
 conv => lhs; rw [runsR]
 rw [dif_pos h, if_pos hb]
theorem runsR_out {s c : Nat} (h : c < 64) (hb : s.testBit c = false) : runsR s c = runsR s (c + 1) := by
 conv => lhs; rw [runsR]
 rw [dif_pos h, hb, if_neg (by decide)]
theorem runsR_end {s c : Nat} (h : 64 ≤ c) : runsR s c = [] := by
 rw [runsR, dif_neg (by omega)]
theorem runs_ind {s : Nat} {P : Nat → Prop} (h1 : ∀ c, 64 ≤ c → P c) (h2 : ∀ c, c < 64 → s.testBit c = false → P (c + 1) → P c) (h3 : ∀ c, c < 64 → s.testBit c = true → P (lastOf s c + 1) → P c) : ∀ (d c : Nat), 64 - c ≤ d → P c
 | 0, c, h => h1 c (by omega)
 | d + 1, c, h => by
  by_cases hc : c < 64
  ·
   cases hb : s.testBit c
   ·
    exact h2 c hc hb (runs_ind h1 h2 h3 d (c + 1) (by omega))
   ·
    have := lastOf_ge s (63 - c) c (Nat.le_refl _)
    exact h3 c hc hb (runs_ind h1 h2 h3 d (lastOf s c + 1) (by omega))
  ·
   exact h1 c (by omega)
theorem last_bits (s : Nat) : ∀ (d c : Nat), 63 - c ≤ d → s.testBit c = true → ∀ i, c ≤ i → i ≤ lastOf s c → s.testBit i = true
 | 0, c, h, hb, i, h1, h2 => by
  rw [zal (by omega)] at h2
  have : i = c := by omega
  rw [this]; exact hb
 | d + 1, c, h, hb, i, h1, h2 => by
  by_cases hc : c < 63 ∧ s.testBit (c + 1) = true
  ·
   rw [lastOf_step hc.1 hc.2] at h2
   by_cases e : i = c
   ·
    rw [e]; exact hb
   ·
    exact last_bits s d (c + 1) (by omega) hc.2 i (by omega) h2
  ·
   rw [zal hc] at h2
   have : i = c := by omega
   rw [this]; exact hb
theorem last_stop (s : Nat) : ∀ (d c : Nat), 63 - c ≤ d → c ≤ 63 → lastOf s c = 63 ∨ s.testBit (lastOf s c + 1) = false
 | 0, c, h, hc => by
  rw [zal (by omega)]
  left; omega
 | d + 1, c, h, h2 => by
  by_cases hc : c < 63 ∧ s.testBit (c + 1) = true
  ·
   rw [lastOf_step hc.1 hc.2]
   exact last_stop s d (c + 1) (by omega) (by omega)
  ·
   rw [zal hc]
   by_cases h3 : c < 63
   ·
    right
    cases hb : s.testBit (c + 1)
    ·
     rfl
    ·
     exact absurd ⟨h3, hb⟩ hc
   ·
    left; omega
theorem runsR_lt (s : Nat) : ∀ c, ∀ r ∈ runsR s c, c ≤ r.1 ∧ r.1 ≤ r.2 ∧ r.2 < 64 := by
 intro c
 refine runs_ind (s := s) (P := fun c => ∀ r ∈ runsR s c, c ≤ r.1 ∧ r.1 ≤ r.2 ∧ r.2 < 64) ?_ ?_ ?_ (64 - c) c (Nat.le_refl _)
 ·
  intro c hc r hr
  rw [runsR_end hc] at hr
  cases hr
 ·
  intro c hc hb ih r hr
  rw [runsR_out hc hb] at hr
  have := ih r hr
  omega
 ·
  intro c hc hb ih r hr
  have h1 := lastOf_ge s (63 - c) c (Nat.le_refl _)
  have h2 := lastOf_le s (63 - c) c (Nat.le_refl _) (by omega)
  rw [runsR_in hc hb] at hr
  rcases List.mem_cons.1 hr with rfl | hr
  ·
   exact ⟨Nat.le_refl _, h1, by omega⟩
  ·
   have := ih r hr
   omega
theorem textFrom_runs (s : Nat) : ∀ c out, textFrom s c out = (runsR s c).foldl (fun o r => addPiece o (runText r.1 r.2)) out := by
 intro c
 refine runs_ind (s := s) (P := fun c => ∀ out, textFrom s c out = (runsR s c).foldl (fun o r => addPiece o (runText r.1 r.2)) out) ?_ ?_ ?_ (64 - c) c (Nat.le_refl _)
 ·
  intro c hc out
  rw [textFrom_end out hc, runsR_end hc]
  rfl
 ·
  intro c hc hb ih out
  rw [textFrom_out out hc hb, runsR_out hc hb, ih]
 ·
  intro c hc hb ih out
  rw [textFrom_in out hc hb, runsR_in hc hb, ih, List.foldl_cons]
theorem runText_ne (a b : Nat) (ha : a < 64) : runText a b ≠ ⟨#[]⟩ := by
 intro e
 have h1 := (digB_size a ha).1
 have h2 := congrArg ByteArray.size e
 unfold runText at h2
 split at h2
 ·
  have : (digB a).size = 0 := h2
  omega
 ·
  rw [ByteArray.size_append, ByteArray.size_append] at h2
  have e3 : (⟨#[45]⟩ : ByteArray).size = 1 := rfl
  have e4 : (⟨#[]⟩ : ByteArray).size = 0 := rfl
  omega
theorem zai (a b : ByteArray) : (a ++ b).data.toList = a.data.toList ++ b.data.toList := by simp
theorem zac {a b : ByteArray} (h : a.data.toList = b.data.toList) : a = b := by
 apply bytes_ext
 rw [ByteArray.toList_eq, ByteArray.toList_eq]
 exact h
theorem fold_tail : ∀ (l : List ByteArray) (out : ByteArray), out ≠ ⟨#[]⟩ → (l.foldl addPiece out).data.toList = out.data.toList ++ Lib.joinTail [44] (l.map (·.data.toList))
 | [], out, _ => by simp [Lib.joinTail]
 | p :: l, out, h => by
  have h2 : addPiece out p = out ++ ⟨#[44]⟩ ++ p := by unfold addPiece; rw [if_neg h]
  have hne : out ++ ⟨#[44]⟩ ++ p ≠ ⟨#[]⟩ := by
   intro e
   have := congrArg ByteArray.size e
   rw [ByteArray.size_append, ByteArray.size_append] at this
   have e3 : (⟨#[44]⟩ : ByteArray).size = 1 := rfl
   have e4 : (⟨#[]⟩ : ByteArray).size = 0 := rfl
   omega
  rw [List.foldl_cons, h2, fold_tail l _ hne, zai, zai]
  simp [Lib.joinTail]
theorem fold_join (l : List ByteArray) (h : ∀ p ∈ l, p ≠ ⟨#[]⟩) : l.foldl addPiece ⟨#[]⟩ = ⟨(Lib.join (l.map (·.data.toList)) [44]).toArray⟩ := by
 cases l with
 | nil => rfl
 | cons p l =>
  apply zac
  have e : addPiece ⟨#[]⟩ p = p := by unfold addPiece; rw [if_pos rfl]
  rw [List.foldl_cons, e, fold_tail l p (h p List.mem_cons_self), List.map_cons, Lib.join_cons]
theorem fold_run (c : Int) (h0 : 0 ≤ c) (R : List (Int × Int)) : ∀ (k : Nat) (m : Int), c ≤ m → m + k < 1000 → ((List.range k).map fun j : Nat => m + 1 + (j : Int)).foldl addRun (R ++ [(c, m)]) = R ++ [(c, m + k)]
 | 0, m, _, _ => by simp
 | k + 1, m, h1, h2 => by
  have e : ((List.range (k + 1)).map fun j : Nat => m + 1 + (j : Int)) = (m + 1) :: ((List.range k).map fun j : Nat => (m + 1) + 1 + (j : Int)) := by
   rw [List.range_succ_eq_map, List.map_cons, List.map_map]
   congr 1
   ·
    simp
   ·
    refine List.map_congr_left fun j _ => ?_
    show m + 1 + ((j + 1 : Nat) : Int) = _
    omega
  have ha : addRun (R ++ [(c, m)]) (m + 1) = R ++ [(c, m + 1)] := by
   have hg : (R ++ [(c, m)]).getLast? = some (c, m) := by simp
   unfold addRun
   rw [hg]
   show (if m = wrap64 (m + 1 - 1) then (R ++ [(c, m)]).dropLast ++ [(c, m + 1)] else _) = _
   rw [if_pos (by unfold wrap64; omega), List.dropLast_concat]
  rw [e, List.foldl_cons, ha, fold_run c h0 R k (m + 1) (by omega) (by omega)]
  congr 3
  omega
def coresFrom (s c : Nat) : List Int := ((List.range (64 - c)).map (c + ·) |>.filter (s.testBit ·)).map (fun i : Nat => (i : Int))
theorem coresFrom_zero (s : Nat) : coresFrom s 0 = coresI 64 s := by
 unfold coresFrom coresI onesN
 simp
theorem coresFrom_end (s c : Nat) (h : 64 ≤ c) : coresFrom s c = [] := by
 unfold coresFrom
 rw [show 64 - c = 0 by omega]
 rfl
theorem coresFrom_split (s c l : Nat) (h1 : c ≤ l) (h2 : l < 64) : coresFrom s c = (((List.range (l - c)).map (c + ·) |>.filter (s.testBit ·)).map (fun i : Nat => (i : Int))) ++ coresFrom s l := by
 unfold coresFrom
 rw [← List.map_append, ← List.filter_append]
 congr 2
 obtain ⟨a, rfl⟩ : ∃ a, l = c + a := ⟨l - c, by omega⟩
 rw [show 64 - c = a + (64 - (c + a)) by omega, List.range_add, List.map_append, List.map_map, show c + a - c = a by omega]
 congr 1
 refine List.map_congr_left fun i _ => ?_
 show c + (a + i) = c + a + i
 omega
theorem coresFrom_out {s c : Nat} (h : c < 64) (hb : s.testBit c = false) : coresFrom s c = coresFrom s (c + 1) := by
 by_cases h2 : c + 1 < 64
 ·
  rw [coresFrom_split s c (c + 1) (by omega) h2, show c + 1 - c = 1 by omega]
  simp [hb]
 ·
  rw [coresFrom_end s (c + 1) (by omega)]
  unfold coresFrom
  rw [show 64 - c = 1 by omega]
  simp [hb]
theorem coresFrom_in {s c l : Nat} (h1 : c ≤ l) (h2 : l < 64) (hb : ∀ i, c ≤ i → i ≤ l → s.testBit i = true) : coresFrom s c = (c : Int) :: (((List.range (l - c)).map fun j : Nat => (c : Int) + 1 + (j : Int)) ++ coresFrom s (l + 1)) := by
 have hall : ∀ k, c + k ≤ l + 1 → ((List.range k).map (c + ·)).filter (s.testBit ·) = (List.range k).map (c + ·) := by
  intro k hk
  rw [List.filter_eq_self]
  intro x hx
  obtain ⟨j, hj, rfl⟩ := List.mem_map.1 hx
  have := List.mem_range.1 hj
  exact hb _ (by omega) (by omega)
 have e1 : coresFrom s c = ((List.range (l + 1 - c)).map (c + ·)).map (fun i : Nat => (i : Int)) ++ coresFrom s (l + 1) := by
  by_cases h3 : l + 1 < 64
  ·
   rw [coresFrom_split s c (l + 1) (by omega) h3, hall _ (by omega)]
  ·
   rw [coresFrom_end s (l + 1) (by omega), List.append_nil]
   unfold coresFrom
   rw [show 64 - c = l + 1 - c by omega, hall _ (by omega)]
 rw [e1, show l + 1 - c = (l - c) + 1 by omega, List.range_succ_eq_map, List.map_cons, List.map_cons, List.map_map, List.map_map, List.cons_append]
 congr 2
 refine List.map_congr_left fun j _ => ?_
 show ((c + (j + 1) : Nat) : Int) = _
 omega
theorem fold_runs (s : Nat) : ∀ c : Nat, ∀ R : List (Int × Int), (∀ r, R.getLast? = some r → r.2 < (c : Int) ∧ (r.2 = (c : Int) - 1 → 64 ≤ c ∨ s.testBit c = false)) → (coresFrom s c).foldl addRun R = R ++ (runsR s c).map fun r => ((r.1 : Int), (r.2 : Int)) := by
 intro c
 refine runs_ind (s := s) (P := fun c => ∀ R : List (Int × Int), (∀ r, R.getLast? = some r → r.2 < (c : Int) ∧ (r.2 = (c : Int) - 1 → 64 ≤ c ∨ s.testBit c = false)) → (coresFrom s c).foldl addRun R = R ++ (runsR s c).map fun r => ((r.1 : Int), (r.2 : Int))) ?_ ?_ ?_ (64 - c) c (Nat.le_refl _)
 ·
  intro c hc R _
  rw [coresFrom_end s c hc, runsR_end hc]
  simp
 ·
  intro c hc hb ih R hR
  rw [coresFrom_out hc hb, runsR_out hc hb]
  refine ih R fun r hr => ?_
  have := (hR r hr).1
  exact ⟨by omega, fun e => by omega⟩
 ·
  intro c hc hb ih R hR
  have h1 := lastOf_ge s (63 - c) c (Nat.le_refl _)
  have h2 := lastOf_le s (63 - c) c (Nat.le_refl _) (by omega)
  have h3 := last_stop s (63 - c) c (Nat.le_refl _) (by omega)
  have hbits := last_bits s (63 - c) c (Nat.le_refl _) hb
  rw [runsR_in hc hb]
  generalize lastOf s c = l at h1 h2 h3 hbits ih ⊢
  have ha : addRun R (c : Int) = R ++ [((c : Int), (c : Int))] := by
   unfold addRun
   cases hl : R.getLast? with
   | none =>
    have : R = [] := List.getLast?_eq_none_iff.1 hl
    rw [this]
    rfl
   | some r =>
    have := hR r hl
    show (if r.2 = wrap64 ((c : Int) - 1) then _ else R ++ [((c : Int), (c : Int))]) = _
    rw [if_neg]
    intro e
    have e2 : wrap64 ((c : Int) - 1) = (c : Int) - 1 := by unfold wrap64; omega
    rw [e2] at e
    rcases this.2 e with h | h
    ·
     omega
    ·
     rw [hb] at h; cases h
  rw [coresFrom_in h1 (by omega) hbits, List.foldl_cons, List.foldl_append, ha, fold_run (c : Int) (by omega) R (l - c) (c : Int) (by omega) (by omega)]
  rw [show (c : Int) + ((l - c : Nat) : Int) = (l : Int) by omega, ih, List.map_cons, List.append_assoc]
  ·
   rfl
  ·
   intro r hr
   have hg : (R ++ [((c : Int), (l : Int))]).getLast? = some ((c : Int), (l : Int)) := by simp
   rw [hg] at hr
   obtain rfl := Option.some.inj hr
   refine ⟨by show (l : Int) < _; omega, fun _ => ?_⟩
   rcases h3 with h | h
   ·
    left; omega
   ·
    right; exact h
theorem runsOf_eq (s : Nat) (hs : s < 18446744073709551616) : runsOf (coresN s) = (runsR s 0).map fun r => ((r.1 : Int), (r.2 : Int)) := by
 have e : coresN s = coresFrom s 0 := by rw [coresFrom_zero]; exact coresN_eq s hs
 unfold runsOf
 rw [e, fold_runs s 0 [] (fun r hr => by cases hr)]
 rfl
theorem texts_eq (s : Nat) (hs : s < 18446744073709551616) : runTexts (runsOf (coresN s)) = (runsR s 0).map fun r => runText r.1 r.2 := by
 unfold runTexts
 rw [runsOf_eq s hs, List.map_map]
 rfl
theorem text_eq (s : Nat) (hs : s < 18446744073709551616) : textR s = textB s := by
 have hne : ∀ p ∈ (runsR s 0).map (fun r => runText r.1 r.2), p ≠ ⟨#[]⟩ := by
  intro p hp
  obtain ⟨r, hr, rfl⟩ := List.mem_map.1 hp
  have := runsR_lt s 0 r hr
  exact runText_ne r.1 r.2 (by omega)
 have hf : textFrom s 0 ⟨#[]⟩ = ⟨(Lib.join (((runsR s 0).map fun r => runText r.1 r.2).map (·.data.toList)) [44]).toArray⟩ := by
  rw [textFrom_runs, ← fold_join _ hne, List.foldl_map]
 have hz : s = 0 ↔ runsR s 0 = [] := by
  constructor
  ·
   intro h
   subst h
   refine runs_ind (s := 0) (P := fun c => runsR 0 c = []) (fun c hc => runsR_end hc) (fun c hc hb ih => by rw [runsR_out hc hb]; exact ih) (fun c hc hb _ => by rw [Nat.zero_testBit] at hb; cases hb) 64 0 (by omega)
  ·
   intro h
   have e := runsOf_eq s hs
   rw [h] at e
   apply Classical.byContradiction
   intro hn
   have hc := fold_runs s 0 [] (fun r hr => by cases hr)
   rw [h] at hc
   have e2 : coresN s = coresFrom s 0 := by rw [coresFrom_zero]; exact coresN_eq s hs
   rw [← e2, zan hn] at hc
   have hlen : ∀ (l : List Int) (R : List (Int × Int)), R ≠ [] → l.foldl addRun R ≠ [] := by
    intro l
    induction l with
    | nil => exact fun R h => h
    | cons a l ih =>
     intro R hR
     refine ih _ ?_
     unfold addRun
     split
     ·
      split <;> simp
     ·
      simp
   exact hlen _ [((Lib.ctz 64 s : Int), (Lib.ctz 64 s : Int))] (by simp) hc
 unfold textR textB
 rw [texts_eq s hs, hf]
 by_cases h : s = 0
 ·
  rw [if_pos h, hz.1 h]
  rfl
 ·
  rw [if_neg h, if_neg]
  intro e
  have e2 : ((runsR s 0).map fun r => runText r.1 r.2).foldl addPiece ⟨#[]⟩ = ⟨#[]⟩ := by rw [fold_join _ hne]; exact e
  cases hr : runsR s 0 with
  | nil => exact h (hz.2 hr)
  | cons r l =>
   rw [hr, List.map_cons, List.foldl_cons, show addPiece ⟨#[]⟩ (runText r.1 r.2) = runText r.1 r.2 by unfold addPiece; rw [if_pos rfl]] at e2
   have hrn := hne (runText r.1 r.2) (by rw [hr]; exact List.mem_cons_self)
   have e3 := fold_tail (l.map fun r => runText r.1 r.2) (runText r.1 r.2) hrn
   rw [e2] at e3
   apply hrn
   apply zac
   have e4 := congrArg List.length e3
   rw [List.length_append] at e4
   have e5 : (⟨#[]⟩ : ByteArray).data.toList.length = 0 := rfl
   rw [e5] at e4
   have e6 : (runText r.1 r.2).data.toList = [] := List.eq_nil_of_length_eq_zero (by omega)
   rw [e6]
theorem part_runs : ∀ a b : Fin 64, a.val ≤ b.val → partM (runText a.val b.val) = some ((a.val : Int), (b.val : Int)) := by decide +kernel
theorem runs_no44 : ∀ a b : Fin 64, (44 : UInt8) ∉ (runText a.val b.val).data.toList := by decide +kernel
theorem index_hit (x t : List UInt8) (h : (44 : UInt8) ∉ x) : Lib.index (x ++ 44 :: t) [44] = (x.length : Int) := by
 rw [Lib.index_one]
 induction x with
 | nil => rfl
 | cons a x ih =>
  have h1 : a ≠ 44 := fun e => h (by rw [e]; exact List.mem_cons_self)
  have h2 := ih (fun e => h (List.mem_cons_of_mem _ e))
  show Lib.indexByte (a :: (x ++ 44 :: t)) 44 = _
  unfold Lib.indexByte
  rw [h2, if_neg (by simpa using h1), if_neg (by simp <;> omega)]
  simp
theorem split_join : ∀ (r : List (List UInt8)) (x : List UInt8), (44 : UInt8) ∉ x → (∀ y ∈ r, (44 : UInt8) ∉ y) → Lib.splitK [44] 0 r.length (Lib.join (x :: r) [44]) = x :: r ∧ Lib.count (Lib.join (x :: r) [44]) [44] = r.length
 | [], x, h, _ => by
  rw [Lib.join_one, Lib.count_one]
  exact ⟨rfl, List.count_eq_zero.2 h⟩
 | y :: r, x, h, hr => by
  obtain ⟨h1, h2⟩ := split_join r y (hr y List.mem_cons_self) (fun z hz => hr z (List.mem_cons_of_mem _ hz))
  have e : Lib.join (x :: y :: r) [44] = x ++ 44 :: Lib.join (y :: r) [44] := by
   rw [Lib.join_cons, Lib.join_cons]
   simp [Lib.joinTail]
  constructor
  ·
   rw [List.length_cons, e]
   unfold Lib.splitK
   rw [index_hit x _ h, if_neg (by simp <;> omega)]
   congr 1
   ·
    simp
   ·
    have hd : (x ++ 44 :: Lib.join (y :: r) [44]).drop ((x.length : Int).toNat + [(44 : UInt8)].length) = Lib.join (y :: r) [44] := by
     rw [show x ++ 44 :: Lib.join (y :: r) [44] = (x ++ [44]) ++ Lib.join (y :: r) [44] by simp]
     exact List.drop_left' (by simp)
    rw [hd]
    exact h1
  ·
   rw [Lib.count_one] at h2
   rw [e, Lib.count_one, List.count_append, List.count_cons_self, h2, List.count_eq_zero.2 h]
   simp
theorem parts_join (l : List ByteArray) (hne : l ≠ []) (h : ∀ p ∈ l, (44 : UInt8) ∉ p.data.toList) : partsB ⟨(Lib.join (l.map (·.data.toList)) [44]).toArray⟩ = l := by
 cases l with
 | nil => exact absurd rfl hne
 | cons p l =>
  have hs := split_join (l.map (·.data.toList)) p.data.toList (h p List.mem_cons_self) (fun y hy => by
   obtain ⟨q, hq, rfl⟩ := List.mem_map.1 hy
   exact h q (List.mem_cons_of_mem _ hq))
  have e := Lib.splitB_data ⟨#[44]⟩ 0 (Lib.countB ⟨(Lib.join ((p :: l).map (·.data.toList)) [44]).toArray⟩ ⟨#[44]⟩) ⟨(Lib.join ((p :: l).map (·.data.toList)) [44]).toArray⟩
  have hc : Lib.countB ⟨(Lib.join ((p :: l).map (·.data.toList)) [44]).toArray⟩ ⟨#[44]⟩ = l.length := by
   have := hs.2
   rw [List.length_map] at this
   exact this
  rw [hc] at e
  have e2 : (partsB ⟨(Lib.join ((p :: l).map (·.data.toList)) [44]).toArray⟩).map (·.data.toList) = (p :: l).map (·.data.toList) := by
   unfold partsB
   rw [hc, e]
   have := hs.1
   rw [List.length_map] at this
   exact this
  refine (List.map_inj_right (f := fun q : ByteArray => q.data.toList) ?_).1 e2
  intro a b hab
  exact zac hab
theorem testBit_fill : ∀ (k s a i : Nat), a + k ≤ 64 → (fillN s a k).testBit i = (s.testBit i || decide (a ≤ i ∧ i < a + k))
 | 0, s, a, i, _ => by
  show s.testBit i = _
  rw [decide_eq_false (by omega), Bool.or_false]
 | k + 1, s, a, i, h => by
  show (fillN (withN s (a : Int)) (a + 1) k).testBit i = _
  rw [testBit_fill k _ _ i (by omega), testBit_with, show isC (a : Int) = true from isC_iff.2 (by omega), Bool.true_and, Int.toNat_natCast, Bool.or_assoc]
  congr 1
  by_cases h1 : a = i
  ·
   rw [decide_eq_true h1, Bool.true_or, decide_eq_true (by omega)]
  ·
   rw [decide_eq_false h1, Bool.false_or]
   refine decide_eq_decide.2 (by omega)
def fillR (x : Nat) (l : List (Nat × Nat)) : Nat := l.foldl (fun x r => fillN x r.1 (r.2 + 1 - r.1)) x
theorem read_runs : ∀ (l : List (Nat × Nat)) (x : Nat), (∀ r ∈ l, r.1 ≤ r.2 ∧ r.2 < 64) → readM x (l.map fun r => runText r.1 r.2) = some (fillR x l)
 | [], _, _ => rfl
 | r :: l, x, h => by
  have hr := h r List.mem_cons_self
  have hp := part_runs ⟨r.1, by omega⟩ ⟨r.2, hr.2⟩ hr.1
  rw [List.map_cons, readM_some hp]
  exact read_runs l _ (fun q hq => h q (List.mem_cons_of_mem _ hq))
theorem testBit_fillR (s i : Nat) : ∀ c x, (fillR x (runsR s c)).testBit i = (x.testBit i || (decide (c ≤ i ∧ i < 64) && s.testBit i)) := by
 intro c
 refine runs_ind (s := s) (P := fun c => ∀ x, (fillR x (runsR s c)).testBit i = (x.testBit i || (decide (c ≤ i ∧ i < 64) && s.testBit i))) ?_ ?_ ?_ (64 - c) c (Nat.le_refl _)
 ·
  intro c hc x
  rw [runsR_end hc, decide_eq_false (by omega), Bool.false_and, Bool.or_false]
  rfl
 ·
  intro c hc hb ih x
  rw [runsR_out hc hb, ih]
  congr 1
  by_cases e : i = c
  ·
   subst e
   rw [hb, Bool.and_false, Bool.and_false]
  ·
   rw [show decide (c + 1 ≤ i ∧ i < 64) = decide (c ≤ i ∧ i < 64) from decide_eq_decide.2 (by omega)]
 ·
  intro c hc hb ih x
  have h1 := lastOf_ge s (63 - c) c (Nat.le_refl _)
  have h2 := lastOf_le s (63 - c) c (Nat.le_refl _) (by omega)
  have hbits := last_bits s (63 - c) c (Nat.le_refl _) hb i
  rw [runsR_in hc hb]
  generalize lastOf s c = l at h1 h2 hbits ih ⊢
  show (fillR (fillN x c (l + 1 - c)) (runsR s (l + 1))).testBit i = _
  rw [ih, testBit_fill _ _ _ _ (by omega), Bool.or_assoc]
  congr 1
  by_cases e : c ≤ i ∧ i ≤ l
  ·
   rw [decide_eq_true (show c ≤ i ∧ i < c + (l + 1 - c) by omega), Bool.true_or, hbits e.1 e.2, decide_eq_true (show c ≤ i ∧ i < 64 by omega)]
   rfl
  ·
   rw [decide_eq_false (show ¬ (c ≤ i ∧ i < c + (l + 1 - c)) by omega), Bool.false_or, show decide (l + 1 ≤ i ∧ i < 64) = decide (c ≤ i ∧ i < 64) from decide_eq_decide.2 (by omega)]
theorem fillR_all (s : Nat) (hs : s < 18446744073709551616) : fillR 0 (runsR s 0) = s := by
 refine Nat.eq_of_testBit_eq fun i => ?_
 rw [testBit_fillR, Nat.zero_testBit, Bool.false_or]
 by_cases hi : i < 64
 ·
  rw [decide_eq_true (by omega), Bool.true_and]
 ·
  have hp := Nat.pow_le_pow_right (n := 2) (by decide) (show 64 ≤ i by omega)
  rw [decide_eq_false (by omega), Nat.testBit_lt_two_pow (by omega)]
  rfl
theorem runs_ne (s : Nat) (hs : s < 18446744073709551616) (h0 : s ≠ 0) : runsR s 0 ≠ [] := by
 intro e
 have := fillR_all s hs
 rw [e] at this
 exact h0 this.symm
theorem text_parts (s : Nat) (hs : s < 18446744073709551616) (h0 : s ≠ 0) : partsB (textB s) = (runsR s 0).map fun r => runText r.1 r.2 := by
 unfold textB
 rw [if_neg h0, texts_eq s hs]
 refine parts_join _ (by simpa using runs_ne s hs h0) fun p hp => ?_
 obtain ⟨r, hr, rfl⟩ := List.mem_map.1 hp
 have := runsR_lt s 0 r hr
 exact runs_no44 ⟨r.1, by omega⟩ ⟨r.2, this.2.2⟩
theorem read_text (s : Nat) (hs : s < 18446744073709551616) (h0 : s ≠ 0) : readM 0 (partsB (textB s)) = some s := by
 rw [text_parts s hs h0, read_runs _ _ (fun r hr => (runsR_lt s 0 r hr).2), fillR_all s hs]
def IntsC (w : World) (A : Option Addr) (l : List Int) : Prop := ∀ i, i < l.length → ∃ ad, A = some ad ∧ w.cell? (ad.add i) = some (.int .i64 (l.getD i 0))
theorem IntsC.keep {w w' : World} {A : Option Addr} {l : List Int} (h : IntsC w A l) (hb : Below w.heap.size w w') : IntsC w' A l := fun i hi => by
 obtain ⟨ad, e, hc⟩ := h i hi
 exact ⟨ad, e, (hb.cell (block_lt_of_cell hc)).trans hc⟩
theorem results64t {fn : Func} {p u : Tmp} (h : fn.results = #[.cell p 30, .tmp u]) (tmps : Array Value) (w : World) (g s : Nat) (x : Value) (hp : tmps.getD p undef = .pointer (some ⟨g, 0, none⟩)) (hu : tmps.getD u undef = x) (hg : SetAt w g s) :
  (results fn tmps).run Tryd.prog w = .ok (.tuple #[.agg (cells64 s), x]) w := by
 rw [results_cell_tmp h, hp, hu]
 have e := run_loadVar_row (P := Tryd.prog) w g 30 30 (cells64 s) (0, 0) _ hg under64 rfl (by rw [zad]; exact info64)
 simp only [asAddr, Sem.run_pure, Result.andThen_ok, e]
theorem wpl_load64g {ops : Array Oper} {rest : List Oper} {o : Oper} {a : Act} {w : World} {Q : Exit → Act → World → Prop} (g s : Nat) (p : Operand) (hw : Region.wanted o (yielded ops a.tmps) = true) (ho : o.op = .load 30 p)
  (hx : a.eval p = .pointer (some ⟨g, 0, none⟩)) (hs : SetAt w g s)
  (h : wpList Tryd.prog ops Q rest (a.put o.dst (.agg (cells64 s))) w) : wpList Tryd.prog ops Q (o :: rest) a w :=
 wpList_step fun K hK => by
  rw [if_pos hw]
  exact wp_load_row 30 p ho g hx 30 (cells64 s) (0, 0) _ hs under64 rfl (by rw [zad]; exact info64) (hK _ _ h)
mutual
def za.l0 : Nat → ByteArray → Int → Option (Int × Int)
 | 0, _, _ => none
 | k + 1, x0, x4 => if x4 > 0 then (za.l1 k x0 x4 0) else (some (0, 0))
def za.l1 : Nat → ByteArray → Int → Int → Option (Int × Int)
 | 0, _, _, _ => none
 | k + 1, x0, x4, x5 => if x5 < 64 then (za.j2 k x0 x4 x5 (decide (x4 ≤ (x0.size : Int)))) else (za.j2 k x0 x4 x5 false)
def za.j2 : Nat → ByteArray → Int → Int → Bool → Option (Int × Int)
 | 0, _, _, _, _ => none
 | k + 1, x0, x4, x5, x17 => if x17 = true then ((zab.f x5).bind fun t156 => (if 0 ≤ x4 then (if x4 ≤ (x0.size : Int) then (if t156.toList = (x0.extract 0 (x4 : Int).toNat).toList then (some (x5, x4)) else (za.l1 k x0 x4 (wrap64 (x5 + 1)))) else (none)) else (none))) else (za.l0 k x0 (wrap64 (x4 - 1)))
end
def za.f (k : Nat) (a0 : ByteArray) : Option (Int × Int) := za.l0 k a0 2
theorem za.calls (k : Nat) (a0 : ByteArray) (r1 : Int) (r2 : Int) (w : World) (h : za.f k a0 = some (r1, r2)) :
  Calls Tryd.prog 43 #[.string a0] w fun e w' => e = .returned (.tuple #[.int .i64 r1, .int .i64 r2]) ∧ Drawn0 w w' := by
 have H : (za.l0 k a0 2) = some (r1, r2) := h
 clear h
 have H' := zA H
 clear H
 go_enter Tryd.func43, Tryd.ntmps43
 go_wp2
 repeat (go_quiet (fail); try go_wp2)
 go_loopg [4] k (fun kq v4 w' => ∃ (x4_1 : Int), v4 = .int .i64 x4_1 ∧ Aside0 (za.l0 kq a0 x4_1 = some (r1, r2)) ∧ Aside0 (kq ≤ k) ∧ Drawn0 w w')
 case atStart => exact ⟨(2), (zF), H', ⟨Nat.le_refl _⟩, by repeat (first | exact Drawn0.refl _ | apply Drawn0.step)⟩
 case round =>
  clear H'
  obtain ⟨x4_1, rfl, HA, HK1, ⟨m1, rfl⟩⟩ := hrel
  cases gk with
  | zero => exact absurd HA.out (by simp [za.l0])
  | succ k1 =>
   have H := HA.out
   clear HA
   simp only [za.l0] at H
   by_cases c2 : x4_1 > 0
   ·
    rw [if_pos c2] at H
    have c2b0 : decide (0 < x4_1) = true := decide_eq_true c2
    clear c2
    have H' := zA H
    clear H
    go_wp2
    repeat (go_quiet (fail); try go_wp2)
    go_loopg [5] k1 (fun kq v5 w' => ∃ (x5_2 : Int), v5 = .int .i64 x5_2 ∧ Aside0 (za.l1 kq a0 x4_1 x5_2 = some (r1, r2)) ∧ Aside0 (kq ≤ k1) ∧ Drawn0 w w')
    case atStart => exact ⟨(0), (zF), H', ⟨Nat.le_refl _⟩, by repeat (first | exact Drawn0.refl _ | apply Drawn0.step)⟩
    case round =>
     clear H'
     try clear c2
     try clear c2b0
     try clear p2
     obtain ⟨x5_2, rfl, HA, HK2, ⟨m2, rfl⟩⟩ := hrel
     cases gk with
     | zero => exact absurd HA.out (by simp [za.l1])
     | succ k2 =>
      have H := HA.out
      clear HA
      simp only [za.l1] at H
      have HC3 := zA H
      clear H
      go_upto_region 5 with (fail)
      repeat (go_quiet (fail); go_upto_region 5 with (fail))
      go_cut [17] (fun v17 wc => ∃ (kq : Nat) (x17_2 : Bool), v17 = .bool x17_2 ∧ Aside0 (za.j2 kq a0 x4_1 x5_2 x17_2 = some (r1, r2)) ∧ Aside0 (kq ≤ k2) ∧ Drawn0 w wc)
      case first =>
       have H := HC3.out
       clear HC3
       by_cases c4 : x5_2 < 64
       ·
        rw [if_pos c4] at H
        have c4b0 : decide (x5_2 < 64) = true := decide_eq_true c4
        clear c4
        (first | rw [c4b0] | (simp only [i64_w, i32_w]; rw [c4b0]) | skip)
        have H' := zA H
        clear H
        go_wp2
        repeat (go_quiet (fail); try go_wp2)
        go_meet
        case rel => exact ⟨_, (decide (x4_1 ≤ (a0.size : Int))), (zF), H', ⟨by have := HK1.out; have := HK2.out; first | omega | exact Nat.le_refl _⟩, by repeat (first | exact Drawn0.refl _ | apply Drawn0.step)⟩
       ·
        rw [if_neg c4] at H
        have c4b0 : decide (x5_2 < 64) = false := decide_eq_false c4
        clear c4
        (first | rw [c4b0] | (simp only [i64_w, i32_w]; rw [c4b0]) | skip)
        have H' := zA H
        clear H
        go_wp2
        repeat (go_quiet (fail); try go_wp2)
        go_meet
        case rel => exact ⟨_, (false), (zF), H', ⟨by have := HK1.out; have := HK2.out; first | omega | exact Nat.le_refl _⟩, by repeat (first | exact Drawn0.refl _ | apply Drawn0.step)⟩
      case rest =>
       clear HC3
       try clear c2
       try clear c2b0
       try clear p2
       try clear c4
       try clear c4b0
       try clear p2
       obtain ⟨kq, x17_2, rfl, HA, HJ2, ⟨mc2, rfl⟩⟩ := hcut
       cases kq with
       | zero => exact absurd HA.out (by simp [za.j2])
       | succ kj2 =>
        have H := HA.out
        clear HA
        simp only [za.j2] at H
        by_cases c5 : x17_2 = true
        ·
         subst c5
         rw [if_pos rfl] at H
         replace H := zO H
         obtain ⟨t156, A60, H⟩ := H
         try dsimp only at H
         have A6 := zA A60
         clear A60
         by_cases c7 : 0 ≤ x4_1
         ·
          rw [if_pos c7] at H
          have c7b0 := eq_true c7
          have c7b1 : decide (0 ≤ x4_1) = true := decide_eq_true c7
          clear c7
          by_cases c8 : x4_1 ≤ (a0.size : Int)
          ·
           rw [if_pos c8] at H
           have c8b0 := eq_true c8
           have c8b1 : decide (x4_1 ≤ (a0.size : Int)) = true := decide_eq_true c8
           clear c8
           by_cases c9 : t156.toList = (a0.extract 0 (x4_1 : Int).toNat).toList
           ·
            rw [if_pos c9] at H
            have c9b0 : (t156.toList == (a0.extract 0 (x4_1 : Int).toNat).toList) = true := beq_iff_eq.mpr c9
            have c9b1 : (t156.toList != (a0.extract 0 (x4_1 : Int).toNat).toList) = false := bne_eq_false_iff_eq.mpr c9
            clear c9
            simp only [Option.some.injEq, Prod.mk.injEq] at H
            obtain ⟨rfl, rfl⟩ := H
            go_wp2_with (first | (go_at_call 42; (with_reducible refine (zab.calls x5_2 t156 _ A6.out).mono ?_); rintro e w' ⟨rfl, ⟨nd, rfl⟩⟩; (try first | exact ⟨rfl, _, World.drewN_drewN _ _ _⟩ | exact ⟨rfl, _, Eq.trans (World.drewN_drewN _ _ _) (congrArg (World.drewN _) (Nat.add_assoc _ _ _))⟩)))
            repeat (go_quiet (first | (go_at_call 42; (with_reducible refine (zab.calls x5_2 t156 _ A6.out).mono ?_); rintro e w' ⟨rfl, ⟨nd, rfl⟩⟩; (try first | exact ⟨rfl, _, World.drewN_drewN _ _ _⟩ | exact ⟨rfl, _, Eq.trans (World.drewN_drewN _ _ _) (congrArg (World.drewN _) (Nat.add_assoc _ _ _))⟩))); try go_wp2_with (first | (go_at_call 42; (with_reducible refine (zab.calls x5_2 t156 _ A6.out).mono ?_); rintro e w' ⟨rfl, ⟨nd, rfl⟩⟩; (try first | exact ⟨rfl, _, World.drewN_drewN _ _ _⟩ | exact ⟨rfl, _, Eq.trans (World.drewN_drewN _ _ _) (congrArg (World.drewN _) (Nat.add_assoc _ _ _))⟩))))
            go_ret2
            exact ⟨zF, by repeat (first | exact Drawn0.refl _ | apply Drawn0.step)⟩
           ·
            rw [if_neg c9] at H
            have c9b0 : (t156.toList == (a0.extract 0 (x4_1 : Int).toNat).toList) = false := beq_eq_false_iff_ne.mpr c9
            have c9b1 : (t156.toList != (a0.extract 0 (x4_1 : Int).toNat).toList) = true := bne_iff_ne.mpr c9
            have H' := zA H
            clear H
            go_wp2_with (first | (go_at_call 42; (with_reducible refine (zab.calls x5_2 t156 _ A6.out).mono ?_); rintro e w' ⟨rfl, ⟨nd, rfl⟩⟩; (try first | exact ⟨rfl, _, World.drewN_drewN _ _ _⟩ | exact ⟨rfl, _, Eq.trans (World.drewN_drewN _ _ _) (congrArg (World.drewN _) (Nat.add_assoc _ _ _))⟩)))
            repeat (go_quiet (first | (go_at_call 42; (with_reducible refine (zab.calls x5_2 t156 _ A6.out).mono ?_); rintro e w' ⟨rfl, ⟨nd, rfl⟩⟩; (try first | exact ⟨rfl, _, World.drewN_drewN _ _ _⟩ | exact ⟨rfl, _, Eq.trans (World.drewN_drewN _ _ _) (congrArg (World.drewN _) (Nat.add_assoc _ _ _))⟩))); try go_wp2_with (first | (go_at_call 42; (with_reducible refine (zab.calls x5_2 t156 _ A6.out).mono ?_); rintro e w' ⟨rfl, ⟨nd, rfl⟩⟩; (try first | exact ⟨rfl, _, World.drewN_drewN _ _ _⟩ | exact ⟨rfl, _, Eq.trans (World.drewN_drewN _ _ _) (congrArg (World.drewN _) (Nat.add_assoc _ _ _))⟩))))
            go_roundg kj2
            case measure => have := HK1.out; have := HK2.out; have := HJ2.out; omega
            case rel => exact ⟨(wrap64 (x5_2 + 1)), (zF), H', ⟨by have := HK1.out; have := HK2.out; have := HJ2.out; omega⟩, by repeat (first | exact Drawn0.refl _ | apply Drawn0.step)⟩
          ·
           rw [if_neg c8] at H
           exact absurd H (by simp)
         ·
          rw [if_neg c7] at H
          exact absurd H (by simp)
        ·
         replace c5 := Bool.eq_false_iff.mpr c5
         subst c5
         rw [if_neg (show ¬ (false = true) by decide)] at H
         have H' := zA H
         clear H
         go_wp2
         repeat (go_quiet (fail); try go_wp2)
         go_roundg kj2
         case measure => have := HK1.out; have := HK2.out; have := HJ2.out; omega
         case rel => exact ⟨(wrap64 (x4_1 - 1)), (zF), H', ⟨by have := HK1.out; have := HK2.out; have := HJ2.out; omega⟩, by repeat (first | exact Drawn0.refl _ | apply Drawn0.step)⟩
   ·
    rw [if_neg c2] at H
    have c2b0 : decide (0 < x4_1) = false := decide_eq_false c2
    clear c2
    simp only [Option.some.injEq, Prod.mk.injEq] at H
    obtain ⟨rfl, rfl⟩ := H
    go_wp2
    repeat (go_quiet (fail); try go_wp2)
    go_ret2
    exact ⟨zF, by repeat (first | exact Drawn0.refl _ | apply Drawn0.step)⟩
end Go.Proofs.YtilgojlncmjjcaaDoor.P
end
