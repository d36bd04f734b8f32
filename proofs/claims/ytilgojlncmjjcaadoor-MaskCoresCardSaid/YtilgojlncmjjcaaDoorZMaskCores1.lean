-- Written by a program of this session (wip/tools/shake.py) out of its own texts and of the kit's printed ones; not trusted: Lean checks it.
import Derived.Test.YtilgojlncmjjcaaDoorZMaskCores0
set_option maxHeartbeats 8000000
set_option maxRecDepth 100000
set_option linter.unusedVariables false
set_option linter.unusedSimpArgs false
section
namespace Go.Proofs.YtilgojlncmjjcaaDoor.P
open Go.RowKit Go.Proofs.YtilgojlncmjjcaaDoorW.PrintWords Go.Proofs.YtilgojlncmjjcaaDoorW.PrintLast Go.Proofs.YtilgojlncmjjcaaDoorW.PrintMore
attribute [local go_sem] max2_int min2_int max_two min_two max_three min_three max_four min_four
attribute [local go_sem] Oper.semAt_some
def addRun (R : List (Int × Int)) (c : Int) : List (Int × Int) :=
 match R.getLast? with
 | some r => if r.2 = wrap64 (c - 1) then R.dropLast ++ [(r.1, c)] else R ++ [(c, c)]
 | none => [(c, c)]
def runsOf (l : List Int) : List (Int × Int) := l.foldl addRun []
theorem runsOf_snoc (l : List Int) (c : Int) : runsOf (l ++ [c]) = addRun (runsOf l) c := by simp [runsOf]
def runCells (R : List (Int × Int)) : List Value := R.flatMap fun r => [.int .i64 r.1, .int .i64 r.2]
theorem zah (R : List (Int × Int)) : (runCells R).length = R.length * 2 := by
 unfold runCells
 induction R with
 | nil => rfl
 | cons a R ih => rw [List.flatMap_cons, List.length_append, ih]; simp; omega
theorem runCells_app (R Q : List (Int × Int)) : runCells (R ++ Q) = runCells R ++ runCells Q := by simp [runCells]
theorem addRun_len (R : List (Int × Int)) (c : Int) : (addRun R c).length ≤ R.length + 1 := by
 unfold addRun
 cases h : R.getLast? with
 | none => simp
 | some r =>
  dsimp only
  split
  ·
   simp only [List.length_append, List.length_dropLast, List.length_cons, List.length_nil]
   omega
  ·
   simp
theorem runsOf_len (l : List Int) : (runsOf l).length ≤ l.length := by
 have key : ∀ (l : List Int) (R : List (Int × Int)), (l.foldl addRun R).length ≤ R.length + l.length := by
  intro l
  induction l with
  | nil => intro R; simp
  | cons c l ih =>
   intro R
   have := ih (addRun R c)
   have := addRun_len R c
   rw [List.foldl_cons, List.length_cons]
   omega
 have := key l []
 simpa [runsOf] using this
theorem row_below {W W' : World} {base : Nat} {e : TypeId} {size : Nat} {v : Value} {n : Nat} {xs : List Value} (h : W.ownsRow base e size v n xs) (hb : Below W.heap.size W W') : W'.ownsRow base e size v n xs := by
 obtain ⟨h1, h2 | ⟨g, cap, cur, h3, h4, h5, h6⟩⟩ := h
 ·
  exact ⟨h1, .inl h2⟩
 ·
  exact ⟨h1, .inr ⟨g, cap, cur, h3, h4, (hb.block g (blk_lt h5)).trans h5, h6⟩⟩
theorem runCells_get {R : List (Int × Int)} {i : Nat} (h : i < R.length) : (runCells R)[i * 2]? = some (.int .i64 R[i].1) := by
 induction R generalizing i with
 | nil => simp at h
 | cons a R ih =>
  cases i with
  | zero => rfl
  | succ i =>
   have := ih (i := i) (by simpa using h)
   simp only [List.getElem_cons_succ]
   rw [← this, show (i + 1) * 2 = i * 2 + 1 + 1 by omega]
   rfl
theorem runCells_get1 {R : List (Int × Int)} {i : Nat} (h : i < R.length) : (runCells R)[i * 2 + 1]? = some (.int .i64 R[i].2) := by
 induction R generalizing i with
 | nil => simp at h
 | cons a R ih =>
  cases i with
  | zero => rfl
  | succ i =>
   have := ih (i := i) (by simpa using h)
   simp only [List.getElem_cons_succ]
   rw [← this, show (i + 1) * 2 + 1 = i * 2 + 1 + 1 + 1 by omega]
   rfl
theorem str_info : (Tryd.prog.info? 9).map (fun i => (i.zero, i.size, i.bytes)) = some (some (.string ⟨#[]⟩), 1, 16) := by kernel_rfl
theorem one_new (W : World) (a : Value) (t : TypeId) : ∀ j u, [a][j]? = some u → (W.alloc (.cells #[a] t)).cell? ((⟨W.heap.size, 0, none⟩ : Addr).add j) = some u := by
 intro j u h
 have hb := blk_new W (.cells #[a] t)
 have e : ((⟨W.heap.size, 0, none⟩ : Addr).add j) = ⟨W.heap.size, j, none⟩ := add_plain ..
 rw [e, zac hb j]
 match j, h with
 | 0, h => exact h
def runTexts (R : List (Int × Int)) : List ByteArray := R.map fun r => runText r.1.toNat r.2.toNat
theorem cores_in (s : Nat) (hs : s < 18446744073709551616) : ∀ c ∈ coresN s, 0 ≤ c ∧ c < 64 := by
 induction s using Nat.strongRecOn with
 | _ s ih =>
  by_cases h0 : s = 0
  ·
   subst h0
   rw [coresN_zero]
   intro c hc
   cases hc
  ·
   rw [zad h0]
   intro c hc
   rcases List.mem_cons.1 hc with rfl | hc
   ·
    obtain ⟨_, hk⟩ := Lib.lowest_bit 64 s h0 hs
    omega
   ·
    have := Nat.and_le_right (n := s) (m := s - 1)
    exact ih _ (by omega) (by omega) c hc
theorem addRun_in {R : List (Int × Int)} {c : Int} (h : ∀ r ∈ R, (0 ≤ r.1 ∧ r.1 < 64) ∧ 0 ≤ r.2 ∧ r.2 < 64) (hc : 0 ≤ c ∧ c < 64) : ∀ r ∈ addRun R c, (0 ≤ r.1 ∧ r.1 < 64) ∧ 0 ≤ r.2 ∧ r.2 < 64 := by
 unfold addRun
 cases hl : R.getLast? with
 | none =>
  intro r hr
  simp at hr
  subst hr
  exact ⟨hc, hc⟩
 | some q =>
  have hq := h q (List.mem_of_getLast? hl)
  dsimp only
  split
  ·
   intro r hr
   rcases List.mem_append.1 hr with hr | hr
   ·
    exact h r (List.dropLast_subset _ hr)
   ·
    simp at hr
    subst hr
    exact ⟨hq.1, hc⟩
  ·
   intro r hr
   rcases List.mem_append.1 hr with hr | hr
   ·
    exact h r hr
   ·
    simp at hr
    subst hr
    exact ⟨hc, hc⟩
theorem runs_in (s : Nat) (hs : s < 18446744073709551616) : ∀ r ∈ runsOf (coresN s), (0 ≤ r.1 ∧ r.1 < 64) ∧ 0 ≤ r.2 ∧ r.2 < 64 := by
 have key : ∀ (l : List Int) (R : List (Int × Int)), (∀ c ∈ l, 0 ≤ c ∧ c < 64) → (∀ r ∈ R, (0 ≤ r.1 ∧ r.1 < 64) ∧ 0 ≤ r.2 ∧ r.2 < 64) → ∀ r ∈ l.foldl addRun R, (0 ≤ r.1 ∧ r.1 < 64) ∧ 0 ≤ r.2 ∧ r.2 < 64 := by
  intro l
  induction l with
  | nil => intro R _ h; exact h
  | cons c l ih =>
   intro R hl hR
   rw [List.foldl_cons]
   exact ih _ (fun x hx => hl x (List.mem_cons_of_mem _ hx)) (addRun_in hR (hl c List.mem_cons_self))
 exact key (coresN s) [] (cores_in s hs) (fun r hr => by cases hr)
theorem run_info : (Tryd.prog.info? 59).map (fun i => (i.zero, i.size, i.bytes)) = some (some (.agg #[.int .i64 0, .int .i64 0]), 2, 16) := by kernel_rfl
theorem two_new (W : World) (a b : Value) (t : TypeId) : ∀ j u, [a, b][j]? = some u → (W.alloc (.cells #[a, b] t)).cell? ((⟨W.heap.size, 0, none⟩ : Addr).add j) = some u := by
 intro j u h
 have hb := blk_new W (.cells #[a, b] t)
 have e : ((⟨W.heap.size, 0, none⟩ : Addr).add j) = ⟨W.heap.size, j, none⟩ := add_plain ..
 rw [e, zac hb j]
 match j, h with
 | 0, h => exact h
 | 1, h => exact h
theorem text_in (n : Nat) (hn : 3 ≤ n) (s : Nat) (hs : s < 18446744073709551616) (hs0 : s ≠ 0) (w : World) (hT : TabAt 0 Lib.deBruijn64tab w) (hg : 0 < w.heap.size) (hN : (coresN s).length ≤ 64) (hJ : (Lib.join ((runTexts (runsOf (coresN s))).map (·.data.toList)) [44]).length ≤ 140737488355328) :
  CallsIn Fence.wide n Tryd.prog 28 #[.int .u64 (s : Int)] w fun e W' => e = .returned (.string ⟨(Lib.join ((runTexts (runsOf (coresN s))).map (·.data.toList)) [44]).toArray⟩) ∧ Below w.heap.size w W' := by
 have h1 : 1 ≤ n := by omega
 have d0 : ((s : Int) == 0) = false := beq_eq_false_iff_ne.mpr (by omega)
 refine callsIn_of_wp_marks Tryd.func28 rfl trivial ?_ rfl
 simp only [Tryd.ntmps28, List.size_toArray, List.length_cons, List.length_nil, Nat.reduceAdd, Nat.reduceSub, Array.replicate_succ, Array.replicate_zero, List.push_toArray, List.append_toArray, List.nil_append, List.cons_append]
 gi_wp2
 refine ⟨trivial, (callsIn_wide.2 (cores_make (s : Int) _)).mono ?_⟩
 rintro e w' ⟨rfl, rfl⟩
 gi_wp2
 have hb0 := Boxed.new w 57 (.slice none 0 0)
 have hcc : ((w.alloc (.cells #[.slice none 0 0] 57)).alloc (.cells #[.int .u64 (s : Int)] 25)).cell? ⟨w.heap.size + 1, 0, none⟩ = some (.int .u64 (s : Int)) := by
  have := blk_new (w.alloc (.cells #[.slice none 0 0] 57)) (.cells #[.int .u64 (s : Int)] 25)
  rw [show (w.alloc (.cells #[.slice none 0 0] 57)).heap.size = w.heap.size + 1 by simp] at this
  exact (zac this 0).trans rfl
 have hB0 : Below w.heap.size w ((w.alloc (.cells #[.slice none 0 0] 57)).alloc (.cells #[.int .u64 (s : Int)] 25)) := ((Below.refl _ w).alloc (Nat.le_refl _) _).alloc (by simp) _
 refine wpIn_rangeFunc_ownF rfl h1 (gf := 34) (lb := #[.pointer (some ⟨w.heap.size + 1, 0, none⟩)]) rfl trivial (enters_of Tryd.func34 (by kernel_rfl) rfl)
  (cores_stops (n - 1) (by omega) (w.heap.size + 1) w.heap.size s hs hg _ (by simp) (by simp; omega) hcc (tab_below hT hB0 hg)) belowK_t (belowK_b (by simp; omega)) (Below.refl _ _) (fun _ => rfl)
  (fun pre W => (∃ v, Boxed W w.heap.size 57 v ∧ W.ownsRow w.heap.size 59 2 v (runsOf pre).length (runCells (runsOf pre)) ∧ True) ∧ Below w.heap.size w W)
  (fun _ _ _ => False)
  (OwnFrom.and (Own.from (holdsRow_own w.heap.size w.heap.size 57 59 2 (fun pre => (runsOf pre).length) (fun pre => runCells (runsOf pre)) (fun _ _ => True)) _) (ownFrom_below (Nat.le_refl _) (by simp; omega)))
  (fun _ _ _ _ _ hs _ _ => hs)
  ⟨⟨.slice none 0 0, hb0.alloc _, World.ownsRow_nil _ _ _ _, trivial⟩, hB0⟩
  (fun x => { tmps := #[.int .u64 (s : Int), undef, .string ⟨#[]⟩, .pointer (some ⟨w.heap.size, 0, none⟩), .int .i64 x, undef, undef, undef, undef, .int .u64 (s : Int), .bool false, .int .u64 (s : Int), .func (.func 34) #[] #[.pointer (some ⟨w.heap.size + 1, 0, none⟩)], .int .i64 x, undef, undef, undef, undef, undef, undef, undef, undef, undef, undef, undef, undef, undef, undef, undef, undef, undef, undef, undef, undef, undef, undef, undef, undef, undef, undef, undef, undef, undef, undef, undef, undef, undef, undef, undef, undef, undef, undef, undef, undef, undef], defers := [] }) ?assign ?body ?done ?stop
 case assign =>
  intro l x W K hK
  gi_wp2
  exact hK
 case stop =>
  rintro D c pre W _ _ h _
  exact h.elim
 case body =>
  rintro l pre x W ⟨⟨v, hv, hrow, _⟩, hB⟩ hlt
  have hcell := hv.cell
  have hfro := hv.frozen
  have hrl := runsOf_len pre
  have hform : ∃ A cap, v = .slice A (runsOf pre).length cap := by
   rcases hrow.2 with ⟨rfl, h0⟩ | ⟨g, cap, cur, rfl, _⟩
   ·
    exact ⟨none, 0, by rw [h0]⟩
   ·
    exact ⟨_, _, rfl⟩
  obtain ⟨A, cap, rfl⟩ := hform
  obtain ⟨i0, hi, hz0, hz1, hz2⟩ := info_parts run_info
  have hadd := runsOf_snoc pre x
  have hRow := Aside0.mk hrow
  have hBx := Aside0.mk hB
  have hVx := Aside0.mk hv
  have hmax : maxLen = 35184372088831 ∨ 1000 ≤ maxLen := .inr (by decide)
  rcases hR : (runsOf pre).getLast? with _ | r
  ·
   have hR0 : runsOf pre = [] := List.getLast?_eq_none_iff.1 hR
   have hk0 : (runsOf pre).length = 0 := by rw [hR0]; rfl
   have d1 : decide (((runsOf pre).length : Int) > 0) = false := decide_eq_false (by omega)
   have hnx : addRun (runsOf pre) x = runsOf pre ++ [(x, x)] := by rw [hR0]; rfl
   rw [hnx] at hadd
   have hADD := Aside0.mk hadd
   have hRun0 := Aside0.mk hR0
   clear hadd hnx hR hR0
   clear hrow hB
   have hrow0 : W.ownsRow w.heap.size 59 2 (.slice A 0 cap) 0 [] := by
    have := hRow.out
    rw [hRun0.out] at this
    exact this
   have hv0 : Boxed W w.heap.size 57 (.slice A 0 cap) := by
    have := hVx.out
    rw [hRun0.out] at this
    exact this
   rw [hRun0.out] at hcell
   have hcell : W.cell? ⟨w.heap.size, 0, none⟩ = some (.slice A 0 cap) := hcell
   have hRow0 := Aside0.mk hrow0
   have hV0 := Aside0.mk hv0
   clear hrow0 hv0 hv hk0 d1 hrl
   gi_wp2_with (gi_at_builtin; refine wpListIn_append_own _ rfl _ _ 57 rfl w.heap.size 59 i0 (.agg #[.int .i64 0, .int .i64 0]) 2 16 Tryd.underlying57 hi hz0 hz1 hz2 rfl (by decide) _ _ _ rfl (hRow0.out.alloc _) ⟨W.heap.size, 0, none⟩ 1 1 [.int .i64 x, .int .i64 x] rfl rfl (two_new _ _ _ _) (by simp [Value.oneCell']) (by omega) (by omega) (by have := hBx.out.size; simp; omega) ?_; intro v' w1 hown' hgrow _; obtain ⟨g', cap', rfl⟩ := ownsRow_succ hown'; obtain ⟨hv1, hv2, hr2, hk2, hb2⟩ := hV0.out.appended (by decide) hRow0.out hBx.out.size (Nat.le_refl _) hown' hgrow; have hc1 := hv1.cell; have hf1 := hv1.frozen)
   refine ⟨hk2, hb2, ⟨_, hv2, ?_, trivial⟩, hBx.out.trans hb2⟩
   rw [hADD.out, hRun0.out]
   exact hr2
  ·
   obtain ⟨R', hR'⟩ := List.getLast?_eq_some_iff.1 hR
   have hRun := Aside0.mk hR'
   have hLast := Aside0.mk hR
   have hADD := Aside0.mk hadd
   have hkl : (runsOf pre).length = R'.length + 1 := by rw [hR']; simp
   obtain ⟨k, hk⟩ : ∃ k, R'.length = k := ⟨_, rfl⟩
   have hk64 : k < 64 := by omega
   have hrow1 : W.ownsRow w.heap.size 59 2 (.slice A (k + 1) cap) (k + 1) (runCells R' ++ [.int .i64 r.1, .int .i64 r.2]) := by
    have := hrow
    rw [hkl, hk, hR', runCells_app] at this
    exact this
   have hv1 : Boxed W w.heap.size 57 (.slice A (k + 1) cap) := by
    have := hv
    rw [hkl, hk] at this
    exact this
   rw [hkl, hk] at hcell
   obtain ⟨g, cap1, hform⟩ := ownsRow_succ hrow1
   simp only [Value.slice.injEq, true_and] at hform
   obtain ⟨rfl, rfl⟩ := hform
   have hto : W.cell? ⟨g, k * 2 + 1, none⟩ = some (.int .i64 r.2) := by
    rw [hrow1.cellAt (k * 2 + 1) (by omega), List.getElem?_append_right (by rw [zah, hk]; omega), zah, hk]
    simp
   have hfrz : W.frozen? ⟨g, k * 2 + 1, none⟩ = false := hrow1.frozenAt (k * 2 + 1)
   have hRow1 := Aside0.mk hrow1
   have hV1 := Aside0.mk hv1
   have hK := Aside0.mk hk
   clear hrow hv hR hR' hadd hkl hrow1 hv1 hrl hB hk
   have hgl := (hRow1.out.lt g rfl).1
   have hne := hV1.out.not_row (by decide) hRow1.out
   have hRk : (runsOf pre).length = k + 1 := by rw [hRun.out, List.length_append, hK.out]; rfl
   by_cases hx : r.2 = wrap64 (x - 1)
   ·
    have db : (r.2 == wrap64 (x - 1)) = true := beq_iff_eq.mpr hx
    have hnew : runsOf (pre ++ [x]) = R' ++ [(r.1, x)] := by
     rw [hADD.out]
     unfold addRun
     rw [hLast.out]
     dsimp only
     rw [if_pos hx, hRun.out, List.dropLast_concat]
    have HNEW := Aside0.mk hnew
    clear hx hnew
    gi_wp2
    have hst := hRow1.out.stored (k * 2 + 1) (.int .i64 x)
    have hset : (runCells R' ++ [Value.int .i64 r.1, Value.int .i64 r.2]).set (k * 2 + 1) (.int .i64 x) = runCells (R' ++ [(r.1, x)]) := by
     rw [List.set_append_right _ _ (by rw [zah, hK.out]; omega), zah, hK.out, runCells_app]
     rw [show k * 2 + 1 - k * 2 = 1 by omega]
     rfl
    rw [hset] at hst
    refine ⟨KeepsOthers.setCell _ _ _, (Below.refl w.heap.size W).setCell (p := ⟨g, k * 2 + 1, none⟩) hgl _, ⟨_, hV1.out.kept hst.2 hne, ?_, trivial⟩, hBx.out.setCell (p := ⟨g, k * 2 + 1, none⟩) hgl _⟩
    rw [HNEW.out, show (R' ++ [(r.1, x)]).length = k + 1 by rw [List.length_append, hK.out]; rfl]
    exact hst.1
   ·
    have db : (r.2 == wrap64 (x - 1)) = false := beq_eq_false_iff_ne.mpr hx
    have hnew : runsOf (pre ++ [x]) = (R' ++ [r]) ++ [(x, x)] := by
     rw [hADD.out]
     unfold addRun
     rw [hLast.out]
     dsimp only
     rw [if_neg hx, hRun.out]
    have HNEW := Aside0.mk hnew
    have HXN := Aside0.mk hx
    clear hx hnew
    gi_wp2_with (gi_at_builtin; refine wpListIn_append_own _ rfl _ _ 57 rfl w.heap.size 59 i0 (.agg #[.int .i64 0, .int .i64 0]) 2 16 Tryd.underlying57 hi hz0 hz1 hz2 rfl (by decide) _ _ _ rfl (hRow1.out.alloc _) ⟨W.heap.size, 0, none⟩ 1 1 [.int .i64 x, .int .i64 x] rfl rfl (two_new _ _ _ _) (by simp [Value.oneCell']) (by omega) (by omega) (by have := hBx.out.size; simp; omega) ?_; intro v' w1 hown' hgrow _; obtain ⟨g', cap', rfl⟩ := ownsRow_succ hown'; obtain ⟨hv1, hv2, hr2, hk2, hb2⟩ := hV1.out.appended (by decide) hRow1.out hBx.out.size (Nat.le_refl _) hown' hgrow; have hc1 := hv1.cell; have hf1 := hv1.frozen)
    all_goals first | (exfalso; first | exact HXN.out (by assumption) | exact HXN.out (beq_iff_eq.mp (by assumption)) | exact HXN.out (of_decide_eq_true (by assumption))) | skip
    refine ⟨hk2, hb2, ⟨_, hv2, ?_, trivial⟩, hBx.out.trans hb2⟩
    rw [HNEW.out, runCells_app, runCells_app, show ((R' ++ [r]) ++ [(x, x)]).length = k + 1 + 1 by rw [List.length_append, List.length_append, hK.out]; rfl]
    exact hr2
 case done =>
  rintro D ys W hD rfl ⟨⟨v, hv, hrow, _⟩, hB⟩ hK
  have hcell := hv.cell
  have hform : ∃ A cap, v = .slice A (runsOf (coresN s)).length cap := by
   rcases hrow.2 with ⟨rfl, h0⟩ | ⟨g, cap, cur, rfl, _⟩
   ·
    exact ⟨none, 0, by rw [h0]⟩
   ·
    exact ⟨_, _, rfl⟩
  obtain ⟨A, cap, rfl⟩ := hform
  have hrl := runsOf_len (coresN s)
  have hin := runs_in s hs
  obtain ⟨R, hRR⟩ : ∃ R, runsOf (coresN s) = R := ⟨_, rfl⟩
  have HRR := Aside0.mk hRR
  rw [hRR] at hrow hcell hrl hin hJ
  clear hRR
  have hRow := Aside0.mk hrow
  have hBx := Aside0.mk hB
  have hKD := Aside0.mk hK
  have hIn := Aside0.mk hin
  have hDD := Aside0.mk hD
  clear hrow hB hK hin hD hv hb0 hcc hB0
  gi_wp2
  clear hcell
  gi_loopw [6, 43] (fun p6 p43 wr => ∃ i : Nat, p43 = .int .i64 (i : Int) ∧ Aside0 (i ≤ R.length) ∧ Aside0 (wr.ownsRow W.heap.size 9 1 p6 i (((runTexts R).take i).map Value.string)) ∧ Aside0 (Below W.heap.size W wr))
   (fun _ p43 _ => R.length - (match p43 with | .int _ z => z.toNat | _ => 0))
  case atStart => exact ⟨0, by go_num, ⟨by omega⟩, ⟨World.ownsRow_nil _ _ _ _⟩, ⟨Below.refl _ _⟩⟩
  case round =>
   obtain ⟨i, rfl, hi, hO, hW⟩ := hrel
   by_cases hil : i < R.length
   ·
    have d1 : decide ((i : Int) < (R.length : Int)) = true := decide_eq_true (by omega)
    have d3 : 0 ≤ (i : Int) ∧ (i : Int) < (R.length : Int) := by omega
    obtain ⟨r, hr⟩ : ∃ r, R[i] = r := ⟨_, rfl⟩
    have hrm : r ∈ R := by rw [← hr]; exact List.getElem_mem hil
    obtain ⟨b1, b2⟩ := hIn.out r hrm
    obtain ⟨a, ha⟩ : ∃ a : Nat, r.1.toNat = a := ⟨_, rfl⟩
    obtain ⟨b, hb⟩ : ∃ b : Nat, r.2.toNat = b := ⟨_, rfl⟩
    have hform2 : ∃ g, A = some ⟨g, 0, none⟩ := by
     obtain ⟨q, hq⟩ : ∃ q, R.length = q + 1 := ⟨R.length - 1, by omega⟩
     have h2 := hRow.out
     rw [hq] at h2
     obtain ⟨g, c, e⟩ := ownsRow_succ h2
     simp only [Value.slice.injEq] at e
     exact ⟨g, e.1⟩
    obtain ⟨g, rfl⟩ := hform2
    have hgl := (hRow.out.lt g rfl).2
    have hrc0 : (runCells R)[i * 2]? = some (.int .i64 (a : Int)) := by
     rw [runCells_get hil, hr, show r.1 = (a : Int) by omega]
    have hrc1 : (runCells R)[i * 2 + 1]? = some (.int .i64 (b : Int)) := by
     rw [runCells_get1 hil, hr, show r.2 = (b : Int) by omega]
    have c0 : wr.cell? ⟨g, i * 2, none⟩ = some (.int .i64 (a : Int)) := (hW.out.cell (p := ⟨g, i * 2, none⟩) hgl).trans ((hRow.out.cellAt (i * 2) (by omega)).trans hrc0)
    have c1 : wr.cell? ⟨g, i * 2 + 1, none⟩ = some (.int .i64 (b : Int)) := (hW.out.cell (p := ⟨g, i * 2 + 1, none⟩) hgl).trans ((hRow.out.cellAt (i * 2 + 1) (by omega)).trans hrc1)
    have htk : (runTexts R).take (i + 1) = (runTexts R).take i ++ [runText a b] := by
     unfold runTexts
     rw [List.take_succ_eq_append_getElem (by rw [List.length_map]; exact hil)]
     simp [hr, ha, hb]
    have HTK := Aside0.mk htk
    have HA : Aside0 (a < 100 ∧ b < 100) := ⟨by omega⟩
    have HI2 : Aside0 (i + 1 ≤ R.length ∧ i < 64) := ⟨by omega⟩
    clear htk hrc0 hrc1 hr hrm b1 b2 ha hb hgl
    gi_wp2
    refine ⟨trivial, (callsIn_wide.2 (run_text a b HA.out.1 HA.out.2 _)).mono ?_⟩
    rintro e w2 ⟨rfl, hb2⟩
    have HB2 := Aside0.mk (zaa (za hW.out (.cells #[.int .i64 (a : Int), .int .i64 (b : Int)] 59)) hb2)
    have HO2 := Aside0.mk (row_below (hO.out.alloc _) hb2)
    obtain ⟨i1, hi1, hs0', hs1, hs2⟩ := info_parts str_info
    have hmax : 1000 ≤ maxLen := by decide
    clear hb2 c0 c1
    gi_wp2_with (gi_at_builtin; refine wpListIn_append_own _ rfl _ _ 60 rfl W.heap.size 9 i1 (.string ⟨#[]⟩) 1 16 Tryd.underlying60 hi1 hs0' hs1 hs2 rfl (by decide) _ _ _ rfl (HO2.out.alloc _) ⟨w2.heap.size, 0, none⟩ 1 1 [.string (runText a b)] rfl rfl (one_new _ _ _) (by simp [Value.oneCell']) (by have := HI2.out.2; omega) (by have := HI2.out.2; omega) (by have := HB2.out.size; simp; omega) ?_; intro v' w3 hown' hgrow _; have hb3 : Below W.heap.size W w3 := (HB2.out.alloc HB2.out.size _).grown hgrow (by have := HB2.out.size; simp; omega) (fun j ej => (HO2.out.lt j ej).1); have HOn := Aside0.mk hown'; have HBn := Aside0.mk hb3; clear hown' hgrow hb3)
    go_roundw
    case rel => exact ⟨i + 1, by go_num, ⟨HI2.out.1⟩, ⟨by rw [HTK.out, List.map_append]; exact HOn.out⟩, HBn⟩
    case measure =>
     show R.length - ((i : Int) + 1).toNat < R.length - (i : Int).toNat
     have := HI2.out.1
     omega
   ·
    have d1 : decide ((i : Int) < (R.length : Int)) = false := decide_eq_false (by omega)
    have d2 : decide (i < R.length) = false := decide_eq_false hil
    have hie : i = R.length := by have := hi.out; omega
    have hxl : (runTexts R).length = R.length := by simp [runTexts]
    have hrow6 := hO.out
    rw [hie, List.take_of_length_le (by omega)] at hrow6
    have HJN : Aside0 (Calls Tryd.prog 38 #[u6, .string ⟨#[44]⟩] wr fun e w' => e = .returned (.string ⟨(Lib.join ((runTexts R).map (·.data.toList)) [44]).toArray⟩) ∧ Below wr.heap.size wr w') := ⟨by
     rcases hrow6.2 with ⟨rfl, h0⟩ | ⟨g, cap6, cur, rfl, hg0, hcur, hcap6, hmx, hsz, htk⟩
     ·
      have hR0 : runTexts R = [] := List.eq_nil_of_length_eq_zero (by omega)
      rw [hR0]
      exact (Tryd.strings_Join_none none 0 ⟨#[44]⟩ wr).mono fun e w' ⟨he, hw⟩ => ⟨he, by rw [hw]; exact Below.refl _ _⟩
     ·
      have := Tryd.strings_Join g 0 cap6 (runTexts R) ⟨#[44]⟩ wr (fun j x hx => by
       have hj : j < R.length := by
        have := (List.getElem?_eq_some_iff.1 hx).1
        omega
       rw [Nat.zero_add, hrow6.cellAt j (by omega), List.getElem?_map, hx]
       rfl) (blk_lt hcur) (by omega) (by omega) hJ
      rw [hxl] at this
      exact this⟩
    clear hrow6 d1 hxl
    gi_wp2
    refine ⟨trivial, (callsIn_wide.2 HJN.out).mono ?_⟩
    rintro e w9 ⟨rfl, hb9⟩
    have hbW := zaa hW.out hb9
    have hKD9 := (hbW.block D (blk_lt hKD.out)).trans hKD.out
    have HB9 := Aside0.mk (hBx.out.trans (hbW.mono hBx.out.size))
    have HK9 := Aside0.mk hKD9
    clear hb9 hbW hKD9
    gi_wp2
    refine ⟨by simp, .inl ⟨_, _, rfl, run_takeDeferred HK9.out, ?_⟩⟩
    exact ⟨_, results_tmp rfl _ _ _, by rw [HRR.out]; rfl, HB9.out.trans (belowK_b (w := w) (Nat.le_refl _) w9 D _ _ (by have := hDD.out; simp at this; omega) HK9.out rfl rfl)⟩
end Go.Proofs.YtilgojlncmjjcaaDoor.P
end
section
namespace Go.Proofs.YtilgojlncmjjcaaDoor.P
open Go.RowKit Go.Proofs.YtilgojlncmjjcaaDoorW.PrintWords Go.Proofs.YtilgojlncmjjcaaDoorW.PrintLast Go.Proofs.YtilgojlncmjjcaaDoorW.PrintMore
attribute [local go_sem] max2_int min2_int max_two min_two max_three min_three max_four min_four
theorem text_ok (s : Nat) (hs : s < 18446744073709551616) (hs0 : s ≠ 0) (w : World) (hT : TabAt 0 Lib.deBruijn64tab w) (hg : 0 < w.heap.size) (hN : (coresN s).length ≤ 64) (hJ : (Lib.join ((runTexts (runsOf (coresN s))).map (·.data.toList)) [44]).length ≤ 140737488355328) :
  Calls Tryd.prog 28 #[.int .u64 (s : Int)] w fun e W' => e = .returned (.string ⟨(Lib.join ((runTexts (runsOf (coresN s))).map (·.data.toList)) [44]).toArray⟩) ∧ Below w.heap.size w W' :=
 callsIn_wide.1 (text_in 3 (Nat.le_refl _) s hs hs0 w hT hg hN hJ)
theorem cores39 : coresN 39 = [0, 1, 2, 5] := by
 rw [zad (by decide), zad (by decide), zad (by decide), zad (by decide), show ((39 &&& (39 - 1)) &&& ((39 &&& (39 - 1)) - 1)) &&& (((39 &&& (39 - 1)) &&& ((39 &&& (39 - 1)) - 1)) - 1) &&& ((((39 &&& (39 - 1)) &&& ((39 &&& (39 - 1)) - 1)) &&& (((39 &&& (39 - 1)) &&& ((39 &&& (39 - 1)) - 1)) - 1)) - 1) = 0 by decide, coresN_zero]
 decide +kernel
theorem runs39 : runsOf (coresN 39) = [(0, 2), (5, 5)] := by
 rw [cores39]
 decide +kernel
theorem text39 (w : World) (hT : TabAt 0 Lib.deBruijn64tab w) (hg : 0 < w.heap.size) :
  Calls Tryd.prog 28 #[.int .u64 39] w fun e W' => e = .returned (.string ⟨#[48, 45, 50, 44, 53]⟩) ∧ Below w.heap.size w W' := by
 have h := text_ok 39 (by decide) (by decide) w hT hg (by rw [cores39]; decide) (by rw [runs39]; decide +kernel)
 rw [runs39, show (⟨(Lib.join ((runTexts [(0, 2), (5, 5)]).map (·.data.toList)) [44]).toArray⟩ : ByteArray) = ⟨#[48, 45, 50, 44, 53]⟩ by decide +kernel] at h
 exact h
theorem row_C {W : World} {g : Nat} {l : List Int} {t : TypeId} (h : W.heap[g]? = some (.cells (l.map (Value.int .i64)).toArray t (0, 0))) (hl : l.length ≤ 1000) : Kd.C (Kd.int .i64) W (some ⟨g, 0, none⟩) l.length l := by
 refine ⟨rfl, by omega, fun _ => ⟨_, rfl, fun j p hj => ⟨[.int .i64 p], rfl, rfl, fun i u hu => ?_⟩⟩⟩
 match i, hu with
 | 0, hu =>
  have e : (Addr.add ⟨g, 0, none⟩ (j * (Kd.int .i64).sz + 0)) = ⟨g, j, none⟩ := by
   show (Addr.add ⟨g, 0, none⟩ (j * 1 + 0)) = _
   rw [Nat.mul_one, Nat.add_zero, add_plain]
  rw [e, zac h j]
  simp [hj]
  simpa using hu
theorem awake01_ok (w : World) (hT : TabAt 0 Lib.deBruijn64tab w) (hg : 0 < w.heap.size) :
  Calls Tryd.prog 10 #[] w fun e w' => e = .returned (.bool true) ∧ Below w.heap.size w w' := by
 have HT := Aside0.mk hT
 have HG := Aside0.mk hg
 clear hT hg
 go_enter Tryd.func10, Tryd.ntmps10
 go_wp2_with fail
 have hb := blk_new w (.cells #[.int .i64 0, .int .i64 1, .int .i64 2, .int .i64 5] 3)
 have hB := za (Below.refl w.heap.size w) (.cells #[.int .i64 0, .int .i64 1, .int .i64 2, .int .i64 5] 3)
 generalize w.alloc (.cells #[.int .i64 0, .int .i64 1, .int .i64 2, .int .i64 5] 3) = W1 at hb hB ⊢
 have HB := Aside0.mk hB
 refine (mask_Of.calls 10 (some ⟨w.heap.size, 0, none⟩) 4 [0, 1, 2, 5] 39 0 W1 (row_C (l := [0, 1, 2, 5]) hb (by decide)) (by decide) (by kernel_rfl)).mono ?_
 rintro e w2 ⟨rfl, hd2⟩
 have HB2 := Aside0.mk (zaa HB.out hd2.below)
 clear hb hB hd2
 go_wp2_with fail
 refine (text39 w2 (tab_below HT.out HB2.out HG.out) (Nat.lt_of_lt_of_le HG.out HB2.out.size)).mono ?_
 rintro e w3 ⟨rfl, hb3⟩
 have HB3 := Aside0.mk (zaa HB2.out hb3)
 clear hb3
 go_wp2_with fail
 refine (mask_Set_Len.calls 39 4 w3 (by kernel_rfl)).mono ?_
 rintro e w4 ⟨rfl, hd4⟩
 have HB4 := Aside0.mk (zaa HB3.out hd4.below)
 clear hd4
 go_wp2_with fail
 go_ret
 exact ⟨by first | rfl | simp, HB4.out⟩
def onesN (n s : Nat) : List Nat := (List.range n).filter (s.testBit ·)
def q1 (b : Nat) : Nat := (b / 2 &&& 85) + (b &&& 85)
def w1 (x : Int) : Int := IntKind.u64.wrap ((Go.bits .and .u64 (x / 2) 6148914691236517205) + (Go.bits .and .u64 x 6148914691236517205))
def w2 (x : Int) : Int := IntKind.u64.wrap ((Go.bits .and .u64 (x / 4) 3689348814741910323) + (Go.bits .and .u64 x 3689348814741910323))
def w3 (x : Int) : Int := Go.bits .and .u64 (IntKind.u64.wrap ((x / 16) + x)) 1085102592571150095
def w4 (x : Int) : Int := IntKind.u64.wrap (x + x / 256)
def w5 (x : Int) : Int := IntKind.u64.wrap (x + x / 65536)
def w6 (x : Int) : Int := IntKind.u64.wrap (x + x / 4294967296)
def minusN (a b : Nat) : Nat := a ^^^ (a &&& b)
theorem testBit_minus (a b i : Nat) : (minusN a b).testBit i = (a.testBit i && !b.testBit i) := by
 unfold minusN
 rw [Nat.testBit_xor, Nat.testBit_and]
 cases a.testBit i <;> cases b.testBit i <;> rfl
theorem ones_le (n s : Nat) : (onesN n s).length ≤ n := by
 have := List.length_filter_le (s.testBit ·) (List.range n)
 rw [List.length_range] at this
 exact this
theorem clear_low (k m i : Nat) : ((2 ^ k * (2 * m + 1)) &&& (2 ^ k * (2 * m + 1) - 1)).testBit i = ((2 ^ k * (2 * m + 1)).testBit i && !decide (k = i)) := by
 have hp : 0 < 2 ^ k := Nat.pow_pos (by decide)
 have e : 2 ^ k * (2 * m + 1) - 1 = 2 ^ k * (2 * m) + (2 ^ k - 1) := by
  rw [Nat.mul_add, Nat.mul_one]
  omega
 have e0 := Nat.testBit_two_pow_mul_add (2 * m + 1) hp i
 rw [Nat.add_zero] at e0
 rw [Nat.testBit_and, e, Nat.testBit_two_pow_mul_add (2 * m) (by omega) i, e0]
 by_cases h : i < k
 ·
  rw [if_pos h, if_pos h, Nat.zero_testBit, Bool.false_and, Bool.false_and]
 ·
  rw [if_neg h, if_neg h]
  by_cases h2 : k = i
  ·
   subst h2
   rw [decide_eq_true rfl, Nat.sub_self, Nat.testBit_zero, Nat.testBit_zero]
   simp
  ·
   rw [decide_eq_false h2, Bool.not_false, Bool.and_true]
   obtain ⟨j, hj⟩ : ∃ j, i - k = j + 1 := ⟨i - k - 1, by omega⟩
   rw [hj, Nat.testBit_succ, Nat.testBit_succ, show (2 * m + 1) / 2 = m by omega, show 2 * m / 2 = m by omega, Bool.and_self]
theorem low_bits (k m : Nat) : (2 ^ k * (2 * m + 1)).testBit k = true ∧ ∀ i, i < k → (2 ^ k * (2 * m + 1)).testBit i = false := by
 have hp : 0 < 2 ^ k := Nat.pow_pos (by decide)
 have e0 := Nat.testBit_two_pow_mul_add (2 * m + 1) hp
 simp only [Nat.add_zero] at e0
 constructor
 ·
  rw [e0, if_neg (by omega), Nat.sub_self, Nat.testBit_zero]
  simp
 ·
  intro i hi
  rw [e0, if_pos hi, Nat.zero_testBit]
theorem onesN_clear (n k x y : Nat) (hk : k < n) (h1 : x.testBit k = true) (h0 : ∀ i, i < k → x.testBit i = false) (hy : ∀ i, y.testBit i = (x.testBit i && !decide (k = i))) :
  onesN n x = k :: onesN n y := by
 obtain ⟨r, rfl⟩ : ∃ r, n = (k + 1) + r := ⟨n - (k + 1), by omega⟩
 unfold onesN
 have ex : (List.range k).filter (x.testBit ·) = [] := by
  rw [List.filter_eq_nil_iff]
  intro i hi
  rw [h0 i (List.mem_range.1 hi)]
  decide
 have ey : (List.range k).filter (y.testBit ·) = [] := by
  rw [List.filter_eq_nil_iff]
  intro i hi
  rw [hy, h0 i (List.mem_range.1 hi), Bool.false_and]
  decide
 have eyk : y.testBit k = false := by rw [hy, h1]; simp
 rw [List.range_add, List.filter_append, List.filter_append, List.range_succ, List.filter_append, List.filter_append, ex, ey, List.filter_map, List.filter_map]
 rw [List.filter_cons_of_pos (by exact h1), List.filter_cons_of_neg (by rw [eyk]; decide)]
 simp only [List.filter_nil, List.nil_append, List.cons_append]
 congr 2
 refine List.filter_congr fun i _ => ?_
 show x.testBit (k + 1 + i) = y.testBit (k + 1 + i)
 rw [hy, decide_eq_false (by omega), Bool.not_false, Bool.and_true]
theorem coresN_ones : ∀ (m s : Nat), s ≤ m → s < 18446744073709551616 → coresN s = (onesN 64 s).map (fun i : Nat => (i : Int)) := by
 intro m
 induction m with
 | zero =>
  intro s h _
  have e : s = 0 := by omega
  subst e
  rw [coresN_zero]
  rfl
 | succ m ih =>
  intro s h hs
  by_cases h0 : s = 0
  ·
   subst h0
   rw [coresN_zero]
   rfl
  ·
   obtain ⟨q, hq, hk⟩ := Lib.ctzFrom_spec 64 s (by omega) (by omega)
   have e : Lib.ctz 64 s = Lib.ctzFrom 64 s := by simp [Lib.ctz, h0]
   rw [zad h0, e]
   generalize Lib.ctzFrom 64 s = k at hq hk
   have hb := low_bits k q
   have hc := clear_low k q
   rw [← hq] at hb hc
   have hl := Nat.and_le_right (n := s) (m := s - 1)
   rw [onesN_clear 64 k s (s &&& (s - 1)) hk hb.1 hb.2 hc, List.map_cons, ih _ (by omega) (by omega)]
theorem coresN_eq (s : Nat) (hs : s < 18446744073709551616) : coresN s = (onesN 64 s).map (fun i : Nat => (i : Int)) := coresN_ones s s (Nat.le_refl _) hs
def cells64 (s : Nat) : Array Value := ((List.range 64).map fun i => Value.bool (s.testBit i)).toArray
theorem zab (s : Nat) : (cells64 s).size = 64 := by simp [cells64]
theorem cells64_get (s i : Nat) (hi : i < 64) : (cells64 s)[i]? = some (.bool (s.testBit i)) := by simp [cells64, hi]
theorem cells64_one (s : Nat) : (cells64 s).all (·.oneCell') = true := by
 rw [Array.all_eq_true_iff_forall_mem]
 intro v hv
 simp only [cells64, List.mem_toArray, List.mem_map, List.mem_range] at hv
 obtain ⟨i, _, rfl⟩ := hv
 rfl
def putB (s i : Nat) (b : Bool) : Nat := if b = true then s ||| 2 ^ i else minusN s (2 ^ i)
theorem testBit_putB (s i : Nat) (b : Bool) (j : Nat) : (putB s i b).testBit j = if i = j then b else s.testBit j := by
 unfold putB
 cases b
 ·
  rw [if_neg (by decide), testBit_minus, Nat.testBit_two_pow]
  by_cases h : i = j <;> simp [h]
 ·
  rw [if_pos rfl, Nat.testBit_or, Nat.testBit_two_pow]
  by_cases h : i = j <;> simp [h]
theorem cells64_set (s i : Nat) (b : Bool) : (cells64 s).setIfInBounds i (.bool b) = cells64 (putB s i b) := by
 apply Array.ext_getElem?
 intro j
 rw [Array.getElem?_setIfInBounds]
 by_cases hj : j < 64
 ·
  rw [cells64_get _ _ hj, cells64_get _ _ hj, testBit_putB]
  by_cases h : i = j
  ·
   subst h
   simp [zab, hj]
  ·
   simp [h]
 ·
  rw [Array.getElem?_eq_none (by rw [zab]; omega), Array.getElem?_eq_none (by rw [zab]; omega)]
  by_cases h : i = j
  ·
   subst h
   simp [zab, hj]
  ·
   simp [h]
theorem info64 : (Tryd.prog.info? 30).map (·.size) = some 64 := by kernel_rfl
theorem under64 : Tryd.prog.underlying 30 = some (.array 64 4) := by kernel_rfl
theorem zero64 (w : World) : (zeroValue 30).run Tryd.prog w = .ok (.agg (cells64 0)) w := (zero_of_info (n := 64) (by kernel_rfl)).1 w
theorem built64 : Tryd.prog.built 30 [] = some (cells64 0) := by kernel_rfl
def SetAt (w : World) (b s : Nat) : Prop := w.heap[b]? = some (.cells (cells64 s) 30 (0, 0))
theorem SetAt.cell {w : World} {b s : Nat} (h : SetAt w b s) {i : Nat} (hi : i < 64) : w.cell? ⟨b, i, none⟩ = some (.bool (s.testBit i)) ∧ w.frozen? ⟨b, i, none⟩ = false :=
 ⟨(zac h i).trans (cells64_get s i hi), blk_frozen h i⟩
theorem SetAt.put {w : World} {b s : Nat} (h : SetAt w b s) (i : Nat) (x : Bool) : SetAt (w.setCell ⟨b, i, none⟩ (.bool x)) b (putB s i x) := by
 unfold SetAt
 rw [blk_set h, cells64_set]
theorem SetAt.keep {w w' : World} {b s n : Nat} (h : SetAt w b s) (hb : Below n w w') (hn : b < n) : SetAt w' b s := (hb.block b hn).trans h
theorem SetAt.lt {w : World} {b s : Nat} (h : SetAt w b s) : b < w.heap.size := blk_lt h
theorem SetAt.new (w : World) (s : Nat) : SetAt (w.alloc (.cells (cells64 s) 30)) w.heap.size s := blk_new w _
theorem SetAt.alloc {w : World} {b s : Nat} (h : SetAt w b s) (o : Obj) : SetAt (w.alloc o) b s := blk_alloc h o
theorem SetAt.row {w : World} {b s : Nat} (h : SetAt w b s) (x : Nat) : SetAt (w.setRow b (cells64 x)) b x := setRow_heap w b _ _ _ _ h
theorem SetAt.rowNe {w : World} {b g s : Nat} (h : SetAt w b s) (hn : b ≠ g) (x : Nat) : SetAt (w.setRow g (cells64 x)) b s := by
 unfold SetAt World.setRow
 show (w.heap.modify g _)[b]? = _
 rw [Array.getElem?_modify, if_neg (fun e => hn e.symm)]
 exact h
theorem below_row {n g : Nat} {w w' : World} (h : Below n w w') (hg : n ≤ g) (cs : Array Value) : Below n w (w'.setRow g cs) := by
 refine ⟨h.os, h.tape, h.output, ?_, fun b hb => ?_⟩
 ·
  rw [setRow_size]; exact h.size
 ·
  show (w'.heap.modify g _)[b]? = _
  rw [Array.getElem?_modify, if_neg (by omega)]
  exact h.block b hb
theorem wpl_alloc64 {ops : Array Oper} {rest : List Oper} {o : Oper} {a : Act} {w : World} {Q : Exit → Act → World → Prop} (hg : o.guard = none) (ho : o.op = .alloc 30)
  (h : wpList Tryd.prog ops Q rest (a.put o.dst (.pointer (some ⟨w.heap.size, 0, none⟩))) (w.alloc (.cells (cells64 0) 30))) : wpList Tryd.prog ops Q (o :: rest) a w :=
 wpList_plain hg fun K hK => by
  unfold Oper.wp execOp
  have e : (Instr.alloc 30 true (.tuple #[])).run Tryd.prog w = .ok (.pointer (some ⟨w.heap.size, 0, none⟩)) (w.alloc (.cells (cells64 0) 30)) := by
   unfold Instr.alloc
   simp only [Sem.run_bind, zero64, Result.andThen_ok]
   rfl
  simp only [ho, Sem.run_bind, e, Result.andThen_ok]
  exact hK _ _ h
theorem wpl_build64 {ops : Array Oper} {rest : List Oper} {o : Oper} {a : Act} {w : World} {Q : Exit → Act → World → Prop} (hg : o.guard = none) (ho : o.op = .build 30 #[])
  (h : wpList Tryd.prog ops Q rest (a.put o.dst (.agg (cells64 0))) w) : wpList Tryd.prog ops Q (o :: rest) a w := by
 have e : (Array.map (fun (x : Nat × Operand) => (x.1, a.eval x.2)) #[]).toList = [] := by simp
 refine wpList_build hg 30 #[] ho ?_ ?_
 ·
  rw [e, built64]
  exact rfl
 ·
  rw [e, built64]
  exact h
theorem wpl_store64 {ops : Array Oper} {rest : List Oper} {o : Oper} {a : Act} {w : World} {Q : Exit → Act → World → Prop} (g s x : Nat) (p q : Operand) (hgd : o.guard = none) (ho : o.op = .store 30 p q)
  (hx : a.eval p = .pointer (some ⟨g, 0, none⟩)) (hy : a.eval q = .agg (cells64 x)) (hs : SetAt w g s)
  (h : wpList Tryd.prog ops Q rest (a.put o.dst undef) (w.setRow g (cells64 x))) : wpList Tryd.prog ops Q (o :: rest) a w :=
 wpList_store_row hgd 30 p q ho g (cells64 x) hx hy 30 (cells64 s) hs (by rw [zab]; exact info64) (by rw [zab, zab]) (cells64_one x) h
theorem wpl_load64 {ops : Array Oper} {rest : List Oper} {o : Oper} {a : Act} {w : World} {Q : Exit → Act → World → Prop} (g s : Nat) (p : Operand) (hgd : o.guard = none) (ho : o.op = .load 30 p)
  (hx : a.eval p = .pointer (some ⟨g, 0, none⟩)) (hs : SetAt w g s)
  (h : wpList Tryd.prog ops Q rest (a.put o.dst (.agg (cells64 s))) w) : wpList Tryd.prog ops Q (o :: rest) a w :=
 wpList_load_row hgd 30 p ho g hx 30 (cells64 s) (0, 0) _ hs under64 rfl (by rw [zab]; exact info64) h
theorem results64 {fn : Func} {p : Tmp} (h : fn.results = #[.cell p 30]) (tmps : Array Value) (w : World) (g s : Nat) (hp : tmps.getD p undef = .pointer (some ⟨g, 0, none⟩)) (hg : SetAt w g s) :
  (results fn tmps).run Tryd.prog w = .ok (.agg (cells64 s)) w :=
 results_cell_row h tmps w g 30 (cells64 s) (0, 0) _ hp hg under64 rfl (by rw [zab]; exact info64)
theorem half_bit (s k : Nat) : s / 2 ^ k = s / 2 ^ (k + 1) * 2 + (if s.testBit k = true then 1 else 0) := by
 rw [Nat.pow_succ, ← Nat.div_div_eq_div_mul, Nat.testBit_eq_decide_div_mod_eq]
 generalize s / 2 ^ k = q
 by_cases h : q % 2 = 1
 ·
  rw [decide_eq_true h, if_pos rfl]; omega
 ·
  rw [decide_eq_false h, if_neg (by decide)]; omega
theorem mod_put (s i : Nat) : putB (s % 2 ^ i) i (s.testBit i) = s % 2 ^ (i + 1) := by
 refine Nat.eq_of_testBit_eq fun j => ?_
 rw [testBit_putB, Nat.testBit_mod_two_pow, Nat.testBit_mod_two_pow]
 by_cases h : i = j
 ·
  subst h
  simp
 ·
  rw [if_neg h]
  by_cases h2 : j < i
  ·
   simp [h2, show j < i + 1 by omega]
  ·
   simp [h2, show ¬ j < i + 1 by omega]
theorem rbits_ok (s : Nat) (hs : s < 18446744073709551616) (w : World) :
  Calls Tryd.prog 15 #[.int .u64 s] w fun e w' => e = .returned (.agg (cells64 s)) ∧ Below w.heap.size w w' := by
 have HS := Aside0.mk hs
 clear hs
 go_enter Tryd.func15, Tryd.ntmps15
 have HC1 := SetAt.new w 0
 have HC2 := SetAt.new (w.alloc (.cells (cells64 0) 30)) 0
 have es : (w.alloc (.cells (cells64 0) 30)).heap.size = w.heap.size + 1 := by simp
 have HB := Aside0.mk (za (za (Below.refl w.heap.size w) (.cells (cells64 0) 30)) (.cells (cells64 0) 30))
 go_wp2_with (first | (refine wpl_alloc64 rfl rfl ?_) | (refine wpl_build64 rfl rfl ?_) | (refine wpl_store64 _ 0 0 _ _ rfl rfl rfl rfl HC2 ?_))
 rw [es] at HC2
 have HS2 := Aside0.mk (HC2.row 0)
 have HS1 := Aside0.mk (SetAt.rowNe (SetAt.alloc HC1 (.cells (cells64 0) 30)) (show w.heap.size ≠ w.heap.size + 1 by omega) 0)
 have HBB := Aside0.mk (below_row HB.out (show w.heap.size ≤ w.heap.size + 1 by omega) (cells64 0))
 go_loopg [0, 4, 6] 64 (fun gk v0 v4 v6 w' => ∃ i : Nat, v0 = .int .u64 ((s / 2 ^ i : Nat) : Int) ∧ v6 = .int .i64 (i : Int) ∧ Aside0 (i + gk = 64) ∧ Aside0 (SetAt w' (w.heap.size + 1) (s % 2 ^ i)) ∧ Aside0 (SetAt w' w.heap.size 0) ∧ Aside0 (Below w.heap.size w w'))
 case atStart => exact ⟨0, by rw [Nat.pow_zero, Nat.div_one], rfl, ⟨rfl⟩, by rw [Nat.pow_zero, Nat.mod_one]; exact HS2, HS1, HBB⟩
 case round =>
  obtain ⟨i, rfl, rfl, HK, HC, HR, HBr⟩ := hrel
  clear HC1 HC2 HS1 HS2 HBB HB es
  cases gk with
  | zero =>
   have hi : i = 64 := by have := HK.out; omega
   subst hi
   have HRR := Aside0.mk (HR.out.row s)
   have hc := HC.out
   rw [Nat.mod_eq_of_lt (by have := HS.out; omega)] at hc
   go_wp2_with (first | (refine wpl_load64 _ s _ rfl rfl rfl hc ?_) | (refine wpl_store64 _ 0 s _ _ rfl rfl rfl rfl HR.out ?_))
   refine bodyPost_ret (v := .agg (cells64 s)) (results64 rfl _ _ w.heap.size s rfl HRR.out) rfl ?_
   exact ⟨rfl, below_row HBr.out (Nat.le_refl _) _⟩
  | succ g =>
   have hi : i < 64 := by have := HK.out; omega
   have d1 : decide ((i : Int) < 64) = true := decide_eq_true (by omega)
   obtain ⟨c1, c2⟩ := HC.out.cell hi
   have hh := half_bit s i
   have hbit : s.testBit i = decide (s / 2 ^ i % 2 = 1) := Nat.testBit_eq_decide_div_mod_eq
   have HP := Aside0.mk (mod_put s i)
   have H2 : Aside0 (s / 2 ^ i / 2 = s / 2 ^ (i + 1)) := ⟨by rw [Nat.pow_succ, Nat.div_div_eq_div_mul]⟩
   have HQ : Aside0 (s / 2 ^ i < 18446744073709551616) := ⟨Nat.lt_of_le_of_lt (Nat.div_le_self _ _) HS.out⟩
   generalize s / 2 ^ i = q at hbit H2 HQ ⊢
   have HBT := Aside0.mk hbit
   clear hbit hh
   generalize (s % 2 ^ i).testBit i = ob at c1
   go_wp2_with fail
   have eb : ((q : Int) % 2 == 1) = s.testBit i := by
    rw [HBT.out]
    by_cases h : q % 2 = 1
    ·
     rw [decide_eq_true h]
     simp
     omega
    ·
     rw [decide_eq_false h, beq_eq_false_iff_ne]
     omega
   have HN := Aside0.mk (HC.out.put i (s.testBit i))
   rw [HP.out] at HN
   have HN1 : Aside0 (SetAt (wr.setCell ⟨w.heap.size + 1, i, none⟩ (.bool (s.testBit i))) w.heap.size 0) := ⟨by
    unfold SetAt
    rw [Below.heap_setCell _ _ _ _ (by simp)]
    exact HR.out⟩
   have HN2 : Aside0 (Below w.heap.size w (wr.setCell ⟨w.heap.size + 1, i, none⟩ (.bool (s.testBit i)))) := ⟨HBr.out.setCell (by simp) _⟩
   have ew : IntKind.u64.wrap ((q : Int) / 2) = ((q / 2 : Nat) : Int) := by
    have := HQ.out
    rw [IntKind.wrap_u64]
    omega
   rw [eb, ew]
   go_roundg g
   case rel => exact ⟨i + 1, by rw [H2.out], by rfl, ⟨by have := HK.out; omega⟩, HN, HN1, HN2⟩
   case measure => omega
theorem infoInt : (Tryd.prog.info? 3).map (fun i => (i.zero, i.size, i.bytes)) = some (some (.int .i64 0), 1, 8) := by kernel_rfl
def coresI (n s : Nat) : List Int := (onesN n s).map (fun i : Nat => (i : Int))
theorem onesN_succ (n s : Nat) : onesN (n + 1) s = onesN n s ++ if s.testBit n = true then [n] else [] := by
 unfold onesN
 rw [List.range_succ, List.filter_append, List.filter_cons, List.filter_nil]
theorem coresI_in (n s : Nat) (h : s.testBit n = true) : coresI (n + 1) s = coresI n s ++ [(n : Int)] := by
 unfold coresI
 rw [onesN_succ, if_pos h, List.map_append]
 rfl
theorem coresI_out (n s : Nat) (h : s.testBit n = false) : coresI (n + 1) s = coresI n s := by
 unfold coresI
 rw [onesN_succ, h, if_neg (by decide), List.append_nil]
theorem coresI_le (n s : Nat) : (coresI n s).length ≤ n := by
 unfold coresI
 rw [List.length_map]
 exact ones_le n s
theorem rcores_ok (s : Nat) (w : World) :
  Calls Tryd.prog 14 #[.agg (cells64 s)] w fun e w' => ∃ v, e = .returned v ∧ Kd.R (Kd.int .i64) 3 w' (w.heap.size + 1) (fun k => w.heap.size + 1 ≤ k) v (coresI 64 s) ∧ Below w.heap.size w w' := by
 go_enter Tryd.func14, Tryd.ntmps14
 go_wp2_with fail
 have HC := Aside0.mk (SetAt.new w s)
 have HB := Aside0.mk (za (Below.refl w.heap.size w) (.cells (cells64 s) 30))
 have hz : (w.alloc (.cells (cells64 s) 30)).heap.size = w.heap.size + 1 := by simp
 have HZ := Aside0.mk hz
 clear hz
 generalize w.alloc (.cells (cells64 s) 30) = W1 at HC HB HZ ⊢
 go_loopg [3, 4, 5] 64 (fun gk v3 v4 v5 w' => ∃ i : Nat, v5 = .int .i64 (i : Int) ∧ Aside0 (i + gk = 64) ∧ Aside0 (Kd.R (Kd.int .i64) 3 w' (w.heap.size + 1) (fun k => w.heap.size + 1 ≤ k) v3 (coresI i s)) ∧ Aside0 (Below (w.heap.size + 1) W1 w'))
 case atStart =>
  exact ⟨0, rfl, ⟨rfl⟩, ⟨Kd.R_nil _ _ _ _ _⟩, ⟨Below.refl _ _⟩⟩
 case round =>
  obtain ⟨i, rfl, HK, HO, HBr⟩ := hrel
  cases gk with
  | zero =>
   have hi : i = 64 := by have := HK.out; omega
   subst hi
   go_wp2_with fail
   go_ret
   exact ⟨_, rfl, HO.out, HB.out.trans (HBr.out.mono (by omega))⟩
  | succ g =>
   have hi : i < 64 := by have := HK.out; omega
   have d1 : decide ((i : Int) < 64) = true := decide_eq_true (by omega)
   have HCr := Aside0.mk (HC.out.keep HBr.out (by omega))
   obtain ⟨c1, _⟩ := HCr.out.cell hi
   cases hb : s.testBit i
   ·
    rw [hb] at c1
    have HE := Aside0.mk (coresI_out i s hb)
    go_wp2_with fail
    go_roundg g
    case rel => exact ⟨i + 1, by rfl, ⟨by have := HK.out; omega⟩, by rw [HE.out]; exact HO, HBr⟩
    case measure => omega
   ·
    rw [hb] at c1
    have HE := Aside0.mk (coresI_in i s hb)
    have hsz : w.heap.size + 1 ≤ wr.heap.size := by have := HBr.out.size; rw [HZ.out] at this; exact this
    have HSZ := Aside0.mk hsz
    have HL : Aside0 (((coresI i s).length + 1) * 8 ≤ 140737488355328) := ⟨by have := coresI_le i s; omega⟩
    clear hsz
    generalize hc : coresI i s = l at HO HE HL
    go_wp2_with (first | ((with_reducible refine gate_builtin (b := .append) (xs := #[.tmp 11, .tmp 13]) rfl ?_); at_builtin; refine Kd.R_append (Kd.int .i64) (w0 := W1) (w.heap.size + 1) rfl (.tmp 11) (.tmp 13) 22 3 (.int .i64 0) 8 rfl Tryd.underlying22 infoInt rfl (by decide) (by omega) u3 l (i : Int) [.int .i64 (i : Int)] (fun k_ => w.heap.size + 1 ≤ k_) (fun _ => False) rfl (by first | rfl | simp [Act.eval]) rfl (fun _ hk => hk.elim) (fun k_ hk => Nat.le_trans HSZ.out hk) HO.out HBr.out HSZ.out HL.out ?_; intro v9 w9 ho9 hb9 hg9 hat9; have HO9 := Aside0.mk ho9; have HB9 := Aside0.mk hb9; clear ho9 hb9 hg9 hat9))
    go_roundg g
    case rel => exact ⟨i + 1, by rfl, ⟨by have := HK.out; omega⟩, by rw [HE.out]; exact HO9, HB9⟩
    case measure => omega
def IntsC (w : World) (A : Option Addr) (l : List Int) : Prop := ∀ i, i < l.length → ∃ ad, A = some ad ∧ w.cell? (ad.add i) = some (.int .i64 (l.getD i 0))
theorem IntsC.keep {w w' : World} {A : Option Addr} {l : List Int} (h : IntsC w A l) (hb : Below w.heap.size w w') : IntsC w' A l := fun i hi => by
 obtain ⟨ad, e, hc⟩ := h i hi
 exact ⟨ad, e, (hb.cell (block_lt_of_cell hc)).trans hc⟩
theorem coresI_is (n : Nat) (hn : n < 18446744073709551616) : coresI 64 n = coresN n := (coresN_eq n hn).symm
def CoreK (w5 : World) (v : Value) (W : World) (i : Nat) : Prop :=
 Below w5.heap.size w5 W ∧ W.heap[w5.heap.size]? = some (.cells #[v] 22 (0, 0)) ∧ W.heap[w5.heap.size + 1]? = some (.cells #[.int .i64 (i : Int)] 3 (0, 0)) ∧ W.heap[w5.heap.size + 2]? = some (.cells #[.bool true] 4 (0, 0))
theorem CoreK.facts {w5 W : World} {v : Value} {i : Nat} (h : CoreK w5 v W i) :
  W.cell? ⟨w5.heap.size, 0, none⟩ = some v ∧ W.cell? ⟨w5.heap.size + 1, 0, none⟩ = some (.int .i64 (i : Int)) ∧ W.cell? ⟨w5.heap.size + 2, 0, none⟩ = some (.bool true) ∧ W.frozen? ⟨w5.heap.size + 1, 0, none⟩ = false ∧ W.frozen? ⟨w5.heap.size + 2, 0, none⟩ = false :=
 ⟨(zac h.2.1 0).trans rfl, (zac h.2.2.1 0).trans rfl, (zac h.2.2.2 0).trans rfl, blk_frozen h.2.2.1 0, blk_frozen h.2.2.2 0⟩
theorem CoreK.next {w5 W : World} {v : Value} {i : Nat} (h : CoreK w5 v W i) : CoreK w5 v ((W.setCell ⟨w5.heap.size + 2, 0, none⟩ (.bool true)).setCell ⟨w5.heap.size + 1, 0, none⟩ (.int .i64 ((i + 1 : Nat) : Int))) (i + 1) := by
 refine ⟨(h.1.setCell (by simp) _).setCell (by simp) _, ?_, ?_, ?_⟩
 ·
  rw [Below.heap_setCell _ _ _ _ (by simp), Below.heap_setCell _ _ _ _ (by simp)]
  exact h.2.1
 ·
  rw [blk_set (by rw [Below.heap_setCell _ _ _ _ (by simp)]; exact h.2.2.1)]
  rfl
 ·
  rw [Below.heap_setCell _ _ _ _ (by simp), blk_set h.2.2.2]
  rfl
theorem CoreK.keep {w5 W W' : World} {v : Value} {i : Nat} (h : CoreK w5 v W i) (hb : Below W.heap.size W W') : CoreK w5 v W' i :=
 ⟨zaa h.1 hb, (hb.block _ (blk_lt h.2.1)).trans h.2.1, (hb.block _ (blk_lt h.2.2.1)).trans h.2.2.1, (hb.block _ (blk_lt h.2.2.2)).trans h.2.2.2⟩
theorem closure_ok (w5 W : World) (b3 most : Nat) (hm : most < 256) (h3 : w5.cell? ⟨b3, 0, none⟩ = some (.int .u8 (most : Int))) (A : Option Addr) (cap : Nat) (L : List Int) (hL : L.length ≤ 64) (hA : IntsC w5 A L) (i : Nat) (hi : i < L.length) (x : Int) (hx : L.getD i 0 = x)
  (hK : CoreK w5 (.slice A L.length cap) W i) :
  Calls Tryd.prog 17 #[.int .i64 x, .pointer (some ⟨w5.heap.size + 2, 0, none⟩), .pointer (some ⟨w5.heap.size + 1, 0, none⟩), .pointer (some ⟨w5.heap.size, 0, none⟩), .pointer (some ⟨b3, 0, none⟩)] W
   fun e w' => e = .returned (.bool (decide (i + 1 < most))) ∧ CoreK w5 (.slice A L.length cap) w' (i + 1) := by
 have HK := Aside0.mk hK
 have HKN := Aside0.mk hK.next
 obtain ⟨c5, c6, c7, f6, f7⟩ := hK.facts
 have c3 : W.cell? ⟨b3, 0, none⟩ = some (.int .u8 (most : Int)) := (hK.1.cell (p := ⟨b3, 0, none⟩) (block_lt_of_cell h3)).trans h3
 obtain ⟨ad, rfl, c4⟩ := hA i hi
 rw [hx] at c4
 have c4' : W.cell? (ad.add i) = some (.int .i64 x) := (hK.1.cell (block_lt_of_cell c4)).trans c4
 have n4 := block_lt_of_cell c4
 have n3 : b3 < w5.heap.size := block_lt_of_cell h3
 have e3 : b3 ≠ w5.heap.size + 1 ∧ b3 ≠ w5.heap.size + 2 := ⟨by omega, by omega⟩
 have d1 : decide ((i : Int) < (L.length : Int)) = true := decide_eq_true (by omega)
 have hxx : (x == x) = true := beq_self_eq_true _
 have hw1 : wrap64 ((i : Int) + 1) = ((i + 1 : Nat) : Int) := by unfold wrap64; omega
 have hw2 : IntKind.i64.wrap (most : Int) = (most : Int) := by rw [IntKind.wrap_i64]; omega
 clear hA c4 hK h3 hx
 go_enter Tryd.func17, Tryd.ntmps17
 go_wp2_with fail
 go_ret
 exact ⟨congrArg (fun b => Ending.returned (Value.bool b)) (decide_eq_decide.2 (by omega)), HKN.out⟩
theorem cores_call (w5 W : World) (b3 most : Nat) (hm : most < 256) (h3 : w5.cell? ⟨b3, 0, none⟩ = some (.int .u8 (most : Int))) (A : Option Addr) (cap n : Nat) (hn : n < 18446744073709551616) (hL : (coresN n).length ≤ 64) (hA : IntsC w5 A (coresN n))
  (hT : TabAt 0 Lib.deBruijn64tab w5) (hg : 0 < w5.heap.size) (Bn : Nat) (hBn : W.cell? ⟨Bn, 0, none⟩ = some (.int .u64 (n : Int))) (hK : CoreK w5 (.slice A (coresN n).length cap) W 0) :
  Calls Tryd.prog 34 #[.func (.func 17) #[] #[.pointer (some ⟨w5.heap.size + 2, 0, none⟩), .pointer (some ⟨w5.heap.size + 1, 0, none⟩), .pointer (some ⟨w5.heap.size, 0, none⟩), .pointer (some ⟨b3, 0, none⟩)], .pointer (some ⟨Bn, 0, none⟩)] W
   fun e w' => e = .returned (.tuple #[]) ∧ CoreK w5 (.slice A (coresN n).length cap) w' (min (coresN n).length (max most 1)) := by
 have HK := Aside0.mk hK
 have HN := Aside0.mk hn
 have HT := Aside0.mk hT
 have HG := Aside0.mk hg
 have HM := Aside0.mk hm
 have H3 := Aside0.mk h3
 have HA := Aside0.mk hA
 have HL := Aside0.mk hL
 clear hK hn hT hg hm h3 hA hL
 generalize hLL : coresN n = L at HK HA HL ⊢
 have HLL := Aside0.mk hLL
 clear hLL
 go_enter Tryd.func34, Tryd.ntmps34
 go_wp2_with fail
 go_loopg [3] L.length (fun gk v3 w' => ∃ i q : Nat, v3 = .int .u64 (q : Int) ∧ Aside0 (i + gk = L.length) ∧ Aside0 (q < 18446744073709551616 ∧ coresN q = L.drop i) ∧ Aside0 (i = 0 ∨ i < most) ∧ Aside0 (CoreK w5 (.slice A L.length cap) w' i))
 case atStart => exact ⟨0, n, rfl, ⟨by omega⟩, ⟨HN.out, by rw [HLL.out, List.drop_zero]⟩, ⟨.inl rfl⟩, HK⟩
 case round =>
  obtain ⟨i, q, rfl, HI, HQ, HM2, HKr⟩ := hrel
  clear HK
  cases gk with
  | zero =>
   have hq : q = 0 := by
    apply Classical.byContradiction
    intro h
    have e := HQ.out.2
    rw [zad h, List.drop_of_length_le (by have := HI.out; omega)] at e
    cases e
   subst hq
   have HE : Aside0 (min L.length (max most 1) = i) := ⟨by have := HI.out; have := HM2.out; omega⟩
   clear hBn
   go_wp2_with fail
   go_end0
   exact ⟨rfl, by rw [HE.out]; exact HKr.out⟩
  | succ gk =>
   have hi : i < L.length := by have := HI.out; omega
   have hq0 : q ≠ 0 := by
    intro h
    have e := HQ.out.2
    rw [h, coresN_zero] at e
    have := congrArg List.length e
    rw [List.length_drop] at this
    simp at this
    omega
   have HQ0 := Aside0.mk hq0
   have d1 : ((q : Int) != 0) = true := by simp [hq0]
   clear hq0 hBn
   go_wp2_with fail
   refine (first_ok q HQ.out.1 HQ0.out wr (tab_below HT.out HKr.out.1 HG.out)).mono ?_
   rintro e w' ⟨rfl, rfl⟩
   have hs := HQ.out.2
   rw [zad HQ0.out, List.drop_eq_getElem_cons hi] at hs
   injection hs with hs1 hs2
   have hx : L.getD i 0 = (Lib.ctz 64 q : Int) := by simp [hi, hs1]
   have HX := Aside0.mk hx
   have HQ2 := Aside0.mk hs2
   have HBC := Aside0.mk (bits_clear q HQ.out.1 HQ0.out)
   clear hs1 hs2 hx
   go_wp2_with fail
   refine (closure_ok w5 w' b3 most HM.out H3.out A cap L HL.out HA.out i hi _ HX.out HKr.out).mono ?_
   rintro e w2 ⟨rfl, hk⟩
   have HK2 := Aside0.mk hk
   clear hk
   cases hd : decide (i + 1 < most)
   ·
    have HE : Aside0 (min L.length (max most 1) = i + 1) := ⟨by have := HM2.out; have := of_decide_eq_false hd; omega⟩
    clear hd
    go_wp2_with fail
    refine bodyPost_ret (results_none rfl _ _ _) rfl ⟨rfl, ?_⟩
    rw [HE.out]
    exact HK2.out
   ·
    have HM3 := Aside0.mk (of_decide_eq_true hd)
    clear hd
    go_wp2_with fail
    rw [HBC.out]
    go_roundg gk
    case rel => exact ⟨i + 1, q &&& (q - 1), by rfl, ⟨by have := HI.out; omega⟩, ⟨Nat.lt_of_le_of_lt Nat.and_le_left HQ.out.1, HQ2.out⟩, ⟨.inr HM3.out⟩, HK2⟩
    case measure => omega
theorem cores_law (n most : Nat) (hn : n < 18446744073709551616) (hm : most < 256) (w : World) (hT : TabAt 0 Lib.deBruijn64tab w) (hg : 0 < w.heap.size) :
  Calls Tryd.prog 4 #[.int .u64 n, .int .u8 most] w fun e w' => e = .returned (.bool true) ∧ Below w.heap.size w w' := by
 have HN := Aside0.mk hn
 have HM := Aside0.mk hm
 have HT := Aside0.mk hT
 have HG := Aside0.mk hg
 clear hn hm hT hg
 go_enter Tryd.func4, Tryd.ntmps4
 go_wp2_with fail
 have HX := blk_new w (.cells #[.int .u8 (most : Int)] 5)
 have HB0 := Aside0.mk (za (Below.refl w.heap.size w) (.cells #[.int .u8 (most : Int)] 5))
 have H30 := Aside0.mk HX
 clear HX
 generalize w.alloc (.cells #[.int .u8 (most : Int)] 5) = W1 at HB0 H30 ⊢
 refine (awake01_ok W1 (tab_below HT.out HB0.out HG.out) (Nat.lt_of_lt_of_le HG.out HB0.out.size)).mono ?_
 rintro e w2 ⟨rfl, hb⟩
 have H31 := Aside0.mk ((hb.block _ (blk_lt H30.out)).trans H30.out)
 have HB1 := Aside0.mk (zaa HB0.out hb)
 clear hb H30 HB0
 go_wp2_with fail
 refine (rbits_ok n HN.out w2).mono ?_
 rintro e w3 ⟨rfl, hb⟩
 have H32 := Aside0.mk ((hb.block _ (blk_lt H31.out)).trans H31.out)
 have HB2 := Aside0.mk (zaa HB1.out hb)
 clear hb H31 HB1
 go_wp2_with fail
 refine (rcores_ok n w3).mono ?_
 rintro e w5 ⟨v, rfl, hr, hb⟩
 have H33 := Aside0.mk ((hb.block _ (blk_lt H32.out)).trans H32.out)
 have HB3 := Aside0.mk (zaa HB2.out hb)
 clear hb H32 HB2
 rw [coresI_is n HN.out] at hr
 have hlen : (coresN n).length ≤ 64 := by rw [← coresI_is n HN.out]; exact coresI_le 64 n
 obtain ⟨A, cap, rfl, hA⟩ : ∃ A cap, v = .slice A (coresN n).length cap ∧ IntsC w5 A (coresN n) := by
  obtain ⟨_, ⟨rfl, h1⟩ | ⟨g2, cap, cur, rfl, hg2, hh, hn, hmx, hsz, ht⟩⟩ := Kd.own_of_R hr
  ·
   exact ⟨none, 0, by rw [h1], fun i hi => by omega⟩
  ·
   refine ⟨_, _, rfl, fun i hi => ⟨_, rfl, ?_⟩⟩
   rw [add_plain, zac hh i]
   have hx := congrArg (fun z => z[i]?) ht
   rw [Nat.mul_one] at hx
   simp only [List.getElem?_take_of_lt hi] at hx
   rw [← Array.getElem?_toList, hx]
   simp [hi, encs]
 have HA := Aside0.mk hA
 have HL := Aside0.mk hlen
 have h3 : w5.cell? ⟨w.heap.size, 0, none⟩ = some (.int .u8 (most : Int)) := (zac H33.out 0).trans rfl
 have H3 := Aside0.mk h3
 clear hr hA hlen h3
 generalize hLL : coresN n = L at HA HL ⊢
 have HLL := Aside0.mk hLL
 clear hLL
 have hmf : ∀ (fn : Fn) (first cap : Array Value) (w : World), (Instr.makeFunc fn first cap).run Tryd.prog w = .ok (.func fn first cap) w := fun _ _ _ _ => rfl
 have hK : CoreK w5 (.slice A L.length cap) (((w5.alloc (.cells #[.slice A L.length cap] 22)).alloc (.cells #[.int .i64 0] 3)).alloc (.cells #[.bool true] 4)) 0 := by
  have z1 : (w5.alloc (.cells #[.slice A L.length cap] 22)).heap.size = w5.heap.size + 1 := by simp
  have z2 : ((w5.alloc (.cells #[.slice A L.length cap] 22)).alloc (.cells #[.int .i64 0] 3)).heap.size = w5.heap.size + 2 := by simp
  refine ⟨za (za (za (Below.refl _ _) _) _) _, blk_alloc (blk_alloc (blk_new _ _) _) _, ?_, ?_⟩
  ·
   rw [← z1]
   exact blk_alloc (blk_new _ _) _
  ·
   rw [← z2]
   exact blk_new _ _
 have HK := Aside0.mk hK
 clear hK
 go_wp2_with fail
 generalize ((w5.alloc (.cells #[.slice A L.length cap] 22)).alloc (.cells #[.int .i64 0] 3)).alloc (.cells #[.bool true] 4) = W at HK ⊢
 refine (cores_make (n : Int) W).mono ?_
 rintro e w6 ⟨rfl, rfl⟩
 have HK6 := Aside0.mk (HK.out.keep (za (Below.refl W.heap.size W) (.cells #[.int .u64 (n : Int)] 25)))
 have HBN := Aside0.mk ((zac (blk_new W (.cells #[.int .u64 (n : Int)] 25)) 0).trans rfl)
 go_wp2_with fail
 rw [show w5.heap.size + 1 + 1 = w5.heap.size + 2 from rfl]
 have hc := cores_call w5 _ w.heap.size most HM.out H3.out A cap n HN.out (by rw [HLL.out]; exact HL.out) (by rw [HLL.out]; exact HA.out) (tab_below HT.out HB3.out HG.out) (Nat.lt_of_lt_of_le HG.out HB3.out.size) W.heap.size HBN.out (by rw [HLL.out]; exact HK6.out)
 rw [HLL.out] at hc
 refine hc.mono ?_
 rintro e w7 ⟨rfl, hk⟩
 clear hc
 have HB7 : Aside0 (Below w.heap.size w w7) := ⟨zaa HB3.out hk.1⟩
 obtain ⟨c5, c6, c7, _, _⟩ := hk.facts
 have c3 : w7.cell? ⟨w.heap.size, 0, none⟩ = some (.int .u8 (most : Int)) := (hk.1.cell (p := ⟨w.heap.size, 0, none⟩) (block_lt_of_cell H3.out)).trans H3.out
 have hw2 : IntKind.i64.wrap (most : Int) = (most : Int) := by have := HM.out; rw [IntKind.wrap_i64]; omega
 have e3 : w.heap.size ≠ w5.heap.size + 1 ∧ w.heap.size ≠ w5.heap.size + 2 := ⟨by have := block_lt_of_cell H3.out; simp at this; omega, by have := block_lt_of_cell H3.out; simp at this; omega⟩
 clear hk
 generalize hkk : min L.length (max most 1) = k at c6
 have HKK := Aside0.mk hkk
 clear hkk
 go_wp2_with fail
 all_goals (
  go_ret
  refine ⟨congrArg (fun b => Ending.returned (Value.bool b)) (beq_iff_eq.2 ?_), HB7.out⟩
  have hk2 := HKK.out
  clear c3 c5 c6 c7 e3 hw2
  omega)
theorem cores_row (a b : Int) (ha : (Lit.int .u64 a).wf = true) (hb : (Lit.int .u8 b).wf = true) (w : World) (hT : TabAt 0 Lib.deBruijn64tab w) (hg : 0 < w.heap.size) :
  Calls Tryd.prog 4 #[.int .u64 a, .int .u8 b] w fun e w' => e = .returned (.bool true) ∧ Below w.heap.size w w' := by
 have ha' := bounds_u64 ha
 have hb' := bounds_u8 hb
 obtain ⟨n, rfl⟩ : ∃ n : Nat, a = (n : Int) := ⟨a.toNat, by omega⟩
 obtain ⟨m, rfl⟩ : ∃ m : Nat, b = (m : Int) := ⟨b.toNat, by omega⟩
 exact cores_law n m (by omega) (by omega) w hT hg
end Go.Proofs.YtilgojlncmjjcaaDoor.P
end
