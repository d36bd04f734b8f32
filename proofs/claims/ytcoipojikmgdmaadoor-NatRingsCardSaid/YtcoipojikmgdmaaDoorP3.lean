-- Written by a program of this session (wip/tools) over the kit's print; not trusted: Lean checks it.
import Derived.Test.YtcoipojikmgdmaaDoorP0
import Derived.Test.YtcoipojikmgdmaaDoorP1
import Derived.Test.YtcoipojikmgdmaaDoorP2
namespace Go.Proofs.YtcoipojikmgdmaaDoor.P
open Go.RowKit Go.Proofs.YtcoipojikmgdmaaDoorW.PrintWords Go.Proofs.YtcoipojikmgdmaaDoorW.PrintLast Go.Proofs.YtcoipojikmgdmaaDoorW.PrintMore
attribute [local go_sem] max2_int min2_int max_two min_two max_three min_three max_four min_four   -- for this text's walks alone
set_option linter.unusedVariables false
set_option linter.unusedSimpArgs false

/-! ### nat_Cmp: function 24 -/
def revCmp : List Int → List Int → Int
  | x :: xs, y :: ys => if x = y then revCmp xs ys else if x < y then -1 else 1
  | _, _ => 0
def natCmp (l0 l1 : List Int) : Int := if l0.length = l1.length then revCmp l0.reverse l1.reverse else if l0.length < l1.length then -1 else 1
def nat_Cmp.f (l0 l1 : List Int) : Option Int := some (natCmp l0 l1)

section
open Go.Shelf
attribute [local go_sem] Oper.semAt_some
/-- What has come of a slice from its end when k rounds are over. -/
def bw (zs : List Int) (k : Nat) : List (Fin zs.length) := (List.finRange zs.length).reverse.take k
theorem bw_succ (zs : List Int) (k : Nat) (h : k < zs.length) : bw zs (k + 1) = bw zs k ++ [⟨zs.length - 1 - k, by omega⟩] := by
  unfold bw
  rw [List.take_succ_eq_append_getElem (by simpa using h)]
  congr 2
  rw [List.getElem_reverse]
  simp
theorem bw_length (zs : List Int) (k : Nat) (h : k ≤ zs.length) : (bw zs k).length = k := by simp [bw]; omega
def bwv (zs : List Int) (x : Fin zs.length) : Int := zs.getD x.val 0
theorem bwv_eq (zs : List Int) (x : Fin zs.length) : bwv zs x = zs.getD x.val 0 := rfl
/-- What a round that goes on keeps: what lay below n₀, and the iterator's own box. -/
def BwKp (n₀ Bs : Nat) (A B : World) : Prop := Below n₀ A B ∧ B.cell? ⟨Bs, 0, none⟩ = A.cell? ⟨Bs, 0, none⟩
set_option maxRecDepth 100000 in
set_option maxHeartbeats 2000000 in
theorem back1_in (F : Fence) (n : Nat) (h8 : F.fn 61) (hro : F.round = none) (hn : 1 ≤ n) (l Bs n₀ cap : Nat) (A : Option Addr) (zs : List Int) (hreach : zs.length ≤ 9223372036854775807) (J Jx : List (Fin zs.length) → World → Prop)
    (hY : ∀ pre x W, J pre W → pre.length < zs.length → YieldAt F (n - 1) Tryd.prog l #[.int .i64 (x.val : Int), .int .u64 (bwv zs x)] W fun e W' =>
      (e = .returned (.bool true) ∧ J (pre ++ [x]) W' ∧ BwKp n₀ Bs W W') ∨ (e = .returned (.bool false) ∧ Jx (pre ++ [x]) W'))
    (W : World) (hBs : W.cell? ⟨Bs, 0, none⟩ = some (.slice A zs.length cap)) (hc : ∀ j, j < zs.length → ∃ ad, A = some ad ∧ ad.block < n₀ ∧ W.cell? (ad.add j) = some (.int .u64 (zs.getD j 0))) (h0 : J [] W) :
    CallsIn F n Tryd.prog 61 #[.func (.yield l) #[] #[], .pointer (some ⟨Bs, 0, none⟩)] W fun e W' => (∃ v, e = .returned v) ∧
      ((∃ ys, ys = bw zs zs.length ∧ J ys W') ∨ (∃ pre, (∃ k, k ≤ zs.length ∧ pre = bw zs k) ∧ Jx pre W')) := by
  refine callsIn_of_wp Tryd.func61 rfl h8 ?_ hro
  simp only [Tryd.ntmps61, List.size_toArray, List.length_cons, List.length_nil, Nat.reduceAdd, Nat.reduceSub, Array.replicate_succ, Array.replicate_zero, List.push_toArray, List.append_toArray, List.nil_append, List.cons_append]
  gi_wp2
  gi_loopw [3] (fun i wr => ∃ (k : Nat) (m : Int), k ≤ zs.length ∧ m = (zs.length : Int) - 1 - k ∧ i = .int .i64 m ∧ J (bw zs k) wr ∧ BwKp n₀ Bs W wr)
    (fun i _ => (intOf i + 1).toNat)
  case atStart => exact ⟨0, (zs.length : Int) - 1, Nat.zero_le _, by omega, rfl, h0, Below.refl _ _, rfl⟩
  case round =>
    obtain ⟨k, m, hk, hm, rfl, hJs, hnx, hbx⟩ := hrel
    have hBr : wr.cell? ⟨Bs, 0, none⟩ = some (.slice A zs.length cap) := hbx.trans hBs
    have HM := Lib.hid hm
    by_cases hlt : k < zs.length
    · obtain ⟨j, hj⟩ : ∃ j : Nat, m = j := ⟨zs.length - 1 - k, by omega⟩
      subst hj
      have hjk : zs.length - 1 - k = j := by omega
      obtain ⟨ad, rfl, hb, hcj⟩ := hc j (by omega)
      have hcx : wr.cell? (ad.add j) = some (.int .u64 (zs.getD j 0)) := (hnx.cell (p := ad.add j) (by unfold Addr.add; split <;> exact hb)).trans hcj
      have hjl : j < zs.length := by omega
      obtain ⟨fn, tmps, assign, body, hy, hR⟩ := hY _ ⟨j, hjl⟩ wr hJs (by rw [bw_length _ _ hk]; exact hlt)
      have hlast : bw zs (k + 1) = bw zs k ++ [⟨j, hjl⟩] := by
        rw [bw_succ zs k hlt]
        congr 3
      have HL := Lib.hid hlast
      have HB := Lib.hid hbx
      rw [bwv_eq] at hy
      dsimp only at hy
      obtain ⟨x, hx⟩ : ∃ x, zs.getD j 0 = x := ⟨_, rfl⟩
      rw [hx] at hcx hy
      have hj0 : (0 : Int) ≤ j := by omega
      have hj1 : (j : Int) < zs.length := by omega
      clear hm hjk hx hlast hc hcj hBs hbx
      gi_wp2
      refine hR.mono ?_
      rintro e W3 (⟨rfl, hJ3, hk3, hb3⟩ | ⟨rfl, hJx3⟩)
      · gi_wp2
        go_roundw
        case rel => exact ⟨k + 1, (j : Int) - 1, by omega, by have := HM.out; omega, rfl, by rw [HL.out]; exact hJ3, hnx.trans hk3, hb3.trans HB.out⟩
        case measure => simp [intOf]
      · gi_wp2
        refine bodyPost_ret (results_none rfl _ _ _) rfl ?_
        exact ⟨⟨_, rfl⟩, .inr ⟨_, ⟨k + 1, by omega, HL.out.symm⟩, hJx3⟩⟩
    · obtain rfl : k = zs.length := by omega
      obtain rfl : m = -1 := by omega
      gi_wp2
      go_end0
      exact ⟨⟨_, rfl⟩, .inl ⟨_, rfl, hJs⟩⟩
set_option maxHeartbeats 1000000 in
theorem back_in (F : Fence) (n : Nat) (h : F.fn 45) (hro : F.round = none) (a : Option Addr) (len cap : Nat) (w : World) :
    CallsIn F n Tryd.prog 45 #[.slice a len cap] w fun e w' => e = .returned (.func (.func 61) #[] #[.pointer (some ⟨w.heap.size, 0, none⟩)]) ∧ w' = w.alloc (.cells #[.slice a len cap] 26) := by
  refine callsIn_of_wp Tryd.func45 rfl h ?_ hro
  simp only [Tryd.ntmps45, List.size_toArray, List.length_cons, List.length_nil, Nat.reduceAdd, Nat.reduceSub, Array.replicate_succ, Array.replicate_zero, List.push_toArray, List.append_toArray, List.nil_append, List.cons_append]
  gi_wp2
  go_ret
  exact ⟨rfl, rfl⟩
theorem back_stops (F : Fence) (n : Nat) (h7 : F.fn 61) (hro : F.round = none) (hn : 1 ≤ n) (Bs n₀ cap : Nat) (A : Option Addr) (zs : List Int) (hreach : zs.length ≤ 9223372036854775807) (w : World) (hBs : Bs < w.heap.size) (hn₀ : n₀ ≤ w.heap.size)
    (hc : w.cell? ⟨Bs, 0, none⟩ = some (.slice A zs.length cap)) (hI : ∀ j, j < zs.length → ∃ ad, A = some ad ∧ ad.block < n₀ ∧ w.cell? (ad.add j) = some (.int .u64 (zs.getD j 0))) :
    SeqStopsK F n Tryd.prog 61 #[.pointer (some ⟨Bs, 0, none⟩)] (fun x : Fin zs.length => #[Value.int .i64 (x.val : Int), Value.int .u64 (bwv zs x)]) (BwKp n₀ Bs) (fun ys => ys = bw zs zs.length)
      (fun pre => ∃ k, k ≤ zs.length ∧ pre = bw zs k) zs.length w := fun l J Jx W hW _ _ hY h0 =>
  back1_in F n h7 hro hn l Bs n₀ cap A zs hreach J Jx hY W ((hW.cell (p := ⟨Bs, 0, none⟩) hBs).trans hc)
    (fun j hj => by
      obtain ⟨ad, e, hb, hcj⟩ := hI j hj
      exact ⟨ad, e, hb, (hW.cell (p := ad.add j) (by unfold Addr.add; split <;> (show ad.block < _; omega))).trans hcj⟩) h0
theorem bwKp_t {n₀ Bs : Nat} {A B C : World} (h : BwKp n₀ Bs A B) (h' : BwKp n₀ Bs B C) : BwKp n₀ Bs A C := ⟨h.1.trans h'.1, h'.2.trans h.2⟩
theorem bwKp_b {n₀ Bs : Nat} {w : World} (hn : n₀ ≤ w.heap.size) (hB : Bs < w.heap.size) (W : World) (l : Nat) (o o' : Obj) (hl : w.heap.size ≤ l) (ho : W.heap[l]? = some o) (hc : o.isCells = false) (hw : o.isWalk = false) : BwKp n₀ Bs W (W.putObj l o') :=
  ⟨belowK_b hn W l o o' hl ho hc hw, by
    unfold World.cell?
    rw [World.putObj_heap_other (by show Bs ≠ l; omega)]⟩
end
theorem compare_int {a b : Nat} (h : a ≠ b) : cmp_Compare_int.f (a : Int) (b : Int) = some (if a < b then -1 else 1) := by
  unfold cmp_Compare_int.f cmp_isNaN_int.f
  rcases Nat.lt_or_ge a b with h1 | h1
  · simp [h1]
  · have h2 : ¬ a < b := by omega
    have h3 : b < a := by omega
    simp [h2, h3]
theorem compare_u64 {a b : Int} (h : a ≠ b) : cmp_Compare_uint64.f a b = some (if a < b then -1 else 1) := by
  unfold cmp_Compare_uint64.f cmp_isNaN_uint64.f
  by_cases h1 : a < b
  · simp [h1]
  · have h3 : b < a := by omega
    simp [h1, h3]
set_option maxRecDepth 100000 in
set_option maxHeartbeats 2000000 in
theorem nat_Cmp.ne (A0 : Option Addr) (c0 n0 : Nat) (A1 : Option Addr) (c1 n1 : Nat) (w : World) (h : n0 ≠ n1) (r : Int) (hr : cmp_Compare_int.f (n0 : Int) (n1 : Int) = some r) :
    Calls Tryd.prog 24 #[.slice A0 n0 c0, .slice A1 n1 c1] w fun e w' => e = .returned (.int .i64 r) ∧ Below w.heap.size w w' := by
  have hne : ((n0 : Int) != (n1 : Int)) = true := by simp; omega
  have hne2 : ((n0 : Nat) != n1) = true := by simpa using h
  have HC := Lib.hid hr
  clear hr
  go_enter Tryd.func24, Tryd.ntmps24
  go_wp2_with (go_at_call 44; refine (cmp_Compare_int.calls _ _ _ _ HC.out).mono ?_; rintro e w' ⟨rfl, ⟨nd, rfl⟩⟩)
  refine bodyPost_ret (v := .int .i64 r) (by simp [results, Tryd.f24, go_sem]) rfl ⟨rfl, ?_⟩
  exact (pw_below_drewN (((Below.refl _ _).alloc (Nat.le_refl _) _).alloc (by simp) _) nd).setCell (p := ⟨w.heap.size + 1, 0, none⟩) (by simp) _
section
open Go.Shelf
attribute [local go_sem] Oper.semAt_some
set_option maxRecDepth 100000 in
set_option maxHeartbeats 4000000 in
theorem nat_Cmp.eq_in (F : Fence) (n : Nat) (h4 : F.fn 24) (h6 : F.fn 45) (h8 : F.fn 61) (h9 : F.fn 46) (hro : F.round = none) (hn : 4 ≤ n) (hcmp : ∀ (m l : Nat) (a b : Int) (w : World), a ≠ b → CallsIn (F.inRound l) m Tryd.prog 46 #[.int .u64 a, .int .u64 b] w fun e w' => e = .returned (.int .i64 (if a < b then -1 else 1)) ∧ Drawn0 w w')
    (A0 : Option Addr) (c0 : Nat) (l0 : List Int) (A1 : Option Addr) (c1 : Nat) (l1 : List Int) (w : World) (hreach : l0.length ≤ 9223372036854775807) (hl : l1.length = l0.length)
    (hI0 : ∀ j, j < l0.length → ∃ ad, A0 = some ad ∧ ad.block < w.heap.size ∧ w.cell? (ad.add j) = some (.int .u64 (l0.getD j 0)))
    (hI1 : ∀ j, j < l0.length → ∃ ad, A1 = some ad ∧ ad.block < w.heap.size ∧ w.cell? (ad.add j) = some (.int .u64 (l1.getD j 0))) :
    CallsIn F n Tryd.prog 24 #[.slice A0 l0.length c0, .slice A1 l0.length c1] w fun e W' =>
      ((e = .returned (.int .i64 0) ∧ ∀ p ∈ bw l0 l0.length, bwv l0 p = l1.getD p.val 0) ∨ (∃ k : Nat, ∃ p : Fin l0.length, bw l0 (k + 1) = bw l0 k ++ [p] ∧ k < l0.length ∧ (∀ p ∈ bw l0 k, bwv l0 p = l1.getD p.val 0) ∧ bwv l0 p ≠ l1.getD p.val 0 ∧ e = .returned (.int .i64 (if bwv l0 p < l1.getD p.val 0 then -1 else 1)))) ∧ Below w.heap.size w W' := by
  have h1 : 1 ≤ n := by omega
  have hne : ((l0.length : Int) != (l0.length : Int)) = false := by simp
  refine callsIn_of_wp_marks Tryd.func24 rfl h4 ?_ hro
  simp only [Tryd.ntmps24, List.size_toArray, List.length_cons, List.length_nil, Nat.reduceAdd, Nat.reduceSub, Array.replicate_succ, Array.replicate_zero, List.push_toArray, List.append_toArray, List.nil_append, List.cons_append]
  have HI0 := Lib.hid hI0
  have HI1 := Lib.hid hI1
  have HL := Lib.hid hl
  have HC := Lib.hid hcmp
  clear hI0 hI1 hl hcmp
  gi_wp2_with (gi_at_call 45; refine (back_in F (n - 1) h6 hro _ _ _ _).mono ?_; rintro e w' ⟨rfl, rfl⟩)
  have bB := Boxed.new w 26 (.slice A1 l0.length c1)
  have bR := Boxed.new (w.alloc (.cells #[.slice A1 l0.length c1] 26)) 3 (.int .i64 0)
  have bN := Boxed.new ((w.alloc (.cells #[.slice A1 l0.length c1] 26)).alloc (.cells #[.int .i64 0] 3)) 26 (.slice A0 l0.length c0)
  rw [World.size_alloc] at bR
  rw [World.size_alloc, World.size_alloc] at bN
  have hB0 : Below w.heap.size w (((w.alloc (.cells #[.slice A1 l0.length c1] 26)).alloc (.cells #[.int .i64 0] 3)).alloc (.cells #[.slice A0 l0.length c0] 26)) := (((Below.refl _ w).alloc (Nat.le_refl _) _).alloc (by simp) _).alloc (by simp; omega) _
  refine wpIn_rangeFunc_ownG hro h1 (gf := 61) (lb := #[.pointer (some ⟨w.heap.size + 1 + 1, 0, none⟩)]) rfl h8 (enters_of Tryd.func61 (by kernel_rfl) rfl)
    (back_stops F (n - 1) h8 hro (by omega) (w.heap.size + 1 + 1) w.heap.size c0 A0 l0 hreach _ (by simp) (by simp; omega) bN.cell (fun j hj => by
      obtain ⟨ad, e, hb, hc⟩ := HI0.out j hj
      exact ⟨ad, e, hb, (hB0.cell (p := ad.add j) (by unfold Addr.add; split <;> exact hb)).trans hc⟩)) bwKp_t (bwKp_b (by simp; omega) (by simp)) (Below.refl _ _) (fun _ => rfl)
    (fun pre W => ((∀ p ∈ pre, bwv l0 p = l1.getD p.val 0) ∧ W.cell? ⟨w.heap.size, 0, none⟩ = some (.slice A1 l0.length c1) ∧ W.cell? ⟨w.heap.size + 1, 0, none⟩ = some (.int .i64 0) ∧ W.frozen? ⟨w.heap.size + 1, 0, none⟩ = false) ∧ Below w.heap.size w W)
    (fun c pre W => (c = .ret ∧ ∃ ini last, pre = ini ++ [last] ∧ (∀ p ∈ ini, bwv l0 p = l1.getD p.val 0) ∧ bwv l0 last ≠ l1.getD last.val 0 ∧ W.cell? ⟨w.heap.size + 1, 0, none⟩ = some (.int .i64 (if bwv l0 last < l1.getD last.val 0 then -1 else 1))) ∧ Below w.heap.size w W)
    (OwnFrom.and (Own.from (fun s A B row hs hg hr => ⟨hs.1, cell_kept hs.2.1 hg hr, cell_kept hs.2.2.1 hg hr, (frozen_kept hs.2.2.1 hg hr).trans hs.2.2.2⟩) _) (ownFrom_below (Nat.le_refl _) (by simp; omega)))
    (fun c => OwnFrom.and (Own.from (fun s A B row hs hg hr => by obtain ⟨hc, ini, last, e1, e2, e3, e4⟩ := hs; exact ⟨hc, ini, last, e1, e2, e3, cell_kept e4 hg hr⟩) _) (ownFrom_below (Nat.le_refl _) (by simp; omega)))
    ⟨⟨by simp, ((bB.alloc _).alloc _).cell, (bR.alloc _).cell, (bR.alloc _).frozen⟩, hB0⟩
    (fun x => { tmps := #[.slice A0 l0.length c0, .slice A1 l0.length c1, undef, .pointer (some ⟨w.heap.size, 0, none⟩), .pointer (some ⟨w.heap.size + 1, 0, none⟩), .int .i64 (x.val : Int), .int .u64 (bwv l0 x), .slice A0 l0.length c0, .int .i64 l0.length, .slice A1 l0.length c1, .int .i64 l0.length, .bool false, undef, undef, undef, undef, undef, .slice A0 l0.length c0, .func (.func 61) #[] #[.pointer (some ⟨w.heap.size + 1 + 1, 0, none⟩)], .int .i64 (x.val : Int), .int .u64 (bwv l0 x), undef, undef, undef, undef, undef, undef, undef, undef, undef, undef, undef, undef], defers := [] }) ?assign ?body ?done ?stop
  case assign =>
    intro l x W K hK
    gi_wp2
    exact hK
  case body =>
    rintro l pre x W ⟨⟨hp, hcb, hcr, hfr⟩, hB⟩ _
    obtain ⟨ad, rfl, hb, hc1⟩ := HI1.out x.val x.isLt
    have hcx : W.cell? (ad.add x.val) = some (.int .u64 (l1.getD x.val 0)) := (hB.cell (p := ad.add x.val) (by unfold Addr.add; split <;> exact hb)).trans hc1
    have hx0 : (0 : Int) ≤ (x.val : Int) := by omega
    have hx1 : (x.val : Int) < (l0.length : Int) := by have := x.isLt; omega
    have HP := Lib.hid hp
    clear hp hc1
    obtain ⟨j, hj⟩ : ∃ j, x.val = j := ⟨_, rfl⟩
    rw [hj] at hcx hx0 hx1
    obtain ⟨u, hu⟩ : ∃ u, bwv l0 x = u := ⟨_, rfl⟩
    obtain ⟨v, hv⟩ : ∃ v, l1.getD j 0 = v := ⟨_, rfl⟩
    rw [hv] at hcx
    simp only [hu, hj]
    have HU := Lib.hid hu
    have HV := Lib.hid hv
    have HJ := Lib.hid hj
    clear hu hv hj
    have HCR := Lib.hid hcr
    by_cases huv : u = v
    · have e1 : (u != v) = false := by simp [huv]
      have HE := Lib.hid huv
      clear huv
      gi_wp2
      exact ⟨KeepsFrom.refl _ _, ⟨Below.refl _ _, rfl⟩, ⟨fun p hp' => (List.mem_append.1 hp').elim (HP.out p) (fun e => by simp at e; subst e; rw [HU.out, HJ.out, HV.out]; exact HE.out), hcb, HCR.out, hfr⟩, hB⟩
    · have e1 : (u != v) = true := by simpa using huv
      have HCC := Lib.hid (fun m_ w_ => HC.out m_ l u v w_ huv)
      have HE := Lib.hid huv
      clear huv
      gi_wp2
      refine ⟨fun _ => by omega, ?_⟩
      refine (HCC.out _ _).mono ?_
      rintro e w' ⟨rfl, ⟨nd, rfl⟩⟩
      obtain ⟨z, hz⟩ : ∃ z : Int, (if u < v then -1 else 1) = z := ⟨_, rfl⟩
      have HZ := Lib.hid hz
      simp only [hz]
      clear hz
      gi_wp2
      have hkd : KeepsOthers W (W.drewN nd) := ⟨Nat.le_of_eq (by simp), fun k o ho hc => by simpa using ho⟩
      exact ⟨(hkd.trans (KeepsOthers.setCell _ _ _)).from _, ⟨rfl, pre, x, rfl, HP.out, by rw [HU.out, HJ.out, HV.out]; exact HE.out, by rw [HU.out, HJ.out, HV.out, HZ.out]; exact World.cell?_setCell_same' _ _ _ (by rw [World.cell?_drewN, HCR.out]; rfl)⟩, (pw_below_drewN hB nd).setCell (p := ⟨w.heap.size + 1, 0, none⟩) (by simp) _⟩
  case done =>
    rintro D ys W hD rfl ⟨⟨hp, hcb, hcr, hfr⟩, hB⟩ hK
    have HP := Lib.hid hp
    clear hp
    gi_wp2
    have hK' := (KeepsOthers.setCell W ⟨w.heap.size + 1, 0, none⟩ (.int .i64 0)).same D _ hK rfl
    refine ⟨by simp, .inl ⟨_, _, rfl, run_takeDeferred hK', ?_⟩⟩
    have hc5 := cell_kept (World.cell?_setCell_same' W ⟨w.heap.size + 1, 0, none⟩ (.int .i64 0) (by rw [hcr]; rfl)) (grownBy_putObj' _ D (.deferred none)) (fun r e => by cases e; exact ⟨_, hK', rfl⟩)
    refine ⟨.int .i64 0, ?_, .inl ⟨rfl, HP.out⟩, (hB.setCell (p := ⟨w.heap.size + 1, 0, none⟩) (by simp) _).trans (belowK_b (w := w) (Nat.le_refl _) _ D _ _ (by simp at hD; omega) hK' rfl rfl)⟩
    simp [results, Tryd.f24, go_sem, hc5]
  case stop =>
    rintro D c pre W hD ⟨k, hk, rfl⟩ ⟨⟨rfl, ini, last, e1, e2, e3, hcr⟩, hB⟩ hK
    have HE := Lib.hid e1
    have H2 := Lib.hid e2
    have H3 := Lib.hid e3
    clear e1 e2 e3
    gi_wp2
    refine ⟨by simp, .inl ⟨_, _, rfl, run_takeDeferred hK, ?_⟩⟩
    have hc5 := cell_kept hcr (grownBy_putObj' _ D (.deferred none)) (fun r e => by cases e; exact ⟨_, hK, rfl⟩)
    obtain ⟨k', rfl⟩ : ∃ k', k = k' + 1 := by
      cases k with
      | zero => have := HE.out; simp [bw] at this
      | succ k' => exact ⟨k', rfl⟩
    have e1 := HE.out
    rw [bw_succ _ _ (by omega)] at e1
    obtain ⟨rfl, e5⟩ := List.append_inj' e1 rfl
    have e6 : (⟨l0.length - 1 - k', by omega⟩ : Fin l0.length) = last := by simpa using e5
    refine ⟨.int .i64 (if bwv l0 last < l1.getD last.val 0 then -1 else 1), ?_, .inr ⟨k', last, by rw [bw_succ _ _ (by omega), e6], by omega, H2.out, H3.out, rfl⟩, hB.trans (belowK_b (w := w) (Nat.le_refl _) W D _ _ (by simp at hD; omega) hK rfl rfl)⟩
    simp [results, Tryd.f24, go_sem, hc5]
end
theorem revCmp_eq : ∀ (a b : List Int), (∀ j, j < a.length → a.getD j 0 = b.getD j 0) → a.length = b.length → revCmp a b = 0
  | [], [], _, _ => rfl
  | x :: xs, y :: ys, h, hl => by
    have h0 := h 0 (by simp)
    simp at h0
    unfold revCmp
    rw [if_pos h0]
    exact revCmp_eq xs ys (fun j hj => by have := h (j + 1) (by simpa using hj); simpa using this) (by simpa using hl)
theorem revCmp_ne : ∀ (a b : List Int) (k : Nat), k < a.length → a.length = b.length → (∀ j, j < k → a.getD j 0 = b.getD j 0) → a.getD k 0 ≠ b.getD k 0 → revCmp a b = if a.getD k 0 < b.getD k 0 then -1 else 1
  | [], _, k, hk, _, _, _ => by simp at hk
  | x :: xs, [], k, _, hl, _, _ => by simp at hl
  | x :: xs, y :: ys, 0, _, _, _, hne => by
    simp at hne
    simp [revCmp, hne]
  | x :: xs, y :: ys, k + 1, hk, hl, h, hne => by
    have h0 := h 0 (by omega)
    simp at h0
    unfold revCmp
    rw [if_pos h0, revCmp_ne xs ys k (by simpa using hk) (by simpa using hl) (fun j hj => by have := h (j + 1) (by omega); simpa using this) (by simpa using hne)]
    simp
theorem rev_getD (a : List Int) (k : Nat) (h : k < a.length) : a.reverse.getD k 0 = a.getD (a.length - 1 - k) 0 := by
  rw [List.getD_eq_getElem?_getD, List.getD_eq_getElem?_getD, List.getElem?_reverse h]
theorem mem_bw (zs : List Int) (k : Nat) (p : Fin zs.length) (hk : k ≤ zs.length) : p ∈ bw zs k ↔ zs.length - 1 - p.val < k := by
  unfold bw
  rw [List.mem_take_iff_getElem]
  constructor
  · rintro ⟨i, hi, he⟩
    rw [List.getElem_reverse] at he
    simp at he hi
    have := congrArg Fin.val he
    simp at this
    omega
  · intro h
    have hp := p.isLt
    refine ⟨zs.length - 1 - p.val, by simp; omega, ?_⟩
    rw [List.getElem_reverse]
    apply Fin.ext
    simp
    omega
theorem nat_Cmp.calls (A0 : Option Addr) (c0 : Nat) (l0 : List Int) (A1 : Option Addr) (c1 : Nat) (l1 : List Int) (r : Int) (w : World) (hr0 : Kd.C (Kd.int .u64) w A0 l0.length l0) (hc0 : l0.length ≤ c0) (hr1 : Kd.C (Kd.int .u64) w A1 l1.length l1) (hc1 : l1.length ≤ c1) (h : nat_Cmp.f l0 l1 = some r) :
    Calls Tryd.prog 24 #[.slice A0 l0.length c0, .slice A1 l1.length c1] w fun e w' => e = .returned (.int .i64 r) ∧ Below w.heap.size w w' := by
  obtain rfl := Option.some.inj h
  unfold natCmp
  by_cases hl : l0.length = l1.length
  · rw [if_pos hl, ← hl]
    have read : ∀ {A : Option Addr} {l : List Int}, Kd.C (Kd.int .u64) w A l.length l → ∀ j, j < l.length → ∃ ad, A = some ad ∧ ad.block < w.heap.size ∧ w.cell? (ad.add j) = some (.int .u64 (l.getD j 0)) := fun hr j hj => by
      obtain ⟨ad, e, hc⟩ := Kd.at_int hr (j : Int) (by omega) (by omega)
      refine ⟨ad, e, ?_, by simpa [rd] using hc⟩
      have := World.block_lt_of_cell? w _ hc
      unfold Addr.add at this
      split at this <;> exact this
    have hm : l0.length ≤ 9223372036854775807 := hr0.2.1
    refine (callsIn_wide (n := 4)).1 ((nat_Cmp.eq_in Fence.wide 4 trivial trivial trivial trivial rfl (by omega) (fun m l a b w_ hab => CallsIn.inRound l (callsIn_wide.2 (cmp_Compare_uint64.calls a b _ w_ (compare_u64 hab)))) A0 c0 l0 A1 c1 l1 w hm hl.symm (read hr0) (fun j hj => read hr1 j (by omega))).mono ?_)
    rintro e W' ⟨⟨rfl, he⟩ | ⟨k, p, hb, hk, he, hne, rfl⟩, hB⟩
    · refine ⟨?_, hB⟩
      rw [revCmp_eq]
      · intro j hj
        rw [List.length_reverse] at hj
        rw [rev_getD _ _ hj, rev_getD _ _ (by omega), ← hl]
        exact he ⟨l0.length - 1 - j, by omega⟩ ((mem_bw _ _ _ (Nat.le_refl _)).2 (by omega))
      · simpa using hl
    · refine ⟨?_, hB⟩
      have hp : p.val = l0.length - 1 - k := by
        rw [bw_succ _ _ hk] at hb
        have := List.append_inj' hb rfl
        have e6 : (⟨l0.length - 1 - k, by omega⟩ : Fin l0.length) = p := by simpa using this.2
        rw [← e6]
      have e1 : l0.reverse.getD k 0 = bwv l0 p := by rw [rev_getD _ _ hk, bwv_eq, hp]
      have e2 : l1.reverse.getD k 0 = l1.getD p.val 0 := by rw [rev_getD _ _ (by omega), hp, ← hl]
      rw [revCmp_ne _ _ k (by simpa using hk) (by simpa using hl) ?_ (by rw [e1, e2]; exact hne), e1, e2]
      intro j hj
      rw [rev_getD _ _ (by omega), rev_getD _ _ (by omega), ← hl]
      exact he ⟨l0.length - 1 - j, by omega⟩ ((mem_bw _ _ _ (by omega)).2 (by show l0.length - 1 - (l0.length - 1 - j) < k; omega))
  · rw [if_neg hl]
    exact nat_Cmp.ne A0 c0 l0.length A1 c1 l1.length w hl _ (compare_int hl)

end Go.Proofs.YtcoipojikmgdmaaDoor.P
